/- The Go functions that these laws reach, each as a Lean function with the same answers (a law itself where it answers true), and the proof that the code comes to them; conditions: those of each theorem. Laid by a program of this session over the print. -/
import Derived.Test.YtkigiehkckjlhaaPQuotax0
import Derived.Test.YtkigiehkckjlhaaPQuotax1
import Derived.Test.YtkigiehkckjlhaaPQuotax9
import Derived.Test.YtkigiehkckjlhaaPQuotax10
import Derived.Test.YtkigiehkckjlhaaPQuotax13
import Derived.Test.YtkigiehkckjlhaaPQuotax23
namespace Go.Proofs.Ytkigiehkckjlhaa.PQuota
open Go.RowKit Go.Proofs.YtkigiehkckjlhaaW.PrintWords Go.Proofs.YtkigiehkckjlhaaW.PrintLast Go.Proofs.YtkigiehkckjlhaaW.PrintMore
attribute [local go_sem] max2_int min2_int max_two min_two max_three min_three max_four min_four   -- for this text's walks alone
set_option linter.unusedVariables false
set_option linter.unusedSimpArgs false
open Go.Proofs.YtkigiehkckjlhaaW.PrintWords renaming blk_drewN → bN, blk_drew → bD, blk_alloc → bA, below_set → wS, below_alloc → wA, pw_below_drewN → wN, below_drew1 → wD, blk_below → bB, blk_far → bF, blk_cell → bC, blk_frozen → bZ
open List renaming setIfInBounds_toArray → lT, set_cons_zero → l0_, set_cons_succ → lS
abbrev B20_0 : Array Bool := #[false, false, false, false, false, false, false, false, false, false, false, false, false, false, false, false, false, false, false]
abbrev B20_1 : Array Bool := #[false, true, false, false, false, false, false, false, false, false, false, false, false, false, false, false, false, false, false]
abbrev B20_2 : Array Bool := #[false, true, true, false, false, false, false, false, false, false, false, false, false, false, false, false, false, false, false]
abbrev B20_3 : Array Bool := #[false, true, true, false, false, true, false, false, false, false, false, false, false, false, false, false, false, false, false]
abbrev B20_4 : Array Bool := #[false, true, true, false, false, true, true, false, false, false, false, false, false, false, false, false, false, false, false]
abbrev B20_5 : Array Bool := #[false, true, true, false, false, true, true, true, false, false, false, false, false, false, false, false, false, false, false]
abbrev B20_6 : Array Bool := #[false, true, true, false, false, true, true, true, true, false, false, false, false, false, false, false, false, false, false]
abbrev B20_7 : Array Bool := #[false, true, true, false, false, true, true, true, true, false, false, true, false, false, false, false, false, false, false]
abbrev B20_8 : Array Bool := #[false, true, true, false, false, true, true, true, true, false, false, true, true, false, false, false, false, false, false]
abbrev B20_9 : Array Bool := #[false, true, true, false, false, true, true, true, true, false, false, true, true, true, false, false, false, false, false]
abbrev B20_10 : Array Bool := #[false, true, true, false, false, true, true, true, true, false, false, true, true, true, true, false, false, false, false]
abbrev B20_11 : Array Bool := #[true, true, true, false, false, true, true, true, true, false, false, true, true, true, true, false, false, false, false]
abbrev B20_12 : Array Bool := #[true, true, true, false, true, true, true, true, true, false, false, true, true, true, true, false, false, false, false]
abbrev B20_13 : Array Bool := #[true, true, true, false, true, true, true, true, true, false, true, true, true, true, true, false, false, false, false]
abbrev B20_14 : Array Bool := #[true, true, true, true, true, true, true, true, true, false, true, true, true, true, true, false, false, false, false]
abbrev B20_15 : Array Bool := #[true, true, true, true, true, true, true, true, true, true, true, true, true, true, true, false, false, false, false]
abbrev B20_16 : Array Bool := #[true, true, true, true, true, true, true, true, true, true, true, true, true, true, true, true, false, false, false]
abbrev B20_17 : Array Bool := #[true, true, true, true, true, true, true, true, true, true, true, true, true, true, true, true, true, false, false]
abbrev B20_18 : Array Bool := #[true, true, true, true, true, true, true, true, true, true, true, true, true, true, true, true, true, true, false]
abbrev B20_19 : Array Bool := #[true, true, true, true, true, true, true, true, true, true, true, true, true, true, true, true, true, true, true]

/-! ### potsherdlaw18_QuotaParts: function 6 -/
def potsherdlaw18_QuotaParts.j0 : Nat → Int → Int → Int → Bool → Int → Int → Int → List Int → List (S78) → Option (Bool)
 | 0, _, _, _, _, _, _, _, _, _ => none
 | k + 1, x1, x2, x3, x20, x282000, x282001, x282002, x282003, x282004 => if x20 = true then ((potsherdlaw18_awake.f k).bind fun t284 => (some t284)) else ((potsherdref12_FitsFile.f (wrap64 (Int.tmod (IntKind.u64.wrap (x1)) 50)) (wrap64 ((wrap64 (Int.tmod (IntKind.u64.wrap (x2)) 30)) + (wrap64 (Int.tmod (IntKind.u64.wrap (x3)) 30))))).bind fun t285 => (if t285 = true then ((quota_More.f k x282000 x282001 x282002 x282003 x282004 (wrap64 (Int.tmod (IntKind.u64.wrap (x1)) 50)) (wrap64 (Int.tmod (IntKind.u64.wrap (x2)) 30))).bind fun t288 => ((quota_More.f k x282000 x282001 x282002 x282003 x282004 (wrap64 ((wrap64 (Int.tmod (IntKind.u64.wrap (x1)) 50)) + (wrap64 (Int.tmod (IntKind.u64.wrap (x2)) 30)))) (wrap64 (Int.tmod (IntKind.u64.wrap (x3)) 30))).bind fun t289 => ((quota_More.f k x282000 x282001 x282002 x282003 x282004 (wrap64 (Int.tmod (IntKind.u64.wrap (x1)) 50)) (wrap64 ((wrap64 (Int.tmod (IntKind.u64.wrap (x2)) 30)) + (wrap64 (Int.tmod (IntKind.u64.wrap (x3)) 30))))).bind fun t290 => (if (wrap64 (Int.tmod (IntKind.u64.wrap (x2)) 30)) > 0 then (if (wrap64 (Int.tmod (IntKind.u64.wrap (x3)) 30)) > 0 then (if (Int.tmod (wrap64 ((wrap64 (Int.tmod (IntKind.u64.wrap (x1)) 50)) + (wrap64 (Int.tmod (IntKind.u64.wrap (x2)) 30)))) 16) = 0 then (if (wrap64 (t288 + t289)) = (wrap64 (t290 + 0)) then ((potsherdlaw18_awake.f k).bind fun t291 => (some t291)) else (some false)) else (if x282000 = 1 then (if 0 ≤ (wrap64 (Int.tdiv (wrap64 ((wrap64 (Int.tmod (IntKind.u64.wrap (x1)) 50)) + (wrap64 (Int.tmod (IntKind.u64.wrap (x2)) 30)))) 16)) then (if (wrap64 (Int.tdiv (wrap64 ((wrap64 (Int.tmod (IntKind.u64.wrap (x1)) 50)) + (wrap64 (Int.tmod (IntKind.u64.wrap (x2)) 30)))) 16)) < (x282003.length : Int) then (if (rd x282003 (wrap64 (Int.tdiv (wrap64 ((wrap64 (Int.tmod (IntKind.u64.wrap (x1)) 50)) + (wrap64 (Int.tmod (IntKind.u64.wrap (x2)) 30)))) 16))) = 0 then (if (wrap64 (t288 + t289)) = (wrap64 (t290 + 1)) then ((potsherdlaw18_awake.f k).bind fun t293 => (some t293)) else (some false)) else (if (wrap64 (t288 + t289)) = (wrap64 (t290 + 0)) then ((potsherdlaw18_awake.f k).bind fun t294 => (some t294)) else (some false))) else (none)) else (none)) else (if (wrap64 (t288 + t289)) = (wrap64 (t290 + 0)) then ((potsherdlaw18_awake.f k).bind fun t295 => (some t295)) else (some false)))) else (if (wrap64 (t288 + t289)) = (wrap64 (t290 + 0)) then ((potsherdlaw18_awake.f k).bind fun t296 => (some t296)) else (some false))) else (if (wrap64 (t288 + t289)) = (wrap64 (t290 + 0)) then ((potsherdlaw18_awake.f k).bind fun t297 => (some t297)) else (some false)))))) else ((quota_More.f k x282000 x282001 x282002 x282003 x282004 (wrap64 (Int.tmod (IntKind.u64.wrap (x1)) 50)) (wrap64 ((wrap64 (Int.tmod (IntKind.u64.wrap (x2)) 30)) + (wrap64 (Int.tmod (IntKind.u64.wrap (x3)) 30))))).bind fun t286 => (if t286 = 0 then ((potsherdlaw18_awake.f k).bind fun t287 => (some t287)) else (some false)))))
def potsherdlaw18_QuotaParts.f (k : Nat) (a0_0 : Int) (a0_1 : Int) (a0_2 : Int) (l0_3 : List Int) (l0_4 : List (S78)) (a1 : Int) (a2 : Int) (a3 : Int) : Option (Bool) := (potsherdlaw14_Light.f k a0_0 a0_1 a0_2 l0_3 l0_4).bind fun t282 => (if t282 > 0 then (potsherdlaw18_QuotaParts.j0 k a1 a2 a3 true a0_0 a0_1 a0_2 l0_3 l0_4) else ((potsherdref12_MayNode.f k a0_0 a0_1 a0_2 l0_3 l0_4).bind fun t283 => (potsherdlaw18_QuotaParts.j0 k a1 a2 a3 (!t283) a0_0 a0_1 a0_2 l0_3 l0_4)))
theorem potsherdlaw18_QuotaParts.mono_l : ∀ k, (∀ y0 y1 y2 y3 y4 y5 y6 y7 y8, LeO (potsherdlaw18_QuotaParts.j0 k y0 y1 y2 y3 y4 y5 y6 y7 y8) (potsherdlaw18_QuotaParts.j0 (k + 1) y0 y1 y2 y3 y4 y5 y6 y7 y8))
 | 0 => fun _ _ _ _ _ _ _ _ _ r h => by simp [potsherdlaw18_QuotaParts.j0] at h
 | k + 1 => by
  have ih0 := potsherdlaw18_QuotaParts.mono_l k
  ·
   intro y0 y1 y2 y3 y4 y5 y6 y7 y8
   unfold potsherdlaw18_QuotaParts.j0
   repeat' first
   | (with_reducible exact ih0 _ _ _ _ _ _ _ _ _)
   | (with_reducible exact potsherdlaw14_Light.mono _ _ _ _ _ _)
   | (with_reducible exact potsherdlaw18_awake.mono _)
   | (with_reducible exact potsherdref12_MayNode.mono _ _ _ _ _ _)
   | (with_reducible exact quota_More.mono _ _ _ _ _ _ _ _)
   | (with_reducible exact LeO.refl _)
   | (with_reducible exact LeO.none _)
   | (with_reducible refine LeO.ite ?_ ?_)
   | (with_reducible refine LeO.bind ?_ (fun _ => ?_))
   | exact ih0 _ _ _ _ _ _ _ _ _
   | exact potsherdlaw14_Light.mono _ _ _ _ _ _
   | exact potsherdlaw18_awake.mono _
   | exact potsherdref12_MayNode.mono _ _ _ _ _ _
   | exact quota_More.mono _ _ _ _ _ _ _ _
   | exact LeO.none _
   | refine LeO.ite ?_ ?_
   | refine LeO.bind ?_ (fun _ => ?_)
theorem potsherdlaw18_QuotaParts.mono : ∀ a0 a1 a2 a3 a4 a5 a6 a7 k, LeO (potsherdlaw18_QuotaParts.f k a0 a1 a2 a3 a4 a5 a6 a7) (potsherdlaw18_QuotaParts.f (k + 1) a0 a1 a2 a3 a4 a5 a6 a7) := by
 intro a0 a1 a2 a3 a4 a5 a6 a7 k; have ih0 := potsherdlaw18_QuotaParts.mono_l k
 unfold potsherdlaw18_QuotaParts.f
 repeat' first
  | (with_reducible exact ih0 _ _ _ _ _ _ _ _ _)
  | (with_reducible exact potsherdlaw14_Light.mono _ _ _ _ _ _)
  | (with_reducible exact potsherdlaw18_awake.mono _)
  | (with_reducible exact potsherdref12_MayNode.mono _ _ _ _ _ _)
  | (with_reducible exact quota_More.mono _ _ _ _ _ _ _ _)
  | (with_reducible exact LeO.refl _)
  | (with_reducible exact LeO.none _)
  | (with_reducible refine LeO.ite ?_ ?_)
  | (with_reducible refine LeO.bind ?_ (fun _ => ?_))
  | exact ih0 _ _ _ _ _ _ _ _ _
  | exact potsherdlaw14_Light.mono _ _ _ _ _ _
  | exact potsherdlaw18_awake.mono _
  | exact potsherdref12_MayNode.mono _ _ _ _ _ _
  | exact quota_More.mono _ _ _ _ _ _ _ _
  | exact LeO.none _
  | refine LeO.ite ?_ ?_
  | refine LeO.bind ?_ (fun _ => ?_)
def potsherdlaw18_QuotaParts.T6 : Bool × List (List Nat × List Nat) := (true, [([], []), ([], []), ([], []), ([0, 1, 2], [0, 1, 2]), ([], []), ([], []), ([], []), ([5, 6], [5, 6]), ([], []), ([4, 7, 8, 3], [4, 7, 8]), ([], []), ([], []), ([], []), ([], []), ([12, 13], [12, 13]), ([10, 11, 14, 9], [10, 11, 14]), ([3, 15, 0, 1, 2, 3], [3]), ([9, 16, 0, 1, 2, 3, 4, 5, 6, 7, 8, 9, 16], [9]), ([15, 17, 0, 1, 2, 3, 4, 5, 6, 7, 8, 9, 10, 11, 12, 13, 14, 15, 16, 17], [15])])
def potsherdlaw18_QuotaParts.B6 : List Nat := [0, 0, 0, 7, 0, 0, 0, 96, 0, 511, 0, 0, 0, 0, 12288, 32767, 65535, 131071, 262143]
theorem potsherdlaw18_QuotaParts.tab6 : rtab .any (opsOf Try.f6 6) = potsherdlaw18_QuotaParts.T6 := by kernel_rfl
theorem potsherdlaw18_QuotaParts.bits6 : waitsOk potsherdlaw18_QuotaParts.T6.2 potsherdlaw18_QuotaParts.B6 = true := by kernel_rfl
set_option maxHeartbeats 8000000 in
set_option maxRecDepth 100000 in
theorem potsherdlaw18_QuotaParts.calls (k : Nat) (a0_0 : Int) (a0_1 : Int) (a0_2 : Int) (A0_3 : Option Addr) (c0_3 : Nat) (l0_3 : List Int) (A0_4 : Option Addr) (c0_4 : Nat) (l0_4 : List (S78)) (a1 : Int) (a2 : Int) (a3 : Int) (w : World) (hr0_3 : Kd.C (Kd.int .i64) w A0_3 l0_3.length l0_3) (hc0_3 : l0_3.length ≤ c0_3) (hr0_4 : Kd.C k78 w A0_4 l0_4.length l0_4) (hc0_4 : l0_4.length ≤ c0_4) (h : potsherdlaw18_QuotaParts.f k a0_0 a0_1 a0_2 l0_3 l0_4 a1 a2 a3 = some true) :
 Calls Try.prog 6 #[.agg #[.int .i64 a0_0, .int .i64 a0_1, .int .i64 a0_2, .slice A0_3 l0_3.length c0_3, .slice A0_4 l0_4.length c0_4], .int .i64 a1, .int .i64 a2, .int .i64 a3] w fun e w' => e = .returned (.bool true) ∧ Below w.heap.size w w' := by
 have hu28 := Try.underlying28; have HR0_3 := Aside0.mk hr0_3; have HC0_3 := Aside0.mk hc0_3; clear hr0_3 hc0_3; have HR0_4 := Aside0.mk hr0_4; have HC0_4 := Aside0.mk hc0_4; clear hr0_4 hc0_4; have HB := Aside0.mk (Below.refl w.heap.size w); have H : ((potsherdlaw14_Light.f k a0_0 a0_1 a0_2 l0_3 l0_4).bind fun t282 => (if t282 > 0 then (potsherdlaw18_QuotaParts.j0 k a1 a2 a3 true a0_0 a0_1 a0_2 l0_3 l0_4) else ((potsherdref12_MayNode.f k a0_0 a0_1 a0_2 l0_3 l0_4).bind fun t283 => (potsherdlaw18_QuotaParts.j0 k a1 a2 a3 (!t283) a0_0 a0_1 a0_2 l0_3 l0_4)))) = some true := h; clear h; have HC5 := Aside0.mk H; clear H
 go_enter Try.func6, Try.ntmps6
 go_upto_region 1 with (first | ((with_reducible refine gate_dst (N := 4) rfl ?_); refine box_event ?hg (N := 4) ?hd (cs := #[.int .i64 a0_0, .int .i64 a0_1, .int .i64 a0_2, .slice A0_3 l0_3.length c0_3, .slice A0_4 l0_4.length c0_4]) (t := 28) ?hr ?_; (case hd => rfl); (case hg => rfl); (case hr => first | (go_simp; done) | (go_simp; rfl)); intro gb281 hg w6 hbox hb; have n0_ := Aside0.mk (below_step (by repeat (first | (with_reducible first | exact HB.out | apply wA | apply wN | apply wD) | exact HB.out)) hb); have n1_ := Aside0.mk (hbox); have n2_ := Aside0.mk ((by rw [hg]; exact (below_size (by repeat (first | (with_reducible first | exact HB.out | apply wA | apply wN | apply wD) | exact HB.out))) : w.heap.size ≤ gb281)); have n3_ := Aside0.mk ((by rw [hg]; exact (below_size (by repeat (first | (with_reducible first | exact HB.out | apply wA | apply wN | apply wD) | exact HB.out))) : w.heap.size ≤ gb281)); clear HB; have HB := n0_; have BK281 := n1_; have GW281 := n2_; have GE281 := n3_; clear n0_ n1_ n2_ n3_; clear hb hbox hg))
 (try simp only [Act.put, lT, l0_, lS])
 go_cut [20] (fun v20 wc => ∃ (kq : Nat) (x20_4 : Bool), v20 = .bool x20_4 ∧ Aside0 (potsherdlaw18_QuotaParts.j0 kq a1 a2 a3 x20_4 a0_0 a0_1 a0_2 l0_3 l0_4 = some true) ∧ Aside0 (kq ≤ k) ∧ Aside0 (wc.heap[gb281]? = some (.cells #[.int .i64 a0_0, .int .i64 a0_1, .int .i64 a0_2, (.slice A0_3 l0_3.length c0_3), (.slice A0_4 l0_4.length c0_4)] 28 (0, 0))) ∧ Aside0 (Below w.heap.size w wc))
 case first =>
  have H := HC5.out; clear HC5; replace H := Option.bind_eq_some_iff.mp H; obtain ⟨t282, A70, H⟩ := H; replace H : (if t282 > 0 then (potsherdlaw18_QuotaParts.j0 k a1 a2 a3 true a0_0 a0_1 a0_2 l0_3 l0_4) else ((potsherdref12_MayNode.f k a0_0 a0_1 a0_2 l0_3 l0_4).bind fun t283 => (potsherdlaw18_QuotaParts.j0 k a1 a2 a3 (!t283) a0_0 a0_1 a0_2 l0_3 l0_4))) = some true := H; have A7 := Aside0.mk A70; clear A70
  by_cases c8 : t282 > 0
  ·
   rw [if_pos c8] at H; have c8b0 : decide (0 < t282) = true := decide_eq_true c8; clear c8
   (first | rw [c8b0] | (simp only [i64_w, i32_w]; rw [c8b0]) | skip)
   have H' := Aside0.mk H; clear H; have hcz9_0 : w6.cell? ⟨gb281, 0, none⟩ = some (.int .i64 a0_0) := (bC BK281.out 0).trans rfl; have hcz9_1 : w6.cell? ⟨gb281, 1, none⟩ = some (.int .i64 a0_1) := (bC BK281.out 1).trans rfl; have hcz9_2 : w6.cell? ⟨gb281, 2, none⟩ = some (.int .i64 a0_2) := (bC BK281.out 2).trans rfl; have hcz9_3 : w6.cell? ⟨gb281, 3, none⟩ = some (.slice A0_3 l0_3.length c0_3) := (bC BK281.out 3).trans rfl; have hcz9_4 : w6.cell? ⟨gb281, 4, none⟩ = some (.slice A0_4 l0_4.length c0_4) := (bC BK281.out 4).trans rfl; have hfz9_0 := bZ BK281.out 0; have hfz9_1 := bZ BK281.out 1; have hfz9_2 := bZ BK281.out 2; have hfz9_3 := bZ BK281.out 3; have hfz9_4 := bZ BK281.out 4
   go_wp2_with (first | ((with_reducible refine gate_callee (f := 14) rfl ?_); refine goesL_ (some 14) rfl rfl Try.func14 (by kernel_rfl) rfl #[.agg #[.int .i64 a0_0, .int .i64 a0_1, .int .i64 a0_2, .slice A0_3 l0_3.length c0_3, .slice A0_4 l0_4.length c0_4]] rfl (by (try simp only [List.map_toArray, List.map_cons, List.map_nil]); first | done | rfl | (simp only [List.length_drop, List.length_take]; rfl)) ?_; (with_reducible refine (potsherdlaw14_Light.calls k a0_0 a0_1 a0_2 _ _ l0_3 _ _ l0_4 t282 _ ?side1 ?side2 ?side3 ?side4 A7.out).mono ?_); (case side1 => repeat (first | exact (Kd.C_below HR0_3.out HB.out) | (with_reducible refine Kd.C_alloc ?_ _) | (with_reducible refine Kd.C_drewN ?_ _) | (with_reducible refine Kd.C_drew ?_))); (case side2 => exact HC0_3.out); (case side3 => repeat (first | exact (Kd.C_below HR0_4.out HB.out) | (with_reducible refine Kd.C_alloc ?_ _) | (with_reducible refine Kd.C_drewN ?_ _) | (with_reducible refine Kd.C_drew ?_))); (case side4 => exact HC0_4.out); rintro e w10 ⟨rfl, hb⟩; refine ⟨_, rfl, ?_⟩; have n0_ := Aside0.mk (bB (g := gb281) (o := .cells #[.int .i64 a0_0, .int .i64 a0_1, .int .i64 a0_2, .slice A0_3 l0_3.length c0_3, .slice A0_4 l0_4.length c0_4] 28 (0, 0)) (by (with_reducible repeat (first | refine bN ?_ _ | refine bD ?_ | refine bA ?_ _)); exact BK281.out) hb); have n1_ := Aside0.mk (below_step (by repeat (first | (with_reducible first | exact HB.out | apply wA | apply wN | apply wD | refine wS ?_ GE281.out) | exact HB.out)) hb); clear BK281; clear HB; have BK281 := n0_; have HB := n1_; clear n0_ n1_; (try clear hb); (try clear hb2); (try clear hk); (try clear hi)))
   go_meet
   case rel => exact ⟨_, (true), (by first | rfl | (simp; done) | (simp [*]; done)), H', ⟨by first | omega | exact Nat.le_refl _⟩, ⟨by (with_reducible repeat (first | refine bN ?_ _ | refine bD ?_ | refine bA ?_ _)); exact BK281.out⟩, ⟨by repeat (first | (with_reducible first | exact HB.out | apply wA | apply wN | apply wD | refine wS ?_ GE281.out) | exact HB.out)⟩⟩
  ·
   rw [if_neg c8] at H; have c8b0 : decide (0 < t282) = false := decide_eq_false c8; clear c8
   (first | rw [c8b0] | (simp only [i64_w, i32_w]; rw [c8b0]) | skip)
   replace H := Option.bind_eq_some_iff.mp H; obtain ⟨t283, A110, H⟩ := H; replace H : (potsherdlaw18_QuotaParts.j0 k a1 a2 a3 (!t283) a0_0 a0_1 a0_2 l0_3 l0_4) = some true := H; have A11 := Aside0.mk A110; clear A110; have H' := Aside0.mk H; clear H; have hcz12_0 : w6.cell? ⟨gb281, 0, none⟩ = some (.int .i64 a0_0) := (bC BK281.out 0).trans rfl; have hcz12_1 : w6.cell? ⟨gb281, 1, none⟩ = some (.int .i64 a0_1) := (bC BK281.out 1).trans rfl; have hcz12_2 : w6.cell? ⟨gb281, 2, none⟩ = some (.int .i64 a0_2) := (bC BK281.out 2).trans rfl; have hcz12_3 : w6.cell? ⟨gb281, 3, none⟩ = some (.slice A0_3 l0_3.length c0_3) := (bC BK281.out 3).trans rfl; have hcz12_4 : w6.cell? ⟨gb281, 4, none⟩ = some (.slice A0_4 l0_4.length c0_4) := (bC BK281.out 4).trans rfl; have hfz12_0 := bZ BK281.out 0; have hfz12_1 := bZ BK281.out 1; have hfz12_2 := bZ BK281.out 2; have hfz12_3 := bZ BK281.out 3; have hfz12_4 := bZ BK281.out 4
   go_wp2_with (first | ((with_reducible refine gate_callee (f := 14) rfl ?_); refine goesL_ (some 14) rfl rfl Try.func14 (by kernel_rfl) rfl #[.agg #[.int .i64 a0_0, .int .i64 a0_1, .int .i64 a0_2, .slice A0_3 l0_3.length c0_3, .slice A0_4 l0_4.length c0_4]] rfl (by (try simp only [List.map_toArray, List.map_cons, List.map_nil]); first | done | rfl | (simp only [List.length_drop, List.length_take]; rfl)) ?_; (with_reducible refine (potsherdlaw14_Light.calls k a0_0 a0_1 a0_2 _ _ l0_3 _ _ l0_4 t282 _ ?side1 ?side2 ?side3 ?side4 A7.out).mono ?_); (case side1 => repeat (first | exact (Kd.C_below HR0_3.out HB.out) | (with_reducible refine Kd.C_alloc ?_ _) | (with_reducible refine Kd.C_drewN ?_ _) | (with_reducible refine Kd.C_drew ?_))); (case side2 => exact HC0_3.out); (case side3 => repeat (first | exact (Kd.C_below HR0_4.out HB.out) | (with_reducible refine Kd.C_alloc ?_ _) | (with_reducible refine Kd.C_drewN ?_ _) | (with_reducible refine Kd.C_drew ?_))); (case side4 => exact HC0_4.out); rintro e w13 ⟨rfl, hb⟩; refine ⟨_, rfl, ?_⟩; have n0_ := Aside0.mk (bB (g := gb281) (o := .cells #[.int .i64 a0_0, .int .i64 a0_1, .int .i64 a0_2, .slice A0_3 l0_3.length c0_3, .slice A0_4 l0_4.length c0_4] 28 (0, 0)) (by (with_reducible repeat (first | refine bN ?_ _ | refine bD ?_ | refine bA ?_ _)); exact BK281.out) hb); have n1_ := Aside0.mk (below_step (by repeat (first | (with_reducible first | exact HB.out | apply wA | apply wN | apply wD | refine wS ?_ GE281.out) | exact HB.out)) hb); clear BK281; clear HB; have BK281 := n0_; have HB := n1_; clear n0_ n1_; (try clear hb); (try clear hb2); (try clear hk); (try clear hi); have hcz14_0 : w13.cell? ⟨gb281, 0, none⟩ = some (.int .i64 a0_0) := (bC BK281.out 0).trans rfl; have hcz14_1 : w13.cell? ⟨gb281, 1, none⟩ = some (.int .i64 a0_1) := (bC BK281.out 1).trans rfl; have hcz14_2 : w13.cell? ⟨gb281, 2, none⟩ = some (.int .i64 a0_2) := (bC BK281.out 2).trans rfl; have hcz14_3 : w13.cell? ⟨gb281, 3, none⟩ = some (.slice A0_3 l0_3.length c0_3) := (bC BK281.out 3).trans rfl; have hcz14_4 : w13.cell? ⟨gb281, 4, none⟩ = some (.slice A0_4 l0_4.length c0_4) := (bC BK281.out 4).trans rfl; have hfz14_0 := bZ BK281.out 0; have hfz14_1 := bZ BK281.out 1; have hfz14_2 := bZ BK281.out 2; have hfz14_3 := bZ BK281.out 3; have hfz14_4 := bZ BK281.out 4) | (go_at_call 24; (with_reducible refine (potsherdref12_MayNode.calls k a0_0 a0_1 a0_2 _ _ l0_3 _ _ l0_4 t283 _ ?side1 ?side2 ?side3 ?side4 A11.out).mono ?_); (case side1 => repeat (first | exact (Kd.C_below HR0_3.out HB.out) | (with_reducible refine Kd.C_alloc ?_ _) | (with_reducible refine Kd.C_drewN ?_ _) | (with_reducible refine Kd.C_drew ?_))); (case side2 => exact HC0_3.out); (case side3 => repeat (first | exact (Kd.C_below HR0_4.out HB.out) | (with_reducible refine Kd.C_alloc ?_ _) | (with_reducible refine Kd.C_drewN ?_ _) | (with_reducible refine Kd.C_drew ?_))); (case side4 => exact HC0_4.out); rintro e w15 ⟨rfl, hb⟩; have n0_ := Aside0.mk (bB (g := gb281) (o := .cells #[.int .i64 a0_0, .int .i64 a0_1, .int .i64 a0_2, .slice A0_3 l0_3.length c0_3, .slice A0_4 l0_4.length c0_4] 28 (0, 0)) (by (with_reducible repeat (first | refine bN ?_ _ | refine bD ?_ | refine bA ?_ _)); exact BK281.out) hb); have n1_ := Aside0.mk (below_step (by repeat (first | (with_reducible first | exact HB.out | apply wA | apply wN | apply wD | refine wS ?_ GE281.out) | exact HB.out)) hb); clear BK281; clear HB; have BK281 := n0_; have HB := n1_; clear n0_ n1_; (try clear hb); (try clear hb2); (try clear hk); (try clear hi)))
   go_meet
   case rel => exact ⟨_, (!t283), (by first | rfl | (simp; done) | (simp [*]; done)), H', ⟨by first | omega | exact Nat.le_refl _⟩, ⟨by (with_reducible repeat (first | refine bN ?_ _ | refine bD ?_ | refine bA ?_ _)); exact BK281.out⟩, ⟨by repeat (first | (with_reducible first | exact HB.out | apply wA | apply wN | apply wD | refine wS ?_ GE281.out) | exact HB.out)⟩⟩
 case rest =>
  clear HC5
  try clear c1
  try clear p2
  try clear c6
  try clear c8
  try clear c8b0
  try clear c14
  try clear hcz12_0
  try clear hcz12_1
  try clear hcz12_2
  try clear hcz12_3
  try clear hcz12_4
  try clear hcz14_0
  try clear hcz14_1
  try clear hcz14_2
  try clear hcz14_3
  try clear hcz14_4
  try clear hcz9_0
  try clear hcz9_1
  try clear hcz9_2
  try clear hcz9_3
  try clear hcz9_4
  try clear hfz12_0
  try clear hfz12_1
  try clear hfz12_2
  try clear hfz12_3
  try clear hfz12_4
  try clear hfz14_0
  try clear hfz14_1
  try clear hfz14_2
  try clear hfz14_3
  try clear hfz14_4
  try clear hfz9_0
  try clear hfz9_1
  try clear hfz9_2
  try clear hfz9_3
  try clear hfz9_4
  obtain ⟨kq, x20_4, rfl, HA, HJ4, BK281, HB⟩ := hcut
  cases kq with
  | zero => exact absurd HA.out (by simp [potsherdlaw18_QuotaParts.j0])
  | succ kj4 =>
   have H := HA.out; clear HA; simp only [potsherdlaw18_QuotaParts.j0] at H
   by_cases c16 : x20_4 = true
   ·
    subst c16
    have H1 : ((potsherdlaw18_awake.f kj4).bind fun t284 => (some t284)) = some true := by rw [if_pos rfl] at H; exact H
    clear H; have H := H1; clear H1; replace H := Option.bind_eq_some_iff.mp H; obtain ⟨t284, A170, H⟩ := H; replace H : (some t284) = some true := H; have A17 := Aside0.mk A170; clear A170; have HRET := Aside0.mk (Option.some.inj H); clear H
    go_wp2_with (first | ((with_reducible refine gate_callee (f := 15) rfl ?_); refine goesL_ (some 21) rfl rfl Try.func15 (by kernel_rfl) rfl #[] rfl (by (try simp only [List.map_toArray, List.map_cons, List.map_nil]); first | done | rfl | (simp only [List.length_drop, List.length_take]; rfl)) ?_; (with_reducible refine (potsherdlaw18_awake.calls kj4  t284 _ A17.out).mono ?_); rintro e w18 ⟨rfl, hb⟩; refine ⟨_, rfl, ?_⟩; have n0_ := Aside0.mk (bB (g := gb281) (o := .cells #[.int .i64 a0_0, .int .i64 a0_1, .int .i64 a0_2, .slice A0_3 l0_3.length c0_3, .slice A0_4 l0_4.length c0_4] 28 (0, 0)) (by (with_reducible repeat (first | refine bN ?_ _ | refine bD ?_ | refine bA ?_ _)); exact BK281.out) hb); have n1_ := Aside0.mk (below_step (by repeat (first | (with_reducible first | exact HB.out | apply wA | apply wN | apply wD | refine wS ?_ GE281.out) | exact HB.out)) hb); clear BK281; clear HB; have BK281 := n0_; have HB := n1_; clear n0_ n1_; (try clear hb); (try clear hb2); (try clear hk); (try clear hi)))
    go_ret
    exact ⟨by first | rfl | exact congrArg (fun b_ => Ending.returned (Value.bool b_)) HRET.out | (rw [HRET.out]) | (simp [errW_none, errW_some] <;> rfl) | (simp [*, errW_none, errW_some] <;> rfl), by repeat (first | (with_reducible first | exact HB.out | apply wA | apply wN | apply wD | refine wS ?_ GE281.out) | exact HB.out)⟩
   ·
    replace c16 := Bool.eq_false_iff.mpr c16; subst c16
    have H1 : ((potsherdref12_FitsFile.f (wrap64 (Int.tmod (IntKind.u64.wrap (a1)) 50)) (wrap64 ((wrap64 (Int.tmod (IntKind.u64.wrap (a2)) 30)) + (wrap64 (Int.tmod (IntKind.u64.wrap (a3)) 30))))).bind fun t285 => (if t285 = true then ((quota_More.f kj4 a0_0 a0_1 a0_2 l0_3 l0_4 (wrap64 (Int.tmod (IntKind.u64.wrap (a1)) 50)) (wrap64 (Int.tmod (IntKind.u64.wrap (a2)) 30))).bind fun t288 => ((quota_More.f kj4 a0_0 a0_1 a0_2 l0_3 l0_4 (wrap64 ((wrap64 (Int.tmod (IntKind.u64.wrap (a1)) 50)) + (wrap64 (Int.tmod (IntKind.u64.wrap (a2)) 30)))) (wrap64 (Int.tmod (IntKind.u64.wrap (a3)) 30))).bind fun t289 => ((quota_More.f kj4 a0_0 a0_1 a0_2 l0_3 l0_4 (wrap64 (Int.tmod (IntKind.u64.wrap (a1)) 50)) (wrap64 ((wrap64 (Int.tmod (IntKind.u64.wrap (a2)) 30)) + (wrap64 (Int.tmod (IntKind.u64.wrap (a3)) 30))))).bind fun t290 => (if (wrap64 (Int.tmod (IntKind.u64.wrap (a2)) 30)) > 0 then (if (wrap64 (Int.tmod (IntKind.u64.wrap (a3)) 30)) > 0 then (if (Int.tmod (wrap64 ((wrap64 (Int.tmod (IntKind.u64.wrap (a1)) 50)) + (wrap64 (Int.tmod (IntKind.u64.wrap (a2)) 30)))) 16) = 0 then (if (wrap64 (t288 + t289)) = (wrap64 (t290 + 0)) then ((potsherdlaw18_awake.f kj4).bind fun t291 => (some t291)) else (some false)) else (if a0_0 = 1 then (if 0 ≤ (wrap64 (Int.tdiv (wrap64 ((wrap64 (Int.tmod (IntKind.u64.wrap (a1)) 50)) + (wrap64 (Int.tmod (IntKind.u64.wrap (a2)) 30)))) 16)) then (if (wrap64 (Int.tdiv (wrap64 ((wrap64 (Int.tmod (IntKind.u64.wrap (a1)) 50)) + (wrap64 (Int.tmod (IntKind.u64.wrap (a2)) 30)))) 16)) < (l0_3.length : Int) then (if (rd l0_3 (wrap64 (Int.tdiv (wrap64 ((wrap64 (Int.tmod (IntKind.u64.wrap (a1)) 50)) + (wrap64 (Int.tmod (IntKind.u64.wrap (a2)) 30)))) 16))) = 0 then (if (wrap64 (t288 + t289)) = (wrap64 (t290 + 1)) then ((potsherdlaw18_awake.f kj4).bind fun t293 => (some t293)) else (some false)) else (if (wrap64 (t288 + t289)) = (wrap64 (t290 + 0)) then ((potsherdlaw18_awake.f kj4).bind fun t294 => (some t294)) else (some false))) else (none)) else (none)) else (if (wrap64 (t288 + t289)) = (wrap64 (t290 + 0)) then ((potsherdlaw18_awake.f kj4).bind fun t295 => (some t295)) else (some false)))) else (if (wrap64 (t288 + t289)) = (wrap64 (t290 + 0)) then ((potsherdlaw18_awake.f kj4).bind fun t296 => (some t296)) else (some false))) else (if (wrap64 (t288 + t289)) = (wrap64 (t290 + 0)) then ((potsherdlaw18_awake.f kj4).bind fun t297 => (some t297)) else (some false)))))) else ((quota_More.f kj4 a0_0 a0_1 a0_2 l0_3 l0_4 (wrap64 (Int.tmod (IntKind.u64.wrap (a1)) 50)) (wrap64 ((wrap64 (Int.tmod (IntKind.u64.wrap (a2)) 30)) + (wrap64 (Int.tmod (IntKind.u64.wrap (a3)) 30))))).bind fun t286 => (if t286 = 0 then ((potsherdlaw18_awake.f kj4).bind fun t287 => (some t287)) else (some false))))) = some true := by rw [if_neg (show ¬ (false = true) by decide)] at H; exact H
    clear H; have H := H1; clear H1; replace H := Option.bind_eq_some_iff.mp H; obtain ⟨t285, A190, H⟩ := H; replace H : (if t285 = true then ((quota_More.f kj4 a0_0 a0_1 a0_2 l0_3 l0_4 (wrap64 (Int.tmod (IntKind.u64.wrap (a1)) 50)) (wrap64 (Int.tmod (IntKind.u64.wrap (a2)) 30))).bind fun t288 => ((quota_More.f kj4 a0_0 a0_1 a0_2 l0_3 l0_4 (wrap64 ((wrap64 (Int.tmod (IntKind.u64.wrap (a1)) 50)) + (wrap64 (Int.tmod (IntKind.u64.wrap (a2)) 30)))) (wrap64 (Int.tmod (IntKind.u64.wrap (a3)) 30))).bind fun t289 => ((quota_More.f kj4 a0_0 a0_1 a0_2 l0_3 l0_4 (wrap64 (Int.tmod (IntKind.u64.wrap (a1)) 50)) (wrap64 ((wrap64 (Int.tmod (IntKind.u64.wrap (a2)) 30)) + (wrap64 (Int.tmod (IntKind.u64.wrap (a3)) 30))))).bind fun t290 => (if (wrap64 (Int.tmod (IntKind.u64.wrap (a2)) 30)) > 0 then (if (wrap64 (Int.tmod (IntKind.u64.wrap (a3)) 30)) > 0 then (if (Int.tmod (wrap64 ((wrap64 (Int.tmod (IntKind.u64.wrap (a1)) 50)) + (wrap64 (Int.tmod (IntKind.u64.wrap (a2)) 30)))) 16) = 0 then (if (wrap64 (t288 + t289)) = (wrap64 (t290 + 0)) then ((potsherdlaw18_awake.f kj4).bind fun t291 => (some t291)) else (some false)) else (if a0_0 = 1 then (if 0 ≤ (wrap64 (Int.tdiv (wrap64 ((wrap64 (Int.tmod (IntKind.u64.wrap (a1)) 50)) + (wrap64 (Int.tmod (IntKind.u64.wrap (a2)) 30)))) 16)) then (if (wrap64 (Int.tdiv (wrap64 ((wrap64 (Int.tmod (IntKind.u64.wrap (a1)) 50)) + (wrap64 (Int.tmod (IntKind.u64.wrap (a2)) 30)))) 16)) < (l0_3.length : Int) then (if (rd l0_3 (wrap64 (Int.tdiv (wrap64 ((wrap64 (Int.tmod (IntKind.u64.wrap (a1)) 50)) + (wrap64 (Int.tmod (IntKind.u64.wrap (a2)) 30)))) 16))) = 0 then (if (wrap64 (t288 + t289)) = (wrap64 (t290 + 1)) then ((potsherdlaw18_awake.f kj4).bind fun t293 => (some t293)) else (some false)) else (if (wrap64 (t288 + t289)) = (wrap64 (t290 + 0)) then ((potsherdlaw18_awake.f kj4).bind fun t294 => (some t294)) else (some false))) else (none)) else (none)) else (if (wrap64 (t288 + t289)) = (wrap64 (t290 + 0)) then ((potsherdlaw18_awake.f kj4).bind fun t295 => (some t295)) else (some false)))) else (if (wrap64 (t288 + t289)) = (wrap64 (t290 + 0)) then ((potsherdlaw18_awake.f kj4).bind fun t296 => (some t296)) else (some false))) else (if (wrap64 (t288 + t289)) = (wrap64 (t290 + 0)) then ((potsherdlaw18_awake.f kj4).bind fun t297 => (some t297)) else (some false)))))) else ((quota_More.f kj4 a0_0 a0_1 a0_2 l0_3 l0_4 (wrap64 (Int.tmod (IntKind.u64.wrap (a1)) 50)) (wrap64 ((wrap64 (Int.tmod (IntKind.u64.wrap (a2)) 30)) + (wrap64 (Int.tmod (IntKind.u64.wrap (a3)) 30))))).bind fun t286 => (if t286 = 0 then ((potsherdlaw18_awake.f kj4).bind fun t287 => (some t287)) else (some false)))) = some true := H; have A19 := Aside0.mk A190; clear A190
    by_cases c20 : t285 = true
    ·
     subst c20
     have H1 : ((quota_More.f kj4 a0_0 a0_1 a0_2 l0_3 l0_4 (wrap64 (Int.tmod (IntKind.u64.wrap (a1)) 50)) (wrap64 (Int.tmod (IntKind.u64.wrap (a2)) 30))).bind fun t288 => ((quota_More.f kj4 a0_0 a0_1 a0_2 l0_3 l0_4 (wrap64 ((wrap64 (Int.tmod (IntKind.u64.wrap (a1)) 50)) + (wrap64 (Int.tmod (IntKind.u64.wrap (a2)) 30)))) (wrap64 (Int.tmod (IntKind.u64.wrap (a3)) 30))).bind fun t289 => ((quota_More.f kj4 a0_0 a0_1 a0_2 l0_3 l0_4 (wrap64 (Int.tmod (IntKind.u64.wrap (a1)) 50)) (wrap64 ((wrap64 (Int.tmod (IntKind.u64.wrap (a2)) 30)) + (wrap64 (Int.tmod (IntKind.u64.wrap (a3)) 30))))).bind fun t290 => (if (wrap64 (Int.tmod (IntKind.u64.wrap (a2)) 30)) > 0 then (if (wrap64 (Int.tmod (IntKind.u64.wrap (a3)) 30)) > 0 then (if (Int.tmod (wrap64 ((wrap64 (Int.tmod (IntKind.u64.wrap (a1)) 50)) + (wrap64 (Int.tmod (IntKind.u64.wrap (a2)) 30)))) 16) = 0 then (if (wrap64 (t288 + t289)) = (wrap64 (t290 + 0)) then ((potsherdlaw18_awake.f kj4).bind fun t291 => (some t291)) else (some false)) else (if a0_0 = 1 then (if 0 ≤ (wrap64 (Int.tdiv (wrap64 ((wrap64 (Int.tmod (IntKind.u64.wrap (a1)) 50)) + (wrap64 (Int.tmod (IntKind.u64.wrap (a2)) 30)))) 16)) then (if (wrap64 (Int.tdiv (wrap64 ((wrap64 (Int.tmod (IntKind.u64.wrap (a1)) 50)) + (wrap64 (Int.tmod (IntKind.u64.wrap (a2)) 30)))) 16)) < (l0_3.length : Int) then (if (rd l0_3 (wrap64 (Int.tdiv (wrap64 ((wrap64 (Int.tmod (IntKind.u64.wrap (a1)) 50)) + (wrap64 (Int.tmod (IntKind.u64.wrap (a2)) 30)))) 16))) = 0 then (if (wrap64 (t288 + t289)) = (wrap64 (t290 + 1)) then ((potsherdlaw18_awake.f kj4).bind fun t293 => (some t293)) else (some false)) else (if (wrap64 (t288 + t289)) = (wrap64 (t290 + 0)) then ((potsherdlaw18_awake.f kj4).bind fun t294 => (some t294)) else (some false))) else (none)) else (none)) else (if (wrap64 (t288 + t289)) = (wrap64 (t290 + 0)) then ((potsherdlaw18_awake.f kj4).bind fun t295 => (some t295)) else (some false)))) else (if (wrap64 (t288 + t289)) = (wrap64 (t290 + 0)) then ((potsherdlaw18_awake.f kj4).bind fun t296 => (some t296)) else (some false))) else (if (wrap64 (t288 + t289)) = (wrap64 (t290 + 0)) then ((potsherdlaw18_awake.f kj4).bind fun t297 => (some t297)) else (some false)))))) = some true := by rw [if_pos rfl] at H; exact H
     clear H; have H := H1; clear H1; replace H := Option.bind_eq_some_iff.mp H; obtain ⟨t288, A210, H⟩ := H; replace H : ((quota_More.f kj4 a0_0 a0_1 a0_2 l0_3 l0_4 (wrap64 ((wrap64 (Int.tmod (IntKind.u64.wrap (a1)) 50)) + (wrap64 (Int.tmod (IntKind.u64.wrap (a2)) 30)))) (wrap64 (Int.tmod (IntKind.u64.wrap (a3)) 30))).bind fun t289 => ((quota_More.f kj4 a0_0 a0_1 a0_2 l0_3 l0_4 (wrap64 (Int.tmod (IntKind.u64.wrap (a1)) 50)) (wrap64 ((wrap64 (Int.tmod (IntKind.u64.wrap (a2)) 30)) + (wrap64 (Int.tmod (IntKind.u64.wrap (a3)) 30))))).bind fun t290 => (if (wrap64 (Int.tmod (IntKind.u64.wrap (a2)) 30)) > 0 then (if (wrap64 (Int.tmod (IntKind.u64.wrap (a3)) 30)) > 0 then (if (Int.tmod (wrap64 ((wrap64 (Int.tmod (IntKind.u64.wrap (a1)) 50)) + (wrap64 (Int.tmod (IntKind.u64.wrap (a2)) 30)))) 16) = 0 then (if (wrap64 (t288 + t289)) = (wrap64 (t290 + 0)) then ((potsherdlaw18_awake.f kj4).bind fun t291 => (some t291)) else (some false)) else (if a0_0 = 1 then (if 0 ≤ (wrap64 (Int.tdiv (wrap64 ((wrap64 (Int.tmod (IntKind.u64.wrap (a1)) 50)) + (wrap64 (Int.tmod (IntKind.u64.wrap (a2)) 30)))) 16)) then (if (wrap64 (Int.tdiv (wrap64 ((wrap64 (Int.tmod (IntKind.u64.wrap (a1)) 50)) + (wrap64 (Int.tmod (IntKind.u64.wrap (a2)) 30)))) 16)) < (l0_3.length : Int) then (if (rd l0_3 (wrap64 (Int.tdiv (wrap64 ((wrap64 (Int.tmod (IntKind.u64.wrap (a1)) 50)) + (wrap64 (Int.tmod (IntKind.u64.wrap (a2)) 30)))) 16))) = 0 then (if (wrap64 (t288 + t289)) = (wrap64 (t290 + 1)) then ((potsherdlaw18_awake.f kj4).bind fun t293 => (some t293)) else (some false)) else (if (wrap64 (t288 + t289)) = (wrap64 (t290 + 0)) then ((potsherdlaw18_awake.f kj4).bind fun t294 => (some t294)) else (some false))) else (none)) else (none)) else (if (wrap64 (t288 + t289)) = (wrap64 (t290 + 0)) then ((potsherdlaw18_awake.f kj4).bind fun t295 => (some t295)) else (some false)))) else (if (wrap64 (t288 + t289)) = (wrap64 (t290 + 0)) then ((potsherdlaw18_awake.f kj4).bind fun t296 => (some t296)) else (some false))) else (if (wrap64 (t288 + t289)) = (wrap64 (t290 + 0)) then ((potsherdlaw18_awake.f kj4).bind fun t297 => (some t297)) else (some false))))) = some true := H; have A21 := Aside0.mk A210; clear A210; replace H := Option.bind_eq_some_iff.mp H; obtain ⟨t289, A220, H⟩ := H; replace H : ((quota_More.f kj4 a0_0 a0_1 a0_2 l0_3 l0_4 (wrap64 (Int.tmod (IntKind.u64.wrap (a1)) 50)) (wrap64 ((wrap64 (Int.tmod (IntKind.u64.wrap (a2)) 30)) + (wrap64 (Int.tmod (IntKind.u64.wrap (a3)) 30))))).bind fun t290 => (if (wrap64 (Int.tmod (IntKind.u64.wrap (a2)) 30)) > 0 then (if (wrap64 (Int.tmod (IntKind.u64.wrap (a3)) 30)) > 0 then (if (Int.tmod (wrap64 ((wrap64 (Int.tmod (IntKind.u64.wrap (a1)) 50)) + (wrap64 (Int.tmod (IntKind.u64.wrap (a2)) 30)))) 16) = 0 then (if (wrap64 (t288 + t289)) = (wrap64 (t290 + 0)) then ((potsherdlaw18_awake.f kj4).bind fun t291 => (some t291)) else (some false)) else (if a0_0 = 1 then (if 0 ≤ (wrap64 (Int.tdiv (wrap64 ((wrap64 (Int.tmod (IntKind.u64.wrap (a1)) 50)) + (wrap64 (Int.tmod (IntKind.u64.wrap (a2)) 30)))) 16)) then (if (wrap64 (Int.tdiv (wrap64 ((wrap64 (Int.tmod (IntKind.u64.wrap (a1)) 50)) + (wrap64 (Int.tmod (IntKind.u64.wrap (a2)) 30)))) 16)) < (l0_3.length : Int) then (if (rd l0_3 (wrap64 (Int.tdiv (wrap64 ((wrap64 (Int.tmod (IntKind.u64.wrap (a1)) 50)) + (wrap64 (Int.tmod (IntKind.u64.wrap (a2)) 30)))) 16))) = 0 then (if (wrap64 (t288 + t289)) = (wrap64 (t290 + 1)) then ((potsherdlaw18_awake.f kj4).bind fun t293 => (some t293)) else (some false)) else (if (wrap64 (t288 + t289)) = (wrap64 (t290 + 0)) then ((potsherdlaw18_awake.f kj4).bind fun t294 => (some t294)) else (some false))) else (none)) else (none)) else (if (wrap64 (t288 + t289)) = (wrap64 (t290 + 0)) then ((potsherdlaw18_awake.f kj4).bind fun t295 => (some t295)) else (some false)))) else (if (wrap64 (t288 + t289)) = (wrap64 (t290 + 0)) then ((potsherdlaw18_awake.f kj4).bind fun t296 => (some t296)) else (some false))) else (if (wrap64 (t288 + t289)) = (wrap64 (t290 + 0)) then ((potsherdlaw18_awake.f kj4).bind fun t297 => (some t297)) else (some false)))) = some true := H; have A22 := Aside0.mk A220; clear A220; replace H := Option.bind_eq_some_iff.mp H; obtain ⟨t290, A230, H⟩ := H; replace H : (if (wrap64 (Int.tmod (IntKind.u64.wrap (a2)) 30)) > 0 then (if (wrap64 (Int.tmod (IntKind.u64.wrap (a3)) 30)) > 0 then (if (Int.tmod (wrap64 ((wrap64 (Int.tmod (IntKind.u64.wrap (a1)) 50)) + (wrap64 (Int.tmod (IntKind.u64.wrap (a2)) 30)))) 16) = 0 then (if (wrap64 (t288 + t289)) = (wrap64 (t290 + 0)) then ((potsherdlaw18_awake.f kj4).bind fun t291 => (some t291)) else (some false)) else (if a0_0 = 1 then (if 0 ≤ (wrap64 (Int.tdiv (wrap64 ((wrap64 (Int.tmod (IntKind.u64.wrap (a1)) 50)) + (wrap64 (Int.tmod (IntKind.u64.wrap (a2)) 30)))) 16)) then (if (wrap64 (Int.tdiv (wrap64 ((wrap64 (Int.tmod (IntKind.u64.wrap (a1)) 50)) + (wrap64 (Int.tmod (IntKind.u64.wrap (a2)) 30)))) 16)) < (l0_3.length : Int) then (if (rd l0_3 (wrap64 (Int.tdiv (wrap64 ((wrap64 (Int.tmod (IntKind.u64.wrap (a1)) 50)) + (wrap64 (Int.tmod (IntKind.u64.wrap (a2)) 30)))) 16))) = 0 then (if (wrap64 (t288 + t289)) = (wrap64 (t290 + 1)) then ((potsherdlaw18_awake.f kj4).bind fun t293 => (some t293)) else (some false)) else (if (wrap64 (t288 + t289)) = (wrap64 (t290 + 0)) then ((potsherdlaw18_awake.f kj4).bind fun t294 => (some t294)) else (some false))) else (none)) else (none)) else (if (wrap64 (t288 + t289)) = (wrap64 (t290 + 0)) then ((potsherdlaw18_awake.f kj4).bind fun t295 => (some t295)) else (some false)))) else (if (wrap64 (t288 + t289)) = (wrap64 (t290 + 0)) then ((potsherdlaw18_awake.f kj4).bind fun t296 => (some t296)) else (some false))) else (if (wrap64 (t288 + t289)) = (wrap64 (t290 + 0)) then ((potsherdlaw18_awake.f kj4).bind fun t297 => (some t297)) else (some false))) = some true := H; have A23 := Aside0.mk A230; clear A230
     by_cases c24 : (wrap64 (Int.tmod (IntKind.u64.wrap (a2)) 30)) > 0
     ·
      rw [if_pos c24] at H; have c24b0 : decide (0 < (wrap64 (Int.tmod (IntKind.u64.wrap (a2)) 30))) = true := decide_eq_true c24; clear c24
      by_cases c25 : (wrap64 (Int.tmod (IntKind.u64.wrap (a3)) 30)) > 0
      ·
       rw [if_pos c25] at H; have c25b0 : decide (0 < (wrap64 (Int.tmod (IntKind.u64.wrap (a3)) 30))) = true := decide_eq_true c25; clear c25
       by_cases c26 : (Int.tmod (wrap64 ((wrap64 (Int.tmod (IntKind.u64.wrap (a1)) 50)) + (wrap64 (Int.tmod (IntKind.u64.wrap (a2)) 30)))) 16) = 0
       ·
        rw [if_pos c26] at H; have c26b0 : ((Int.tmod (wrap64 ((wrap64 (Int.tmod (IntKind.u64.wrap (a1)) 50)) + (wrap64 (Int.tmod (IntKind.u64.wrap (a2)) 30)))) 16) == 0) = true := beq_iff_eq.mpr c26; have c26b1 : ((Int.tmod (wrap64 ((wrap64 (Int.tmod (IntKind.u64.wrap (a1)) 50)) + (wrap64 (Int.tmod (IntKind.u64.wrap (a2)) 30)))) 16) != 0) = false := bne_eq_false_iff_eq.mpr c26; clear c26
        by_cases c27 : (wrap64 (t288 + t289)) = (wrap64 (t290 + 0))
        ·
         rw [if_pos c27] at H; have c27b0 : ((wrap64 (t288 + t289)) == (wrap64 (t290 + 0))) = true := beq_iff_eq.mpr c27; have c27b1 : ((wrap64 (t288 + t289)) != (wrap64 (t290 + 0))) = false := bne_eq_false_iff_eq.mpr c27; (try simp only [Int.add_zero] at c27b0 c27b1); clear c27; replace H := Option.bind_eq_some_iff.mp H; obtain ⟨t291, A280, H⟩ := H; replace H : (some t291) = some true := H; have A28 := Aside0.mk A280; clear A280; have HRET := Aside0.mk (Option.some.inj H); clear H
         try go_wp2_with (first | ((with_reducible refine gate_callee (f := 25) rfl ?_); refine goesL_ (some 38) rfl rfl Try.func25 (by kernel_rfl) rfl #[.int .i64 (wrap64 (Int.tmod (IntKind.u64.wrap (a1)) 50)), .int .i64 (wrap64 ((wrap64 (Int.tmod (IntKind.u64.wrap (a2)) 30)) + (wrap64 (Int.tmod (IntKind.u64.wrap (a3)) 30))))] rfl (by (try simp only [List.map_toArray, List.map_cons, List.map_nil]); first | done | rfl | (simp only [List.length_drop, List.length_take]; rfl)) ?_; (with_reducible refine (potsherdref12_FitsFile.calls (wrap64 (Int.tmod (IntKind.u64.wrap (a1)) 50)) (wrap64 ((wrap64 (Int.tmod (IntKind.u64.wrap (a2)) 30)) + (wrap64 (Int.tmod (IntKind.u64.wrap (a3)) 30)))) true _ A19.out).mono ?_); rintro e w' ⟨rfl, ⟨nd, rfl⟩⟩; refine ⟨_, rfl, ?_⟩))
         (try (rw [drewN_self wc]; generalize hq_ : World.drewN wc _ = wc; have n0_ : Aside0 (wc.heap[gb281]? = some (.cells #[.int .i64 a0_0, .int .i64 a0_1, .int .i64 a0_2, .slice A0_3 l0_3.length c0_3, .slice A0_4 l0_4.length c0_4] 28 (0, 0))) := ⟨by rw [← hq_]; exact (by (with_reducible repeat (first | refine bN ?_ _ | refine bD ?_ | refine bA ?_ _)); exact BK281.out)⟩; have n1_ : Aside0 (Below w.heap.size w wc) := ⟨by rw [← hq_]; exact (by repeat (first | (with_reducible first | exact HB.out | apply wA | apply wN | apply wD | refine wS ?_ GE281.out) | exact HB.out))⟩; clear BK281 HB hq_; have BK281 := n0_; have HB := n1_; clear n0_ n1_))
         have n0_ := Aside0.mk (bD BK281.out); have n1_ := Aside0.mk (wD HB.out); clear BK281; clear HB; have BK281 := n0_; have HB := n1_; clear n0_ n1_; refine start_ (n := 19) (S := fun w' => w'.cell? ⟨gb281, 0, none⟩ = some (.int .i64 a0_0) ∧ w'.cell? ⟨gb281, 1, none⟩ = some (.int .i64 a0_1) ∧ w'.cell? ⟨gb281, 2, none⟩ = some (.int .i64 a0_2) ∧ w'.cell? ⟨gb281, 3, none⟩ = some (.slice A0_3 l0_3.length c0_3) ∧ w'.cell? ⟨gb281, 4, none⟩ = some (.slice A0_4 l0_4.length c0_4)) (ds := []) B20_0 (by kernel_rfl) rfl rfl ⟨(bC BK281.out 0).trans rfl, (bC BK281.out 1).trans rfl, (bC BK281.out 2).trans rfl, (bC BK281.out 3).trans rfl, (bC BK281.out 4).trans rfl⟩ (fun hHeld => ?_); refine with_tabW potsherdlaw18_QuotaParts.tab6 potsherdlaw18_QuotaParts.bits6 (fun HT_ HW_ => ?_); generalize wc.drew = w29 at BK281 HB hHeld ⊢; refine pure_ (i := 1) (N := some 51) (v := ?_) (a' := ?_) B20_1 rfl rfl (any_of HT_.out (by kernel_rfl)) (fun _ _ _ h => h) (Or.inl ⟨by rfl, ?_⟩) ?_ ?_; rotate_left
         ·
          intro w'; go_simp; with_reducible rfl
         rotate_left
         ·
          simp only [Act.put, lT, l0_, lS, i64_w, i32_w]; rfl
         refine pure_ (i := 2) (N := some 52) (v := ?_) (a' := ?_) B20_2 rfl rfl (any_of HT_.out (by kernel_rfl)) (fun _ _ _ h => h) (Or.inl ⟨by rfl, ?_⟩) ?_ ?_; rotate_left
         ·
          intro w'; go_simp; with_reducible rfl
         rotate_left
         ·
          simp only [Act.put, lT, l0_, lS, i64_w, i32_w]; rfl
         refine pure_ (i := 5) (N := some 55) (v := ?_) (a' := ?_) B20_3 rfl rfl (any_of HT_.out (by kernel_rfl)) (fun _ _ _ h => h) (Or.inl ⟨by rfl, ?_⟩) ?_ ?_; rotate_left
         ·
          intro w'; go_simp; with_reducible rfl
         rotate_left
         ·
          simp only [Act.put, lT, l0_, lS, i64_w, i32_w]; rfl
         refine pure_ (i := 6) (N := some 56) (v := ?_) (a' := ?_) B20_4 rfl rfl (any_of HT_.out (by kernel_rfl)) (fun _ _ _ h => h) (Or.inl ⟨by rfl, ?_⟩) ?_ ?_; rotate_left
         ·
          intro w'; go_simp; with_reducible rfl
         rotate_left
         ·
          simp only [Act.put, lT, l0_, lS, i64_w, i32_w]; rfl
         refine pure_ (i := 7) (N := some 57) (v := ?_) (a' := ?_) B20_5 rfl rfl (any_of HT_.out (by kernel_rfl)) (fun _ _ _ h => h) (Or.inl ⟨by rfl, ?_⟩) ?_ ?_; rotate_left
         ·
          intro w'; go_simp; with_reducible rfl
         rotate_left
         ·
          simp only [Act.put, lT, l0_, lS, i64_w, i32_w]; rfl
         refine pure_ (i := 8) (N := some 58) (v := ?_) (a' := ?_) B20_6 rfl rfl (any_of HT_.out (by kernel_rfl)) (fun _ _ _ h => h) (Or.inl ⟨by rfl, ?_⟩) ?_ ?_; rotate_left
         ·
          intro w'; go_simp; with_reducible rfl
         rotate_left
         ·
          simp only [Act.put, lT, l0_, lS, i64_w, i32_w]; rfl
         refine pure_ (i := 11) (N := some 61) (v := ?_) (a' := ?_) B20_7 rfl rfl (any_of HT_.out (by kernel_rfl)) (fun _ _ _ h => h) (Or.inl ⟨by rfl, ?_⟩) ?_ ?_; rotate_left
         ·
          intro w'; go_simp; with_reducible rfl
         rotate_left
         ·
          simp only [Act.put, lT, l0_, lS, i64_w, i32_w]; rfl
         refine pure_ (i := 12) (N := some 62) (v := ?_) (a' := ?_) B20_8 rfl rfl (any_of HT_.out (by kernel_rfl)) (fun _ _ _ h => h) (Or.inl ⟨by rfl, ?_⟩) ?_ ?_; rotate_left
         ·
          intro w'; go_simp; with_reducible rfl
         rotate_left
         ·
          simp only [Act.put, lT, l0_, lS, i64_w, i32_w]; rfl
         refine pure_ (i := 13) (N := some 63) (v := ?_) (a' := ?_) B20_9 rfl rfl (any_of HT_.out (by kernel_rfl)) (fun _ _ _ h => h) (Or.inl ⟨by rfl, ?_⟩) ?_ ?_; rotate_left
         ·
          intro w'; go_simp; with_reducible rfl
         rotate_left
         ·
          simp only [Act.put, lT, l0_, lS, i64_w, i32_w]; rfl
         refine pure_ (i := 14) (N := some 64) (v := ?_) (a' := ?_) B20_10 rfl rfl (any_of HT_.out (by kernel_rfl)) (fun _ _ _ h => h) (Or.inl ⟨by rfl, ?_⟩) ?_ ?_; rotate_left
         ·
          intro w'; go_simp; with_reducible rfl
         rotate_left
         ·
          simp only [Act.put, lT, l0_, lS, i64_w, i32_w]; rfl
         refine take_ (i := 0) (N := some 50) (v := ?_) (a' := ?_) B20_11 rfl rfl (take_ofW HT_.out HW_.out (by kernel_rfl)) (fun _ _ _ h => h) (Or.inl ⟨by rfl, ?_⟩) hHeld ?_ ?_; rotate_left
         ·
          rintro w' ⟨s0, s1, s2, s3, s4⟩; go_simp; with_reducible rfl
         rotate_left
         ·
          simp only [Act.put, lT, l0_, lS, i64_w, i32_w]; rfl
         refine take_ (i := 4) (N := some 54) (v := ?_) (a' := ?_) B20_12 rfl rfl (take_ofW HT_.out HW_.out (by kernel_rfl)) (fun _ _ _ h => h) (Or.inl ⟨by rfl, ?_⟩) hHeld ?_ ?_; rotate_left
         ·
          rintro w' ⟨s0, s1, s2, s3, s4⟩; go_simp; with_reducible rfl
         rotate_left
         ·
          simp only [Act.put, lT, l0_, lS, i64_w, i32_w]; rfl
         refine take_ (i := 10) (N := some 60) (v := ?_) (a' := ?_) B20_13 rfl rfl (take_ofW HT_.out HW_.out (by kernel_rfl)) (fun _ _ _ h => h) (Or.inl ⟨by rfl, ?_⟩) hHeld ?_ ?_; rotate_left
         ·
          rintro w' ⟨s0, s1, s2, s3, s4⟩; go_simp; with_reducible rfl
         rotate_left
         ·
          simp only [Act.put, lT, l0_, lS, i64_w, i32_w]; rfl
         refine one_ (i := 3) (N := some 53) B20_14 rfl rfl (one_of HT_.out (by kernel_rfl)) (by decide) (fun K hK => ?_); refine goes_ Try.func22 (by kernel_rfl) rfl #[.agg #[.int .i64 a0_0, .int .i64 a0_1, .int .i64 a0_2, .slice A0_3 l0_3.length c0_3, .slice A0_4 l0_4.length c0_4], .int .i64 (wrap64 (Int.tmod (IntKind.u64.wrap (a1)) 50)), .int .i64 (wrap64 (Int.tmod (IntKind.u64.wrap (a2)) 30))] (by rfl) rfl rfl (by (try simp only [List.map_toArray, List.map_cons, List.map_nil]); first | done | rfl | (simp only [List.length_drop, List.length_take]; rfl)) ?_
         with_reducible refine (quota_More.calls kj4 a0_0 a0_1 a0_2 _ _ l0_3 _ _ l0_4 (wrap64 (Int.tmod (IntKind.u64.wrap (a1)) 50)) (wrap64 (Int.tmod (IntKind.u64.wrap (a2)) 30)) t288 _ ?side1 ?side2 ?side3 ?side4 A21.out).mono ?_
         (case side1 => repeat (first | exact (Kd.C_below HR0_3.out HB.out) | (with_reducible refine Kd.C_alloc ?_ _) | (with_reducible refine Kd.C_drewN ?_ _) | (with_reducible refine Kd.C_drew ?_)))
         (case side2 => exact HC0_3.out)
         (case side3 => repeat (first | exact (Kd.C_below HR0_4.out HB.out) | (with_reducible refine Kd.C_alloc ?_ _) | (with_reducible refine Kd.C_drewN ?_ _) | (with_reducible refine Kd.C_drew ?_)))
         (case side4 => exact HC0_4.out)
         rintro e w30 ⟨rfl, hb⟩; refine ⟨_, rfl, ?_⟩; have n0_ := Aside0.mk (bB (g := gb281) (o := .cells #[.int .i64 a0_0, .int .i64 a0_1, .int .i64 a0_2, .slice A0_3 l0_3.length c0_3, .slice A0_4 l0_4.length c0_4] 28 (0, 0)) (by (with_reducible repeat (first | refine bN ?_ _ | refine bD ?_ | refine bA ?_ _)); exact BK281.out) hb)
         have n1_ := Aside0.mk (below_step (by repeat (first | (with_reducible first | exact HB.out | apply wA | apply wN | apply wD | refine wS ?_ GE281.out) | exact HB.out)) hb); clear BK281; clear HB; have BK281 := n0_; have HB := n1_; clear n0_ n1_
         (try clear hb)
         (try clear hb2)
         (try clear hk)
         (try clear hi)
         refine hK.out _ _ ⟨(bC BK281.out 0).trans rfl, (bC BK281.out 1).trans rfl, (bC BK281.out 2).trans rfl, (bC BK281.out 3).trans rfl, (bC BK281.out 4).trans rfl⟩ (fun hHeld => ?_); clear hK K; refine norm_ (a' := ?_) ?_ ?_; rotate_left
         ·
          show Act.put _ (some 53) _ = _
          simp only [Act.put, lT, l0_, lS, i64_w, i32_w]; rfl
         refine one_ (i := 9) (N := some 59) B20_15 rfl rfl (one_of HT_.out (by kernel_rfl)) (by decide) (fun K hK => ?_); refine goes_ Try.func22 (by kernel_rfl) rfl #[.agg #[.int .i64 a0_0, .int .i64 a0_1, .int .i64 a0_2, .slice A0_3 l0_3.length c0_3, .slice A0_4 l0_4.length c0_4], .int .i64 (wrap64 ((wrap64 (Int.tmod (IntKind.u64.wrap (a1)) 50)) + (wrap64 (Int.tmod (IntKind.u64.wrap (a2)) 30)))), .int .i64 (wrap64 (Int.tmod (IntKind.u64.wrap (a3)) 30))] (by rfl) rfl rfl (by (try simp only [List.map_toArray, List.map_cons, List.map_nil]); first | done | rfl | (simp only [List.length_drop, List.length_take]; rfl)) ?_
         with_reducible refine (quota_More.calls kj4 a0_0 a0_1 a0_2 _ _ l0_3 _ _ l0_4 (wrap64 ((wrap64 (Int.tmod (IntKind.u64.wrap (a1)) 50)) + (wrap64 (Int.tmod (IntKind.u64.wrap (a2)) 30)))) (wrap64 (Int.tmod (IntKind.u64.wrap (a3)) 30)) t289 _ ?side1 ?side2 ?side3 ?side4 A22.out).mono ?_
         (case side1 => repeat (first | exact (Kd.C_below HR0_3.out HB.out) | (with_reducible refine Kd.C_alloc ?_ _) | (with_reducible refine Kd.C_drewN ?_ _) | (with_reducible refine Kd.C_drew ?_)))
         (case side2 => exact HC0_3.out)
         (case side3 => repeat (first | exact (Kd.C_below HR0_4.out HB.out) | (with_reducible refine Kd.C_alloc ?_ _) | (with_reducible refine Kd.C_drewN ?_ _) | (with_reducible refine Kd.C_drew ?_)))
         (case side4 => exact HC0_4.out)
         rintro e w31 ⟨rfl, hb⟩; refine ⟨_, rfl, ?_⟩; have n0_ := Aside0.mk (bB (g := gb281) (o := .cells #[.int .i64 a0_0, .int .i64 a0_1, .int .i64 a0_2, .slice A0_3 l0_3.length c0_3, .slice A0_4 l0_4.length c0_4] 28 (0, 0)) (by (with_reducible repeat (first | refine bN ?_ _ | refine bD ?_ | refine bA ?_ _)); exact BK281.out) hb)
         have n1_ := Aside0.mk (below_step (by repeat (first | (with_reducible first | exact HB.out | apply wA | apply wN | apply wD | refine wS ?_ GE281.out) | exact HB.out)) hb); clear BK281; clear HB; have BK281 := n0_; have HB := n1_; clear n0_ n1_
         (try clear hb)
         (try clear hb2)
         (try clear hk)
         (try clear hi)
         refine hK.out _ _ ⟨(bC BK281.out 0).trans rfl, (bC BK281.out 1).trans rfl, (bC BK281.out 2).trans rfl, (bC BK281.out 3).trans rfl, (bC BK281.out 4).trans rfl⟩ (fun hHeld => ?_); clear hK K; refine norm_ (a' := ?_) ?_ ?_; rotate_left
         ·
          show Act.put _ (some 59) _ = _
          simp only [Act.put, lT, l0_, lS, i64_w, i32_w]; rfl
         refine one_ (i := 15) (N := some 65) B20_16 rfl rfl (one_of HT_.out (by kernel_rfl)) (by decide) (fun K hK => ?_); refine goes_ Try.func22 (by kernel_rfl) rfl #[.agg #[.int .i64 a0_0, .int .i64 a0_1, .int .i64 a0_2, .slice A0_3 l0_3.length c0_3, .slice A0_4 l0_4.length c0_4], .int .i64 (wrap64 (Int.tmod (IntKind.u64.wrap (a1)) 50)), .int .i64 (wrap64 ((wrap64 (Int.tmod (IntKind.u64.wrap (a2)) 30)) + (wrap64 (Int.tmod (IntKind.u64.wrap (a3)) 30))))] (by rfl) rfl rfl (by (try simp only [List.map_toArray, List.map_cons, List.map_nil]); first | done | rfl | (simp only [List.length_drop, List.length_take]; rfl)) ?_
         with_reducible refine (quota_More.calls kj4 a0_0 a0_1 a0_2 _ _ l0_3 _ _ l0_4 (wrap64 (Int.tmod (IntKind.u64.wrap (a1)) 50)) (wrap64 ((wrap64 (Int.tmod (IntKind.u64.wrap (a2)) 30)) + (wrap64 (Int.tmod (IntKind.u64.wrap (a3)) 30)))) t290 _ ?side1 ?side2 ?side3 ?side4 A23.out).mono ?_
         (case side1 => repeat (first | exact (Kd.C_below HR0_3.out HB.out) | (with_reducible refine Kd.C_alloc ?_ _) | (with_reducible refine Kd.C_drewN ?_ _) | (with_reducible refine Kd.C_drew ?_)))
         (case side2 => exact HC0_3.out)
         (case side3 => repeat (first | exact (Kd.C_below HR0_4.out HB.out) | (with_reducible refine Kd.C_alloc ?_ _) | (with_reducible refine Kd.C_drewN ?_ _) | (with_reducible refine Kd.C_drew ?_)))
         (case side4 => exact HC0_4.out)
         rintro e w32 ⟨rfl, hb⟩; refine ⟨_, rfl, ?_⟩; have n0_ := Aside0.mk (bB (g := gb281) (o := .cells #[.int .i64 a0_0, .int .i64 a0_1, .int .i64 a0_2, .slice A0_3 l0_3.length c0_3, .slice A0_4 l0_4.length c0_4] 28 (0, 0)) (by (with_reducible repeat (first | refine bN ?_ _ | refine bD ?_ | refine bA ?_ _)); exact BK281.out) hb)
         have n1_ := Aside0.mk (below_step (by repeat (first | (with_reducible first | exact HB.out | apply wA | apply wN | apply wD | refine wS ?_ GE281.out) | exact HB.out)) hb); clear BK281; clear HB; have BK281 := n0_; have HB := n1_; clear n0_ n1_
         (try clear hb)
         (try clear hb2)
         (try clear hk)
         (try clear hi)
         refine hK.out _ _ ⟨(bC BK281.out 0).trans rfl, (bC BK281.out 1).trans rfl, (bC BK281.out 2).trans rfl, (bC BK281.out 3).trans rfl, (bC BK281.out 4).trans rfl⟩ (fun hHeld => ?_); clear hK K; refine norm_ (a' := ?_) ?_ ?_; rotate_left
         ·
          show Act.put _ (some 65) _ = _
          simp only [Act.put, lT, l0_, lS, i64_w, i32_w]; rfl
         refine pure_ (i := 16) (N := some 9) (v := ?_) (a' := ?_) B20_17 rfl rfl (any_of HT_.out (by kernel_rfl)) (fun _ _ _ h => h) (Or.inl ⟨by rfl, ?_⟩) ?_ ?_; rotate_left
         ·
          intro w'; go_simp; with_reducible rfl
         rotate_left
         ·
          simp only [Act.put, lT, l0_, lS, i64_w, i32_w]; rfl
         refine pure_ (i := 17) (N := some 10) (v := ?_) (a' := ?_) B20_18 rfl rfl (any_of HT_.out (by kernel_rfl)) (fun _ _ _ h => h) (Or.inl ⟨by rfl, ?_⟩) ?_ ?_; rotate_left
         ·
          intro w'; go_simp; with_reducible rfl
         rotate_left
         ·
          simp only [Act.put, lT, l0_, lS, i64_w, i32_w]; rfl
         refine pure_ (i := 18) (N := some 11) (v := ?_) (a' := ?_) B20_19 rfl rfl (any_of HT_.out (by kernel_rfl)) (fun _ _ _ h => h) (Or.inl ⟨by rfl, ?_⟩) ?_ ?_; rotate_left
         ·
          intro w'; go_simp; with_reducible rfl
         rotate_left
         ·
          simp only [Act.put, lT, l0_, lS, i64_w, i32_w]; rfl
         refine done_ (done_of HT_.out (by kernel_rfl)) ?_
         try go_wp2_with (first | (go_at_call 15; (with_reducible refine (potsherdlaw18_awake.calls kj4  t291 _ A28.out).mono ?_); rintro e w33 ⟨rfl, hb⟩; have n0_ := Aside0.mk (bB (g := gb281) (o := .cells #[.int .i64 a0_0, .int .i64 a0_1, .int .i64 a0_2, .slice A0_3 l0_3.length c0_3, .slice A0_4 l0_4.length c0_4] 28 (0, 0)) (by (with_reducible repeat (first | refine bN ?_ _ | refine bD ?_ | refine bA ?_ _)); exact BK281.out) hb); have n1_ := Aside0.mk (below_step (by repeat (first | (with_reducible first | exact HB.out | apply wA | apply wN | apply wD | refine wS ?_ GE281.out) | exact HB.out)) hb); clear BK281; clear HB; have BK281 := n0_; have HB := n1_; clear n0_ n1_; (try clear hb); (try clear hb2); (try clear hk); (try clear hi)))
         go_ret
         exact ⟨by first | rfl | exact congrArg (fun b_ => Ending.returned (Value.bool b_)) HRET.out | (rw [HRET.out]) | (simp [errW_none, errW_some] <;> rfl) | (simp [*, errW_none, errW_some] <;> rfl), by repeat (first | (with_reducible first | exact HB.out | apply wA | apply wN | apply wD | refine wS ?_ GE281.out) | exact HB.out)⟩
        ·
         rw [if_neg c27] at H; have c27b0 : ((wrap64 (t288 + t289)) == (wrap64 (t290 + 0))) = false := beq_eq_false_iff_ne.mpr c27; have c27b1 : ((wrap64 (t288 + t289)) != (wrap64 (t290 + 0))) = true := bne_iff_ne.mpr c27; (try simp only [Int.add_zero] at c27b0 c27b1); exact absurd H (by simp)
       ·
        rw [if_neg c26] at H; have c26b0 : ((Int.tmod (wrap64 ((wrap64 (Int.tmod (IntKind.u64.wrap (a1)) 50)) + (wrap64 (Int.tmod (IntKind.u64.wrap (a2)) 30)))) 16) == 0) = false := beq_eq_false_iff_ne.mpr c26; have c26b1 : ((Int.tmod (wrap64 ((wrap64 (Int.tmod (IntKind.u64.wrap (a1)) 50)) + (wrap64 (Int.tmod (IntKind.u64.wrap (a2)) 30)))) 16) != 0) = true := bne_iff_ne.mpr c26
        by_cases c34 : a0_0 = 1
        ·
         rw [if_pos c34] at H; have c34b0 : (a0_0 == 1) = true := beq_iff_eq.mpr c34; have c34b1 : (a0_0 != 1) = false := bne_eq_false_iff_eq.mpr c34; clear c34; obtain ⟨ji35, hji35⟩ : ∃ j_ : Int, (wrap64 (Int.tdiv (wrap64 ((wrap64 (Int.tmod (IntKind.u64.wrap (a1)) 50)) + (wrap64 (Int.tmod (IntKind.u64.wrap (a2)) 30)))) 16)) = j_ := ⟨_, rfl⟩
         replace H : (if 0 ≤ (ji35) then (if (ji35) < (l0_3.length : Int) then (if (rd l0_3 (ji35)) = 0 then (if (wrap64 (t288 + t289)) = (wrap64 (t290 + 1)) then ((potsherdlaw18_awake.f kj4).bind fun t293 => (some t293)) else (some false)) else (if (wrap64 (t288 + t289)) = (wrap64 (t290 + 0)) then ((potsherdlaw18_awake.f kj4).bind fun t294 => (some t294)) else (some false))) else (none)) else (none)) = some true := by first | (rw [hji35] at H; exact H) | (simp only [hji35] at H ⊢; exact H)
         (try rw [hji35] at A19)
         (try rw [hji35] at A21)
         (try rw [hji35] at A22)
         (try rw [hji35] at A23)
         have hji35w : (IntKind.i64.wrap (Int.tdiv (wrap64 ((wrap64 (Int.tmod (IntKind.u64.wrap (a1)) 50)) + (wrap64 (Int.tmod (IntKind.u64.wrap (a2)) 30)))) 16)) = ji35 := (i64_w _).trans hji35
         by_cases c36 : 0 ≤ (ji35)
         ·
          rw [if_pos c36] at H; have c36b0 : decide (0 ≤ (ji35)) = true := decide_eq_true c36; clear c36
          by_cases c37 : (ji35) < (l0_3.length : Int)
          ·
           rw [if_pos c37] at H; have c37b0 : decide ((ji35) < (l0_3.length : Int)) = true := decide_eq_true c37; clear c37
           by_cases c38 : (rd l0_3 (ji35)) = 0
           ·
            rw [if_pos c38] at H; have c38b0 : ((rd l0_3 (ji35)) == 0) = true := beq_iff_eq.mpr c38; have c38b1 : ((rd l0_3 (ji35)) != 0) = false := bne_eq_false_iff_eq.mpr c38; clear c38
            by_cases c39 : (wrap64 (t288 + t289)) = (wrap64 (t290 + 1))
            ·
             rw [if_pos c39] at H; have c39b0 : ((wrap64 (t288 + t289)) == (wrap64 (t290 + 1))) = true := beq_iff_eq.mpr c39; have c39b1 : ((wrap64 (t288 + t289)) != (wrap64 (t290 + 1))) = false := bne_eq_false_iff_eq.mpr c39; clear c39; replace H := Option.bind_eq_some_iff.mp H; obtain ⟨t293, A400, H⟩ := H; replace H : (some t293) = some true := H; have A40 := Aside0.mk A400; clear A400; have HRET := Aside0.mk (Option.some.inj H); clear H
             try go_wp2_with (first | ((with_reducible refine gate_callee (f := 25) rfl ?_); refine goesL_ (some 38) rfl rfl Try.func25 (by kernel_rfl) rfl #[.int .i64 (wrap64 (Int.tmod (IntKind.u64.wrap (a1)) 50)), .int .i64 (wrap64 ((wrap64 (Int.tmod (IntKind.u64.wrap (a2)) 30)) + (wrap64 (Int.tmod (IntKind.u64.wrap (a3)) 30))))] rfl (by (try simp only [List.map_toArray, List.map_cons, List.map_nil]); first | done | rfl | (simp only [List.length_drop, List.length_take]; rfl)) ?_; (with_reducible refine (potsherdref12_FitsFile.calls (wrap64 (Int.tmod (IntKind.u64.wrap (a1)) 50)) (wrap64 ((wrap64 (Int.tmod (IntKind.u64.wrap (a2)) 30)) + (wrap64 (Int.tmod (IntKind.u64.wrap (a3)) 30)))) true _ A19.out).mono ?_); rintro e w' ⟨rfl, ⟨nd, rfl⟩⟩; refine ⟨_, rfl, ?_⟩))
             (try (rw [drewN_self wc]; generalize hq_ : World.drewN wc _ = wc; have n0_ : Aside0 (wc.heap[gb281]? = some (.cells #[.int .i64 a0_0, .int .i64 a0_1, .int .i64 a0_2, .slice A0_3 l0_3.length c0_3, .slice A0_4 l0_4.length c0_4] 28 (0, 0))) := ⟨by rw [← hq_]; exact (by (with_reducible repeat (first | refine bN ?_ _ | refine bD ?_ | refine bA ?_ _)); exact BK281.out)⟩; have n1_ : Aside0 (Below w.heap.size w wc) := ⟨by rw [← hq_]; exact (by repeat (first | (with_reducible first | exact HB.out | apply wA | apply wN | apply wD | refine wS ?_ GE281.out) | exact HB.out))⟩; clear BK281 HB hq_; have BK281 := n0_; have HB := n1_; clear n0_ n1_))
             have n0_ := Aside0.mk (bD BK281.out); have n1_ := Aside0.mk (wD HB.out); clear BK281; clear HB; have BK281 := n0_; have HB := n1_; clear n0_ n1_; refine start_ (n := 19) (S := fun w' => w'.cell? ⟨gb281, 0, none⟩ = some (.int .i64 a0_0) ∧ w'.cell? ⟨gb281, 1, none⟩ = some (.int .i64 a0_1) ∧ w'.cell? ⟨gb281, 2, none⟩ = some (.int .i64 a0_2) ∧ w'.cell? ⟨gb281, 3, none⟩ = some (.slice A0_3 l0_3.length c0_3) ∧ w'.cell? ⟨gb281, 4, none⟩ = some (.slice A0_4 l0_4.length c0_4)) (ds := []) B20_0 (by kernel_rfl) rfl rfl ⟨(bC BK281.out 0).trans rfl, (bC BK281.out 1).trans rfl, (bC BK281.out 2).trans rfl, (bC BK281.out 3).trans rfl, (bC BK281.out 4).trans rfl⟩ (fun hHeld => ?_); refine with_tabW potsherdlaw18_QuotaParts.tab6 potsherdlaw18_QuotaParts.bits6 (fun HT_ HW_ => ?_); generalize wc.drew = w41 at BK281 HB hHeld ⊢; refine pure_ (i := 1) (N := some 51) (v := ?_) (a' := ?_) B20_1 rfl rfl (any_of HT_.out (by kernel_rfl)) (fun _ _ _ h => h) (Or.inl ⟨by rfl, ?_⟩) ?_ ?_; rotate_left
             ·
              intro w'; go_simp; with_reducible rfl
             rotate_left
             ·
              simp only [Act.put, lT, l0_, lS, i64_w, i32_w]; rfl
             refine pure_ (i := 2) (N := some 52) (v := ?_) (a' := ?_) B20_2 rfl rfl (any_of HT_.out (by kernel_rfl)) (fun _ _ _ h => h) (Or.inl ⟨by rfl, ?_⟩) ?_ ?_; rotate_left
             ·
              intro w'; go_simp; with_reducible rfl
             rotate_left
             ·
              simp only [Act.put, lT, l0_, lS, i64_w, i32_w]; rfl
             refine pure_ (i := 5) (N := some 55) (v := ?_) (a' := ?_) B20_3 rfl rfl (any_of HT_.out (by kernel_rfl)) (fun _ _ _ h => h) (Or.inl ⟨by rfl, ?_⟩) ?_ ?_; rotate_left
             ·
              intro w'; go_simp; with_reducible rfl
             rotate_left
             ·
              simp only [Act.put, lT, l0_, lS, i64_w, i32_w]; rfl
             refine pure_ (i := 6) (N := some 56) (v := ?_) (a' := ?_) B20_4 rfl rfl (any_of HT_.out (by kernel_rfl)) (fun _ _ _ h => h) (Or.inl ⟨by rfl, ?_⟩) ?_ ?_; rotate_left
             ·
              intro w'; go_simp; with_reducible rfl
             rotate_left
             ·
              simp only [Act.put, lT, l0_, lS, i64_w, i32_w]; rfl
             refine pure_ (i := 7) (N := some 57) (v := ?_) (a' := ?_) B20_5 rfl rfl (any_of HT_.out (by kernel_rfl)) (fun _ _ _ h => h) (Or.inl ⟨by rfl, ?_⟩) ?_ ?_; rotate_left
             ·
              intro w'; go_simp; with_reducible rfl
             rotate_left
             ·
              simp only [Act.put, lT, l0_, lS, i64_w, i32_w]; rfl
             refine pure_ (i := 8) (N := some 58) (v := ?_) (a' := ?_) B20_6 rfl rfl (any_of HT_.out (by kernel_rfl)) (fun _ _ _ h => h) (Or.inl ⟨by rfl, ?_⟩) ?_ ?_; rotate_left
             ·
              intro w'; go_simp; with_reducible rfl
             rotate_left
             ·
              simp only [Act.put, lT, l0_, lS, i64_w, i32_w]; rfl
             refine pure_ (i := 11) (N := some 61) (v := ?_) (a' := ?_) B20_7 rfl rfl (any_of HT_.out (by kernel_rfl)) (fun _ _ _ h => h) (Or.inl ⟨by rfl, ?_⟩) ?_ ?_; rotate_left
             ·
              intro w'; go_simp; with_reducible rfl
             rotate_left
             ·
              simp only [Act.put, lT, l0_, lS, i64_w, i32_w]; rfl
             refine pure_ (i := 12) (N := some 62) (v := ?_) (a' := ?_) B20_8 rfl rfl (any_of HT_.out (by kernel_rfl)) (fun _ _ _ h => h) (Or.inl ⟨by rfl, ?_⟩) ?_ ?_; rotate_left
             ·
              intro w'; go_simp; with_reducible rfl
             rotate_left
             ·
              simp only [Act.put, lT, l0_, lS, i64_w, i32_w]; rfl
             refine pure_ (i := 13) (N := some 63) (v := ?_) (a' := ?_) B20_9 rfl rfl (any_of HT_.out (by kernel_rfl)) (fun _ _ _ h => h) (Or.inl ⟨by rfl, ?_⟩) ?_ ?_; rotate_left
             ·
              intro w'; go_simp; with_reducible rfl
             rotate_left
             ·
              simp only [Act.put, lT, l0_, lS, i64_w, i32_w]; rfl
             refine pure_ (i := 14) (N := some 64) (v := ?_) (a' := ?_) B20_10 rfl rfl (any_of HT_.out (by kernel_rfl)) (fun _ _ _ h => h) (Or.inl ⟨by rfl, ?_⟩) ?_ ?_; rotate_left
             ·
              intro w'; go_simp; with_reducible rfl
             rotate_left
             ·
              simp only [Act.put, lT, l0_, lS, i64_w, i32_w]; rfl
             refine take_ (i := 0) (N := some 50) (v := ?_) (a' := ?_) B20_11 rfl rfl (take_ofW HT_.out HW_.out (by kernel_rfl)) (fun _ _ _ h => h) (Or.inl ⟨by rfl, ?_⟩) hHeld ?_ ?_; rotate_left
             ·
              rintro w' ⟨s0, s1, s2, s3, s4⟩; go_simp; with_reducible rfl
             rotate_left
             ·
              simp only [Act.put, lT, l0_, lS, i64_w, i32_w]; rfl
             refine take_ (i := 4) (N := some 54) (v := ?_) (a' := ?_) B20_12 rfl rfl (take_ofW HT_.out HW_.out (by kernel_rfl)) (fun _ _ _ h => h) (Or.inl ⟨by rfl, ?_⟩) hHeld ?_ ?_; rotate_left
             ·
              rintro w' ⟨s0, s1, s2, s3, s4⟩; go_simp; with_reducible rfl
             rotate_left
             ·
              simp only [Act.put, lT, l0_, lS, i64_w, i32_w]; rfl
             refine take_ (i := 10) (N := some 60) (v := ?_) (a' := ?_) B20_13 rfl rfl (take_ofW HT_.out HW_.out (by kernel_rfl)) (fun _ _ _ h => h) (Or.inl ⟨by rfl, ?_⟩) hHeld ?_ ?_; rotate_left
             ·
              rintro w' ⟨s0, s1, s2, s3, s4⟩; go_simp; with_reducible rfl
             rotate_left
             ·
              simp only [Act.put, lT, l0_, lS, i64_w, i32_w]; rfl
             refine one_ (i := 3) (N := some 53) B20_14 rfl rfl (one_of HT_.out (by kernel_rfl)) (by decide) (fun K hK => ?_); refine goes_ Try.func22 (by kernel_rfl) rfl #[.agg #[.int .i64 a0_0, .int .i64 a0_1, .int .i64 a0_2, .slice A0_3 l0_3.length c0_3, .slice A0_4 l0_4.length c0_4], .int .i64 (wrap64 (Int.tmod (IntKind.u64.wrap (a1)) 50)), .int .i64 (wrap64 (Int.tmod (IntKind.u64.wrap (a2)) 30))] (by rfl) rfl rfl (by (try simp only [List.map_toArray, List.map_cons, List.map_nil]); first | done | rfl | (simp only [List.length_drop, List.length_take]; rfl)) ?_
             with_reducible refine (quota_More.calls kj4 a0_0 a0_1 a0_2 _ _ l0_3 _ _ l0_4 (wrap64 (Int.tmod (IntKind.u64.wrap (a1)) 50)) (wrap64 (Int.tmod (IntKind.u64.wrap (a2)) 30)) t288 _ ?side1 ?side2 ?side3 ?side4 A21.out).mono ?_
             (case side1 => repeat (first | exact (Kd.C_below HR0_3.out HB.out) | (with_reducible refine Kd.C_alloc ?_ _) | (with_reducible refine Kd.C_drewN ?_ _) | (with_reducible refine Kd.C_drew ?_)))
             (case side2 => exact HC0_3.out)
             (case side3 => repeat (first | exact (Kd.C_below HR0_4.out HB.out) | (with_reducible refine Kd.C_alloc ?_ _) | (with_reducible refine Kd.C_drewN ?_ _) | (with_reducible refine Kd.C_drew ?_)))
             (case side4 => exact HC0_4.out)
             rintro e w42 ⟨rfl, hb⟩; refine ⟨_, rfl, ?_⟩; have n0_ := Aside0.mk (bB (g := gb281) (o := .cells #[.int .i64 a0_0, .int .i64 a0_1, .int .i64 a0_2, .slice A0_3 l0_3.length c0_3, .slice A0_4 l0_4.length c0_4] 28 (0, 0)) (by (with_reducible repeat (first | refine bN ?_ _ | refine bD ?_ | refine bA ?_ _)); exact BK281.out) hb)
             have n1_ := Aside0.mk (below_step (by repeat (first | (with_reducible first | exact HB.out | apply wA | apply wN | apply wD | refine wS ?_ GE281.out) | exact HB.out)) hb); clear BK281; clear HB; have BK281 := n0_; have HB := n1_; clear n0_ n1_
             (try clear hb)
             (try clear hb2)
             (try clear hk)
             (try clear hi)
             refine hK.out _ _ ⟨(bC BK281.out 0).trans rfl, (bC BK281.out 1).trans rfl, (bC BK281.out 2).trans rfl, (bC BK281.out 3).trans rfl, (bC BK281.out 4).trans rfl⟩ (fun hHeld => ?_); clear hK K; refine norm_ (a' := ?_) ?_ ?_; rotate_left
             ·
              show Act.put _ (some 53) _ = _
              simp only [Act.put, lT, l0_, lS, i64_w, i32_w]; rfl
             refine one_ (i := 9) (N := some 59) B20_15 rfl rfl (one_of HT_.out (by kernel_rfl)) (by decide) (fun K hK => ?_); refine goes_ Try.func22 (by kernel_rfl) rfl #[.agg #[.int .i64 a0_0, .int .i64 a0_1, .int .i64 a0_2, .slice A0_3 l0_3.length c0_3, .slice A0_4 l0_4.length c0_4], .int .i64 (wrap64 ((wrap64 (Int.tmod (IntKind.u64.wrap (a1)) 50)) + (wrap64 (Int.tmod (IntKind.u64.wrap (a2)) 30)))), .int .i64 (wrap64 (Int.tmod (IntKind.u64.wrap (a3)) 30))] (by rfl) rfl rfl (by (try simp only [List.map_toArray, List.map_cons, List.map_nil]); first | done | rfl | (simp only [List.length_drop, List.length_take]; rfl)) ?_
             with_reducible refine (quota_More.calls kj4 a0_0 a0_1 a0_2 _ _ l0_3 _ _ l0_4 (wrap64 ((wrap64 (Int.tmod (IntKind.u64.wrap (a1)) 50)) + (wrap64 (Int.tmod (IntKind.u64.wrap (a2)) 30)))) (wrap64 (Int.tmod (IntKind.u64.wrap (a3)) 30)) t289 _ ?side1 ?side2 ?side3 ?side4 A22.out).mono ?_
             (case side1 => repeat (first | exact (Kd.C_below HR0_3.out HB.out) | (with_reducible refine Kd.C_alloc ?_ _) | (with_reducible refine Kd.C_drewN ?_ _) | (with_reducible refine Kd.C_drew ?_)))
             (case side2 => exact HC0_3.out)
             (case side3 => repeat (first | exact (Kd.C_below HR0_4.out HB.out) | (with_reducible refine Kd.C_alloc ?_ _) | (with_reducible refine Kd.C_drewN ?_ _) | (with_reducible refine Kd.C_drew ?_)))
             (case side4 => exact HC0_4.out)
             rintro e w43 ⟨rfl, hb⟩; refine ⟨_, rfl, ?_⟩; have n0_ := Aside0.mk (bB (g := gb281) (o := .cells #[.int .i64 a0_0, .int .i64 a0_1, .int .i64 a0_2, .slice A0_3 l0_3.length c0_3, .slice A0_4 l0_4.length c0_4] 28 (0, 0)) (by (with_reducible repeat (first | refine bN ?_ _ | refine bD ?_ | refine bA ?_ _)); exact BK281.out) hb)
             have n1_ := Aside0.mk (below_step (by repeat (first | (with_reducible first | exact HB.out | apply wA | apply wN | apply wD | refine wS ?_ GE281.out) | exact HB.out)) hb); clear BK281; clear HB; have BK281 := n0_; have HB := n1_; clear n0_ n1_
             (try clear hb)
             (try clear hb2)
             (try clear hk)
             (try clear hi)
             refine hK.out _ _ ⟨(bC BK281.out 0).trans rfl, (bC BK281.out 1).trans rfl, (bC BK281.out 2).trans rfl, (bC BK281.out 3).trans rfl, (bC BK281.out 4).trans rfl⟩ (fun hHeld => ?_); clear hK K; refine norm_ (a' := ?_) ?_ ?_; rotate_left
             ·
              show Act.put _ (some 59) _ = _
              simp only [Act.put, lT, l0_, lS, i64_w, i32_w]; rfl
             refine one_ (i := 15) (N := some 65) B20_16 rfl rfl (one_of HT_.out (by kernel_rfl)) (by decide) (fun K hK => ?_); refine goes_ Try.func22 (by kernel_rfl) rfl #[.agg #[.int .i64 a0_0, .int .i64 a0_1, .int .i64 a0_2, .slice A0_3 l0_3.length c0_3, .slice A0_4 l0_4.length c0_4], .int .i64 (wrap64 (Int.tmod (IntKind.u64.wrap (a1)) 50)), .int .i64 (wrap64 ((wrap64 (Int.tmod (IntKind.u64.wrap (a2)) 30)) + (wrap64 (Int.tmod (IntKind.u64.wrap (a3)) 30))))] (by rfl) rfl rfl (by (try simp only [List.map_toArray, List.map_cons, List.map_nil]); first | done | rfl | (simp only [List.length_drop, List.length_take]; rfl)) ?_
             with_reducible refine (quota_More.calls kj4 a0_0 a0_1 a0_2 _ _ l0_3 _ _ l0_4 (wrap64 (Int.tmod (IntKind.u64.wrap (a1)) 50)) (wrap64 ((wrap64 (Int.tmod (IntKind.u64.wrap (a2)) 30)) + (wrap64 (Int.tmod (IntKind.u64.wrap (a3)) 30)))) t290 _ ?side1 ?side2 ?side3 ?side4 A23.out).mono ?_
             (case side1 => repeat (first | exact (Kd.C_below HR0_3.out HB.out) | (with_reducible refine Kd.C_alloc ?_ _) | (with_reducible refine Kd.C_drewN ?_ _) | (with_reducible refine Kd.C_drew ?_)))
             (case side2 => exact HC0_3.out)
             (case side3 => repeat (first | exact (Kd.C_below HR0_4.out HB.out) | (with_reducible refine Kd.C_alloc ?_ _) | (with_reducible refine Kd.C_drewN ?_ _) | (with_reducible refine Kd.C_drew ?_)))
             (case side4 => exact HC0_4.out)
             rintro e w44 ⟨rfl, hb⟩; refine ⟨_, rfl, ?_⟩; have n0_ := Aside0.mk (bB (g := gb281) (o := .cells #[.int .i64 a0_0, .int .i64 a0_1, .int .i64 a0_2, .slice A0_3 l0_3.length c0_3, .slice A0_4 l0_4.length c0_4] 28 (0, 0)) (by (with_reducible repeat (first | refine bN ?_ _ | refine bD ?_ | refine bA ?_ _)); exact BK281.out) hb)
             have n1_ := Aside0.mk (below_step (by repeat (first | (with_reducible first | exact HB.out | apply wA | apply wN | apply wD | refine wS ?_ GE281.out) | exact HB.out)) hb); clear BK281; clear HB; have BK281 := n0_; have HB := n1_; clear n0_ n1_
             (try clear hb)
             (try clear hb2)
             (try clear hk)
             (try clear hi)
             refine hK.out _ _ ⟨(bC BK281.out 0).trans rfl, (bC BK281.out 1).trans rfl, (bC BK281.out 2).trans rfl, (bC BK281.out 3).trans rfl, (bC BK281.out 4).trans rfl⟩ (fun hHeld => ?_); clear hK K; refine norm_ (a' := ?_) ?_ ?_; rotate_left
             ·
              show Act.put _ (some 65) _ = _
              simp only [Act.put, lT, l0_, lS, i64_w, i32_w]; rfl
             refine pure_ (i := 16) (N := some 9) (v := ?_) (a' := ?_) B20_17 rfl rfl (any_of HT_.out (by kernel_rfl)) (fun _ _ _ h => h) (Or.inl ⟨by rfl, ?_⟩) ?_ ?_; rotate_left
             ·
              intro w'; go_simp; with_reducible rfl
             rotate_left
             ·
              simp only [Act.put, lT, l0_, lS, i64_w, i32_w]; rfl
             refine pure_ (i := 17) (N := some 10) (v := ?_) (a' := ?_) B20_18 rfl rfl (any_of HT_.out (by kernel_rfl)) (fun _ _ _ h => h) (Or.inl ⟨by rfl, ?_⟩) ?_ ?_; rotate_left
             ·
              intro w'; go_simp; with_reducible rfl
             rotate_left
             ·
              simp only [Act.put, lT, l0_, lS, i64_w, i32_w]; rfl
             refine pure_ (i := 18) (N := some 11) (v := ?_) (a' := ?_) B20_19 rfl rfl (any_of HT_.out (by kernel_rfl)) (fun _ _ _ h => h) (Or.inl ⟨by rfl, ?_⟩) ?_ ?_; rotate_left
             ·
              intro w'; go_simp; with_reducible rfl
             rotate_left
             ·
              simp only [Act.put, lT, l0_, lS, i64_w, i32_w]; rfl
             refine done_ (done_of HT_.out (by kernel_rfl)) ?_; have hcz45_0 : w44.cell? ⟨gb281, 0, none⟩ = some (.int .i64 a0_0) := (bC BK281.out 0).trans rfl; have hcz45_1 : w44.cell? ⟨gb281, 1, none⟩ = some (.int .i64 a0_1) := (bC BK281.out 1).trans rfl; have hcz45_2 : w44.cell? ⟨gb281, 2, none⟩ = some (.int .i64 a0_2) := (bC BK281.out 2).trans rfl; have hcz45_3 : w44.cell? ⟨gb281, 3, none⟩ = some (.slice A0_3 l0_3.length c0_3) := (bC BK281.out 3).trans rfl; have hcz45_4 : w44.cell? ⟨gb281, 4, none⟩ = some (.slice A0_4 l0_4.length c0_4) := (bC BK281.out 4).trans rfl; have hfz45_0 := bZ BK281.out 0; have hfz45_1 := bZ BK281.out 1; have hfz45_2 := bZ BK281.out 2; have hfz45_3 := bZ BK281.out 3; have hfz45_4 := bZ BK281.out 4; have p292 : 0 ≤ ((ji35) : Int) := of_decide_eq_true (by first | (with_reducible assumption) | assumption); have q292 : (ji35) < (l0_3.length : Int) := of_decide_eq_true (by first | (with_reducible assumption) | assumption); obtain ⟨ad292, e292, hx292_0⟩ := Kd.at_int HR0_3.out (ji35) p292 q292
             cases e292
             replace hx292_0 := (HB.out.cell (World.block_lt_of_cell? w _ hx292_0)).trans hx292_0; replace p292 := eq_true p292; replace q292 := eq_true q292
             try go_wp2_with (first | (go_at_call 15; (with_reducible refine (potsherdlaw18_awake.calls kj4  t293 _ A40.out).mono ?_); rintro e w46 ⟨rfl, hb⟩; have n0_ := Aside0.mk (bB (g := gb281) (o := .cells #[.int .i64 a0_0, .int .i64 a0_1, .int .i64 a0_2, .slice (some ad292) l0_3.length c0_3, .slice A0_4 l0_4.length c0_4] 28 (0, 0)) (by (with_reducible repeat (first | refine bN ?_ _ | refine bD ?_ | refine bA ?_ _)); exact BK281.out) hb); have n1_ := Aside0.mk (below_step (by repeat (first | (with_reducible first | exact HB.out | apply wA | apply wN | apply wD | refine wS ?_ GE281.out) | exact HB.out)) hb); clear BK281; clear HB; have BK281 := n0_; have HB := n1_; clear n0_ n1_; (try clear hb); (try clear hb2); (try clear hk); (try clear hi)))
             go_ret
             exact ⟨by first | rfl | exact congrArg (fun b_ => Ending.returned (Value.bool b_)) HRET.out | (rw [HRET.out]) | (simp [errW_none, errW_some] <;> rfl) | (simp only [← hji35]; first | rfl | (simp [errW_none, errW_some] <;> rfl)) | (simp [*, errW_none, errW_some] <;> rfl), by repeat (first | (with_reducible first | exact HB.out | apply wA | apply wN | apply wD | refine wS ?_ GE281.out) | exact HB.out)⟩
            ·
             rw [if_neg c39] at H; have c39b0 : ((wrap64 (t288 + t289)) == (wrap64 (t290 + 1))) = false := beq_eq_false_iff_ne.mpr c39; have c39b1 : ((wrap64 (t288 + t289)) != (wrap64 (t290 + 1))) = true := bne_iff_ne.mpr c39; exact absurd H (by simp)
           ·
            rw [if_neg c38] at H; have c38b0 : ((rd l0_3 (ji35)) == 0) = false := beq_eq_false_iff_ne.mpr c38; have c38b1 : ((rd l0_3 (ji35)) != 0) = true := bne_iff_ne.mpr c38
            by_cases c47 : (wrap64 (t288 + t289)) = (wrap64 (t290 + 0))
            ·
             rw [if_pos c47] at H; have c47b0 : ((wrap64 (t288 + t289)) == (wrap64 (t290 + 0))) = true := beq_iff_eq.mpr c47; have c47b1 : ((wrap64 (t288 + t289)) != (wrap64 (t290 + 0))) = false := bne_eq_false_iff_eq.mpr c47; (try simp only [Int.add_zero] at c47b0 c47b1); clear c47; replace H := Option.bind_eq_some_iff.mp H; obtain ⟨t294, A480, H⟩ := H; replace H : (some t294) = some true := H; have A48 := Aside0.mk A480; clear A480; have HRET := Aside0.mk (Option.some.inj H); clear H
             try go_wp2_with (first | ((with_reducible refine gate_callee (f := 25) rfl ?_); refine goesL_ (some 38) rfl rfl Try.func25 (by kernel_rfl) rfl #[.int .i64 (wrap64 (Int.tmod (IntKind.u64.wrap (a1)) 50)), .int .i64 (wrap64 ((wrap64 (Int.tmod (IntKind.u64.wrap (a2)) 30)) + (wrap64 (Int.tmod (IntKind.u64.wrap (a3)) 30))))] rfl (by (try simp only [List.map_toArray, List.map_cons, List.map_nil]); first | done | rfl | (simp only [List.length_drop, List.length_take]; rfl)) ?_; (with_reducible refine (potsherdref12_FitsFile.calls (wrap64 (Int.tmod (IntKind.u64.wrap (a1)) 50)) (wrap64 ((wrap64 (Int.tmod (IntKind.u64.wrap (a2)) 30)) + (wrap64 (Int.tmod (IntKind.u64.wrap (a3)) 30)))) true _ A19.out).mono ?_); rintro e w' ⟨rfl, ⟨nd, rfl⟩⟩; refine ⟨_, rfl, ?_⟩))
             (try (rw [drewN_self wc]; generalize hq_ : World.drewN wc _ = wc; have n0_ : Aside0 (wc.heap[gb281]? = some (.cells #[.int .i64 a0_0, .int .i64 a0_1, .int .i64 a0_2, .slice A0_3 l0_3.length c0_3, .slice A0_4 l0_4.length c0_4] 28 (0, 0))) := ⟨by rw [← hq_]; exact (by (with_reducible repeat (first | refine bN ?_ _ | refine bD ?_ | refine bA ?_ _)); exact BK281.out)⟩; have n1_ : Aside0 (Below w.heap.size w wc) := ⟨by rw [← hq_]; exact (by repeat (first | (with_reducible first | exact HB.out | apply wA | apply wN | apply wD | refine wS ?_ GE281.out) | exact HB.out))⟩; clear BK281 HB hq_; have BK281 := n0_; have HB := n1_; clear n0_ n1_))
             have n0_ := Aside0.mk (bD BK281.out); have n1_ := Aside0.mk (wD HB.out); clear BK281; clear HB; have BK281 := n0_; have HB := n1_; clear n0_ n1_; refine start_ (n := 19) (S := fun w' => w'.cell? ⟨gb281, 0, none⟩ = some (.int .i64 a0_0) ∧ w'.cell? ⟨gb281, 1, none⟩ = some (.int .i64 a0_1) ∧ w'.cell? ⟨gb281, 2, none⟩ = some (.int .i64 a0_2) ∧ w'.cell? ⟨gb281, 3, none⟩ = some (.slice A0_3 l0_3.length c0_3) ∧ w'.cell? ⟨gb281, 4, none⟩ = some (.slice A0_4 l0_4.length c0_4)) (ds := []) B20_0 (by kernel_rfl) rfl rfl ⟨(bC BK281.out 0).trans rfl, (bC BK281.out 1).trans rfl, (bC BK281.out 2).trans rfl, (bC BK281.out 3).trans rfl, (bC BK281.out 4).trans rfl⟩ (fun hHeld => ?_); refine with_tabW potsherdlaw18_QuotaParts.tab6 potsherdlaw18_QuotaParts.bits6 (fun HT_ HW_ => ?_); generalize wc.drew = w49 at BK281 HB hHeld ⊢; refine pure_ (i := 1) (N := some 51) (v := ?_) (a' := ?_) B20_1 rfl rfl (any_of HT_.out (by kernel_rfl)) (fun _ _ _ h => h) (Or.inl ⟨by rfl, ?_⟩) ?_ ?_; rotate_left
             ·
              intro w'; go_simp; with_reducible rfl
             rotate_left
             ·
              simp only [Act.put, lT, l0_, lS, i64_w, i32_w]; rfl
             refine pure_ (i := 2) (N := some 52) (v := ?_) (a' := ?_) B20_2 rfl rfl (any_of HT_.out (by kernel_rfl)) (fun _ _ _ h => h) (Or.inl ⟨by rfl, ?_⟩) ?_ ?_; rotate_left
             ·
              intro w'; go_simp; with_reducible rfl
             rotate_left
             ·
              simp only [Act.put, lT, l0_, lS, i64_w, i32_w]; rfl
             refine pure_ (i := 5) (N := some 55) (v := ?_) (a' := ?_) B20_3 rfl rfl (any_of HT_.out (by kernel_rfl)) (fun _ _ _ h => h) (Or.inl ⟨by rfl, ?_⟩) ?_ ?_; rotate_left
             ·
              intro w'; go_simp; with_reducible rfl
             rotate_left
             ·
              simp only [Act.put, lT, l0_, lS, i64_w, i32_w]; rfl
             refine pure_ (i := 6) (N := some 56) (v := ?_) (a' := ?_) B20_4 rfl rfl (any_of HT_.out (by kernel_rfl)) (fun _ _ _ h => h) (Or.inl ⟨by rfl, ?_⟩) ?_ ?_; rotate_left
             ·
              intro w'; go_simp; with_reducible rfl
             rotate_left
             ·
              simp only [Act.put, lT, l0_, lS, i64_w, i32_w]; rfl
             refine pure_ (i := 7) (N := some 57) (v := ?_) (a' := ?_) B20_5 rfl rfl (any_of HT_.out (by kernel_rfl)) (fun _ _ _ h => h) (Or.inl ⟨by rfl, ?_⟩) ?_ ?_; rotate_left
             ·
              intro w'; go_simp; with_reducible rfl
             rotate_left
             ·
              simp only [Act.put, lT, l0_, lS, i64_w, i32_w]; rfl
             refine pure_ (i := 8) (N := some 58) (v := ?_) (a' := ?_) B20_6 rfl rfl (any_of HT_.out (by kernel_rfl)) (fun _ _ _ h => h) (Or.inl ⟨by rfl, ?_⟩) ?_ ?_; rotate_left
             ·
              intro w'; go_simp; with_reducible rfl
             rotate_left
             ·
              simp only [Act.put, lT, l0_, lS, i64_w, i32_w]; rfl
             refine pure_ (i := 11) (N := some 61) (v := ?_) (a' := ?_) B20_7 rfl rfl (any_of HT_.out (by kernel_rfl)) (fun _ _ _ h => h) (Or.inl ⟨by rfl, ?_⟩) ?_ ?_; rotate_left
             ·
              intro w'; go_simp; with_reducible rfl
             rotate_left
             ·
              simp only [Act.put, lT, l0_, lS, i64_w, i32_w]; rfl
             refine pure_ (i := 12) (N := some 62) (v := ?_) (a' := ?_) B20_8 rfl rfl (any_of HT_.out (by kernel_rfl)) (fun _ _ _ h => h) (Or.inl ⟨by rfl, ?_⟩) ?_ ?_; rotate_left
             ·
              intro w'; go_simp; with_reducible rfl
             rotate_left
             ·
              simp only [Act.put, lT, l0_, lS, i64_w, i32_w]; rfl
             refine pure_ (i := 13) (N := some 63) (v := ?_) (a' := ?_) B20_9 rfl rfl (any_of HT_.out (by kernel_rfl)) (fun _ _ _ h => h) (Or.inl ⟨by rfl, ?_⟩) ?_ ?_; rotate_left
             ·
              intro w'; go_simp; with_reducible rfl
             rotate_left
             ·
              simp only [Act.put, lT, l0_, lS, i64_w, i32_w]; rfl
             refine pure_ (i := 14) (N := some 64) (v := ?_) (a' := ?_) B20_10 rfl rfl (any_of HT_.out (by kernel_rfl)) (fun _ _ _ h => h) (Or.inl ⟨by rfl, ?_⟩) ?_ ?_; rotate_left
             ·
              intro w'; go_simp; with_reducible rfl
             rotate_left
             ·
              simp only [Act.put, lT, l0_, lS, i64_w, i32_w]; rfl
             refine take_ (i := 0) (N := some 50) (v := ?_) (a' := ?_) B20_11 rfl rfl (take_ofW HT_.out HW_.out (by kernel_rfl)) (fun _ _ _ h => h) (Or.inl ⟨by rfl, ?_⟩) hHeld ?_ ?_; rotate_left
             ·
              rintro w' ⟨s0, s1, s2, s3, s4⟩; go_simp; with_reducible rfl
             rotate_left
             ·
              simp only [Act.put, lT, l0_, lS, i64_w, i32_w]; rfl
             refine take_ (i := 4) (N := some 54) (v := ?_) (a' := ?_) B20_12 rfl rfl (take_ofW HT_.out HW_.out (by kernel_rfl)) (fun _ _ _ h => h) (Or.inl ⟨by rfl, ?_⟩) hHeld ?_ ?_; rotate_left
             ·
              rintro w' ⟨s0, s1, s2, s3, s4⟩; go_simp; with_reducible rfl
             rotate_left
             ·
              simp only [Act.put, lT, l0_, lS, i64_w, i32_w]; rfl
             refine take_ (i := 10) (N := some 60) (v := ?_) (a' := ?_) B20_13 rfl rfl (take_ofW HT_.out HW_.out (by kernel_rfl)) (fun _ _ _ h => h) (Or.inl ⟨by rfl, ?_⟩) hHeld ?_ ?_; rotate_left
             ·
              rintro w' ⟨s0, s1, s2, s3, s4⟩; go_simp; with_reducible rfl
             rotate_left
             ·
              simp only [Act.put, lT, l0_, lS, i64_w, i32_w]; rfl
             refine one_ (i := 3) (N := some 53) B20_14 rfl rfl (one_of HT_.out (by kernel_rfl)) (by decide) (fun K hK => ?_); refine goes_ Try.func22 (by kernel_rfl) rfl #[.agg #[.int .i64 a0_0, .int .i64 a0_1, .int .i64 a0_2, .slice A0_3 l0_3.length c0_3, .slice A0_4 l0_4.length c0_4], .int .i64 (wrap64 (Int.tmod (IntKind.u64.wrap (a1)) 50)), .int .i64 (wrap64 (Int.tmod (IntKind.u64.wrap (a2)) 30))] (by rfl) rfl rfl (by (try simp only [List.map_toArray, List.map_cons, List.map_nil]); first | done | rfl | (simp only [List.length_drop, List.length_take]; rfl)) ?_
             with_reducible refine (quota_More.calls kj4 a0_0 a0_1 a0_2 _ _ l0_3 _ _ l0_4 (wrap64 (Int.tmod (IntKind.u64.wrap (a1)) 50)) (wrap64 (Int.tmod (IntKind.u64.wrap (a2)) 30)) t288 _ ?side1 ?side2 ?side3 ?side4 A21.out).mono ?_
             (case side1 => repeat (first | exact (Kd.C_below HR0_3.out HB.out) | (with_reducible refine Kd.C_alloc ?_ _) | (with_reducible refine Kd.C_drewN ?_ _) | (with_reducible refine Kd.C_drew ?_)))
             (case side2 => exact HC0_3.out)
             (case side3 => repeat (first | exact (Kd.C_below HR0_4.out HB.out) | (with_reducible refine Kd.C_alloc ?_ _) | (with_reducible refine Kd.C_drewN ?_ _) | (with_reducible refine Kd.C_drew ?_)))
             (case side4 => exact HC0_4.out)
             rintro e w50 ⟨rfl, hb⟩; refine ⟨_, rfl, ?_⟩; have n0_ := Aside0.mk (bB (g := gb281) (o := .cells #[.int .i64 a0_0, .int .i64 a0_1, .int .i64 a0_2, .slice A0_3 l0_3.length c0_3, .slice A0_4 l0_4.length c0_4] 28 (0, 0)) (by (with_reducible repeat (first | refine bN ?_ _ | refine bD ?_ | refine bA ?_ _)); exact BK281.out) hb)
             have n1_ := Aside0.mk (below_step (by repeat (first | (with_reducible first | exact HB.out | apply wA | apply wN | apply wD | refine wS ?_ GE281.out) | exact HB.out)) hb); clear BK281; clear HB; have BK281 := n0_; have HB := n1_; clear n0_ n1_
             (try clear hb)
             (try clear hb2)
             (try clear hk)
             (try clear hi)
             refine hK.out _ _ ⟨(bC BK281.out 0).trans rfl, (bC BK281.out 1).trans rfl, (bC BK281.out 2).trans rfl, (bC BK281.out 3).trans rfl, (bC BK281.out 4).trans rfl⟩ (fun hHeld => ?_); clear hK K; refine norm_ (a' := ?_) ?_ ?_; rotate_left
             ·
              show Act.put _ (some 53) _ = _
              simp only [Act.put, lT, l0_, lS, i64_w, i32_w]; rfl
             refine one_ (i := 9) (N := some 59) B20_15 rfl rfl (one_of HT_.out (by kernel_rfl)) (by decide) (fun K hK => ?_); refine goes_ Try.func22 (by kernel_rfl) rfl #[.agg #[.int .i64 a0_0, .int .i64 a0_1, .int .i64 a0_2, .slice A0_3 l0_3.length c0_3, .slice A0_4 l0_4.length c0_4], .int .i64 (wrap64 ((wrap64 (Int.tmod (IntKind.u64.wrap (a1)) 50)) + (wrap64 (Int.tmod (IntKind.u64.wrap (a2)) 30)))), .int .i64 (wrap64 (Int.tmod (IntKind.u64.wrap (a3)) 30))] (by rfl) rfl rfl (by (try simp only [List.map_toArray, List.map_cons, List.map_nil]); first | done | rfl | (simp only [List.length_drop, List.length_take]; rfl)) ?_
             with_reducible refine (quota_More.calls kj4 a0_0 a0_1 a0_2 _ _ l0_3 _ _ l0_4 (wrap64 ((wrap64 (Int.tmod (IntKind.u64.wrap (a1)) 50)) + (wrap64 (Int.tmod (IntKind.u64.wrap (a2)) 30)))) (wrap64 (Int.tmod (IntKind.u64.wrap (a3)) 30)) t289 _ ?side1 ?side2 ?side3 ?side4 A22.out).mono ?_
             (case side1 => repeat (first | exact (Kd.C_below HR0_3.out HB.out) | (with_reducible refine Kd.C_alloc ?_ _) | (with_reducible refine Kd.C_drewN ?_ _) | (with_reducible refine Kd.C_drew ?_)))
             (case side2 => exact HC0_3.out)
             (case side3 => repeat (first | exact (Kd.C_below HR0_4.out HB.out) | (with_reducible refine Kd.C_alloc ?_ _) | (with_reducible refine Kd.C_drewN ?_ _) | (with_reducible refine Kd.C_drew ?_)))
             (case side4 => exact HC0_4.out)
             rintro e w51 ⟨rfl, hb⟩; refine ⟨_, rfl, ?_⟩; have n0_ := Aside0.mk (bB (g := gb281) (o := .cells #[.int .i64 a0_0, .int .i64 a0_1, .int .i64 a0_2, .slice A0_3 l0_3.length c0_3, .slice A0_4 l0_4.length c0_4] 28 (0, 0)) (by (with_reducible repeat (first | refine bN ?_ _ | refine bD ?_ | refine bA ?_ _)); exact BK281.out) hb)
             have n1_ := Aside0.mk (below_step (by repeat (first | (with_reducible first | exact HB.out | apply wA | apply wN | apply wD | refine wS ?_ GE281.out) | exact HB.out)) hb); clear BK281; clear HB; have BK281 := n0_; have HB := n1_; clear n0_ n1_
             (try clear hb)
             (try clear hb2)
             (try clear hk)
             (try clear hi)
             refine hK.out _ _ ⟨(bC BK281.out 0).trans rfl, (bC BK281.out 1).trans rfl, (bC BK281.out 2).trans rfl, (bC BK281.out 3).trans rfl, (bC BK281.out 4).trans rfl⟩ (fun hHeld => ?_); clear hK K; refine norm_ (a' := ?_) ?_ ?_; rotate_left
             ·
              show Act.put _ (some 59) _ = _
              simp only [Act.put, lT, l0_, lS, i64_w, i32_w]; rfl
             refine one_ (i := 15) (N := some 65) B20_16 rfl rfl (one_of HT_.out (by kernel_rfl)) (by decide) (fun K hK => ?_); refine goes_ Try.func22 (by kernel_rfl) rfl #[.agg #[.int .i64 a0_0, .int .i64 a0_1, .int .i64 a0_2, .slice A0_3 l0_3.length c0_3, .slice A0_4 l0_4.length c0_4], .int .i64 (wrap64 (Int.tmod (IntKind.u64.wrap (a1)) 50)), .int .i64 (wrap64 ((wrap64 (Int.tmod (IntKind.u64.wrap (a2)) 30)) + (wrap64 (Int.tmod (IntKind.u64.wrap (a3)) 30))))] (by rfl) rfl rfl (by (try simp only [List.map_toArray, List.map_cons, List.map_nil]); first | done | rfl | (simp only [List.length_drop, List.length_take]; rfl)) ?_
             with_reducible refine (quota_More.calls kj4 a0_0 a0_1 a0_2 _ _ l0_3 _ _ l0_4 (wrap64 (Int.tmod (IntKind.u64.wrap (a1)) 50)) (wrap64 ((wrap64 (Int.tmod (IntKind.u64.wrap (a2)) 30)) + (wrap64 (Int.tmod (IntKind.u64.wrap (a3)) 30)))) t290 _ ?side1 ?side2 ?side3 ?side4 A23.out).mono ?_
             (case side1 => repeat (first | exact (Kd.C_below HR0_3.out HB.out) | (with_reducible refine Kd.C_alloc ?_ _) | (with_reducible refine Kd.C_drewN ?_ _) | (with_reducible refine Kd.C_drew ?_)))
             (case side2 => exact HC0_3.out)
             (case side3 => repeat (first | exact (Kd.C_below HR0_4.out HB.out) | (with_reducible refine Kd.C_alloc ?_ _) | (with_reducible refine Kd.C_drewN ?_ _) | (with_reducible refine Kd.C_drew ?_)))
             (case side4 => exact HC0_4.out)
             rintro e w52 ⟨rfl, hb⟩; refine ⟨_, rfl, ?_⟩; have n0_ := Aside0.mk (bB (g := gb281) (o := .cells #[.int .i64 a0_0, .int .i64 a0_1, .int .i64 a0_2, .slice A0_3 l0_3.length c0_3, .slice A0_4 l0_4.length c0_4] 28 (0, 0)) (by (with_reducible repeat (first | refine bN ?_ _ | refine bD ?_ | refine bA ?_ _)); exact BK281.out) hb)
             have n1_ := Aside0.mk (below_step (by repeat (first | (with_reducible first | exact HB.out | apply wA | apply wN | apply wD | refine wS ?_ GE281.out) | exact HB.out)) hb); clear BK281; clear HB; have BK281 := n0_; have HB := n1_; clear n0_ n1_
             (try clear hb)
             (try clear hb2)
             (try clear hk)
             (try clear hi)
             refine hK.out _ _ ⟨(bC BK281.out 0).trans rfl, (bC BK281.out 1).trans rfl, (bC BK281.out 2).trans rfl, (bC BK281.out 3).trans rfl, (bC BK281.out 4).trans rfl⟩ (fun hHeld => ?_); clear hK K; refine norm_ (a' := ?_) ?_ ?_; rotate_left
             ·
              show Act.put _ (some 65) _ = _
              simp only [Act.put, lT, l0_, lS, i64_w, i32_w]; rfl
             refine pure_ (i := 16) (N := some 9) (v := ?_) (a' := ?_) B20_17 rfl rfl (any_of HT_.out (by kernel_rfl)) (fun _ _ _ h => h) (Or.inl ⟨by rfl, ?_⟩) ?_ ?_; rotate_left
             ·
              intro w'; go_simp; with_reducible rfl
             rotate_left
             ·
              simp only [Act.put, lT, l0_, lS, i64_w, i32_w]; rfl
             refine pure_ (i := 17) (N := some 10) (v := ?_) (a' := ?_) B20_18 rfl rfl (any_of HT_.out (by kernel_rfl)) (fun _ _ _ h => h) (Or.inl ⟨by rfl, ?_⟩) ?_ ?_; rotate_left
             ·
              intro w'; go_simp; with_reducible rfl
             rotate_left
             ·
              simp only [Act.put, lT, l0_, lS, i64_w, i32_w]; rfl
             refine pure_ (i := 18) (N := some 11) (v := ?_) (a' := ?_) B20_19 rfl rfl (any_of HT_.out (by kernel_rfl)) (fun _ _ _ h => h) (Or.inl ⟨by rfl, ?_⟩) ?_ ?_; rotate_left
             ·
              intro w'; go_simp; with_reducible rfl
             rotate_left
             ·
              simp only [Act.put, lT, l0_, lS, i64_w, i32_w]; rfl
             refine done_ (done_of HT_.out (by kernel_rfl)) ?_; have hcz53_0 : w52.cell? ⟨gb281, 0, none⟩ = some (.int .i64 a0_0) := (bC BK281.out 0).trans rfl; have hcz53_1 : w52.cell? ⟨gb281, 1, none⟩ = some (.int .i64 a0_1) := (bC BK281.out 1).trans rfl; have hcz53_2 : w52.cell? ⟨gb281, 2, none⟩ = some (.int .i64 a0_2) := (bC BK281.out 2).trans rfl; have hcz53_3 : w52.cell? ⟨gb281, 3, none⟩ = some (.slice A0_3 l0_3.length c0_3) := (bC BK281.out 3).trans rfl; have hcz53_4 : w52.cell? ⟨gb281, 4, none⟩ = some (.slice A0_4 l0_4.length c0_4) := (bC BK281.out 4).trans rfl; have hfz53_0 := bZ BK281.out 0; have hfz53_1 := bZ BK281.out 1; have hfz53_2 := bZ BK281.out 2; have hfz53_3 := bZ BK281.out 3; have hfz53_4 := bZ BK281.out 4; have p292 : 0 ≤ ((ji35) : Int) := of_decide_eq_true (by first | (with_reducible assumption) | assumption); have q292 : (ji35) < (l0_3.length : Int) := of_decide_eq_true (by first | (with_reducible assumption) | assumption); obtain ⟨ad292, e292, hx292_0⟩ := Kd.at_int HR0_3.out (ji35) p292 q292
             cases e292
             replace hx292_0 := (HB.out.cell (World.block_lt_of_cell? w _ hx292_0)).trans hx292_0; replace p292 := eq_true p292; replace q292 := eq_true q292
             try go_wp2_with (first | (go_at_call 15; (with_reducible refine (potsherdlaw18_awake.calls kj4  t294 _ A48.out).mono ?_); rintro e w54 ⟨rfl, hb⟩; have n0_ := Aside0.mk (bB (g := gb281) (o := .cells #[.int .i64 a0_0, .int .i64 a0_1, .int .i64 a0_2, .slice (some ad292) l0_3.length c0_3, .slice A0_4 l0_4.length c0_4] 28 (0, 0)) (by (with_reducible repeat (first | refine bN ?_ _ | refine bD ?_ | refine bA ?_ _)); exact BK281.out) hb); have n1_ := Aside0.mk (below_step (by repeat (first | (with_reducible first | exact HB.out | apply wA | apply wN | apply wD | refine wS ?_ GE281.out) | exact HB.out)) hb); clear BK281; clear HB; have BK281 := n0_; have HB := n1_; clear n0_ n1_; (try clear hb); (try clear hb2); (try clear hk); (try clear hi)))
             go_ret
             exact ⟨by first | rfl | exact congrArg (fun b_ => Ending.returned (Value.bool b_)) HRET.out | (rw [HRET.out]) | (simp [errW_none, errW_some] <;> rfl) | (simp only [← hji35]; first | rfl | (simp [errW_none, errW_some] <;> rfl)) | (simp [*, errW_none, errW_some] <;> rfl), by repeat (first | (with_reducible first | exact HB.out | apply wA | apply wN | apply wD | refine wS ?_ GE281.out) | exact HB.out)⟩
            ·
             rw [if_neg c47] at H; have c47b0 : ((wrap64 (t288 + t289)) == (wrap64 (t290 + 0))) = false := beq_eq_false_iff_ne.mpr c47; have c47b1 : ((wrap64 (t288 + t289)) != (wrap64 (t290 + 0))) = true := bne_iff_ne.mpr c47; (try simp only [Int.add_zero] at c47b0 c47b1); exact absurd H (by simp)
          ·
           rw [if_neg c37] at H; exact absurd H (by simp)
         ·
          rw [if_neg c36] at H; exact absurd H (by simp)
        ·
         rw [if_neg c34] at H; have c34b0 : (a0_0 == 1) = false := beq_eq_false_iff_ne.mpr c34; have c34b1 : (a0_0 != 1) = true := bne_iff_ne.mpr c34
         by_cases c55 : (wrap64 (t288 + t289)) = (wrap64 (t290 + 0))
         ·
          rw [if_pos c55] at H; have c55b0 : ((wrap64 (t288 + t289)) == (wrap64 (t290 + 0))) = true := beq_iff_eq.mpr c55; have c55b1 : ((wrap64 (t288 + t289)) != (wrap64 (t290 + 0))) = false := bne_eq_false_iff_eq.mpr c55; (try simp only [Int.add_zero] at c55b0 c55b1); clear c55; replace H := Option.bind_eq_some_iff.mp H; obtain ⟨t295, A560, H⟩ := H; replace H : (some t295) = some true := H; have A56 := Aside0.mk A560; clear A560; have HRET := Aside0.mk (Option.some.inj H); clear H
          try go_wp2_with (first | ((with_reducible refine gate_callee (f := 25) rfl ?_); refine goesL_ (some 38) rfl rfl Try.func25 (by kernel_rfl) rfl #[.int .i64 (wrap64 (Int.tmod (IntKind.u64.wrap (a1)) 50)), .int .i64 (wrap64 ((wrap64 (Int.tmod (IntKind.u64.wrap (a2)) 30)) + (wrap64 (Int.tmod (IntKind.u64.wrap (a3)) 30))))] rfl (by (try simp only [List.map_toArray, List.map_cons, List.map_nil]); first | done | rfl | (simp only [List.length_drop, List.length_take]; rfl)) ?_; (with_reducible refine (potsherdref12_FitsFile.calls (wrap64 (Int.tmod (IntKind.u64.wrap (a1)) 50)) (wrap64 ((wrap64 (Int.tmod (IntKind.u64.wrap (a2)) 30)) + (wrap64 (Int.tmod (IntKind.u64.wrap (a3)) 30)))) true _ A19.out).mono ?_); rintro e w' ⟨rfl, ⟨nd, rfl⟩⟩; refine ⟨_, rfl, ?_⟩))
          (try (rw [drewN_self wc]; generalize hq_ : World.drewN wc _ = wc; have n0_ : Aside0 (wc.heap[gb281]? = some (.cells #[.int .i64 a0_0, .int .i64 a0_1, .int .i64 a0_2, .slice A0_3 l0_3.length c0_3, .slice A0_4 l0_4.length c0_4] 28 (0, 0))) := ⟨by rw [← hq_]; exact (by (with_reducible repeat (first | refine bN ?_ _ | refine bD ?_ | refine bA ?_ _)); exact BK281.out)⟩; have n1_ : Aside0 (Below w.heap.size w wc) := ⟨by rw [← hq_]; exact (by repeat (first | (with_reducible first | exact HB.out | apply wA | apply wN | apply wD | refine wS ?_ GE281.out) | exact HB.out))⟩; clear BK281 HB hq_; have BK281 := n0_; have HB := n1_; clear n0_ n1_))
          have n0_ := Aside0.mk (bD BK281.out); have n1_ := Aside0.mk (wD HB.out); clear BK281; clear HB; have BK281 := n0_; have HB := n1_; clear n0_ n1_; refine start_ (n := 19) (S := fun w' => w'.cell? ⟨gb281, 0, none⟩ = some (.int .i64 a0_0) ∧ w'.cell? ⟨gb281, 1, none⟩ = some (.int .i64 a0_1) ∧ w'.cell? ⟨gb281, 2, none⟩ = some (.int .i64 a0_2) ∧ w'.cell? ⟨gb281, 3, none⟩ = some (.slice A0_3 l0_3.length c0_3) ∧ w'.cell? ⟨gb281, 4, none⟩ = some (.slice A0_4 l0_4.length c0_4)) (ds := []) B20_0 (by kernel_rfl) rfl rfl ⟨(bC BK281.out 0).trans rfl, (bC BK281.out 1).trans rfl, (bC BK281.out 2).trans rfl, (bC BK281.out 3).trans rfl, (bC BK281.out 4).trans rfl⟩ (fun hHeld => ?_); refine with_tabW potsherdlaw18_QuotaParts.tab6 potsherdlaw18_QuotaParts.bits6 (fun HT_ HW_ => ?_); generalize wc.drew = w57 at BK281 HB hHeld ⊢; refine pure_ (i := 1) (N := some 51) (v := ?_) (a' := ?_) B20_1 rfl rfl (any_of HT_.out (by kernel_rfl)) (fun _ _ _ h => h) (Or.inl ⟨by rfl, ?_⟩) ?_ ?_; rotate_left
          ·
           intro w'; go_simp; with_reducible rfl
          rotate_left
          ·
           simp only [Act.put, lT, l0_, lS, i64_w, i32_w]; rfl
          refine pure_ (i := 2) (N := some 52) (v := ?_) (a' := ?_) B20_2 rfl rfl (any_of HT_.out (by kernel_rfl)) (fun _ _ _ h => h) (Or.inl ⟨by rfl, ?_⟩) ?_ ?_; rotate_left
          ·
           intro w'; go_simp; with_reducible rfl
          rotate_left
          ·
           simp only [Act.put, lT, l0_, lS, i64_w, i32_w]; rfl
          refine pure_ (i := 5) (N := some 55) (v := ?_) (a' := ?_) B20_3 rfl rfl (any_of HT_.out (by kernel_rfl)) (fun _ _ _ h => h) (Or.inl ⟨by rfl, ?_⟩) ?_ ?_; rotate_left
          ·
           intro w'; go_simp; with_reducible rfl
          rotate_left
          ·
           simp only [Act.put, lT, l0_, lS, i64_w, i32_w]; rfl
          refine pure_ (i := 6) (N := some 56) (v := ?_) (a' := ?_) B20_4 rfl rfl (any_of HT_.out (by kernel_rfl)) (fun _ _ _ h => h) (Or.inl ⟨by rfl, ?_⟩) ?_ ?_; rotate_left
          ·
           intro w'; go_simp; with_reducible rfl
          rotate_left
          ·
           simp only [Act.put, lT, l0_, lS, i64_w, i32_w]; rfl
          refine pure_ (i := 7) (N := some 57) (v := ?_) (a' := ?_) B20_5 rfl rfl (any_of HT_.out (by kernel_rfl)) (fun _ _ _ h => h) (Or.inl ⟨by rfl, ?_⟩) ?_ ?_; rotate_left
          ·
           intro w'; go_simp; with_reducible rfl
          rotate_left
          ·
           simp only [Act.put, lT, l0_, lS, i64_w, i32_w]; rfl
          refine pure_ (i := 8) (N := some 58) (v := ?_) (a' := ?_) B20_6 rfl rfl (any_of HT_.out (by kernel_rfl)) (fun _ _ _ h => h) (Or.inl ⟨by rfl, ?_⟩) ?_ ?_; rotate_left
          ·
           intro w'; go_simp; with_reducible rfl
          rotate_left
          ·
           simp only [Act.put, lT, l0_, lS, i64_w, i32_w]; rfl
          refine pure_ (i := 11) (N := some 61) (v := ?_) (a' := ?_) B20_7 rfl rfl (any_of HT_.out (by kernel_rfl)) (fun _ _ _ h => h) (Or.inl ⟨by rfl, ?_⟩) ?_ ?_; rotate_left
          ·
           intro w'; go_simp; with_reducible rfl
          rotate_left
          ·
           simp only [Act.put, lT, l0_, lS, i64_w, i32_w]; rfl
          refine pure_ (i := 12) (N := some 62) (v := ?_) (a' := ?_) B20_8 rfl rfl (any_of HT_.out (by kernel_rfl)) (fun _ _ _ h => h) (Or.inl ⟨by rfl, ?_⟩) ?_ ?_; rotate_left
          ·
           intro w'; go_simp; with_reducible rfl
          rotate_left
          ·
           simp only [Act.put, lT, l0_, lS, i64_w, i32_w]; rfl
          refine pure_ (i := 13) (N := some 63) (v := ?_) (a' := ?_) B20_9 rfl rfl (any_of HT_.out (by kernel_rfl)) (fun _ _ _ h => h) (Or.inl ⟨by rfl, ?_⟩) ?_ ?_; rotate_left
          ·
           intro w'; go_simp; with_reducible rfl
          rotate_left
          ·
           simp only [Act.put, lT, l0_, lS, i64_w, i32_w]; rfl
          refine pure_ (i := 14) (N := some 64) (v := ?_) (a' := ?_) B20_10 rfl rfl (any_of HT_.out (by kernel_rfl)) (fun _ _ _ h => h) (Or.inl ⟨by rfl, ?_⟩) ?_ ?_; rotate_left
          ·
           intro w'; go_simp; with_reducible rfl
          rotate_left
          ·
           simp only [Act.put, lT, l0_, lS, i64_w, i32_w]; rfl
          refine take_ (i := 0) (N := some 50) (v := ?_) (a' := ?_) B20_11 rfl rfl (take_ofW HT_.out HW_.out (by kernel_rfl)) (fun _ _ _ h => h) (Or.inl ⟨by rfl, ?_⟩) hHeld ?_ ?_; rotate_left
          ·
           rintro w' ⟨s0, s1, s2, s3, s4⟩; go_simp; with_reducible rfl
          rotate_left
          ·
           simp only [Act.put, lT, l0_, lS, i64_w, i32_w]; rfl
          refine take_ (i := 4) (N := some 54) (v := ?_) (a' := ?_) B20_12 rfl rfl (take_ofW HT_.out HW_.out (by kernel_rfl)) (fun _ _ _ h => h) (Or.inl ⟨by rfl, ?_⟩) hHeld ?_ ?_; rotate_left
          ·
           rintro w' ⟨s0, s1, s2, s3, s4⟩; go_simp; with_reducible rfl
          rotate_left
          ·
           simp only [Act.put, lT, l0_, lS, i64_w, i32_w]; rfl
          refine take_ (i := 10) (N := some 60) (v := ?_) (a' := ?_) B20_13 rfl rfl (take_ofW HT_.out HW_.out (by kernel_rfl)) (fun _ _ _ h => h) (Or.inl ⟨by rfl, ?_⟩) hHeld ?_ ?_; rotate_left
          ·
           rintro w' ⟨s0, s1, s2, s3, s4⟩; go_simp; with_reducible rfl
          rotate_left
          ·
           simp only [Act.put, lT, l0_, lS, i64_w, i32_w]; rfl
          refine one_ (i := 3) (N := some 53) B20_14 rfl rfl (one_of HT_.out (by kernel_rfl)) (by decide) (fun K hK => ?_); refine goes_ Try.func22 (by kernel_rfl) rfl #[.agg #[.int .i64 a0_0, .int .i64 a0_1, .int .i64 a0_2, .slice A0_3 l0_3.length c0_3, .slice A0_4 l0_4.length c0_4], .int .i64 (wrap64 (Int.tmod (IntKind.u64.wrap (a1)) 50)), .int .i64 (wrap64 (Int.tmod (IntKind.u64.wrap (a2)) 30))] (by rfl) rfl rfl (by (try simp only [List.map_toArray, List.map_cons, List.map_nil]); first | done | rfl | (simp only [List.length_drop, List.length_take]; rfl)) ?_
          with_reducible refine (quota_More.calls kj4 a0_0 a0_1 a0_2 _ _ l0_3 _ _ l0_4 (wrap64 (Int.tmod (IntKind.u64.wrap (a1)) 50)) (wrap64 (Int.tmod (IntKind.u64.wrap (a2)) 30)) t288 _ ?side1 ?side2 ?side3 ?side4 A21.out).mono ?_
          (case side1 => repeat (first | exact (Kd.C_below HR0_3.out HB.out) | (with_reducible refine Kd.C_alloc ?_ _) | (with_reducible refine Kd.C_drewN ?_ _) | (with_reducible refine Kd.C_drew ?_)))
          (case side2 => exact HC0_3.out)
          (case side3 => repeat (first | exact (Kd.C_below HR0_4.out HB.out) | (with_reducible refine Kd.C_alloc ?_ _) | (with_reducible refine Kd.C_drewN ?_ _) | (with_reducible refine Kd.C_drew ?_)))
          (case side4 => exact HC0_4.out)
          rintro e w58 ⟨rfl, hb⟩; refine ⟨_, rfl, ?_⟩; have n0_ := Aside0.mk (bB (g := gb281) (o := .cells #[.int .i64 a0_0, .int .i64 a0_1, .int .i64 a0_2, .slice A0_3 l0_3.length c0_3, .slice A0_4 l0_4.length c0_4] 28 (0, 0)) (by (with_reducible repeat (first | refine bN ?_ _ | refine bD ?_ | refine bA ?_ _)); exact BK281.out) hb)
          have n1_ := Aside0.mk (below_step (by repeat (first | (with_reducible first | exact HB.out | apply wA | apply wN | apply wD | refine wS ?_ GE281.out) | exact HB.out)) hb); clear BK281; clear HB; have BK281 := n0_; have HB := n1_; clear n0_ n1_
          (try clear hb)
          (try clear hb2)
          (try clear hk)
          (try clear hi)
          refine hK.out _ _ ⟨(bC BK281.out 0).trans rfl, (bC BK281.out 1).trans rfl, (bC BK281.out 2).trans rfl, (bC BK281.out 3).trans rfl, (bC BK281.out 4).trans rfl⟩ (fun hHeld => ?_); clear hK K; refine norm_ (a' := ?_) ?_ ?_; rotate_left
          ·
           show Act.put _ (some 53) _ = _
           simp only [Act.put, lT, l0_, lS, i64_w, i32_w]; rfl
          refine one_ (i := 9) (N := some 59) B20_15 rfl rfl (one_of HT_.out (by kernel_rfl)) (by decide) (fun K hK => ?_); refine goes_ Try.func22 (by kernel_rfl) rfl #[.agg #[.int .i64 a0_0, .int .i64 a0_1, .int .i64 a0_2, .slice A0_3 l0_3.length c0_3, .slice A0_4 l0_4.length c0_4], .int .i64 (wrap64 ((wrap64 (Int.tmod (IntKind.u64.wrap (a1)) 50)) + (wrap64 (Int.tmod (IntKind.u64.wrap (a2)) 30)))), .int .i64 (wrap64 (Int.tmod (IntKind.u64.wrap (a3)) 30))] (by rfl) rfl rfl (by (try simp only [List.map_toArray, List.map_cons, List.map_nil]); first | done | rfl | (simp only [List.length_drop, List.length_take]; rfl)) ?_
          with_reducible refine (quota_More.calls kj4 a0_0 a0_1 a0_2 _ _ l0_3 _ _ l0_4 (wrap64 ((wrap64 (Int.tmod (IntKind.u64.wrap (a1)) 50)) + (wrap64 (Int.tmod (IntKind.u64.wrap (a2)) 30)))) (wrap64 (Int.tmod (IntKind.u64.wrap (a3)) 30)) t289 _ ?side1 ?side2 ?side3 ?side4 A22.out).mono ?_
          (case side1 => repeat (first | exact (Kd.C_below HR0_3.out HB.out) | (with_reducible refine Kd.C_alloc ?_ _) | (with_reducible refine Kd.C_drewN ?_ _) | (with_reducible refine Kd.C_drew ?_)))
          (case side2 => exact HC0_3.out)
          (case side3 => repeat (first | exact (Kd.C_below HR0_4.out HB.out) | (with_reducible refine Kd.C_alloc ?_ _) | (with_reducible refine Kd.C_drewN ?_ _) | (with_reducible refine Kd.C_drew ?_)))
          (case side4 => exact HC0_4.out)
          rintro e w59 ⟨rfl, hb⟩; refine ⟨_, rfl, ?_⟩; have n0_ := Aside0.mk (bB (g := gb281) (o := .cells #[.int .i64 a0_0, .int .i64 a0_1, .int .i64 a0_2, .slice A0_3 l0_3.length c0_3, .slice A0_4 l0_4.length c0_4] 28 (0, 0)) (by (with_reducible repeat (first | refine bN ?_ _ | refine bD ?_ | refine bA ?_ _)); exact BK281.out) hb)
          have n1_ := Aside0.mk (below_step (by repeat (first | (with_reducible first | exact HB.out | apply wA | apply wN | apply wD | refine wS ?_ GE281.out) | exact HB.out)) hb); clear BK281; clear HB; have BK281 := n0_; have HB := n1_; clear n0_ n1_
          (try clear hb)
          (try clear hb2)
          (try clear hk)
          (try clear hi)
          refine hK.out _ _ ⟨(bC BK281.out 0).trans rfl, (bC BK281.out 1).trans rfl, (bC BK281.out 2).trans rfl, (bC BK281.out 3).trans rfl, (bC BK281.out 4).trans rfl⟩ (fun hHeld => ?_); clear hK K; refine norm_ (a' := ?_) ?_ ?_; rotate_left
          ·
           show Act.put _ (some 59) _ = _
           simp only [Act.put, lT, l0_, lS, i64_w, i32_w]; rfl
          refine one_ (i := 15) (N := some 65) B20_16 rfl rfl (one_of HT_.out (by kernel_rfl)) (by decide) (fun K hK => ?_); refine goes_ Try.func22 (by kernel_rfl) rfl #[.agg #[.int .i64 a0_0, .int .i64 a0_1, .int .i64 a0_2, .slice A0_3 l0_3.length c0_3, .slice A0_4 l0_4.length c0_4], .int .i64 (wrap64 (Int.tmod (IntKind.u64.wrap (a1)) 50)), .int .i64 (wrap64 ((wrap64 (Int.tmod (IntKind.u64.wrap (a2)) 30)) + (wrap64 (Int.tmod (IntKind.u64.wrap (a3)) 30))))] (by rfl) rfl rfl (by (try simp only [List.map_toArray, List.map_cons, List.map_nil]); first | done | rfl | (simp only [List.length_drop, List.length_take]; rfl)) ?_
          with_reducible refine (quota_More.calls kj4 a0_0 a0_1 a0_2 _ _ l0_3 _ _ l0_4 (wrap64 (Int.tmod (IntKind.u64.wrap (a1)) 50)) (wrap64 ((wrap64 (Int.tmod (IntKind.u64.wrap (a2)) 30)) + (wrap64 (Int.tmod (IntKind.u64.wrap (a3)) 30)))) t290 _ ?side1 ?side2 ?side3 ?side4 A23.out).mono ?_
          (case side1 => repeat (first | exact (Kd.C_below HR0_3.out HB.out) | (with_reducible refine Kd.C_alloc ?_ _) | (with_reducible refine Kd.C_drewN ?_ _) | (with_reducible refine Kd.C_drew ?_)))
          (case side2 => exact HC0_3.out)
          (case side3 => repeat (first | exact (Kd.C_below HR0_4.out HB.out) | (with_reducible refine Kd.C_alloc ?_ _) | (with_reducible refine Kd.C_drewN ?_ _) | (with_reducible refine Kd.C_drew ?_)))
          (case side4 => exact HC0_4.out)
          rintro e w60 ⟨rfl, hb⟩; refine ⟨_, rfl, ?_⟩; have n0_ := Aside0.mk (bB (g := gb281) (o := .cells #[.int .i64 a0_0, .int .i64 a0_1, .int .i64 a0_2, .slice A0_3 l0_3.length c0_3, .slice A0_4 l0_4.length c0_4] 28 (0, 0)) (by (with_reducible repeat (first | refine bN ?_ _ | refine bD ?_ | refine bA ?_ _)); exact BK281.out) hb)
          have n1_ := Aside0.mk (below_step (by repeat (first | (with_reducible first | exact HB.out | apply wA | apply wN | apply wD | refine wS ?_ GE281.out) | exact HB.out)) hb); clear BK281; clear HB; have BK281 := n0_; have HB := n1_; clear n0_ n1_
          (try clear hb)
          (try clear hb2)
          (try clear hk)
          (try clear hi)
          refine hK.out _ _ ⟨(bC BK281.out 0).trans rfl, (bC BK281.out 1).trans rfl, (bC BK281.out 2).trans rfl, (bC BK281.out 3).trans rfl, (bC BK281.out 4).trans rfl⟩ (fun hHeld => ?_); clear hK K; refine norm_ (a' := ?_) ?_ ?_; rotate_left
          ·
           show Act.put _ (some 65) _ = _
           simp only [Act.put, lT, l0_, lS, i64_w, i32_w]; rfl
          refine pure_ (i := 16) (N := some 9) (v := ?_) (a' := ?_) B20_17 rfl rfl (any_of HT_.out (by kernel_rfl)) (fun _ _ _ h => h) (Or.inl ⟨by rfl, ?_⟩) ?_ ?_; rotate_left
          ·
           intro w'; go_simp; with_reducible rfl
          rotate_left
          ·
           simp only [Act.put, lT, l0_, lS, i64_w, i32_w]; rfl
          refine pure_ (i := 17) (N := some 10) (v := ?_) (a' := ?_) B20_18 rfl rfl (any_of HT_.out (by kernel_rfl)) (fun _ _ _ h => h) (Or.inl ⟨by rfl, ?_⟩) ?_ ?_; rotate_left
          ·
           intro w'; go_simp; with_reducible rfl
          rotate_left
          ·
           simp only [Act.put, lT, l0_, lS, i64_w, i32_w]; rfl
          refine pure_ (i := 18) (N := some 11) (v := ?_) (a' := ?_) B20_19 rfl rfl (any_of HT_.out (by kernel_rfl)) (fun _ _ _ h => h) (Or.inl ⟨by rfl, ?_⟩) ?_ ?_; rotate_left
          ·
           intro w'; go_simp; with_reducible rfl
          rotate_left
          ·
           simp only [Act.put, lT, l0_, lS, i64_w, i32_w]; rfl
          refine done_ (done_of HT_.out (by kernel_rfl)) ?_; have hcz61_0 : w60.cell? ⟨gb281, 0, none⟩ = some (.int .i64 a0_0) := (bC BK281.out 0).trans rfl; have hcz61_1 : w60.cell? ⟨gb281, 1, none⟩ = some (.int .i64 a0_1) := (bC BK281.out 1).trans rfl; have hcz61_2 : w60.cell? ⟨gb281, 2, none⟩ = some (.int .i64 a0_2) := (bC BK281.out 2).trans rfl; have hcz61_3 : w60.cell? ⟨gb281, 3, none⟩ = some (.slice A0_3 l0_3.length c0_3) := (bC BK281.out 3).trans rfl; have hcz61_4 : w60.cell? ⟨gb281, 4, none⟩ = some (.slice A0_4 l0_4.length c0_4) := (bC BK281.out 4).trans rfl; have hfz61_0 := bZ BK281.out 0; have hfz61_1 := bZ BK281.out 1; have hfz61_2 := bZ BK281.out 2; have hfz61_3 := bZ BK281.out 3; have hfz61_4 := bZ BK281.out 4
          try go_wp2_with (first | (go_at_call 15; (with_reducible refine (potsherdlaw18_awake.calls kj4  t295 _ A56.out).mono ?_); rintro e w62 ⟨rfl, hb⟩; have n0_ := Aside0.mk (bB (g := gb281) (o := .cells #[.int .i64 a0_0, .int .i64 a0_1, .int .i64 a0_2, .slice A0_3 l0_3.length c0_3, .slice A0_4 l0_4.length c0_4] 28 (0, 0)) (by (with_reducible repeat (first | refine bN ?_ _ | refine bD ?_ | refine bA ?_ _)); exact BK281.out) hb); have n1_ := Aside0.mk (below_step (by repeat (first | (with_reducible first | exact HB.out | apply wA | apply wN | apply wD | refine wS ?_ GE281.out) | exact HB.out)) hb); clear BK281; clear HB; have BK281 := n0_; have HB := n1_; clear n0_ n1_; (try clear hb); (try clear hb2); (try clear hk); (try clear hi)))
          go_ret
          exact ⟨by first | rfl | exact congrArg (fun b_ => Ending.returned (Value.bool b_)) HRET.out | (rw [HRET.out]) | (simp [errW_none, errW_some] <;> rfl) | (simp [*, errW_none, errW_some] <;> rfl), by repeat (first | (with_reducible first | exact HB.out | apply wA | apply wN | apply wD | refine wS ?_ GE281.out) | exact HB.out)⟩
         ·
          rw [if_neg c55] at H; have c55b0 : ((wrap64 (t288 + t289)) == (wrap64 (t290 + 0))) = false := beq_eq_false_iff_ne.mpr c55; have c55b1 : ((wrap64 (t288 + t289)) != (wrap64 (t290 + 0))) = true := bne_iff_ne.mpr c55; (try simp only [Int.add_zero] at c55b0 c55b1); exact absurd H (by simp)
      ·
       rw [if_neg c25] at H; have c25b0 : decide (0 < (wrap64 (Int.tmod (IntKind.u64.wrap (a3)) 30))) = false := decide_eq_false c25; clear c25
       by_cases c63 : (wrap64 (t288 + t289)) = (wrap64 (t290 + 0))
       ·
        rw [if_pos c63] at H; have c63b0 : ((wrap64 (t288 + t289)) == (wrap64 (t290 + 0))) = true := beq_iff_eq.mpr c63; have c63b1 : ((wrap64 (t288 + t289)) != (wrap64 (t290 + 0))) = false := bne_eq_false_iff_eq.mpr c63; (try simp only [Int.add_zero] at c63b0 c63b1); clear c63; replace H := Option.bind_eq_some_iff.mp H; obtain ⟨t296, A640, H⟩ := H; replace H : (some t296) = some true := H; have A64 := Aside0.mk A640; clear A640; have HRET := Aside0.mk (Option.some.inj H); clear H
        try go_wp2_with (first | ((with_reducible refine gate_callee (f := 25) rfl ?_); refine goesL_ (some 38) rfl rfl Try.func25 (by kernel_rfl) rfl #[.int .i64 (wrap64 (Int.tmod (IntKind.u64.wrap (a1)) 50)), .int .i64 (wrap64 ((wrap64 (Int.tmod (IntKind.u64.wrap (a2)) 30)) + (wrap64 (Int.tmod (IntKind.u64.wrap (a3)) 30))))] rfl (by (try simp only [List.map_toArray, List.map_cons, List.map_nil]); first | done | rfl | (simp only [List.length_drop, List.length_take]; rfl)) ?_; (with_reducible refine (potsherdref12_FitsFile.calls (wrap64 (Int.tmod (IntKind.u64.wrap (a1)) 50)) (wrap64 ((wrap64 (Int.tmod (IntKind.u64.wrap (a2)) 30)) + (wrap64 (Int.tmod (IntKind.u64.wrap (a3)) 30)))) true _ A19.out).mono ?_); rintro e w' ⟨rfl, ⟨nd, rfl⟩⟩; refine ⟨_, rfl, ?_⟩))
        (try (rw [drewN_self wc]; generalize hq_ : World.drewN wc _ = wc; have n0_ : Aside0 (wc.heap[gb281]? = some (.cells #[.int .i64 a0_0, .int .i64 a0_1, .int .i64 a0_2, .slice A0_3 l0_3.length c0_3, .slice A0_4 l0_4.length c0_4] 28 (0, 0))) := ⟨by rw [← hq_]; exact (by (with_reducible repeat (first | refine bN ?_ _ | refine bD ?_ | refine bA ?_ _)); exact BK281.out)⟩; have n1_ : Aside0 (Below w.heap.size w wc) := ⟨by rw [← hq_]; exact (by repeat (first | (with_reducible first | exact HB.out | apply wA | apply wN | apply wD | refine wS ?_ GE281.out) | exact HB.out))⟩; clear BK281 HB hq_; have BK281 := n0_; have HB := n1_; clear n0_ n1_))
        have n0_ := Aside0.mk (bD BK281.out); have n1_ := Aside0.mk (wD HB.out); clear BK281; clear HB; have BK281 := n0_; have HB := n1_; clear n0_ n1_; refine start_ (n := 19) (S := fun w' => w'.cell? ⟨gb281, 0, none⟩ = some (.int .i64 a0_0) ∧ w'.cell? ⟨gb281, 1, none⟩ = some (.int .i64 a0_1) ∧ w'.cell? ⟨gb281, 2, none⟩ = some (.int .i64 a0_2) ∧ w'.cell? ⟨gb281, 3, none⟩ = some (.slice A0_3 l0_3.length c0_3) ∧ w'.cell? ⟨gb281, 4, none⟩ = some (.slice A0_4 l0_4.length c0_4)) (ds := []) B20_0 (by kernel_rfl) rfl rfl ⟨(bC BK281.out 0).trans rfl, (bC BK281.out 1).trans rfl, (bC BK281.out 2).trans rfl, (bC BK281.out 3).trans rfl, (bC BK281.out 4).trans rfl⟩ (fun hHeld => ?_); refine with_tabW potsherdlaw18_QuotaParts.tab6 potsherdlaw18_QuotaParts.bits6 (fun HT_ HW_ => ?_); generalize wc.drew = w65 at BK281 HB hHeld ⊢; refine pure_ (i := 1) (N := some 51) (v := ?_) (a' := ?_) B20_1 rfl rfl (any_of HT_.out (by kernel_rfl)) (fun _ _ _ h => h) (Or.inl ⟨by rfl, ?_⟩) ?_ ?_; rotate_left
        ·
         intro w'; go_simp; with_reducible rfl
        rotate_left
        ·
         simp only [Act.put, lT, l0_, lS, i64_w, i32_w]; rfl
        refine pure_ (i := 2) (N := some 52) (v := ?_) (a' := ?_) B20_2 rfl rfl (any_of HT_.out (by kernel_rfl)) (fun _ _ _ h => h) (Or.inl ⟨by rfl, ?_⟩) ?_ ?_; rotate_left
        ·
         intro w'; go_simp; with_reducible rfl
        rotate_left
        ·
         simp only [Act.put, lT, l0_, lS, i64_w, i32_w]; rfl
        refine pure_ (i := 5) (N := some 55) (v := ?_) (a' := ?_) B20_3 rfl rfl (any_of HT_.out (by kernel_rfl)) (fun _ _ _ h => h) (Or.inl ⟨by rfl, ?_⟩) ?_ ?_; rotate_left
        ·
         intro w'; go_simp; with_reducible rfl
        rotate_left
        ·
         simp only [Act.put, lT, l0_, lS, i64_w, i32_w]; rfl
        refine pure_ (i := 6) (N := some 56) (v := ?_) (a' := ?_) B20_4 rfl rfl (any_of HT_.out (by kernel_rfl)) (fun _ _ _ h => h) (Or.inl ⟨by rfl, ?_⟩) ?_ ?_; rotate_left
        ·
         intro w'; go_simp; with_reducible rfl
        rotate_left
        ·
         simp only [Act.put, lT, l0_, lS, i64_w, i32_w]; rfl
        refine pure_ (i := 7) (N := some 57) (v := ?_) (a' := ?_) B20_5 rfl rfl (any_of HT_.out (by kernel_rfl)) (fun _ _ _ h => h) (Or.inl ⟨by rfl, ?_⟩) ?_ ?_; rotate_left
        ·
         intro w'; go_simp; with_reducible rfl
        rotate_left
        ·
         simp only [Act.put, lT, l0_, lS, i64_w, i32_w]; rfl
        refine pure_ (i := 8) (N := some 58) (v := ?_) (a' := ?_) B20_6 rfl rfl (any_of HT_.out (by kernel_rfl)) (fun _ _ _ h => h) (Or.inl ⟨by rfl, ?_⟩) ?_ ?_; rotate_left
        ·
         intro w'; go_simp; with_reducible rfl
        rotate_left
        ·
         simp only [Act.put, lT, l0_, lS, i64_w, i32_w]; rfl
        refine pure_ (i := 11) (N := some 61) (v := ?_) (a' := ?_) B20_7 rfl rfl (any_of HT_.out (by kernel_rfl)) (fun _ _ _ h => h) (Or.inl ⟨by rfl, ?_⟩) ?_ ?_; rotate_left
        ·
         intro w'; go_simp; with_reducible rfl
        rotate_left
        ·
         simp only [Act.put, lT, l0_, lS, i64_w, i32_w]; rfl
        refine pure_ (i := 12) (N := some 62) (v := ?_) (a' := ?_) B20_8 rfl rfl (any_of HT_.out (by kernel_rfl)) (fun _ _ _ h => h) (Or.inl ⟨by rfl, ?_⟩) ?_ ?_; rotate_left
        ·
         intro w'; go_simp; with_reducible rfl
        rotate_left
        ·
         simp only [Act.put, lT, l0_, lS, i64_w, i32_w]; rfl
        refine pure_ (i := 13) (N := some 63) (v := ?_) (a' := ?_) B20_9 rfl rfl (any_of HT_.out (by kernel_rfl)) (fun _ _ _ h => h) (Or.inl ⟨by rfl, ?_⟩) ?_ ?_; rotate_left
        ·
         intro w'; go_simp; with_reducible rfl
        rotate_left
        ·
         simp only [Act.put, lT, l0_, lS, i64_w, i32_w]; rfl
        refine pure_ (i := 14) (N := some 64) (v := ?_) (a' := ?_) B20_10 rfl rfl (any_of HT_.out (by kernel_rfl)) (fun _ _ _ h => h) (Or.inl ⟨by rfl, ?_⟩) ?_ ?_; rotate_left
        ·
         intro w'; go_simp; with_reducible rfl
        rotate_left
        ·
         simp only [Act.put, lT, l0_, lS, i64_w, i32_w]; rfl
        refine take_ (i := 0) (N := some 50) (v := ?_) (a' := ?_) B20_11 rfl rfl (take_ofW HT_.out HW_.out (by kernel_rfl)) (fun _ _ _ h => h) (Or.inl ⟨by rfl, ?_⟩) hHeld ?_ ?_; rotate_left
        ·
         rintro w' ⟨s0, s1, s2, s3, s4⟩; go_simp; with_reducible rfl
        rotate_left
        ·
         simp only [Act.put, lT, l0_, lS, i64_w, i32_w]; rfl
        refine take_ (i := 4) (N := some 54) (v := ?_) (a' := ?_) B20_12 rfl rfl (take_ofW HT_.out HW_.out (by kernel_rfl)) (fun _ _ _ h => h) (Or.inl ⟨by rfl, ?_⟩) hHeld ?_ ?_; rotate_left
        ·
         rintro w' ⟨s0, s1, s2, s3, s4⟩; go_simp; with_reducible rfl
        rotate_left
        ·
         simp only [Act.put, lT, l0_, lS, i64_w, i32_w]; rfl
        refine take_ (i := 10) (N := some 60) (v := ?_) (a' := ?_) B20_13 rfl rfl (take_ofW HT_.out HW_.out (by kernel_rfl)) (fun _ _ _ h => h) (Or.inl ⟨by rfl, ?_⟩) hHeld ?_ ?_; rotate_left
        ·
         rintro w' ⟨s0, s1, s2, s3, s4⟩; go_simp; with_reducible rfl
        rotate_left
        ·
         simp only [Act.put, lT, l0_, lS, i64_w, i32_w]; rfl
        refine one_ (i := 3) (N := some 53) B20_14 rfl rfl (one_of HT_.out (by kernel_rfl)) (by decide) (fun K hK => ?_); refine goes_ Try.func22 (by kernel_rfl) rfl #[.agg #[.int .i64 a0_0, .int .i64 a0_1, .int .i64 a0_2, .slice A0_3 l0_3.length c0_3, .slice A0_4 l0_4.length c0_4], .int .i64 (wrap64 (Int.tmod (IntKind.u64.wrap (a1)) 50)), .int .i64 (wrap64 (Int.tmod (IntKind.u64.wrap (a2)) 30))] (by rfl) rfl rfl (by (try simp only [List.map_toArray, List.map_cons, List.map_nil]); first | done | rfl | (simp only [List.length_drop, List.length_take]; rfl)) ?_
        with_reducible refine (quota_More.calls kj4 a0_0 a0_1 a0_2 _ _ l0_3 _ _ l0_4 (wrap64 (Int.tmod (IntKind.u64.wrap (a1)) 50)) (wrap64 (Int.tmod (IntKind.u64.wrap (a2)) 30)) t288 _ ?side1 ?side2 ?side3 ?side4 A21.out).mono ?_
        (case side1 => repeat (first | exact (Kd.C_below HR0_3.out HB.out) | (with_reducible refine Kd.C_alloc ?_ _) | (with_reducible refine Kd.C_drewN ?_ _) | (with_reducible refine Kd.C_drew ?_)))
        (case side2 => exact HC0_3.out)
        (case side3 => repeat (first | exact (Kd.C_below HR0_4.out HB.out) | (with_reducible refine Kd.C_alloc ?_ _) | (with_reducible refine Kd.C_drewN ?_ _) | (with_reducible refine Kd.C_drew ?_)))
        (case side4 => exact HC0_4.out)
        rintro e w66 ⟨rfl, hb⟩; refine ⟨_, rfl, ?_⟩; have n0_ := Aside0.mk (bB (g := gb281) (o := .cells #[.int .i64 a0_0, .int .i64 a0_1, .int .i64 a0_2, .slice A0_3 l0_3.length c0_3, .slice A0_4 l0_4.length c0_4] 28 (0, 0)) (by (with_reducible repeat (first | refine bN ?_ _ | refine bD ?_ | refine bA ?_ _)); exact BK281.out) hb)
        have n1_ := Aside0.mk (below_step (by repeat (first | (with_reducible first | exact HB.out | apply wA | apply wN | apply wD | refine wS ?_ GE281.out) | exact HB.out)) hb); clear BK281; clear HB; have BK281 := n0_; have HB := n1_; clear n0_ n1_
        (try clear hb)
        (try clear hb2)
        (try clear hk)
        (try clear hi)
        refine hK.out _ _ ⟨(bC BK281.out 0).trans rfl, (bC BK281.out 1).trans rfl, (bC BK281.out 2).trans rfl, (bC BK281.out 3).trans rfl, (bC BK281.out 4).trans rfl⟩ (fun hHeld => ?_); clear hK K; refine norm_ (a' := ?_) ?_ ?_; rotate_left
        ·
         show Act.put _ (some 53) _ = _
         simp only [Act.put, lT, l0_, lS, i64_w, i32_w]; rfl
        refine one_ (i := 9) (N := some 59) B20_15 rfl rfl (one_of HT_.out (by kernel_rfl)) (by decide) (fun K hK => ?_); refine goes_ Try.func22 (by kernel_rfl) rfl #[.agg #[.int .i64 a0_0, .int .i64 a0_1, .int .i64 a0_2, .slice A0_3 l0_3.length c0_3, .slice A0_4 l0_4.length c0_4], .int .i64 (wrap64 ((wrap64 (Int.tmod (IntKind.u64.wrap (a1)) 50)) + (wrap64 (Int.tmod (IntKind.u64.wrap (a2)) 30)))), .int .i64 (wrap64 (Int.tmod (IntKind.u64.wrap (a3)) 30))] (by rfl) rfl rfl (by (try simp only [List.map_toArray, List.map_cons, List.map_nil]); first | done | rfl | (simp only [List.length_drop, List.length_take]; rfl)) ?_
        with_reducible refine (quota_More.calls kj4 a0_0 a0_1 a0_2 _ _ l0_3 _ _ l0_4 (wrap64 ((wrap64 (Int.tmod (IntKind.u64.wrap (a1)) 50)) + (wrap64 (Int.tmod (IntKind.u64.wrap (a2)) 30)))) (wrap64 (Int.tmod (IntKind.u64.wrap (a3)) 30)) t289 _ ?side1 ?side2 ?side3 ?side4 A22.out).mono ?_
        (case side1 => repeat (first | exact (Kd.C_below HR0_3.out HB.out) | (with_reducible refine Kd.C_alloc ?_ _) | (with_reducible refine Kd.C_drewN ?_ _) | (with_reducible refine Kd.C_drew ?_)))
        (case side2 => exact HC0_3.out)
        (case side3 => repeat (first | exact (Kd.C_below HR0_4.out HB.out) | (with_reducible refine Kd.C_alloc ?_ _) | (with_reducible refine Kd.C_drewN ?_ _) | (with_reducible refine Kd.C_drew ?_)))
        (case side4 => exact HC0_4.out)
        rintro e w67 ⟨rfl, hb⟩; refine ⟨_, rfl, ?_⟩; have n0_ := Aside0.mk (bB (g := gb281) (o := .cells #[.int .i64 a0_0, .int .i64 a0_1, .int .i64 a0_2, .slice A0_3 l0_3.length c0_3, .slice A0_4 l0_4.length c0_4] 28 (0, 0)) (by (with_reducible repeat (first | refine bN ?_ _ | refine bD ?_ | refine bA ?_ _)); exact BK281.out) hb)
        have n1_ := Aside0.mk (below_step (by repeat (first | (with_reducible first | exact HB.out | apply wA | apply wN | apply wD | refine wS ?_ GE281.out) | exact HB.out)) hb); clear BK281; clear HB; have BK281 := n0_; have HB := n1_; clear n0_ n1_
        (try clear hb)
        (try clear hb2)
        (try clear hk)
        (try clear hi)
        refine hK.out _ _ ⟨(bC BK281.out 0).trans rfl, (bC BK281.out 1).trans rfl, (bC BK281.out 2).trans rfl, (bC BK281.out 3).trans rfl, (bC BK281.out 4).trans rfl⟩ (fun hHeld => ?_); clear hK K; refine norm_ (a' := ?_) ?_ ?_; rotate_left
        ·
         show Act.put _ (some 59) _ = _
         simp only [Act.put, lT, l0_, lS, i64_w, i32_w]; rfl
        refine one_ (i := 15) (N := some 65) B20_16 rfl rfl (one_of HT_.out (by kernel_rfl)) (by decide) (fun K hK => ?_); refine goes_ Try.func22 (by kernel_rfl) rfl #[.agg #[.int .i64 a0_0, .int .i64 a0_1, .int .i64 a0_2, .slice A0_3 l0_3.length c0_3, .slice A0_4 l0_4.length c0_4], .int .i64 (wrap64 (Int.tmod (IntKind.u64.wrap (a1)) 50)), .int .i64 (wrap64 ((wrap64 (Int.tmod (IntKind.u64.wrap (a2)) 30)) + (wrap64 (Int.tmod (IntKind.u64.wrap (a3)) 30))))] (by rfl) rfl rfl (by (try simp only [List.map_toArray, List.map_cons, List.map_nil]); first | done | rfl | (simp only [List.length_drop, List.length_take]; rfl)) ?_
        with_reducible refine (quota_More.calls kj4 a0_0 a0_1 a0_2 _ _ l0_3 _ _ l0_4 (wrap64 (Int.tmod (IntKind.u64.wrap (a1)) 50)) (wrap64 ((wrap64 (Int.tmod (IntKind.u64.wrap (a2)) 30)) + (wrap64 (Int.tmod (IntKind.u64.wrap (a3)) 30)))) t290 _ ?side1 ?side2 ?side3 ?side4 A23.out).mono ?_
        (case side1 => repeat (first | exact (Kd.C_below HR0_3.out HB.out) | (with_reducible refine Kd.C_alloc ?_ _) | (with_reducible refine Kd.C_drewN ?_ _) | (with_reducible refine Kd.C_drew ?_)))
        (case side2 => exact HC0_3.out)
        (case side3 => repeat (first | exact (Kd.C_below HR0_4.out HB.out) | (with_reducible refine Kd.C_alloc ?_ _) | (with_reducible refine Kd.C_drewN ?_ _) | (with_reducible refine Kd.C_drew ?_)))
        (case side4 => exact HC0_4.out)
        rintro e w68 ⟨rfl, hb⟩; refine ⟨_, rfl, ?_⟩; have n0_ := Aside0.mk (bB (g := gb281) (o := .cells #[.int .i64 a0_0, .int .i64 a0_1, .int .i64 a0_2, .slice A0_3 l0_3.length c0_3, .slice A0_4 l0_4.length c0_4] 28 (0, 0)) (by (with_reducible repeat (first | refine bN ?_ _ | refine bD ?_ | refine bA ?_ _)); exact BK281.out) hb)
        have n1_ := Aside0.mk (below_step (by repeat (first | (with_reducible first | exact HB.out | apply wA | apply wN | apply wD | refine wS ?_ GE281.out) | exact HB.out)) hb); clear BK281; clear HB; have BK281 := n0_; have HB := n1_; clear n0_ n1_
        (try clear hb)
        (try clear hb2)
        (try clear hk)
        (try clear hi)
        refine hK.out _ _ ⟨(bC BK281.out 0).trans rfl, (bC BK281.out 1).trans rfl, (bC BK281.out 2).trans rfl, (bC BK281.out 3).trans rfl, (bC BK281.out 4).trans rfl⟩ (fun hHeld => ?_); clear hK K; refine norm_ (a' := ?_) ?_ ?_; rotate_left
        ·
         show Act.put _ (some 65) _ = _
         simp only [Act.put, lT, l0_, lS, i64_w, i32_w]; rfl
        refine pure_ (i := 16) (N := some 9) (v := ?_) (a' := ?_) B20_17 rfl rfl (any_of HT_.out (by kernel_rfl)) (fun _ _ _ h => h) (Or.inl ⟨by rfl, ?_⟩) ?_ ?_; rotate_left
        ·
         intro w'; go_simp; with_reducible rfl
        rotate_left
        ·
         simp only [Act.put, lT, l0_, lS, i64_w, i32_w]; rfl
        refine pure_ (i := 17) (N := some 10) (v := ?_) (a' := ?_) B20_18 rfl rfl (any_of HT_.out (by kernel_rfl)) (fun _ _ _ h => h) (Or.inl ⟨by rfl, ?_⟩) ?_ ?_; rotate_left
        ·
         intro w'; go_simp; with_reducible rfl
        rotate_left
        ·
         simp only [Act.put, lT, l0_, lS, i64_w, i32_w]; rfl
        refine pure_ (i := 18) (N := some 11) (v := ?_) (a' := ?_) B20_19 rfl rfl (any_of HT_.out (by kernel_rfl)) (fun _ _ _ h => h) (Or.inl ⟨by rfl, ?_⟩) ?_ ?_; rotate_left
        ·
         intro w'; go_simp; with_reducible rfl
        rotate_left
        ·
         simp only [Act.put, lT, l0_, lS, i64_w, i32_w]; rfl
        refine done_ (done_of HT_.out (by kernel_rfl)) ?_
        try go_wp2_with (first | (go_at_call 15; (with_reducible refine (potsherdlaw18_awake.calls kj4  t296 _ A64.out).mono ?_); rintro e w69 ⟨rfl, hb⟩; have n0_ := Aside0.mk (bB (g := gb281) (o := .cells #[.int .i64 a0_0, .int .i64 a0_1, .int .i64 a0_2, .slice A0_3 l0_3.length c0_3, .slice A0_4 l0_4.length c0_4] 28 (0, 0)) (by (with_reducible repeat (first | refine bN ?_ _ | refine bD ?_ | refine bA ?_ _)); exact BK281.out) hb); have n1_ := Aside0.mk (below_step (by repeat (first | (with_reducible first | exact HB.out | apply wA | apply wN | apply wD | refine wS ?_ GE281.out) | exact HB.out)) hb); clear BK281; clear HB; have BK281 := n0_; have HB := n1_; clear n0_ n1_; (try clear hb); (try clear hb2); (try clear hk); (try clear hi)))
        go_ret
        exact ⟨by first | rfl | exact congrArg (fun b_ => Ending.returned (Value.bool b_)) HRET.out | (rw [HRET.out]) | (simp [errW_none, errW_some] <;> rfl) | (simp [*, errW_none, errW_some] <;> rfl), by repeat (first | (with_reducible first | exact HB.out | apply wA | apply wN | apply wD | refine wS ?_ GE281.out) | exact HB.out)⟩
       ·
        rw [if_neg c63] at H; have c63b0 : ((wrap64 (t288 + t289)) == (wrap64 (t290 + 0))) = false := beq_eq_false_iff_ne.mpr c63; have c63b1 : ((wrap64 (t288 + t289)) != (wrap64 (t290 + 0))) = true := bne_iff_ne.mpr c63; (try simp only [Int.add_zero] at c63b0 c63b1); exact absurd H (by simp)
     ·
      rw [if_neg c24] at H; have c24b0 : decide (0 < (wrap64 (Int.tmod (IntKind.u64.wrap (a2)) 30))) = false := decide_eq_false c24; clear c24
      by_cases c70 : (wrap64 (t288 + t289)) = (wrap64 (t290 + 0))
      ·
       rw [if_pos c70] at H; have c70b0 : ((wrap64 (t288 + t289)) == (wrap64 (t290 + 0))) = true := beq_iff_eq.mpr c70; have c70b1 : ((wrap64 (t288 + t289)) != (wrap64 (t290 + 0))) = false := bne_eq_false_iff_eq.mpr c70; (try simp only [Int.add_zero] at c70b0 c70b1); clear c70; replace H := Option.bind_eq_some_iff.mp H; obtain ⟨t297, A710, H⟩ := H; replace H : (some t297) = some true := H; have A71 := Aside0.mk A710; clear A710; have HRET := Aside0.mk (Option.some.inj H); clear H
       try go_wp2_with (first | ((with_reducible refine gate_callee (f := 25) rfl ?_); refine goesL_ (some 38) rfl rfl Try.func25 (by kernel_rfl) rfl #[.int .i64 (wrap64 (Int.tmod (IntKind.u64.wrap (a1)) 50)), .int .i64 (wrap64 ((wrap64 (Int.tmod (IntKind.u64.wrap (a2)) 30)) + (wrap64 (Int.tmod (IntKind.u64.wrap (a3)) 30))))] rfl (by (try simp only [List.map_toArray, List.map_cons, List.map_nil]); first | done | rfl | (simp only [List.length_drop, List.length_take]; rfl)) ?_; (with_reducible refine (potsherdref12_FitsFile.calls (wrap64 (Int.tmod (IntKind.u64.wrap (a1)) 50)) (wrap64 ((wrap64 (Int.tmod (IntKind.u64.wrap (a2)) 30)) + (wrap64 (Int.tmod (IntKind.u64.wrap (a3)) 30)))) true _ A19.out).mono ?_); rintro e w' ⟨rfl, ⟨nd, rfl⟩⟩; refine ⟨_, rfl, ?_⟩))
       (try (rw [drewN_self wc]; generalize hq_ : World.drewN wc _ = wc; have n0_ : Aside0 (wc.heap[gb281]? = some (.cells #[.int .i64 a0_0, .int .i64 a0_1, .int .i64 a0_2, .slice A0_3 l0_3.length c0_3, .slice A0_4 l0_4.length c0_4] 28 (0, 0))) := ⟨by rw [← hq_]; exact (by (with_reducible repeat (first | refine bN ?_ _ | refine bD ?_ | refine bA ?_ _)); exact BK281.out)⟩; have n1_ : Aside0 (Below w.heap.size w wc) := ⟨by rw [← hq_]; exact (by repeat (first | (with_reducible first | exact HB.out | apply wA | apply wN | apply wD | refine wS ?_ GE281.out) | exact HB.out))⟩; clear BK281 HB hq_; have BK281 := n0_; have HB := n1_; clear n0_ n1_))
       have n0_ := Aside0.mk (bD BK281.out); have n1_ := Aside0.mk (wD HB.out); clear BK281; clear HB; have BK281 := n0_; have HB := n1_; clear n0_ n1_; refine start_ (n := 19) (S := fun w' => w'.cell? ⟨gb281, 0, none⟩ = some (.int .i64 a0_0) ∧ w'.cell? ⟨gb281, 1, none⟩ = some (.int .i64 a0_1) ∧ w'.cell? ⟨gb281, 2, none⟩ = some (.int .i64 a0_2) ∧ w'.cell? ⟨gb281, 3, none⟩ = some (.slice A0_3 l0_3.length c0_3) ∧ w'.cell? ⟨gb281, 4, none⟩ = some (.slice A0_4 l0_4.length c0_4)) (ds := []) B20_0 (by kernel_rfl) rfl rfl ⟨(bC BK281.out 0).trans rfl, (bC BK281.out 1).trans rfl, (bC BK281.out 2).trans rfl, (bC BK281.out 3).trans rfl, (bC BK281.out 4).trans rfl⟩ (fun hHeld => ?_); refine with_tabW potsherdlaw18_QuotaParts.tab6 potsherdlaw18_QuotaParts.bits6 (fun HT_ HW_ => ?_); generalize wc.drew = w72 at BK281 HB hHeld ⊢; refine pure_ (i := 1) (N := some 51) (v := ?_) (a' := ?_) B20_1 rfl rfl (any_of HT_.out (by kernel_rfl)) (fun _ _ _ h => h) (Or.inl ⟨by rfl, ?_⟩) ?_ ?_; rotate_left
       ·
        intro w'; go_simp; with_reducible rfl
       rotate_left
       ·
        simp only [Act.put, lT, l0_, lS, i64_w, i32_w]; rfl
       refine pure_ (i := 2) (N := some 52) (v := ?_) (a' := ?_) B20_2 rfl rfl (any_of HT_.out (by kernel_rfl)) (fun _ _ _ h => h) (Or.inl ⟨by rfl, ?_⟩) ?_ ?_; rotate_left
       ·
        intro w'; go_simp; with_reducible rfl
       rotate_left
       ·
        simp only [Act.put, lT, l0_, lS, i64_w, i32_w]; rfl
       refine pure_ (i := 5) (N := some 55) (v := ?_) (a' := ?_) B20_3 rfl rfl (any_of HT_.out (by kernel_rfl)) (fun _ _ _ h => h) (Or.inl ⟨by rfl, ?_⟩) ?_ ?_; rotate_left
       ·
        intro w'; go_simp; with_reducible rfl
       rotate_left
       ·
        simp only [Act.put, lT, l0_, lS, i64_w, i32_w]; rfl
       refine pure_ (i := 6) (N := some 56) (v := ?_) (a' := ?_) B20_4 rfl rfl (any_of HT_.out (by kernel_rfl)) (fun _ _ _ h => h) (Or.inl ⟨by rfl, ?_⟩) ?_ ?_; rotate_left
       ·
        intro w'; go_simp; with_reducible rfl
       rotate_left
       ·
        simp only [Act.put, lT, l0_, lS, i64_w, i32_w]; rfl
       refine pure_ (i := 7) (N := some 57) (v := ?_) (a' := ?_) B20_5 rfl rfl (any_of HT_.out (by kernel_rfl)) (fun _ _ _ h => h) (Or.inl ⟨by rfl, ?_⟩) ?_ ?_; rotate_left
       ·
        intro w'; go_simp; with_reducible rfl
       rotate_left
       ·
        simp only [Act.put, lT, l0_, lS, i64_w, i32_w]; rfl
       refine pure_ (i := 8) (N := some 58) (v := ?_) (a' := ?_) B20_6 rfl rfl (any_of HT_.out (by kernel_rfl)) (fun _ _ _ h => h) (Or.inl ⟨by rfl, ?_⟩) ?_ ?_; rotate_left
       ·
        intro w'; go_simp; with_reducible rfl
       rotate_left
       ·
        simp only [Act.put, lT, l0_, lS, i64_w, i32_w]; rfl
       refine pure_ (i := 11) (N := some 61) (v := ?_) (a' := ?_) B20_7 rfl rfl (any_of HT_.out (by kernel_rfl)) (fun _ _ _ h => h) (Or.inl ⟨by rfl, ?_⟩) ?_ ?_; rotate_left
       ·
        intro w'; go_simp; with_reducible rfl
       rotate_left
       ·
        simp only [Act.put, lT, l0_, lS, i64_w, i32_w]; rfl
       refine pure_ (i := 12) (N := some 62) (v := ?_) (a' := ?_) B20_8 rfl rfl (any_of HT_.out (by kernel_rfl)) (fun _ _ _ h => h) (Or.inl ⟨by rfl, ?_⟩) ?_ ?_; rotate_left
       ·
        intro w'; go_simp; with_reducible rfl
       rotate_left
       ·
        simp only [Act.put, lT, l0_, lS, i64_w, i32_w]; rfl
       refine pure_ (i := 13) (N := some 63) (v := ?_) (a' := ?_) B20_9 rfl rfl (any_of HT_.out (by kernel_rfl)) (fun _ _ _ h => h) (Or.inl ⟨by rfl, ?_⟩) ?_ ?_; rotate_left
       ·
        intro w'; go_simp; with_reducible rfl
       rotate_left
       ·
        simp only [Act.put, lT, l0_, lS, i64_w, i32_w]; rfl
       refine pure_ (i := 14) (N := some 64) (v := ?_) (a' := ?_) B20_10 rfl rfl (any_of HT_.out (by kernel_rfl)) (fun _ _ _ h => h) (Or.inl ⟨by rfl, ?_⟩) ?_ ?_; rotate_left
       ·
        intro w'; go_simp; with_reducible rfl
       rotate_left
       ·
        simp only [Act.put, lT, l0_, lS, i64_w, i32_w]; rfl
       refine take_ (i := 0) (N := some 50) (v := ?_) (a' := ?_) B20_11 rfl rfl (take_ofW HT_.out HW_.out (by kernel_rfl)) (fun _ _ _ h => h) (Or.inl ⟨by rfl, ?_⟩) hHeld ?_ ?_; rotate_left
       ·
        rintro w' ⟨s0, s1, s2, s3, s4⟩; go_simp; with_reducible rfl
       rotate_left
       ·
        simp only [Act.put, lT, l0_, lS, i64_w, i32_w]; rfl
       refine take_ (i := 4) (N := some 54) (v := ?_) (a' := ?_) B20_12 rfl rfl (take_ofW HT_.out HW_.out (by kernel_rfl)) (fun _ _ _ h => h) (Or.inl ⟨by rfl, ?_⟩) hHeld ?_ ?_; rotate_left
       ·
        rintro w' ⟨s0, s1, s2, s3, s4⟩; go_simp; with_reducible rfl
       rotate_left
       ·
        simp only [Act.put, lT, l0_, lS, i64_w, i32_w]; rfl
       refine take_ (i := 10) (N := some 60) (v := ?_) (a' := ?_) B20_13 rfl rfl (take_ofW HT_.out HW_.out (by kernel_rfl)) (fun _ _ _ h => h) (Or.inl ⟨by rfl, ?_⟩) hHeld ?_ ?_; rotate_left
       ·
        rintro w' ⟨s0, s1, s2, s3, s4⟩; go_simp; with_reducible rfl
       rotate_left
       ·
        simp only [Act.put, lT, l0_, lS, i64_w, i32_w]; rfl
       refine one_ (i := 3) (N := some 53) B20_14 rfl rfl (one_of HT_.out (by kernel_rfl)) (by decide) (fun K hK => ?_); refine goes_ Try.func22 (by kernel_rfl) rfl #[.agg #[.int .i64 a0_0, .int .i64 a0_1, .int .i64 a0_2, .slice A0_3 l0_3.length c0_3, .slice A0_4 l0_4.length c0_4], .int .i64 (wrap64 (Int.tmod (IntKind.u64.wrap (a1)) 50)), .int .i64 (wrap64 (Int.tmod (IntKind.u64.wrap (a2)) 30))] (by rfl) rfl rfl (by (try simp only [List.map_toArray, List.map_cons, List.map_nil]); first | done | rfl | (simp only [List.length_drop, List.length_take]; rfl)) ?_
       with_reducible refine (quota_More.calls kj4 a0_0 a0_1 a0_2 _ _ l0_3 _ _ l0_4 (wrap64 (Int.tmod (IntKind.u64.wrap (a1)) 50)) (wrap64 (Int.tmod (IntKind.u64.wrap (a2)) 30)) t288 _ ?side1 ?side2 ?side3 ?side4 A21.out).mono ?_
       (case side1 => repeat (first | exact (Kd.C_below HR0_3.out HB.out) | (with_reducible refine Kd.C_alloc ?_ _) | (with_reducible refine Kd.C_drewN ?_ _) | (with_reducible refine Kd.C_drew ?_)))
       (case side2 => exact HC0_3.out)
       (case side3 => repeat (first | exact (Kd.C_below HR0_4.out HB.out) | (with_reducible refine Kd.C_alloc ?_ _) | (with_reducible refine Kd.C_drewN ?_ _) | (with_reducible refine Kd.C_drew ?_)))
       (case side4 => exact HC0_4.out)
       rintro e w73 ⟨rfl, hb⟩; refine ⟨_, rfl, ?_⟩; have n0_ := Aside0.mk (bB (g := gb281) (o := .cells #[.int .i64 a0_0, .int .i64 a0_1, .int .i64 a0_2, .slice A0_3 l0_3.length c0_3, .slice A0_4 l0_4.length c0_4] 28 (0, 0)) (by (with_reducible repeat (first | refine bN ?_ _ | refine bD ?_ | refine bA ?_ _)); exact BK281.out) hb)
       have n1_ := Aside0.mk (below_step (by repeat (first | (with_reducible first | exact HB.out | apply wA | apply wN | apply wD | refine wS ?_ GE281.out) | exact HB.out)) hb); clear BK281; clear HB; have BK281 := n0_; have HB := n1_; clear n0_ n1_
       (try clear hb)
       (try clear hb2)
       (try clear hk)
       (try clear hi)
       refine hK.out _ _ ⟨(bC BK281.out 0).trans rfl, (bC BK281.out 1).trans rfl, (bC BK281.out 2).trans rfl, (bC BK281.out 3).trans rfl, (bC BK281.out 4).trans rfl⟩ (fun hHeld => ?_); clear hK K; refine norm_ (a' := ?_) ?_ ?_; rotate_left
       ·
        show Act.put _ (some 53) _ = _
        simp only [Act.put, lT, l0_, lS, i64_w, i32_w]; rfl
       refine one_ (i := 9) (N := some 59) B20_15 rfl rfl (one_of HT_.out (by kernel_rfl)) (by decide) (fun K hK => ?_); refine goes_ Try.func22 (by kernel_rfl) rfl #[.agg #[.int .i64 a0_0, .int .i64 a0_1, .int .i64 a0_2, .slice A0_3 l0_3.length c0_3, .slice A0_4 l0_4.length c0_4], .int .i64 (wrap64 ((wrap64 (Int.tmod (IntKind.u64.wrap (a1)) 50)) + (wrap64 (Int.tmod (IntKind.u64.wrap (a2)) 30)))), .int .i64 (wrap64 (Int.tmod (IntKind.u64.wrap (a3)) 30))] (by rfl) rfl rfl (by (try simp only [List.map_toArray, List.map_cons, List.map_nil]); first | done | rfl | (simp only [List.length_drop, List.length_take]; rfl)) ?_
       with_reducible refine (quota_More.calls kj4 a0_0 a0_1 a0_2 _ _ l0_3 _ _ l0_4 (wrap64 ((wrap64 (Int.tmod (IntKind.u64.wrap (a1)) 50)) + (wrap64 (Int.tmod (IntKind.u64.wrap (a2)) 30)))) (wrap64 (Int.tmod (IntKind.u64.wrap (a3)) 30)) t289 _ ?side1 ?side2 ?side3 ?side4 A22.out).mono ?_
       (case side1 => repeat (first | exact (Kd.C_below HR0_3.out HB.out) | (with_reducible refine Kd.C_alloc ?_ _) | (with_reducible refine Kd.C_drewN ?_ _) | (with_reducible refine Kd.C_drew ?_)))
       (case side2 => exact HC0_3.out)
       (case side3 => repeat (first | exact (Kd.C_below HR0_4.out HB.out) | (with_reducible refine Kd.C_alloc ?_ _) | (with_reducible refine Kd.C_drewN ?_ _) | (with_reducible refine Kd.C_drew ?_)))
       (case side4 => exact HC0_4.out)
       rintro e w74 ⟨rfl, hb⟩; refine ⟨_, rfl, ?_⟩; have n0_ := Aside0.mk (bB (g := gb281) (o := .cells #[.int .i64 a0_0, .int .i64 a0_1, .int .i64 a0_2, .slice A0_3 l0_3.length c0_3, .slice A0_4 l0_4.length c0_4] 28 (0, 0)) (by (with_reducible repeat (first | refine bN ?_ _ | refine bD ?_ | refine bA ?_ _)); exact BK281.out) hb)
       have n1_ := Aside0.mk (below_step (by repeat (first | (with_reducible first | exact HB.out | apply wA | apply wN | apply wD | refine wS ?_ GE281.out) | exact HB.out)) hb); clear BK281; clear HB; have BK281 := n0_; have HB := n1_; clear n0_ n1_
       (try clear hb)
       (try clear hb2)
       (try clear hk)
       (try clear hi)
       refine hK.out _ _ ⟨(bC BK281.out 0).trans rfl, (bC BK281.out 1).trans rfl, (bC BK281.out 2).trans rfl, (bC BK281.out 3).trans rfl, (bC BK281.out 4).trans rfl⟩ (fun hHeld => ?_); clear hK K; refine norm_ (a' := ?_) ?_ ?_; rotate_left
       ·
        show Act.put _ (some 59) _ = _
        simp only [Act.put, lT, l0_, lS, i64_w, i32_w]; rfl
       refine one_ (i := 15) (N := some 65) B20_16 rfl rfl (one_of HT_.out (by kernel_rfl)) (by decide) (fun K hK => ?_); refine goes_ Try.func22 (by kernel_rfl) rfl #[.agg #[.int .i64 a0_0, .int .i64 a0_1, .int .i64 a0_2, .slice A0_3 l0_3.length c0_3, .slice A0_4 l0_4.length c0_4], .int .i64 (wrap64 (Int.tmod (IntKind.u64.wrap (a1)) 50)), .int .i64 (wrap64 ((wrap64 (Int.tmod (IntKind.u64.wrap (a2)) 30)) + (wrap64 (Int.tmod (IntKind.u64.wrap (a3)) 30))))] (by rfl) rfl rfl (by (try simp only [List.map_toArray, List.map_cons, List.map_nil]); first | done | rfl | (simp only [List.length_drop, List.length_take]; rfl)) ?_
       with_reducible refine (quota_More.calls kj4 a0_0 a0_1 a0_2 _ _ l0_3 _ _ l0_4 (wrap64 (Int.tmod (IntKind.u64.wrap (a1)) 50)) (wrap64 ((wrap64 (Int.tmod (IntKind.u64.wrap (a2)) 30)) + (wrap64 (Int.tmod (IntKind.u64.wrap (a3)) 30)))) t290 _ ?side1 ?side2 ?side3 ?side4 A23.out).mono ?_
       (case side1 => repeat (first | exact (Kd.C_below HR0_3.out HB.out) | (with_reducible refine Kd.C_alloc ?_ _) | (with_reducible refine Kd.C_drewN ?_ _) | (with_reducible refine Kd.C_drew ?_)))
       (case side2 => exact HC0_3.out)
       (case side3 => repeat (first | exact (Kd.C_below HR0_4.out HB.out) | (with_reducible refine Kd.C_alloc ?_ _) | (with_reducible refine Kd.C_drewN ?_ _) | (with_reducible refine Kd.C_drew ?_)))
       (case side4 => exact HC0_4.out)
       rintro e w75 ⟨rfl, hb⟩; refine ⟨_, rfl, ?_⟩; have n0_ := Aside0.mk (bB (g := gb281) (o := .cells #[.int .i64 a0_0, .int .i64 a0_1, .int .i64 a0_2, .slice A0_3 l0_3.length c0_3, .slice A0_4 l0_4.length c0_4] 28 (0, 0)) (by (with_reducible repeat (first | refine bN ?_ _ | refine bD ?_ | refine bA ?_ _)); exact BK281.out) hb)
       have n1_ := Aside0.mk (below_step (by repeat (first | (with_reducible first | exact HB.out | apply wA | apply wN | apply wD | refine wS ?_ GE281.out) | exact HB.out)) hb); clear BK281; clear HB; have BK281 := n0_; have HB := n1_; clear n0_ n1_
       (try clear hb)
       (try clear hb2)
       (try clear hk)
       (try clear hi)
       refine hK.out _ _ ⟨(bC BK281.out 0).trans rfl, (bC BK281.out 1).trans rfl, (bC BK281.out 2).trans rfl, (bC BK281.out 3).trans rfl, (bC BK281.out 4).trans rfl⟩ (fun hHeld => ?_); clear hK K; refine norm_ (a' := ?_) ?_ ?_; rotate_left
       ·
        show Act.put _ (some 65) _ = _
        simp only [Act.put, lT, l0_, lS, i64_w, i32_w]; rfl
       refine pure_ (i := 16) (N := some 9) (v := ?_) (a' := ?_) B20_17 rfl rfl (any_of HT_.out (by kernel_rfl)) (fun _ _ _ h => h) (Or.inl ⟨by rfl, ?_⟩) ?_ ?_; rotate_left
       ·
        intro w'; go_simp; with_reducible rfl
       rotate_left
       ·
        simp only [Act.put, lT, l0_, lS, i64_w, i32_w]; rfl
       refine pure_ (i := 17) (N := some 10) (v := ?_) (a' := ?_) B20_18 rfl rfl (any_of HT_.out (by kernel_rfl)) (fun _ _ _ h => h) (Or.inl ⟨by rfl, ?_⟩) ?_ ?_; rotate_left
       ·
        intro w'; go_simp; with_reducible rfl
       rotate_left
       ·
        simp only [Act.put, lT, l0_, lS, i64_w, i32_w]; rfl
       refine pure_ (i := 18) (N := some 11) (v := ?_) (a' := ?_) B20_19 rfl rfl (any_of HT_.out (by kernel_rfl)) (fun _ _ _ h => h) (Or.inl ⟨by rfl, ?_⟩) ?_ ?_; rotate_left
       ·
        intro w'; go_simp; with_reducible rfl
       rotate_left
       ·
        simp only [Act.put, lT, l0_, lS, i64_w, i32_w]; rfl
       refine done_ (done_of HT_.out (by kernel_rfl)) ?_
       try go_wp2_with (first | (go_at_call 15; (with_reducible refine (potsherdlaw18_awake.calls kj4  t297 _ A71.out).mono ?_); rintro e w76 ⟨rfl, hb⟩; have n0_ := Aside0.mk (bB (g := gb281) (o := .cells #[.int .i64 a0_0, .int .i64 a0_1, .int .i64 a0_2, .slice A0_3 l0_3.length c0_3, .slice A0_4 l0_4.length c0_4] 28 (0, 0)) (by (with_reducible repeat (first | refine bN ?_ _ | refine bD ?_ | refine bA ?_ _)); exact BK281.out) hb); have n1_ := Aside0.mk (below_step (by repeat (first | (with_reducible first | exact HB.out | apply wA | apply wN | apply wD | refine wS ?_ GE281.out) | exact HB.out)) hb); clear BK281; clear HB; have BK281 := n0_; have HB := n1_; clear n0_ n1_; (try clear hb); (try clear hb2); (try clear hk); (try clear hi)))
       go_ret
       exact ⟨by first | rfl | exact congrArg (fun b_ => Ending.returned (Value.bool b_)) HRET.out | (rw [HRET.out]) | (simp [errW_none, errW_some] <;> rfl) | (simp [*, errW_none, errW_some] <;> rfl), by repeat (first | (with_reducible first | exact HB.out | apply wA | apply wN | apply wD | refine wS ?_ GE281.out) | exact HB.out)⟩
      ·
       rw [if_neg c70] at H; have c70b0 : ((wrap64 (t288 + t289)) == (wrap64 (t290 + 0))) = false := beq_eq_false_iff_ne.mpr c70; have c70b1 : ((wrap64 (t288 + t289)) != (wrap64 (t290 + 0))) = true := bne_iff_ne.mpr c70; (try simp only [Int.add_zero] at c70b0 c70b1); exact absurd H (by simp)
    ·
     replace c20 := Bool.eq_false_iff.mpr c20; subst c20
     have H1 : ((quota_More.f kj4 a0_0 a0_1 a0_2 l0_3 l0_4 (wrap64 (Int.tmod (IntKind.u64.wrap (a1)) 50)) (wrap64 ((wrap64 (Int.tmod (IntKind.u64.wrap (a2)) 30)) + (wrap64 (Int.tmod (IntKind.u64.wrap (a3)) 30))))).bind fun t286 => (if t286 = 0 then ((potsherdlaw18_awake.f kj4).bind fun t287 => (some t287)) else (some false))) = some true := by rw [if_neg (show ¬ (false = true) by decide)] at H; exact H
     clear H; have H := H1; clear H1; replace H := Option.bind_eq_some_iff.mp H; obtain ⟨t286, A770, H⟩ := H; replace H : (if t286 = 0 then ((potsherdlaw18_awake.f kj4).bind fun t287 => (some t287)) else (some false)) = some true := H; have A77 := Aside0.mk A770; clear A770
     by_cases c78 : t286 = 0
     ·
      rw [if_pos c78] at H; have c78b0 : (t286 == 0) = true := beq_iff_eq.mpr c78; have c78b1 : (t286 != 0) = false := bne_eq_false_iff_eq.mpr c78; clear c78; replace H := Option.bind_eq_some_iff.mp H; obtain ⟨t287, A790, H⟩ := H; replace H : (some t287) = some true := H; have A79 := Aside0.mk A790; clear A790; have HRET := Aside0.mk (Option.some.inj H); clear H
      go_wp2_with (first | ((with_reducible refine gate_callee (f := 25) rfl ?_); refine goesL_ (some 38) rfl rfl Try.func25 (by kernel_rfl) rfl #[.int .i64 (wrap64 (Int.tmod (IntKind.u64.wrap (a1)) 50)), .int .i64 (wrap64 ((wrap64 (Int.tmod (IntKind.u64.wrap (a2)) 30)) + (wrap64 (Int.tmod (IntKind.u64.wrap (a3)) 30))))] rfl (by (try simp only [List.map_toArray, List.map_cons, List.map_nil]); first | done | rfl | (simp only [List.length_drop, List.length_take]; rfl)) ?_; (with_reducible refine (potsherdref12_FitsFile.calls (wrap64 (Int.tmod (IntKind.u64.wrap (a1)) 50)) (wrap64 ((wrap64 (Int.tmod (IntKind.u64.wrap (a2)) 30)) + (wrap64 (Int.tmod (IntKind.u64.wrap (a3)) 30)))) false _ A19.out).mono ?_); rintro e w' ⟨rfl, ⟨nd, rfl⟩⟩; refine ⟨_, rfl, ?_⟩; have hcz80_0 : wc.cell? ⟨gb281, 0, none⟩ = some (.int .i64 a0_0) := (bC BK281.out 0).trans rfl; have hcz80_1 : wc.cell? ⟨gb281, 1, none⟩ = some (.int .i64 a0_1) := (bC BK281.out 1).trans rfl; have hcz80_2 : wc.cell? ⟨gb281, 2, none⟩ = some (.int .i64 a0_2) := (bC BK281.out 2).trans rfl; have hcz80_3 : wc.cell? ⟨gb281, 3, none⟩ = some (.slice A0_3 l0_3.length c0_3) := (bC BK281.out 3).trans rfl; have hcz80_4 : wc.cell? ⟨gb281, 4, none⟩ = some (.slice A0_4 l0_4.length c0_4) := (bC BK281.out 4).trans rfl; have hfz80_0 := bZ BK281.out 0; have hfz80_1 := bZ BK281.out 1; have hfz80_2 := bZ BK281.out 2; have hfz80_3 := bZ BK281.out 3; have hfz80_4 := bZ BK281.out 4) | ((with_reducible refine gate_callee (f := 22) rfl ?_); refine goesL_ (some 45) rfl rfl Try.func22 (by kernel_rfl) rfl #[.agg #[.int .i64 a0_0, .int .i64 a0_1, .int .i64 a0_2, .slice A0_3 l0_3.length c0_3, .slice A0_4 l0_4.length c0_4], .int .i64 (wrap64 (Int.tmod (IntKind.u64.wrap (a1)) 50)), .int .i64 (wrap64 ((wrap64 (Int.tmod (IntKind.u64.wrap (a2)) 30)) + (wrap64 (Int.tmod (IntKind.u64.wrap (a3)) 30))))] rfl (by (try simp only [List.map_toArray, List.map_cons, List.map_nil]); first | done | rfl | (simp only [List.length_drop, List.length_take]; rfl)) ?_; (with_reducible refine (quota_More.calls kj4 a0_0 a0_1 a0_2 _ _ l0_3 _ _ l0_4 (wrap64 (Int.tmod (IntKind.u64.wrap (a1)) 50)) (wrap64 ((wrap64 (Int.tmod (IntKind.u64.wrap (a2)) 30)) + (wrap64 (Int.tmod (IntKind.u64.wrap (a3)) 30)))) t286 _ ?side1 ?side2 ?side3 ?side4 A77.out).mono ?_); (case side1 => repeat (first | exact (Kd.C_below HR0_3.out (by repeat (first | (with_reducible first | exact HB.out | apply wA | apply wN | apply wD | refine wS ?_ GE281.out) | exact HB.out))) | (with_reducible refine Kd.C_alloc ?_ _) | (with_reducible refine Kd.C_drewN ?_ _) | (with_reducible refine Kd.C_drew ?_))); (case side2 => exact HC0_3.out); (case side3 => repeat (first | exact (Kd.C_below HR0_4.out (by repeat (first | (with_reducible first | exact HB.out | apply wA | apply wN | apply wD | refine wS ?_ GE281.out) | exact HB.out))) | (with_reducible refine Kd.C_alloc ?_ _) | (with_reducible refine Kd.C_drewN ?_ _) | (with_reducible refine Kd.C_drew ?_))); (case side4 => exact HC0_4.out); rintro e w81 ⟨rfl, hb⟩; refine ⟨_, rfl, ?_⟩; have n0_ := Aside0.mk (bB (g := gb281) (o := .cells #[.int .i64 a0_0, .int .i64 a0_1, .int .i64 a0_2, .slice A0_3 l0_3.length c0_3, .slice A0_4 l0_4.length c0_4] 28 (0, 0)) (by (with_reducible repeat (first | refine bN ?_ _ | refine bD ?_ | refine bA ?_ _)); exact BK281.out) hb); have n1_ := Aside0.mk (below_step (by repeat (first | (with_reducible first | exact HB.out | apply wA | apply wN | apply wD | refine wS ?_ GE281.out) | exact HB.out)) hb); clear BK281; clear HB; have BK281 := n0_; have HB := n1_; clear n0_ n1_; (try clear hb); (try clear hb2); (try clear hk); (try clear hi)) | (go_at_call 15; (with_reducible refine (potsherdlaw18_awake.calls kj4  t287 _ A79.out).mono ?_); rintro e w82 ⟨rfl, hb⟩; have n0_ := Aside0.mk (bB (g := gb281) (o := .cells #[.int .i64 a0_0, .int .i64 a0_1, .int .i64 a0_2, .slice A0_3 l0_3.length c0_3, .slice A0_4 l0_4.length c0_4] 28 (0, 0)) (by (with_reducible repeat (first | refine bN ?_ _ | refine bD ?_ | refine bA ?_ _)); exact BK281.out) hb); have n1_ := Aside0.mk (below_step (by repeat (first | (with_reducible first | exact HB.out | apply wA | apply wN | apply wD | refine wS ?_ GE281.out) | exact HB.out)) hb); clear BK281; clear HB; have BK281 := n0_; have HB := n1_; clear n0_ n1_; (try clear hb); (try clear hb2); (try clear hk); (try clear hi)))
      go_ret
      exact ⟨by first | rfl | exact congrArg (fun b_ => Ending.returned (Value.bool b_)) HRET.out | (rw [HRET.out]) | (simp [errW_none, errW_some] <;> rfl) | (simp [*, errW_none, errW_some] <;> rfl), by repeat (first | (with_reducible first | exact HB.out | apply wA | apply wN | apply wD | refine wS ?_ GE281.out) | exact HB.out)⟩
     ·
      rw [if_neg c78] at H; have c78b0 : (t286 == 0) = false := beq_eq_false_iff_ne.mpr c78; have c78b1 : (t286 != 0) = true := bne_iff_ne.mpr c78; exact absurd H (by simp)

end Go.Proofs.Ytkigiehkckjlhaa.PQuota
