/- The Go functions that this law reaches, each as a Lean function with the same answers (the law itself where it answers true), and the proof that the code comes to them; conditions: those of each theorem. Laid by a program of this session over the print. -/
import Derived.Test.YtnjnmegjbcgajaaPCostSumsx0
import Derived.Test.YtnjnmegjbcgajaaPCostSumsx1
import Derived.Test.YtnjnmegjbcgajaaPCostSumsx2
import Derived.Test.YtnjnmegjbcgajaaPCostSumsx3
namespace Go.Proofs.Ytnjnmegjbcgajaa.PCostSums
open Go.RowKit Go.Proofs.YtnjnmegjbcgajaaW.PrintWords Go.Proofs.YtnjnmegjbcgajaaW.PrintLast Go.Proofs.YtnjnmegjbcgajaaW.PrintMore
attribute [local go_sem] max2_int min2_int max_two min_two max_three min_three max_four min_four   -- for this text's walks alone
set_option linter.unusedVariables false
set_option linter.unusedSimpArgs false

attribute [local go_sem high] eqA32
/-! ### potsherdlaw24_CostSums: function 5 -/
mutual
def potsherdlaw24_CostSums.j0 : Nat → Int → Bool → Int → Int → Int → Option (Bool)
  | 0, _, _, _, _, _ => none
  | k + 1, x4, x95, x169000, x169001, x169002 => if x95 = true then (some false) else (if x4 < 1 then (potsherdlaw24_CostSums.j1 k true x169000 x169001 x169002) else (if x4 > 13 then (potsherdlaw24_CostSums.j1 k true x169000 x169001 x169002) else (if x4 = 7 then (potsherdlaw24_CostSums.j1 k true x169000 x169001 x169002) else (if x4 = 8 then (potsherdlaw24_CostSums.j1 k true x169000 x169001 x169002) else (if x4 = 9 then (potsherdlaw24_CostSums.j1 k true x169000 x169001 x169002) else (potsherdlaw24_CostSums.j1 k (x4 == 11) x169000 x169001 x169002))))))
def potsherdlaw24_CostSums.j1 : Nat → Bool → Int → Int → Int → Option (Bool)
  | 0, _, _, _, _ => none
  | k + 1, x17, x169000, x169001, x169002 => if x169001 = 0 then (if ((x169002 == 0) == x17) = true then ((potsherdlaw24_awake.f k).bind fun t177 => (some t177)) else (some false)) else (if (false == x17) = true then ((potsherdlaw24_awake.f k).bind fun t178 => (some t178)) else (some false))
end
def potsherdlaw24_CostSums.f (k : Nat) (a0_0 : Int) (a0_1 : Int) (a0_2 : Int) (a0_3 : Int) (a0_4 : Int) (a1 : Int) (a2 : Int) (a3 : Int) (a4 : Int) : Option (Bool) := (potsherdref3_MayPlan.f a0_0 a0_1 a0_2 a0_3 a0_4).bind fun t140 => (if t140 = true then ((cost_Price.f k a0_0 a0_1 a0_2 a0_3 a0_4 (wrap64 (Int.tmod (IntKind.u64.wrap (a1)) 10)) (wrap64 (Int.tmod (IntKind.u64.wrap (a3)) 7))).bind fun bt145 => ((cost_Price.f k a0_0 a0_1 a0_2 a0_3 a0_4 (wrap64 (Int.tmod (IntKind.u64.wrap (a2)) 10)) (wrap64 (Int.tmod (IntKind.u64.wrap (a3)) 7))).bind fun bt148 => ((cost_Price.f k a0_0 a0_1 a0_2 a0_3 a0_4 (wrap64 ((wrap64 (Int.tmod (IntKind.u64.wrap (a1)) 10)) + (wrap64 (Int.tmod (IntKind.u64.wrap (a2)) 10)))) (wrap64 (Int.tmod (IntKind.u64.wrap (a3)) 7))).bind fun bt151 => ((cost_Price.f k a0_0 a0_1 a0_2 a0_3 a0_4 (wrap64 (Int.tmod (IntKind.u64.wrap (a1)) 10)) 0).bind fun bt157 => ((cost_Price.f k a0_0 a0_1 a0_2 a0_3 a0_4 (wrap64 (Int.tmod (IntKind.u64.wrap (a1)) 10)) (wrap64 (Int.tmod (IntKind.u64.wrap (a3)) 7))).bind fun bt160 => ((cost_Call.f k a0_0 a0_1 a0_2 a0_3 a0_4 a4 (⟨#[]⟩ : ByteArray) (⟨#[]⟩ : ByteArray) 0 0 0 ([] : List Int) (wrap64 (Int.tmod (IntKind.u64.wrap (a3)) 7))).bind fun bt165 => ((cost_Less.f bt151.1 bt151.2.1 bt151.2.2 bt145.1 bt145.2.1 bt145.2.2).bind fun bt169 => (if (!(bt169.1 == bt148.1) || (!(bt169.2.1 == bt148.2.1) || (!(bt169.2.2 == bt148.2.2)))) = true then (potsherdlaw24_CostSums.j0 k a4 true bt165.1 bt165.2.1 bt165.2.2) else (if bt160.2.1 = (wrap64 (bt157.2.1 * (wrap64 ((wrap64 (Int.tmod (IntKind.u64.wrap (a3)) 7)) + 1)))) then ((cost_Call.f k a0_0 a0_1 a0_2 a0_3 a0_4 12 (⟨#[]⟩ : ByteArray) (⟨#[]⟩ : ByteArray) 0 0 0 ([] : List Int) (wrap64 (Int.tmod (IntKind.u64.wrap (a3)) 7))).bind fun bt172 => ((cost_Within.f bt165.1 bt165.2.1 bt165.2.2 bt172.1 bt172.2.1 bt172.2.2).bind fun t175 => (if t175 = true then ((cost_Within.f bt145.1 bt145.2.1 bt145.2.2 bt151.1 bt151.2.1 bt151.2.2).bind fun t176 => (potsherdlaw24_CostSums.j0 k a4 (!t176) bt165.1 bt165.2.1 bt165.2.2)) else (potsherdlaw24_CostSums.j0 k a4 true bt165.1 bt165.2.1 bt165.2.2)))) else (potsherdlaw24_CostSums.j0 k a4 true bt165.1 bt165.2.1 bt165.2.2)))))))))) else ((cost_Price.f k a0_0 a0_1 a0_2 a0_3 a0_4 1 0).bind fun bt141 => (if (bt141.1 == 0 && (bt141.2.1 == 0 && (bt141.2.2 == 0))) = true then ((potsherdlaw24_awake.f k).bind fun t144 => (some t144)) else (some false))))
theorem potsherdlaw24_CostSums.mono_l : ∀ k, (∀ y0 y1 y2 y3 y4, LeO (potsherdlaw24_CostSums.j0 k y0 y1 y2 y3 y4) (potsherdlaw24_CostSums.j0 (k + 1) y0 y1 y2 y3 y4)) ∧ (∀ y0 y1 y2 y3, LeO (potsherdlaw24_CostSums.j1 k y0 y1 y2 y3) (potsherdlaw24_CostSums.j1 (k + 1) y0 y1 y2 y3))
  | 0 => ⟨fun _ _ _ _ _ r h => by simp [potsherdlaw24_CostSums.j0] at h, fun _ _ _ _ r h => by simp [potsherdlaw24_CostSums.j1] at h⟩
  | k + 1 => by
    obtain ⟨ih0, ih1⟩ := potsherdlaw24_CostSums.mono_l k
    refine ⟨?_, ?_⟩
    · intro y0 y1 y2 y3 y4
      unfold potsherdlaw24_CostSums.j0
      repeat' first
      | (with_reducible exact ih0 _ _ _ _ _)
      | (with_reducible exact ih1 _ _ _ _)
      | (with_reducible exact cost_Call.mono _ _ _ _ _ _ _ _ _ _ _ _ _ _)
      | (with_reducible exact cost_Price.mono _ _ _ _ _ _ _ _)
      | (with_reducible exact potsherdlaw24_awake.mono _)
      | (with_reducible exact LeO.refl _)
      | (with_reducible exact LeO.none _)
      | (with_reducible refine LeO.ite ?_ ?_)
      | (with_reducible refine LeO.bind ?_ (fun _ => ?_))
      | exact ih0 _ _ _ _ _
      | exact ih1 _ _ _ _
      | exact cost_Call.mono _ _ _ _ _ _ _ _ _ _ _ _ _ _
      | exact cost_Price.mono _ _ _ _ _ _ _ _
      | exact potsherdlaw24_awake.mono _
      | exact LeO.none _
      | refine LeO.ite ?_ ?_
      | refine LeO.bind ?_ (fun _ => ?_)
    · intro y0 y1 y2 y3
      unfold potsherdlaw24_CostSums.j1
      repeat' first
      | (with_reducible exact ih0 _ _ _ _ _)
      | (with_reducible exact ih1 _ _ _ _)
      | (with_reducible exact cost_Call.mono _ _ _ _ _ _ _ _ _ _ _ _ _ _)
      | (with_reducible exact cost_Price.mono _ _ _ _ _ _ _ _)
      | (with_reducible exact potsherdlaw24_awake.mono _)
      | (with_reducible exact LeO.refl _)
      | (with_reducible exact LeO.none _)
      | (with_reducible refine LeO.ite ?_ ?_)
      | (with_reducible refine LeO.bind ?_ (fun _ => ?_))
      | exact ih0 _ _ _ _ _
      | exact ih1 _ _ _ _
      | exact cost_Call.mono _ _ _ _ _ _ _ _ _ _ _ _ _ _
      | exact cost_Price.mono _ _ _ _ _ _ _ _
      | exact potsherdlaw24_awake.mono _
      | exact LeO.none _
      | refine LeO.ite ?_ ?_
      | refine LeO.bind ?_ (fun _ => ?_)
theorem potsherdlaw24_CostSums.mono : ∀ a0 a1 a2 a3 a4 a5 a6 a7 a8 k, LeO (potsherdlaw24_CostSums.f k a0 a1 a2 a3 a4 a5 a6 a7 a8) (potsherdlaw24_CostSums.f (k + 1) a0 a1 a2 a3 a4 a5 a6 a7 a8) := by
  intro a0 a1 a2 a3 a4 a5 a6 a7 a8 k
  obtain ⟨ih0, ih1⟩ := potsherdlaw24_CostSums.mono_l k
  unfold potsherdlaw24_CostSums.f
  repeat' first
      | (with_reducible exact ih0 _ _ _ _ _)
      | (with_reducible exact ih1 _ _ _ _)
      | (with_reducible exact cost_Call.mono _ _ _ _ _ _ _ _ _ _ _ _ _ _)
      | (with_reducible exact cost_Price.mono _ _ _ _ _ _ _ _)
      | (with_reducible exact potsherdlaw24_awake.mono _)
      | (with_reducible exact LeO.refl _)
      | (with_reducible exact LeO.none _)
      | (with_reducible refine LeO.ite ?_ ?_)
      | (with_reducible refine LeO.bind ?_ (fun _ => ?_))
      | exact ih0 _ _ _ _ _
      | exact ih1 _ _ _ _
      | exact cost_Call.mono _ _ _ _ _ _ _ _ _ _ _ _ _ _
      | exact cost_Price.mono _ _ _ _ _ _ _ _
      | exact potsherdlaw24_awake.mono _
      | exact LeO.none _
      | refine LeO.ite ?_ ?_
      | refine LeO.bind ?_ (fun _ => ?_)
def potsherdlaw24_CostSums.T4 : Bool × List (List Nat × List Nat) := (true, [([], []), ([], []), ([], []), ([0, 1, 2], [0, 1, 2]), ([], []), ([], []), ([], []), ([4, 5, 6, 3], [4, 5, 6]), ([], []), ([], []), ([], []), ([9, 10], [9, 10]), ([], []), ([8, 11, 12, 7], [8, 11, 12]), ([], []), ([], []), ([], []), ([14, 3, 13, 0, 1, 2, 3, 14, 15, 16], [3, 14]), ([15, 7, 17, 0, 1, 2, 3, 4, 5, 6, 7, 14, 15, 16, 17], [7, 15]), ([16, 13, 18, 0, 1, 2, 3, 4, 5, 6, 7, 8, 9, 10, 11, 12, 13, 14, 15, 16, 17, 18], [13, 16])])
def potsherdlaw24_CostSums.B4 : List Nat := [0, 0, 0, 7, 0, 0, 0, 127, 0, 0, 0, 1536, 0, 8191, 0, 0, 0, 131071, 262143, 524287]
theorem potsherdlaw24_CostSums.tab4 : rtab .any (opsOf Try.f5 4) = potsherdlaw24_CostSums.T4 := by kernel_rfl
theorem potsherdlaw24_CostSums.bits4 : waitsOk potsherdlaw24_CostSums.T4.2 potsherdlaw24_CostSums.B4 = true := by kernel_rfl
def potsherdlaw24_CostSums.T5 : Bool × List (List Nat × List Nat) := (true, [([], []), ([], []), ([0, 1], [0, 1]), ([], []), ([], []), ([], []), ([3, 4, 5, 2], [3, 4, 5]), ([], []), ([], []), ([7, 2, 6, 0, 1, 2, 7, 8], [2, 7]), ([8, 6, 9, 0, 1, 2, 3, 4, 5, 6, 7, 8, 9], [6, 8])])
def potsherdlaw24_CostSums.B5 : List Nat := [0, 0, 3, 0, 0, 0, 63, 0, 0, 511, 1023]
theorem potsherdlaw24_CostSums.tab5 : rtab .any (opsOf Try.f5 5) = potsherdlaw24_CostSums.T5 := by kernel_rfl
theorem potsherdlaw24_CostSums.bits5 : waitsOk potsherdlaw24_CostSums.T5.2 potsherdlaw24_CostSums.B5 = true := by kernel_rfl
def potsherdlaw24_CostSums.T7 : Bool × List (List Nat × List Nat) := (true, [([], []), ([], []), ([0, 1], [0, 1]), ([], []), ([2, 3], [2, 3]), ([4, 2], [4]), ([5], [5]), ([6, 5], [5, 6]), ([5], [5]), ([8, 5], [5, 8]), ([5], [5]), ([10, 5], [5, 10]), ([9, 11, 5], [5, 9, 11]), ([7, 12, 5], [5, 7, 12]), ([5, 13], [5, 13]), ([14, 5], [14]), ([15], [15]), ([15], [15]), ([15], [15]), ([15], [15]), ([17, 18, 19, 15, 15], [15, 17, 18, 19]), ([16, 20, 20, 15], [15, 16, 20]), ([21, 15], [15, 21]), ([15, 22], [15, 22]), ([23, 21], [23]), ([24], [24]), ([24], [24]), ([25, 26, 24, 24], [24, 25, 26]), ([27, 24], [24, 27]), ([24, 28], [24, 28])])
def potsherdlaw24_CostSums.B7 : List Nat := [0, 0, 3, 0, 15, 31, 63, 127, 63, 319, 63, 1087, 3903, 8191, 16383, 32767, 65535, 65535, 65535, 65535, 983039, 2097151, 4194303, 8388607, 16777215, 33554431, 33554431, 134217727, 268435455, 536870911]
theorem potsherdlaw24_CostSums.tab7 : rtab .any (opsOf Try.f5 7) = potsherdlaw24_CostSums.T7 := by kernel_rfl
theorem potsherdlaw24_CostSums.bits7 : waitsOk potsherdlaw24_CostSums.T7.2 potsherdlaw24_CostSums.B7 = true := by kernel_rfl
set_option maxHeartbeats 8000000 in
set_option maxRecDepth 100000 in
theorem potsherdlaw24_CostSums.calls (k : Nat) (a0_0 : Int) (a0_1 : Int) (a0_2 : Int) (a0_3 : Int) (a0_4 : Int) (a1 : Int) (a2 : Int) (a3 : Int) (a4 : Int) (w : World) (h : potsherdlaw24_CostSums.f k a0_0 a0_1 a0_2 a0_3 a0_4 a1 a2 a3 a4 = some true) :
    Calls Try.prog 5 #[.agg #[.int .i64 a0_0, .int .i64 a0_1, .int .i64 a0_2, .int .i64 a0_3, .int .i64 a0_4], .int .i64 a1, .int .i64 a2, .int .i64 a3, .int .i64 a4] w fun e w' => e = .returned (.bool true) ∧ Below w.heap.size w w' := by
  have hu23 := Try.underlying23
  have hu32 := Try.underlying32
  have hu30 := Try.underlying30
  have HB := Aside0.mk (Below.refl w.heap.size w)
  have H : ((potsherdref3_MayPlan.f a0_0 a0_1 a0_2 a0_3 a0_4).bind fun t140 => (if t140 = true then ((cost_Price.f k a0_0 a0_1 a0_2 a0_3 a0_4 (wrap64 (Int.tmod (IntKind.u64.wrap (a1)) 10)) (wrap64 (Int.tmod (IntKind.u64.wrap (a3)) 7))).bind fun bt145 => ((cost_Price.f k a0_0 a0_1 a0_2 a0_3 a0_4 (wrap64 (Int.tmod (IntKind.u64.wrap (a2)) 10)) (wrap64 (Int.tmod (IntKind.u64.wrap (a3)) 7))).bind fun bt148 => ((cost_Price.f k a0_0 a0_1 a0_2 a0_3 a0_4 (wrap64 ((wrap64 (Int.tmod (IntKind.u64.wrap (a1)) 10)) + (wrap64 (Int.tmod (IntKind.u64.wrap (a2)) 10)))) (wrap64 (Int.tmod (IntKind.u64.wrap (a3)) 7))).bind fun bt151 => ((cost_Price.f k a0_0 a0_1 a0_2 a0_3 a0_4 (wrap64 (Int.tmod (IntKind.u64.wrap (a1)) 10)) 0).bind fun bt157 => ((cost_Price.f k a0_0 a0_1 a0_2 a0_3 a0_4 (wrap64 (Int.tmod (IntKind.u64.wrap (a1)) 10)) (wrap64 (Int.tmod (IntKind.u64.wrap (a3)) 7))).bind fun bt160 => ((cost_Call.f k a0_0 a0_1 a0_2 a0_3 a0_4 a4 (⟨#[]⟩ : ByteArray) (⟨#[]⟩ : ByteArray) 0 0 0 ([] : List Int) (wrap64 (Int.tmod (IntKind.u64.wrap (a3)) 7))).bind fun bt165 => ((cost_Less.f bt151.1 bt151.2.1 bt151.2.2 bt145.1 bt145.2.1 bt145.2.2).bind fun bt169 => (if (!(bt169.1 == bt148.1) || (!(bt169.2.1 == bt148.2.1) || (!(bt169.2.2 == bt148.2.2)))) = true then (potsherdlaw24_CostSums.j0 k a4 true bt165.1 bt165.2.1 bt165.2.2) else (if bt160.2.1 = (wrap64 (bt157.2.1 * (wrap64 ((wrap64 (Int.tmod (IntKind.u64.wrap (a3)) 7)) + 1)))) then ((cost_Call.f k a0_0 a0_1 a0_2 a0_3 a0_4 12 (⟨#[]⟩ : ByteArray) (⟨#[]⟩ : ByteArray) 0 0 0 ([] : List Int) (wrap64 (Int.tmod (IntKind.u64.wrap (a3)) 7))).bind fun bt172 => ((cost_Within.f bt165.1 bt165.2.1 bt165.2.2 bt172.1 bt172.2.1 bt172.2.2).bind fun t175 => (if t175 = true then ((cost_Within.f bt145.1 bt145.2.1 bt145.2.2 bt151.1 bt151.2.1 bt151.2.2).bind fun t176 => (potsherdlaw24_CostSums.j0 k a4 (!t176) bt165.1 bt165.2.1 bt165.2.2)) else (potsherdlaw24_CostSums.j0 k a4 true bt165.1 bt165.2.1 bt165.2.2)))) else (potsherdlaw24_CostSums.j0 k a4 true bt165.1 bt165.2.1 bt165.2.2)))))))))) else ((cost_Price.f k a0_0 a0_1 a0_2 a0_3 a0_4 1 0).bind fun bt141 => (if (bt141.1 == 0 && (bt141.2.1 == 0 && (bt141.2.2 == 0))) = true then ((potsherdlaw24_awake.f k).bind fun t144 => (some t144)) else (some false))))) = some true := h
  clear h
  replace H := Option.bind_eq_some_iff.mp H
  obtain ⟨t140, A60, H⟩ := H
  replace H : (if t140 = true then ((cost_Price.f k a0_0 a0_1 a0_2 a0_3 a0_4 (wrap64 (Int.tmod (IntKind.u64.wrap (a1)) 10)) (wrap64 (Int.tmod (IntKind.u64.wrap (a3)) 7))).bind fun bt145 => ((cost_Price.f k a0_0 a0_1 a0_2 a0_3 a0_4 (wrap64 (Int.tmod (IntKind.u64.wrap (a2)) 10)) (wrap64 (Int.tmod (IntKind.u64.wrap (a3)) 7))).bind fun bt148 => ((cost_Price.f k a0_0 a0_1 a0_2 a0_3 a0_4 (wrap64 ((wrap64 (Int.tmod (IntKind.u64.wrap (a1)) 10)) + (wrap64 (Int.tmod (IntKind.u64.wrap (a2)) 10)))) (wrap64 (Int.tmod (IntKind.u64.wrap (a3)) 7))).bind fun bt151 => ((cost_Price.f k a0_0 a0_1 a0_2 a0_3 a0_4 (wrap64 (Int.tmod (IntKind.u64.wrap (a1)) 10)) 0).bind fun bt157 => ((cost_Price.f k a0_0 a0_1 a0_2 a0_3 a0_4 (wrap64 (Int.tmod (IntKind.u64.wrap (a1)) 10)) (wrap64 (Int.tmod (IntKind.u64.wrap (a3)) 7))).bind fun bt160 => ((cost_Call.f k a0_0 a0_1 a0_2 a0_3 a0_4 a4 (⟨#[]⟩ : ByteArray) (⟨#[]⟩ : ByteArray) 0 0 0 ([] : List Int) (wrap64 (Int.tmod (IntKind.u64.wrap (a3)) 7))).bind fun bt165 => ((cost_Less.f bt151.1 bt151.2.1 bt151.2.2 bt145.1 bt145.2.1 bt145.2.2).bind fun bt169 => (if (!(bt169.1 == bt148.1) || (!(bt169.2.1 == bt148.2.1) || (!(bt169.2.2 == bt148.2.2)))) = true then (potsherdlaw24_CostSums.j0 k a4 true bt165.1 bt165.2.1 bt165.2.2) else (if bt160.2.1 = (wrap64 (bt157.2.1 * (wrap64 ((wrap64 (Int.tmod (IntKind.u64.wrap (a3)) 7)) + 1)))) then ((cost_Call.f k a0_0 a0_1 a0_2 a0_3 a0_4 12 (⟨#[]⟩ : ByteArray) (⟨#[]⟩ : ByteArray) 0 0 0 ([] : List Int) (wrap64 (Int.tmod (IntKind.u64.wrap (a3)) 7))).bind fun bt172 => ((cost_Within.f bt165.1 bt165.2.1 bt165.2.2 bt172.1 bt172.2.1 bt172.2.2).bind fun t175 => (if t175 = true then ((cost_Within.f bt145.1 bt145.2.1 bt145.2.2 bt151.1 bt151.2.1 bt151.2.2).bind fun t176 => (potsherdlaw24_CostSums.j0 k a4 (!t176) bt165.1 bt165.2.1 bt165.2.2)) else (potsherdlaw24_CostSums.j0 k a4 true bt165.1 bt165.2.1 bt165.2.2)))) else (potsherdlaw24_CostSums.j0 k a4 true bt165.1 bt165.2.1 bt165.2.2)))))))))) else ((cost_Price.f k a0_0 a0_1 a0_2 a0_3 a0_4 1 0).bind fun bt141 => (if (bt141.1 == 0 && (bt141.2.1 == 0 && (bt141.2.2 == 0))) = true then ((potsherdlaw24_awake.f k).bind fun t144 => (some t144)) else (some false)))) = some true := H
  have A6 := Aside0.mk A60
  clear A60
  by_cases c7 : t140 = true
  · subst c7
    have H1 : ((cost_Price.f k a0_0 a0_1 a0_2 a0_3 a0_4 (wrap64 (Int.tmod (IntKind.u64.wrap (a1)) 10)) (wrap64 (Int.tmod (IntKind.u64.wrap (a3)) 7))).bind fun bt145 => ((cost_Price.f k a0_0 a0_1 a0_2 a0_3 a0_4 (wrap64 (Int.tmod (IntKind.u64.wrap (a2)) 10)) (wrap64 (Int.tmod (IntKind.u64.wrap (a3)) 7))).bind fun bt148 => ((cost_Price.f k a0_0 a0_1 a0_2 a0_3 a0_4 (wrap64 ((wrap64 (Int.tmod (IntKind.u64.wrap (a1)) 10)) + (wrap64 (Int.tmod (IntKind.u64.wrap (a2)) 10)))) (wrap64 (Int.tmod (IntKind.u64.wrap (a3)) 7))).bind fun bt151 => ((cost_Price.f k a0_0 a0_1 a0_2 a0_3 a0_4 (wrap64 (Int.tmod (IntKind.u64.wrap (a1)) 10)) 0).bind fun bt157 => ((cost_Price.f k a0_0 a0_1 a0_2 a0_3 a0_4 (wrap64 (Int.tmod (IntKind.u64.wrap (a1)) 10)) (wrap64 (Int.tmod (IntKind.u64.wrap (a3)) 7))).bind fun bt160 => ((cost_Call.f k a0_0 a0_1 a0_2 a0_3 a0_4 a4 (⟨#[]⟩ : ByteArray) (⟨#[]⟩ : ByteArray) 0 0 0 ([] : List Int) (wrap64 (Int.tmod (IntKind.u64.wrap (a3)) 7))).bind fun bt165 => ((cost_Less.f bt151.1 bt151.2.1 bt151.2.2 bt145.1 bt145.2.1 bt145.2.2).bind fun bt169 => (if (!(bt169.1 == bt148.1) || (!(bt169.2.1 == bt148.2.1) || (!(bt169.2.2 == bt148.2.2)))) = true then (potsherdlaw24_CostSums.j0 k a4 true bt165.1 bt165.2.1 bt165.2.2) else (if bt160.2.1 = (wrap64 (bt157.2.1 * (wrap64 ((wrap64 (Int.tmod (IntKind.u64.wrap (a3)) 7)) + 1)))) then ((cost_Call.f k a0_0 a0_1 a0_2 a0_3 a0_4 12 (⟨#[]⟩ : ByteArray) (⟨#[]⟩ : ByteArray) 0 0 0 ([] : List Int) (wrap64 (Int.tmod (IntKind.u64.wrap (a3)) 7))).bind fun bt172 => ((cost_Within.f bt165.1 bt165.2.1 bt165.2.2 bt172.1 bt172.2.1 bt172.2.2).bind fun t175 => (if t175 = true then ((cost_Within.f bt145.1 bt145.2.1 bt145.2.2 bt151.1 bt151.2.1 bt151.2.2).bind fun t176 => (potsherdlaw24_CostSums.j0 k a4 (!t176) bt165.1 bt165.2.1 bt165.2.2)) else (potsherdlaw24_CostSums.j0 k a4 true bt165.1 bt165.2.1 bt165.2.2)))) else (potsherdlaw24_CostSums.j0 k a4 true bt165.1 bt165.2.1 bt165.2.2)))))))))) = some true := by rw [if_pos rfl] at H; exact H
    clear H
    have H := H1
    clear H1
    replace H := Option.bind_eq_some_iff.mp H
    obtain ⟨⟨t145, t146, t147⟩, A80, H⟩ := H
    replace H : ((cost_Price.f k a0_0 a0_1 a0_2 a0_3 a0_4 (wrap64 (Int.tmod (IntKind.u64.wrap (a2)) 10)) (wrap64 (Int.tmod (IntKind.u64.wrap (a3)) 7))).bind fun bt148 => ((cost_Price.f k a0_0 a0_1 a0_2 a0_3 a0_4 (wrap64 ((wrap64 (Int.tmod (IntKind.u64.wrap (a1)) 10)) + (wrap64 (Int.tmod (IntKind.u64.wrap (a2)) 10)))) (wrap64 (Int.tmod (IntKind.u64.wrap (a3)) 7))).bind fun bt151 => ((cost_Price.f k a0_0 a0_1 a0_2 a0_3 a0_4 (wrap64 (Int.tmod (IntKind.u64.wrap (a1)) 10)) 0).bind fun bt157 => ((cost_Price.f k a0_0 a0_1 a0_2 a0_3 a0_4 (wrap64 (Int.tmod (IntKind.u64.wrap (a1)) 10)) (wrap64 (Int.tmod (IntKind.u64.wrap (a3)) 7))).bind fun bt160 => ((cost_Call.f k a0_0 a0_1 a0_2 a0_3 a0_4 a4 (⟨#[]⟩ : ByteArray) (⟨#[]⟩ : ByteArray) 0 0 0 ([] : List Int) (wrap64 (Int.tmod (IntKind.u64.wrap (a3)) 7))).bind fun bt165 => ((cost_Less.f bt151.1 bt151.2.1 bt151.2.2 t145 t146 t147).bind fun bt169 => (if (!(bt169.1 == bt148.1) || (!(bt169.2.1 == bt148.2.1) || (!(bt169.2.2 == bt148.2.2)))) = true then (potsherdlaw24_CostSums.j0 k a4 true bt165.1 bt165.2.1 bt165.2.2) else (if bt160.2.1 = (wrap64 (bt157.2.1 * (wrap64 ((wrap64 (Int.tmod (IntKind.u64.wrap (a3)) 7)) + 1)))) then ((cost_Call.f k a0_0 a0_1 a0_2 a0_3 a0_4 12 (⟨#[]⟩ : ByteArray) (⟨#[]⟩ : ByteArray) 0 0 0 ([] : List Int) (wrap64 (Int.tmod (IntKind.u64.wrap (a3)) 7))).bind fun bt172 => ((cost_Within.f bt165.1 bt165.2.1 bt165.2.2 bt172.1 bt172.2.1 bt172.2.2).bind fun t175 => (if t175 = true then ((cost_Within.f t145 t146 t147 bt151.1 bt151.2.1 bt151.2.2).bind fun t176 => (potsherdlaw24_CostSums.j0 k a4 (!t176) bt165.1 bt165.2.1 bt165.2.2)) else (potsherdlaw24_CostSums.j0 k a4 true bt165.1 bt165.2.1 bt165.2.2)))) else (potsherdlaw24_CostSums.j0 k a4 true bt165.1 bt165.2.1 bt165.2.2))))))))) = some true := H
    have A8 := Aside0.mk A80
    clear A80
    replace H := Option.bind_eq_some_iff.mp H
    obtain ⟨⟨t148, t149, t150⟩, A90, H⟩ := H
    replace H : ((cost_Price.f k a0_0 a0_1 a0_2 a0_3 a0_4 (wrap64 ((wrap64 (Int.tmod (IntKind.u64.wrap (a1)) 10)) + (wrap64 (Int.tmod (IntKind.u64.wrap (a2)) 10)))) (wrap64 (Int.tmod (IntKind.u64.wrap (a3)) 7))).bind fun bt151 => ((cost_Price.f k a0_0 a0_1 a0_2 a0_3 a0_4 (wrap64 (Int.tmod (IntKind.u64.wrap (a1)) 10)) 0).bind fun bt157 => ((cost_Price.f k a0_0 a0_1 a0_2 a0_3 a0_4 (wrap64 (Int.tmod (IntKind.u64.wrap (a1)) 10)) (wrap64 (Int.tmod (IntKind.u64.wrap (a3)) 7))).bind fun bt160 => ((cost_Call.f k a0_0 a0_1 a0_2 a0_3 a0_4 a4 (⟨#[]⟩ : ByteArray) (⟨#[]⟩ : ByteArray) 0 0 0 ([] : List Int) (wrap64 (Int.tmod (IntKind.u64.wrap (a3)) 7))).bind fun bt165 => ((cost_Less.f bt151.1 bt151.2.1 bt151.2.2 t145 t146 t147).bind fun bt169 => (if (!(bt169.1 == t148) || (!(bt169.2.1 == t149) || (!(bt169.2.2 == t150)))) = true then (potsherdlaw24_CostSums.j0 k a4 true bt165.1 bt165.2.1 bt165.2.2) else (if bt160.2.1 = (wrap64 (bt157.2.1 * (wrap64 ((wrap64 (Int.tmod (IntKind.u64.wrap (a3)) 7)) + 1)))) then ((cost_Call.f k a0_0 a0_1 a0_2 a0_3 a0_4 12 (⟨#[]⟩ : ByteArray) (⟨#[]⟩ : ByteArray) 0 0 0 ([] : List Int) (wrap64 (Int.tmod (IntKind.u64.wrap (a3)) 7))).bind fun bt172 => ((cost_Within.f bt165.1 bt165.2.1 bt165.2.2 bt172.1 bt172.2.1 bt172.2.2).bind fun t175 => (if t175 = true then ((cost_Within.f t145 t146 t147 bt151.1 bt151.2.1 bt151.2.2).bind fun t176 => (potsherdlaw24_CostSums.j0 k a4 (!t176) bt165.1 bt165.2.1 bt165.2.2)) else (potsherdlaw24_CostSums.j0 k a4 true bt165.1 bt165.2.1 bt165.2.2)))) else (potsherdlaw24_CostSums.j0 k a4 true bt165.1 bt165.2.1 bt165.2.2)))))))) = some true := H
    have A9 := Aside0.mk A90
    clear A90
    replace H := Option.bind_eq_some_iff.mp H
    obtain ⟨⟨t151, t152, t153⟩, A100, H⟩ := H
    replace H : ((cost_Price.f k a0_0 a0_1 a0_2 a0_3 a0_4 (wrap64 (Int.tmod (IntKind.u64.wrap (a1)) 10)) 0).bind fun bt157 => ((cost_Price.f k a0_0 a0_1 a0_2 a0_3 a0_4 (wrap64 (Int.tmod (IntKind.u64.wrap (a1)) 10)) (wrap64 (Int.tmod (IntKind.u64.wrap (a3)) 7))).bind fun bt160 => ((cost_Call.f k a0_0 a0_1 a0_2 a0_3 a0_4 a4 (⟨#[]⟩ : ByteArray) (⟨#[]⟩ : ByteArray) 0 0 0 ([] : List Int) (wrap64 (Int.tmod (IntKind.u64.wrap (a3)) 7))).bind fun bt165 => ((cost_Less.f t151 t152 t153 t145 t146 t147).bind fun bt169 => (if (!(bt169.1 == t148) || (!(bt169.2.1 == t149) || (!(bt169.2.2 == t150)))) = true then (potsherdlaw24_CostSums.j0 k a4 true bt165.1 bt165.2.1 bt165.2.2) else (if bt160.2.1 = (wrap64 (bt157.2.1 * (wrap64 ((wrap64 (Int.tmod (IntKind.u64.wrap (a3)) 7)) + 1)))) then ((cost_Call.f k a0_0 a0_1 a0_2 a0_3 a0_4 12 (⟨#[]⟩ : ByteArray) (⟨#[]⟩ : ByteArray) 0 0 0 ([] : List Int) (wrap64 (Int.tmod (IntKind.u64.wrap (a3)) 7))).bind fun bt172 => ((cost_Within.f bt165.1 bt165.2.1 bt165.2.2 bt172.1 bt172.2.1 bt172.2.2).bind fun t175 => (if t175 = true then ((cost_Within.f t145 t146 t147 t151 t152 t153).bind fun t176 => (potsherdlaw24_CostSums.j0 k a4 (!t176) bt165.1 bt165.2.1 bt165.2.2)) else (potsherdlaw24_CostSums.j0 k a4 true bt165.1 bt165.2.1 bt165.2.2)))) else (potsherdlaw24_CostSums.j0 k a4 true bt165.1 bt165.2.1 bt165.2.2))))))) = some true := H
    have A10 := Aside0.mk A100
    clear A100
    replace H := Option.bind_eq_some_iff.mp H
    obtain ⟨⟨t157, t158, t159⟩, A110, H⟩ := H
    replace H : ((cost_Price.f k a0_0 a0_1 a0_2 a0_3 a0_4 (wrap64 (Int.tmod (IntKind.u64.wrap (a1)) 10)) (wrap64 (Int.tmod (IntKind.u64.wrap (a3)) 7))).bind fun bt160 => ((cost_Call.f k a0_0 a0_1 a0_2 a0_3 a0_4 a4 (⟨#[]⟩ : ByteArray) (⟨#[]⟩ : ByteArray) 0 0 0 ([] : List Int) (wrap64 (Int.tmod (IntKind.u64.wrap (a3)) 7))).bind fun bt165 => ((cost_Less.f t151 t152 t153 t145 t146 t147).bind fun bt169 => (if (!(bt169.1 == t148) || (!(bt169.2.1 == t149) || (!(bt169.2.2 == t150)))) = true then (potsherdlaw24_CostSums.j0 k a4 true bt165.1 bt165.2.1 bt165.2.2) else (if bt160.2.1 = (wrap64 (t158 * (wrap64 ((wrap64 (Int.tmod (IntKind.u64.wrap (a3)) 7)) + 1)))) then ((cost_Call.f k a0_0 a0_1 a0_2 a0_3 a0_4 12 (⟨#[]⟩ : ByteArray) (⟨#[]⟩ : ByteArray) 0 0 0 ([] : List Int) (wrap64 (Int.tmod (IntKind.u64.wrap (a3)) 7))).bind fun bt172 => ((cost_Within.f bt165.1 bt165.2.1 bt165.2.2 bt172.1 bt172.2.1 bt172.2.2).bind fun t175 => (if t175 = true then ((cost_Within.f t145 t146 t147 t151 t152 t153).bind fun t176 => (potsherdlaw24_CostSums.j0 k a4 (!t176) bt165.1 bt165.2.1 bt165.2.2)) else (potsherdlaw24_CostSums.j0 k a4 true bt165.1 bt165.2.1 bt165.2.2)))) else (potsherdlaw24_CostSums.j0 k a4 true bt165.1 bt165.2.1 bt165.2.2)))))) = some true := H
    have A11 := Aside0.mk A110
    clear A110
    replace H := Option.bind_eq_some_iff.mp H
    obtain ⟨⟨t160, t161, t162⟩, A120, H⟩ := H
    replace H : ((cost_Call.f k a0_0 a0_1 a0_2 a0_3 a0_4 a4 (⟨#[]⟩ : ByteArray) (⟨#[]⟩ : ByteArray) 0 0 0 ([] : List Int) (wrap64 (Int.tmod (IntKind.u64.wrap (a3)) 7))).bind fun bt165 => ((cost_Less.f t151 t152 t153 t145 t146 t147).bind fun bt169 => (if (!(bt169.1 == t148) || (!(bt169.2.1 == t149) || (!(bt169.2.2 == t150)))) = true then (potsherdlaw24_CostSums.j0 k a4 true bt165.1 bt165.2.1 bt165.2.2) else (if t161 = (wrap64 (t158 * (wrap64 ((wrap64 (Int.tmod (IntKind.u64.wrap (a3)) 7)) + 1)))) then ((cost_Call.f k a0_0 a0_1 a0_2 a0_3 a0_4 12 (⟨#[]⟩ : ByteArray) (⟨#[]⟩ : ByteArray) 0 0 0 ([] : List Int) (wrap64 (Int.tmod (IntKind.u64.wrap (a3)) 7))).bind fun bt172 => ((cost_Within.f bt165.1 bt165.2.1 bt165.2.2 bt172.1 bt172.2.1 bt172.2.2).bind fun t175 => (if t175 = true then ((cost_Within.f t145 t146 t147 t151 t152 t153).bind fun t176 => (potsherdlaw24_CostSums.j0 k a4 (!t176) bt165.1 bt165.2.1 bt165.2.2)) else (potsherdlaw24_CostSums.j0 k a4 true bt165.1 bt165.2.1 bt165.2.2)))) else (potsherdlaw24_CostSums.j0 k a4 true bt165.1 bt165.2.1 bt165.2.2))))) = some true := H
    have A12 := Aside0.mk A120
    clear A120
    replace H := Option.bind_eq_some_iff.mp H
    obtain ⟨⟨t165, t166, t167⟩, A130, H⟩ := H
    replace H : ((cost_Less.f t151 t152 t153 t145 t146 t147).bind fun bt169 => (if (!(bt169.1 == t148) || (!(bt169.2.1 == t149) || (!(bt169.2.2 == t150)))) = true then (potsherdlaw24_CostSums.j0 k a4 true t165 t166 t167) else (if t161 = (wrap64 (t158 * (wrap64 ((wrap64 (Int.tmod (IntKind.u64.wrap (a3)) 7)) + 1)))) then ((cost_Call.f k a0_0 a0_1 a0_2 a0_3 a0_4 12 (⟨#[]⟩ : ByteArray) (⟨#[]⟩ : ByteArray) 0 0 0 ([] : List Int) (wrap64 (Int.tmod (IntKind.u64.wrap (a3)) 7))).bind fun bt172 => ((cost_Within.f t165 t166 t167 bt172.1 bt172.2.1 bt172.2.2).bind fun t175 => (if t175 = true then ((cost_Within.f t145 t146 t147 t151 t152 t153).bind fun t176 => (potsherdlaw24_CostSums.j0 k a4 (!t176) t165 t166 t167)) else (potsherdlaw24_CostSums.j0 k a4 true t165 t166 t167)))) else (potsherdlaw24_CostSums.j0 k a4 true t165 t166 t167)))) = some true := H
    have A13 := Aside0.mk A130
    clear A130
    have HC14 := Aside0.mk H
    clear H
    go_enter Try.func5, Try.ntmps5
    try go_wp2_with (first | ((with_reducible refine gate_dst (N := 5) rfl ?_); refine box_event ?hg (N := 5) ?hd (cs := #[.int .i64 a0_0, .int .i64 a0_1, .int .i64 a0_2, .int .i64 a0_3, .int .i64 a0_4]) (t := 23) ?hr ?_; (case hd => rfl); (case hg => rfl); (case hr => first | (go_simp; done) | (go_simp; rfl)); intro gb139 hg w15 hbox hb; have n0_ := Aside0.mk (below_step (by repeat (first | (with_reducible first | exact HB.out | apply below_alloc | apply pw_below_drewN | apply below_drew1) | exact HB.out)) hb); have n1_ := Aside0.mk (hbox); have n2_ := Aside0.mk ((by rw [hg]; exact (below_size (by repeat (first | (with_reducible first | exact HB.out | apply below_alloc | apply pw_below_drewN | apply below_drew1) | exact HB.out))) : w.heap.size ≤ gb139)); have n3_ := Aside0.mk ((by rw [hg]; exact (below_size (by repeat (first | (with_reducible first | exact HB.out | apply below_alloc | apply pw_below_drewN | apply below_drew1) | exact HB.out))) : w.heap.size ≤ gb139)); clear HB; have HB := n0_; have BK139 := n1_; have GW139 := n2_; have GE139 := n3_; clear n0_ n1_ n2_ n3_; clear hb hbox hg; have hcz16_0 : w15.cell? ⟨gb139, 0, none⟩ = some (.int .i64 a0_0) := (blk_cell BK139.out 0).trans rfl; have hcz16_1 : w15.cell? ⟨gb139, 1, none⟩ = some (.int .i64 a0_1) := (blk_cell BK139.out 1).trans rfl; have hcz16_2 : w15.cell? ⟨gb139, 2, none⟩ = some (.int .i64 a0_2) := (blk_cell BK139.out 2).trans rfl; have hcz16_3 : w15.cell? ⟨gb139, 3, none⟩ = some (.int .i64 a0_3) := (blk_cell BK139.out 3).trans rfl; have hcz16_4 : w15.cell? ⟨gb139, 4, none⟩ = some (.int .i64 a0_4) := (blk_cell BK139.out 4).trans rfl; have hfz16_0 := blk_frozen BK139.out 0; have hfz16_1 := blk_frozen BK139.out 1; have hfz16_2 := blk_frozen BK139.out 2; have hfz16_3 := blk_frozen BK139.out 3; have hfz16_4 := blk_frozen BK139.out 4) | ((with_reducible refine gate_callee (f := 11) rfl ?_); refine goesL_ (some 19) rfl rfl Try.func11 (by kernel_rfl) rfl #[.agg #[.int .i64 a0_0, .int .i64 a0_1, .int .i64 a0_2, .int .i64 a0_3, .int .i64 a0_4]] rfl (by (try simp only [List.map_toArray, List.map_cons, List.map_nil]); first | done | rfl | (simp only [List.length_drop, List.length_take]; rfl)) ?_; (with_reducible refine (potsherdref3_MayPlan.calls a0_0 a0_1 a0_2 a0_3 a0_4 true _ A6.out).mono ?_); rintro e w17 ⟨rfl, hb⟩; refine ⟨_, rfl, ?_⟩; have n0_ := Aside0.mk (blk_below (g := gb139) (o := .cells #[.int .i64 a0_0, .int .i64 a0_1, .int .i64 a0_2, .int .i64 a0_3, .int .i64 a0_4] 23 (0, 0)) (by (with_reducible repeat (first | refine blk_drewN ?_ _ | refine blk_drew ?_ | refine blk_alloc ?_ _)); exact BK139.out) hb); have n1_ := Aside0.mk (below_step (by repeat (first | (with_reducible first | exact HB.out | apply below_alloc | apply pw_below_drewN | apply below_drew1 | refine below_set ?_ GE139.out) | exact HB.out)) hb); clear BK139; clear HB; have BK139 := n0_; have HB := n1_; clear n0_ n1_; (try clear hb); (try clear hb2); (try clear hk); (try clear hi)))
    have n0_ := Aside0.mk (blk_drew BK139.out)
    have n1_ := Aside0.mk (below_drew1 HB.out)
    clear BK139
    clear HB
    have BK139 := n0_
    have HB := n1_
    clear n0_ n1_
    refine start_ (n := 20) (S := fun w' => True) (ds := []) #[false, false, false, false, false, false, false, false, false, false, false, false, false, false, false, false, false, false, false, false] (by kernel_rfl) rfl rfl trivial (fun hHeld => ?_); refine with_tabW potsherdlaw24_CostSums.tab4 potsherdlaw24_CostSums.bits4 (fun HT_ HW_ => ?_)
    generalize w17.drew = w18 at BK139 HB hHeld ⊢
    refine pure_ (i := 1) (N := some 41) (v := ?_) (a' := ?_) #[false, true, false, false, false, false, false, false, false, false, false, false, false, false, false, false, false, false, false, false] rfl rfl (any_of HT_.out (by kernel_rfl)) (fun _ _ _ h => h) (Or.inl ⟨by rfl, ?_⟩) ?_ ?_
    rotate_left
    · intro w'
      go_simp
      with_reducible rfl
    rotate_left
    · simp only [Act.put, List.setIfInBounds_toArray, List.set_cons_zero, List.set_cons_succ, i64_w, i32_w]
      rfl
    refine pure_ (i := 2) (N := some 42) (v := ?_) (a' := ?_) #[false, true, true, false, false, false, false, false, false, false, false, false, false, false, false, false, false, false, false, false] rfl rfl (any_of HT_.out (by kernel_rfl)) (fun _ _ _ h => h) (Or.inl ⟨by rfl, ?_⟩) ?_ ?_
    rotate_left
    · intro w'
      go_simp
      with_reducible rfl
    rotate_left
    · simp only [Act.put, List.setIfInBounds_toArray, List.set_cons_zero, List.set_cons_succ, i64_w, i32_w]
      rfl
    refine pure_ (i := 5) (N := some 45) (v := ?_) (a' := ?_) #[false, true, true, false, false, true, false, false, false, false, false, false, false, false, false, false, false, false, false, false] rfl rfl (any_of HT_.out (by kernel_rfl)) (fun _ _ _ h => h) (Or.inl ⟨by rfl, ?_⟩) ?_ ?_
    rotate_left
    · intro w'
      go_simp
      with_reducible rfl
    rotate_left
    · simp only [Act.put, List.setIfInBounds_toArray, List.set_cons_zero, List.set_cons_succ, i64_w, i32_w]
      rfl
    refine pure_ (i := 6) (N := some 46) (v := ?_) (a' := ?_) #[false, true, true, false, false, true, true, false, false, false, false, false, false, false, false, false, false, false, false, false] rfl rfl (any_of HT_.out (by kernel_rfl)) (fun _ _ _ h => h) (Or.inl ⟨by rfl, ?_⟩) ?_ ?_
    rotate_left
    · intro w'
      go_simp
      with_reducible rfl
    rotate_left
    · simp only [Act.put, List.setIfInBounds_toArray, List.set_cons_zero, List.set_cons_succ, i64_w, i32_w]
      rfl
    refine pure_ (i := 9) (N := some 49) (v := ?_) (a' := ?_) #[false, true, true, false, false, true, true, false, false, true, false, false, false, false, false, false, false, false, false, false] rfl rfl (any_of HT_.out (by kernel_rfl)) (fun _ _ _ h => h) (Or.inl ⟨by rfl, ?_⟩) ?_ ?_
    rotate_left
    · intro w'
      go_simp
      with_reducible rfl
    rotate_left
    · simp only [Act.put, List.setIfInBounds_toArray, List.set_cons_zero, List.set_cons_succ, i64_w, i32_w]
      rfl
    refine pure_ (i := 10) (N := some 50) (v := ?_) (a' := ?_) #[false, true, true, false, false, true, true, false, false, true, true, false, false, false, false, false, false, false, false, false] rfl rfl (any_of HT_.out (by kernel_rfl)) (fun _ _ _ h => h) (Or.inl ⟨by rfl, ?_⟩) ?_ ?_
    rotate_left
    · intro w'
      go_simp
      with_reducible rfl
    rotate_left
    · simp only [Act.put, List.setIfInBounds_toArray, List.set_cons_zero, List.set_cons_succ, i64_w, i32_w]
      rfl
    refine pure_ (i := 12) (N := some 52) (v := ?_) (a' := ?_) #[false, true, true, false, false, true, true, false, false, true, true, false, true, false, false, false, false, false, false, false] rfl rfl (any_of HT_.out (by kernel_rfl)) (fun _ _ _ h => h) (Or.inl ⟨by rfl, ?_⟩) ?_ ?_
    rotate_left
    · intro w'
      go_simp
      with_reducible rfl
    rotate_left
    · simp only [Act.put, List.setIfInBounds_toArray, List.set_cons_zero, List.set_cons_succ, i64_w, i32_w]
      rfl
    refine inv_at [0, 3, 4, 7, 8, 11, 13, 14, 15, 16, 17, 18, 19] (fun a0_ b a w' => ∃ (gb154 : Nat) (gb155 : Nat) (gb156 : Nat) (m14_ : Value) (m15_ : Value) (m16_ : Value), a = putSel a0_ b [(0, 40, .agg #[.int .i64 a0_0, .int .i64 a0_1, .int .i64 a0_2, .int .i64 a0_3, .int .i64 a0_4]), (3, 43, .agg #[.int .i64 t145, .int .i64 t146, .int .i64 t147]), (4, 44, .agg #[.int .i64 a0_0, .int .i64 a0_1, .int .i64 a0_2, .int .i64 a0_3, .int .i64 a0_4]), (7, 47, .agg #[.int .i64 t148, .int .i64 t149, .int .i64 t150]), (8, 48, .agg #[.int .i64 a0_0, .int .i64 a0_1, .int .i64 a0_2, .int .i64 a0_3, .int .i64 a0_4]), (11, 51, .int .i64 (wrap64 ((wrap64 (Int.tmod (IntKind.u64.wrap (a1)) 10)) + (wrap64 (Int.tmod (IntKind.u64.wrap (a2)) 10))))), (13, 53, .agg #[.int .i64 t151, .int .i64 t152, .int .i64 t153]), (14, 11, m14_), (15, 12, m15_), (16, 13, m16_)] ∧ (w'.heap[gb139]? = some (.cells #[.int .i64 a0_0, .int .i64 a0_1, .int .i64 a0_2, .int .i64 a0_3, .int .i64 a0_4] 23 (0, 0))) ∧ (Below w.heap.size w w') ∧ (b 14 = true → b 15 = true → gb155 ≠ gb154) ∧ (b 14 = true → b 15 = true → gb154 ≠ gb155) ∧ (b 14 = true → b 16 = true → gb156 ≠ gb154) ∧ (b 14 = true → b 16 = true → gb154 ≠ gb156) ∧ (b 15 = true → b 16 = true → gb156 ≠ gb155) ∧ (b 15 = true → b 16 = true → gb155 ≠ gb156) ∧ (b 14 = true → b 17 = false → w'.heap[gb154]? = some (.cells #[.int .i64 0, .int .i64 0, .int .i64 0] 32 (0, 0))) ∧ (b 14 = true → w.heap.size ≤ gb154) ∧ (b 14 = true → w.heap.size ≤ gb154) ∧ (b 14 = true → gb139 ≠ gb154) ∧ (b 14 = true → gb154 ≠ gb139) ∧ (b 15 = true → b 18 = false → w'.heap[gb155]? = some (.cells #[.int .i64 0, .int .i64 0, .int .i64 0] 32 (0, 0))) ∧ (b 15 = true → w.heap.size ≤ gb155) ∧ (b 15 = true → w.heap.size ≤ gb155) ∧ (b 15 = true → gb139 ≠ gb155) ∧ (b 15 = true → gb155 ≠ gb139) ∧ (b 16 = true → b 19 = false → w'.heap[gb156]? = some (.cells #[.int .i64 0, .int .i64 0, .int .i64 0] 32 (0, 0))) ∧ (b 16 = true → w.heap.size ≤ gb156) ∧ (b 16 = true → w.heap.size ≤ gb156) ∧ (b 16 = true → gb139 ≠ gb156) ∧ (b 16 = true → gb156 ≠ gb139) ∧ (b 17 = true → w'.heap[gb154]? = some (.cells #[.int .i64 t145, .int .i64 t146, .int .i64 t147] 32 (0, 0))) ∧ (b 18 = true → w'.heap[gb155]? = some (.cells #[.int .i64 t148, .int .i64 t149, .int .i64 t150] 32 (0, 0))) ∧ (b 19 = true → w'.heap[gb156]? = some (.cells #[.int .i64 t151, .int .i64 t152, .int .i64 t153] 32 (0, 0))) ∧ (b 14 = true → (m14_ : Value) = .pointer (some ⟨gb154, 0, none⟩)) ∧ (b 15 = true → (m15_ : Value) = .pointer (some ⟨gb155, 0, none⟩)) ∧ (b 16 = true → (m16_ : Value) = .pointer (some ⟨gb156, 0, none⟩))) HT_.out HW_.out (by kernel_rfl) (by kernel_rfl) ?_ ?_ ?_
    · exact ⟨0, 0, 0, .bool false, .bool false, .bool false, by simp only [putSel, Bool.false_eq_true, if_false], BK139.out, HB.out, fun h_ => absurd h_ (by decide), fun h_ => absurd h_ (by decide), fun h_ => absurd h_ (by decide), fun h_ => absurd h_ (by decide), fun h_ => absurd h_ (by decide), fun h_ => absurd h_ (by decide), fun h_ => absurd h_ (by decide), fun h_ => absurd h_ (by decide), fun h_ => absurd h_ (by decide), fun h_ => absurd h_ (by decide), fun h_ => absurd h_ (by decide), fun h_ => absurd h_ (by decide), fun h_ => absurd h_ (by decide), fun h_ => absurd h_ (by decide), fun h_ => absurd h_ (by decide), fun h_ => absurd h_ (by decide), fun h_ => absurd h_ (by decide), fun h_ => absurd h_ (by decide), fun h_ => absurd h_ (by decide), fun h_ => absurd h_ (by decide), fun h_ => absurd h_ (by decide), fun h_ => absurd h_ (by decide), fun h_ => absurd h_ (by decide), fun h_ => absurd h_ (by decide), fun h_ => absurd h_ (by decide), fun h_ => absurd h_ (by decide), fun h_ => absurd h_ (by decide)⟩
    · skip
      clear BK139 HB
      refine steps_cons ?_ ?_
      · rintro b a w' ⟨gb154, gb155, gb156, m14_, m15_, m16_, ha, Q_BK139, Q_HB, Q_NB155_154, Q_NB154_155, Q_NB156_154, Q_NB154_156, Q_NB156_155, Q_NB155_156, Q_BK154, Q_GW154, Q_GE154, Q_NB139_154, Q_NB154_139, Q_BK155, Q_GW155, Q_GE155, Q_NB139_155, Q_NB155_139, Q_BK156, Q_GW156, Q_GE156, Q_NB139_156, Q_NB156_139, Q_BK154_e17, Q_BK155_e18, Q_BK156_e19, Q_X14_, Q_X15_, Q_X16_⟩ hb_ hon hoff
        refine ⟨_, rfl, fun K hK => ?_⟩
        have e5 : a.tmps[5]? = some (.pointer (some ⟨gb139, 0, none⟩)) := by rw [ha]; exact (putSel_off rfl).trans rfl
        replace ha := Aside0.mk ha
        have BK139 := Aside0.mk Q_BK139
        have HB := Aside0.mk Q_HB
        have hc0_ : w'.cell? ⟨gb139, 0, none⟩ = some (.int .i64 a0_0) := (blk_cell BK139.out 0).trans rfl
        have hc1_ : w'.cell? ⟨gb139, 1, none⟩ = some (.int .i64 a0_1) := (blk_cell BK139.out 1).trans rfl
        have hc2_ : w'.cell? ⟨gb139, 2, none⟩ = some (.int .i64 a0_2) := (blk_cell BK139.out 2).trans rfl
        have hc3_ : w'.cell? ⟨gb139, 3, none⟩ = some (.int .i64 a0_3) := (blk_cell BK139.out 3).trans rfl
        have hc4_ : w'.cell? ⟨gb139, 4, none⟩ = some (.int .i64 a0_4) := (blk_cell BK139.out 4).trans rfl
        refine value_ (w1 := w') (v := .agg #[.int .i64 a0_0, .int .i64 a0_1, .int .i64 a0_2, .int .i64 a0_3, .int .i64 a0_4]) (by rfl) rfl ?_ ?_
        · go_simp
          (try simp only [i64_w])
          try rfl
        refine hK.out _ _ ⟨gb154, gb155, gb156, m14_, m15_, m16_, (by rw [ha.out]; exact putSel_upk 0 hb_ rfl rfl rfl), Q_BK139, Q_HB, Q_NB155_154, Q_NB154_155, Q_NB156_154, Q_NB154_156, Q_NB156_155, Q_NB155_156, Q_BK154, Q_GW154, Q_GE154, Q_NB139_154, Q_NB154_139, Q_BK155, Q_GW155, Q_GE155, Q_NB139_155, Q_NB155_139, Q_BK156, Q_GW156, Q_GE156, Q_NB139_156, Q_NB156_139, fun h0_ => absurd ((hoff 17 (by kernel_rfl)).symm.trans h0_) (by decide), fun h0_ => absurd ((hoff 18 (by kernel_rfl)).symm.trans h0_) (by decide), fun h0_ => absurd ((hoff 19 (by kernel_rfl)).symm.trans h0_) (by decide), Q_X14_, Q_X15_, Q_X16_⟩
      refine steps_cons ?_ ?_
      · rintro b a w' ⟨gb154, gb155, gb156, m14_, m15_, m16_, ha, Q_BK139, Q_HB, Q_NB155_154, Q_NB154_155, Q_NB156_154, Q_NB154_156, Q_NB156_155, Q_NB155_156, Q_BK154, Q_GW154, Q_GE154, Q_NB139_154, Q_NB154_139, Q_BK155, Q_GW155, Q_GE155, Q_NB139_155, Q_NB155_139, Q_BK156, Q_GW156, Q_GE156, Q_NB139_156, Q_NB156_139, Q_BK154_e17, Q_BK155_e18, Q_BK156_e19, Q_X14_, Q_X15_, Q_X16_⟩ hb_ hon hoff
        refine ⟨_, rfl, fun K hK => ?_⟩
        have e40 : a.tmps[40]? = some (.agg #[.int .i64 a0_0, .int .i64 a0_1, .int .i64 a0_2, .int .i64 a0_3, .int .i64 a0_4]) := by rw [ha]; exact putSel_on (e := (0, 40, .agg #[.int .i64 a0_0, .int .i64 a0_1, .int .i64 a0_2, .int .i64 a0_3, .int .i64 a0_4])) 0 rfl rfl (hon 0 (by kernel_rfl)) rfl
        have e41 : a.tmps[41]? = some (.int .i64 (wrap64 (Int.tmod (IntKind.u64.wrap (a1)) 10))) := by rw [ha]; exact (putSel_off rfl).trans rfl
        have e42 : a.tmps[42]? = some (.int .i64 (wrap64 (Int.tmod (IntKind.u64.wrap (a3)) 7))) := by rw [ha]; exact (putSel_off rfl).trans rfl
        replace ha := Aside0.mk ha
        have BK139 := Aside0.mk Q_BK139
        have HB := Aside0.mk Q_HB
        refine goes_ Try.func14 (by kernel_rfl) rfl #[.agg #[.int .i64 a0_0, .int .i64 a0_1, .int .i64 a0_2, .int .i64 a0_3, .int .i64 a0_4], .int .i64 (wrap64 (Int.tmod (IntKind.u64.wrap (a1)) 10)), .int .i64 (wrap64 (Int.tmod (IntKind.u64.wrap (a3)) 7))] (by rfl) rfl rfl (by first | (simp only [List.map_toArray, List.map_cons, List.map_nil, Act.eval, Array.getD_eq_getD_getElem?, Option.getD_some, e40, e41, e42]; done) | (simp only [List.map_toArray, List.map_cons, List.map_nil, Act.eval, Array.getD_eq_getD_getElem?, Option.getD_some, e40, e41, e42]; rfl)) ?_
        with_reducible refine (cost_Price.calls k a0_0 a0_1 a0_2 a0_3 a0_4 (wrap64 (Int.tmod (IntKind.u64.wrap (a1)) 10)) (wrap64 (Int.tmod (IntKind.u64.wrap (a3)) 7)) t145 t146 t147 _ A8.out).mono ?_
        rintro e w19 ⟨rfl, hb⟩
        refine ⟨_, rfl, ?_⟩
        have n0_ := Aside0.mk (blk_below (g := gb139) (o := .cells #[.int .i64 a0_0, .int .i64 a0_1, .int .i64 a0_2, .int .i64 a0_3, .int .i64 a0_4] 23 (0, 0)) (by (with_reducible repeat (first | refine blk_drewN ?_ _ | refine blk_drew ?_ | refine blk_alloc ?_ _)); exact BK139.out) hb)
        have n1_ := Aside0.mk (below_step (by repeat (first | (with_reducible first | exact HB.out | apply below_alloc | apply pw_below_drewN | apply below_drew1 | refine below_set ?_ GE139.out) | exact HB.out)) hb)
        have z_BK154 := fun (h0_ : b 14 = true) (h1_ : b 17 = false) => (show w19.heap[gb154]? = some (.cells #[.int .i64 0, .int .i64 0, .int .i64 0] 32 (0, 0)) from by first | exact (blk_below (g := gb154) (o := .cells #[.int .i64 0, .int .i64 0, .int .i64 0] 32 (0, 0)) (by (with_reducible repeat (first | refine blk_drewN ?_ _ | refine blk_drew ?_ | refine blk_alloc ?_ _)); exact (Q_BK154 h0_ h1_)) hb))
        have z_BK155 := fun (h0_ : b 15 = true) (h1_ : b 18 = false) => (show w19.heap[gb155]? = some (.cells #[.int .i64 0, .int .i64 0, .int .i64 0] 32 (0, 0)) from by first | exact (blk_below (g := gb155) (o := .cells #[.int .i64 0, .int .i64 0, .int .i64 0] 32 (0, 0)) (by (with_reducible repeat (first | refine blk_drewN ?_ _ | refine blk_drew ?_ | refine blk_alloc ?_ _)); exact (Q_BK155 h0_ h1_)) hb))
        have z_BK156 := fun (h0_ : b 16 = true) (h1_ : b 19 = false) => (show w19.heap[gb156]? = some (.cells #[.int .i64 0, .int .i64 0, .int .i64 0] 32 (0, 0)) from by first | exact (blk_below (g := gb156) (o := .cells #[.int .i64 0, .int .i64 0, .int .i64 0] 32 (0, 0)) (by (with_reducible repeat (first | refine blk_drewN ?_ _ | refine blk_drew ?_ | refine blk_alloc ?_ _)); exact (Q_BK156 h0_ h1_)) hb))
        clear BK139
        clear HB
        have BK139 := n0_
        have HB := n1_
        clear n0_ n1_
        (try clear hb)
        (try clear hb2)
        (try clear hk)
        (try clear hi)
        refine hK.out _ _ ⟨gb154, gb155, gb156, m14_, m15_, m16_, (by rw [ha.out]; exact putSel_upk 1 hb_ rfl rfl rfl), (by (with_reducible repeat (first | refine blk_drewN ?_ _ | refine blk_drew ?_ | refine blk_alloc ?_ _)); exact BK139.out), (by repeat (first | (with_reducible first | exact HB.out | apply below_alloc | apply pw_below_drewN | apply below_drew1 | refine below_set ?_ GE139.out) | exact HB.out)), Q_NB155_154, Q_NB154_155, Q_NB156_154, Q_NB154_156, Q_NB156_155, Q_NB155_156, z_BK154, Q_GW154, Q_GE154, Q_NB139_154, Q_NB154_139, z_BK155, Q_GW155, Q_GE155, Q_NB139_155, Q_NB155_139, z_BK156, Q_GW156, Q_GE156, Q_NB139_156, Q_NB156_139, fun h0_ => absurd ((hoff 17 (by kernel_rfl)).symm.trans h0_) (by decide), fun h0_ => absurd ((hoff 18 (by kernel_rfl)).symm.trans h0_) (by decide), fun h0_ => absurd ((hoff 19 (by kernel_rfl)).symm.trans h0_) (by decide), Q_X14_, Q_X15_, Q_X16_⟩
      refine steps_cons ?_ ?_
      · rintro b a w' ⟨gb154, gb155, gb156, m14_, m15_, m16_, ha, Q_BK139, Q_HB, Q_NB155_154, Q_NB154_155, Q_NB156_154, Q_NB154_156, Q_NB156_155, Q_NB155_156, Q_BK154, Q_GW154, Q_GE154, Q_NB139_154, Q_NB154_139, Q_BK155, Q_GW155, Q_GE155, Q_NB139_155, Q_NB155_139, Q_BK156, Q_GW156, Q_GE156, Q_NB139_156, Q_NB156_139, Q_BK154_e17, Q_BK155_e18, Q_BK156_e19, Q_X14_, Q_X15_, Q_X16_⟩ hb_ hon hoff
        refine ⟨_, rfl, fun K hK => ?_⟩
        have e5 : a.tmps[5]? = some (.pointer (some ⟨gb139, 0, none⟩)) := by rw [ha]; exact (putSel_off rfl).trans rfl
        replace ha := Aside0.mk ha
        have BK139 := Aside0.mk Q_BK139
        have HB := Aside0.mk Q_HB
        have hc0_ : w'.cell? ⟨gb139, 0, none⟩ = some (.int .i64 a0_0) := (blk_cell BK139.out 0).trans rfl
        have hc1_ : w'.cell? ⟨gb139, 1, none⟩ = some (.int .i64 a0_1) := (blk_cell BK139.out 1).trans rfl
        have hc2_ : w'.cell? ⟨gb139, 2, none⟩ = some (.int .i64 a0_2) := (blk_cell BK139.out 2).trans rfl
        have hc3_ : w'.cell? ⟨gb139, 3, none⟩ = some (.int .i64 a0_3) := (blk_cell BK139.out 3).trans rfl
        have hc4_ : w'.cell? ⟨gb139, 4, none⟩ = some (.int .i64 a0_4) := (blk_cell BK139.out 4).trans rfl
        refine value_ (w1 := w') (v := .agg #[.int .i64 a0_0, .int .i64 a0_1, .int .i64 a0_2, .int .i64 a0_3, .int .i64 a0_4]) (by rfl) rfl ?_ ?_
        · go_simp
          (try simp only [i64_w])
          try rfl
        refine hK.out _ _ ⟨gb154, gb155, gb156, m14_, m15_, m16_, (by rw [ha.out]; exact putSel_upk 2 hb_ rfl rfl rfl), Q_BK139, Q_HB, Q_NB155_154, Q_NB154_155, Q_NB156_154, Q_NB154_156, Q_NB156_155, Q_NB155_156, Q_BK154, Q_GW154, Q_GE154, Q_NB139_154, Q_NB154_139, Q_BK155, Q_GW155, Q_GE155, Q_NB139_155, Q_NB155_139, Q_BK156, Q_GW156, Q_GE156, Q_NB139_156, Q_NB156_139, fun h0_ => absurd ((hoff 17 (by kernel_rfl)).symm.trans h0_) (by decide), fun h0_ => absurd ((hoff 18 (by kernel_rfl)).symm.trans h0_) (by decide), fun h0_ => absurd ((hoff 19 (by kernel_rfl)).symm.trans h0_) (by decide), Q_X14_, Q_X15_, Q_X16_⟩
      refine steps_cons ?_ ?_
      · rintro b a w' ⟨gb154, gb155, gb156, m14_, m15_, m16_, ha, Q_BK139, Q_HB, Q_NB155_154, Q_NB154_155, Q_NB156_154, Q_NB154_156, Q_NB156_155, Q_NB155_156, Q_BK154, Q_GW154, Q_GE154, Q_NB139_154, Q_NB154_139, Q_BK155, Q_GW155, Q_GE155, Q_NB139_155, Q_NB155_139, Q_BK156, Q_GW156, Q_GE156, Q_NB139_156, Q_NB156_139, Q_BK154_e17, Q_BK155_e18, Q_BK156_e19, Q_X14_, Q_X15_, Q_X16_⟩ hb_ hon hoff
        refine ⟨_, rfl, fun K hK => ?_⟩
        have e44 : a.tmps[44]? = some (.agg #[.int .i64 a0_0, .int .i64 a0_1, .int .i64 a0_2, .int .i64 a0_3, .int .i64 a0_4]) := by rw [ha]; exact putSel_on (e := (4, 44, .agg #[.int .i64 a0_0, .int .i64 a0_1, .int .i64 a0_2, .int .i64 a0_3, .int .i64 a0_4])) 2 rfl rfl (hon 4 (by kernel_rfl)) rfl
        have e45 : a.tmps[45]? = some (.int .i64 (wrap64 (Int.tmod (IntKind.u64.wrap (a2)) 10))) := by rw [ha]; exact (putSel_off rfl).trans rfl
        have e46 : a.tmps[46]? = some (.int .i64 (wrap64 (Int.tmod (IntKind.u64.wrap (a3)) 7))) := by rw [ha]; exact (putSel_off rfl).trans rfl
        replace ha := Aside0.mk ha
        have BK139 := Aside0.mk Q_BK139
        have HB := Aside0.mk Q_HB
        refine goes_ Try.func14 (by kernel_rfl) rfl #[.agg #[.int .i64 a0_0, .int .i64 a0_1, .int .i64 a0_2, .int .i64 a0_3, .int .i64 a0_4], .int .i64 (wrap64 (Int.tmod (IntKind.u64.wrap (a2)) 10)), .int .i64 (wrap64 (Int.tmod (IntKind.u64.wrap (a3)) 7))] (by rfl) rfl rfl (by first | (simp only [List.map_toArray, List.map_cons, List.map_nil, Act.eval, Array.getD_eq_getD_getElem?, Option.getD_some, e44, e45, e46]; done) | (simp only [List.map_toArray, List.map_cons, List.map_nil, Act.eval, Array.getD_eq_getD_getElem?, Option.getD_some, e44, e45, e46]; rfl)) ?_
        with_reducible refine (cost_Price.calls k a0_0 a0_1 a0_2 a0_3 a0_4 (wrap64 (Int.tmod (IntKind.u64.wrap (a2)) 10)) (wrap64 (Int.tmod (IntKind.u64.wrap (a3)) 7)) t148 t149 t150 _ A9.out).mono ?_
        rintro e w21 ⟨rfl, hb⟩
        refine ⟨_, rfl, ?_⟩
        have n0_ := Aside0.mk (blk_below (g := gb139) (o := .cells #[.int .i64 a0_0, .int .i64 a0_1, .int .i64 a0_2, .int .i64 a0_3, .int .i64 a0_4] 23 (0, 0)) (by (with_reducible repeat (first | refine blk_drewN ?_ _ | refine blk_drew ?_ | refine blk_alloc ?_ _)); exact BK139.out) hb)
        have n1_ := Aside0.mk (below_step (by repeat (first | (with_reducible first | exact HB.out | apply below_alloc | apply pw_below_drewN | apply below_drew1 | refine below_set ?_ GE139.out) | exact HB.out)) hb)
        have z_BK154 := fun (h0_ : b 14 = true) (h1_ : b 17 = false) => (show w21.heap[gb154]? = some (.cells #[.int .i64 0, .int .i64 0, .int .i64 0] 32 (0, 0)) from by first | exact (blk_below (g := gb154) (o := .cells #[.int .i64 0, .int .i64 0, .int .i64 0] 32 (0, 0)) (by (with_reducible repeat (first | refine blk_drewN ?_ _ | refine blk_drew ?_ | refine blk_alloc ?_ _)); exact (Q_BK154 h0_ h1_)) hb))
        have z_BK155 := fun (h0_ : b 15 = true) (h1_ : b 18 = false) => (show w21.heap[gb155]? = some (.cells #[.int .i64 0, .int .i64 0, .int .i64 0] 32 (0, 0)) from by first | exact (blk_below (g := gb155) (o := .cells #[.int .i64 0, .int .i64 0, .int .i64 0] 32 (0, 0)) (by (with_reducible repeat (first | refine blk_drewN ?_ _ | refine blk_drew ?_ | refine blk_alloc ?_ _)); exact (Q_BK155 h0_ h1_)) hb))
        have z_BK156 := fun (h0_ : b 16 = true) (h1_ : b 19 = false) => (show w21.heap[gb156]? = some (.cells #[.int .i64 0, .int .i64 0, .int .i64 0] 32 (0, 0)) from by first | exact (blk_below (g := gb156) (o := .cells #[.int .i64 0, .int .i64 0, .int .i64 0] 32 (0, 0)) (by (with_reducible repeat (first | refine blk_drewN ?_ _ | refine blk_drew ?_ | refine blk_alloc ?_ _)); exact (Q_BK156 h0_ h1_)) hb))
        clear BK139
        clear HB
        have BK139 := n0_
        have HB := n1_
        clear n0_ n1_
        (try clear hb)
        (try clear hb2)
        (try clear hk)
        (try clear hi)
        refine hK.out _ _ ⟨gb154, gb155, gb156, m14_, m15_, m16_, (by rw [ha.out]; exact putSel_upk 3 hb_ rfl rfl rfl), (by (with_reducible repeat (first | refine blk_drewN ?_ _ | refine blk_drew ?_ | refine blk_alloc ?_ _)); exact BK139.out), (by repeat (first | (with_reducible first | exact HB.out | apply below_alloc | apply pw_below_drewN | apply below_drew1 | refine below_set ?_ GE139.out) | exact HB.out)), Q_NB155_154, Q_NB154_155, Q_NB156_154, Q_NB154_156, Q_NB156_155, Q_NB155_156, z_BK154, Q_GW154, Q_GE154, Q_NB139_154, Q_NB154_139, z_BK155, Q_GW155, Q_GE155, Q_NB139_155, Q_NB155_139, z_BK156, Q_GW156, Q_GE156, Q_NB139_156, Q_NB156_139, fun h0_ => absurd ((hoff 17 (by kernel_rfl)).symm.trans h0_) (by decide), fun h0_ => absurd ((hoff 18 (by kernel_rfl)).symm.trans h0_) (by decide), fun h0_ => absurd ((hoff 19 (by kernel_rfl)).symm.trans h0_) (by decide), Q_X14_, Q_X15_, Q_X16_⟩
      refine steps_cons ?_ ?_
      · rintro b a w' ⟨gb154, gb155, gb156, m14_, m15_, m16_, ha, Q_BK139, Q_HB, Q_NB155_154, Q_NB154_155, Q_NB156_154, Q_NB154_156, Q_NB156_155, Q_NB155_156, Q_BK154, Q_GW154, Q_GE154, Q_NB139_154, Q_NB154_139, Q_BK155, Q_GW155, Q_GE155, Q_NB139_155, Q_NB155_139, Q_BK156, Q_GW156, Q_GE156, Q_NB139_156, Q_NB156_139, Q_BK154_e17, Q_BK155_e18, Q_BK156_e19, Q_X14_, Q_X15_, Q_X16_⟩ hb_ hon hoff
        refine ⟨_, rfl, fun K hK => ?_⟩
        have e5 : a.tmps[5]? = some (.pointer (some ⟨gb139, 0, none⟩)) := by rw [ha]; exact (putSel_off rfl).trans rfl
        replace ha := Aside0.mk ha
        have BK139 := Aside0.mk Q_BK139
        have HB := Aside0.mk Q_HB
        have hc0_ : w'.cell? ⟨gb139, 0, none⟩ = some (.int .i64 a0_0) := (blk_cell BK139.out 0).trans rfl
        have hc1_ : w'.cell? ⟨gb139, 1, none⟩ = some (.int .i64 a0_1) := (blk_cell BK139.out 1).trans rfl
        have hc2_ : w'.cell? ⟨gb139, 2, none⟩ = some (.int .i64 a0_2) := (blk_cell BK139.out 2).trans rfl
        have hc3_ : w'.cell? ⟨gb139, 3, none⟩ = some (.int .i64 a0_3) := (blk_cell BK139.out 3).trans rfl
        have hc4_ : w'.cell? ⟨gb139, 4, none⟩ = some (.int .i64 a0_4) := (blk_cell BK139.out 4).trans rfl
        refine value_ (w1 := w') (v := .agg #[.int .i64 a0_0, .int .i64 a0_1, .int .i64 a0_2, .int .i64 a0_3, .int .i64 a0_4]) (by rfl) rfl ?_ ?_
        · go_simp
          (try simp only [i64_w])
          try rfl
        refine hK.out _ _ ⟨gb154, gb155, gb156, m14_, m15_, m16_, (by rw [ha.out]; exact putSel_upk 4 hb_ rfl rfl rfl), Q_BK139, Q_HB, Q_NB155_154, Q_NB154_155, Q_NB156_154, Q_NB154_156, Q_NB156_155, Q_NB155_156, Q_BK154, Q_GW154, Q_GE154, Q_NB139_154, Q_NB154_139, Q_BK155, Q_GW155, Q_GE155, Q_NB139_155, Q_NB155_139, Q_BK156, Q_GW156, Q_GE156, Q_NB139_156, Q_NB156_139, fun h0_ => absurd ((hoff 17 (by kernel_rfl)).symm.trans h0_) (by decide), fun h0_ => absurd ((hoff 18 (by kernel_rfl)).symm.trans h0_) (by decide), fun h0_ => absurd ((hoff 19 (by kernel_rfl)).symm.trans h0_) (by decide), Q_X14_, Q_X15_, Q_X16_⟩
      refine steps_cons ?_ ?_
      · rintro b a w' ⟨gb154, gb155, gb156, m14_, m15_, m16_, ha, Q_BK139, Q_HB, Q_NB155_154, Q_NB154_155, Q_NB156_154, Q_NB154_156, Q_NB156_155, Q_NB155_156, Q_BK154, Q_GW154, Q_GE154, Q_NB139_154, Q_NB154_139, Q_BK155, Q_GW155, Q_GE155, Q_NB139_155, Q_NB155_139, Q_BK156, Q_GW156, Q_GE156, Q_NB139_156, Q_NB156_139, Q_BK154_e17, Q_BK155_e18, Q_BK156_e19, Q_X14_, Q_X15_, Q_X16_⟩ hb_ hon hoff
        refine ⟨_, rfl, fun K hK => ?_⟩
        have e49 : a.tmps[49]? = some (.int .i64 (wrap64 (Int.tmod (IntKind.u64.wrap (a1)) 10))) := by rw [ha]; exact (putSel_off rfl).trans rfl
        have e50 : a.tmps[50]? = some (.int .i64 (wrap64 (Int.tmod (IntKind.u64.wrap (a2)) 10))) := by rw [ha]; exact (putSel_off rfl).trans rfl
        replace ha := Aside0.mk ha
        have BK139 := Aside0.mk Q_BK139
        have HB := Aside0.mk Q_HB
        refine value_ (w1 := w') (v := .int .i64 (wrap64 ((wrap64 (Int.tmod (IntKind.u64.wrap (a1)) 10)) + (wrap64 (Int.tmod (IntKind.u64.wrap (a2)) 10))))) (by rfl) rfl ?_ ?_
        · go_simp
          (try simp only [i64_w])
          try rfl
        refine hK.out _ _ ⟨gb154, gb155, gb156, m14_, m15_, m16_, (by rw [ha.out]; exact putSel_upk 5 hb_ rfl rfl rfl), Q_BK139, Q_HB, Q_NB155_154, Q_NB154_155, Q_NB156_154, Q_NB154_156, Q_NB156_155, Q_NB155_156, Q_BK154, Q_GW154, Q_GE154, Q_NB139_154, Q_NB154_139, Q_BK155, Q_GW155, Q_GE155, Q_NB139_155, Q_NB155_139, Q_BK156, Q_GW156, Q_GE156, Q_NB139_156, Q_NB156_139, fun h0_ => absurd ((hoff 17 (by kernel_rfl)).symm.trans h0_) (by decide), fun h0_ => absurd ((hoff 18 (by kernel_rfl)).symm.trans h0_) (by decide), fun h0_ => absurd ((hoff 19 (by kernel_rfl)).symm.trans h0_) (by decide), Q_X14_, Q_X15_, Q_X16_⟩
      refine steps_cons ?_ ?_
      · rintro b a w' ⟨gb154, gb155, gb156, m14_, m15_, m16_, ha, Q_BK139, Q_HB, Q_NB155_154, Q_NB154_155, Q_NB156_154, Q_NB154_156, Q_NB156_155, Q_NB155_156, Q_BK154, Q_GW154, Q_GE154, Q_NB139_154, Q_NB154_139, Q_BK155, Q_GW155, Q_GE155, Q_NB139_155, Q_NB155_139, Q_BK156, Q_GW156, Q_GE156, Q_NB139_156, Q_NB156_139, Q_BK154_e17, Q_BK155_e18, Q_BK156_e19, Q_X14_, Q_X15_, Q_X16_⟩ hb_ hon hoff
        refine ⟨_, rfl, fun K hK => ?_⟩
        have e48 : a.tmps[48]? = some (.agg #[.int .i64 a0_0, .int .i64 a0_1, .int .i64 a0_2, .int .i64 a0_3, .int .i64 a0_4]) := by rw [ha]; exact putSel_on (e := (8, 48, .agg #[.int .i64 a0_0, .int .i64 a0_1, .int .i64 a0_2, .int .i64 a0_3, .int .i64 a0_4])) 4 rfl rfl (hon 8 (by kernel_rfl)) rfl
        have e51 : a.tmps[51]? = some (.int .i64 (wrap64 ((wrap64 (Int.tmod (IntKind.u64.wrap (a1)) 10)) + (wrap64 (Int.tmod (IntKind.u64.wrap (a2)) 10))))) := by rw [ha]; exact putSel_on (e := (11, 51, .int .i64 (wrap64 ((wrap64 (Int.tmod (IntKind.u64.wrap (a1)) 10)) + (wrap64 (Int.tmod (IntKind.u64.wrap (a2)) 10)))))) 5 rfl rfl (hon 11 (by kernel_rfl)) rfl
        have e52 : a.tmps[52]? = some (.int .i64 (wrap64 (Int.tmod (IntKind.u64.wrap (a3)) 7))) := by rw [ha]; exact (putSel_off rfl).trans rfl
        replace ha := Aside0.mk ha
        have BK139 := Aside0.mk Q_BK139
        have HB := Aside0.mk Q_HB
        refine goes_ Try.func14 (by kernel_rfl) rfl #[.agg #[.int .i64 a0_0, .int .i64 a0_1, .int .i64 a0_2, .int .i64 a0_3, .int .i64 a0_4], .int .i64 (wrap64 ((wrap64 (Int.tmod (IntKind.u64.wrap (a1)) 10)) + (wrap64 (Int.tmod (IntKind.u64.wrap (a2)) 10)))), .int .i64 (wrap64 (Int.tmod (IntKind.u64.wrap (a3)) 7))] (by rfl) rfl rfl (by first | (simp only [List.map_toArray, List.map_cons, List.map_nil, Act.eval, Array.getD_eq_getD_getElem?, Option.getD_some, e48, e51, e52]; done) | (simp only [List.map_toArray, List.map_cons, List.map_nil, Act.eval, Array.getD_eq_getD_getElem?, Option.getD_some, e48, e51, e52]; rfl)) ?_
        with_reducible refine (cost_Price.calls k a0_0 a0_1 a0_2 a0_3 a0_4 (wrap64 ((wrap64 (Int.tmod (IntKind.u64.wrap (a1)) 10)) + (wrap64 (Int.tmod (IntKind.u64.wrap (a2)) 10)))) (wrap64 (Int.tmod (IntKind.u64.wrap (a3)) 7)) t151 t152 t153 _ A10.out).mono ?_
        rintro e w22 ⟨rfl, hb⟩
        refine ⟨_, rfl, ?_⟩
        have n0_ := Aside0.mk (blk_below (g := gb139) (o := .cells #[.int .i64 a0_0, .int .i64 a0_1, .int .i64 a0_2, .int .i64 a0_3, .int .i64 a0_4] 23 (0, 0)) (by (with_reducible repeat (first | refine blk_drewN ?_ _ | refine blk_drew ?_ | refine blk_alloc ?_ _)); exact BK139.out) hb)
        have n1_ := Aside0.mk (below_step (by repeat (first | (with_reducible first | exact HB.out | apply below_alloc | apply pw_below_drewN | apply below_drew1 | refine below_set ?_ GE139.out) | exact HB.out)) hb)
        have z_BK154 := fun (h0_ : b 14 = true) (h1_ : b 17 = false) => (show w22.heap[gb154]? = some (.cells #[.int .i64 0, .int .i64 0, .int .i64 0] 32 (0, 0)) from by first | exact (blk_below (g := gb154) (o := .cells #[.int .i64 0, .int .i64 0, .int .i64 0] 32 (0, 0)) (by (with_reducible repeat (first | refine blk_drewN ?_ _ | refine blk_drew ?_ | refine blk_alloc ?_ _)); exact (Q_BK154 h0_ h1_)) hb))
        have z_BK155 := fun (h0_ : b 15 = true) (h1_ : b 18 = false) => (show w22.heap[gb155]? = some (.cells #[.int .i64 0, .int .i64 0, .int .i64 0] 32 (0, 0)) from by first | exact (blk_below (g := gb155) (o := .cells #[.int .i64 0, .int .i64 0, .int .i64 0] 32 (0, 0)) (by (with_reducible repeat (first | refine blk_drewN ?_ _ | refine blk_drew ?_ | refine blk_alloc ?_ _)); exact (Q_BK155 h0_ h1_)) hb))
        have z_BK156 := fun (h0_ : b 16 = true) (h1_ : b 19 = false) => (show w22.heap[gb156]? = some (.cells #[.int .i64 0, .int .i64 0, .int .i64 0] 32 (0, 0)) from by first | exact (blk_below (g := gb156) (o := .cells #[.int .i64 0, .int .i64 0, .int .i64 0] 32 (0, 0)) (by (with_reducible repeat (first | refine blk_drewN ?_ _ | refine blk_drew ?_ | refine blk_alloc ?_ _)); exact (Q_BK156 h0_ h1_)) hb))
        clear BK139
        clear HB
        have BK139 := n0_
        have HB := n1_
        clear n0_ n1_
        (try clear hb)
        (try clear hb2)
        (try clear hk)
        (try clear hi)
        refine hK.out _ _ ⟨gb154, gb155, gb156, m14_, m15_, m16_, (by rw [ha.out]; exact putSel_upk 6 hb_ rfl rfl rfl), (by (with_reducible repeat (first | refine blk_drewN ?_ _ | refine blk_drew ?_ | refine blk_alloc ?_ _)); exact BK139.out), (by repeat (first | (with_reducible first | exact HB.out | apply below_alloc | apply pw_below_drewN | apply below_drew1 | refine below_set ?_ GE139.out) | exact HB.out)), Q_NB155_154, Q_NB154_155, Q_NB156_154, Q_NB154_156, Q_NB156_155, Q_NB155_156, z_BK154, Q_GW154, Q_GE154, Q_NB139_154, Q_NB154_139, z_BK155, Q_GW155, Q_GE155, Q_NB139_155, Q_NB155_139, z_BK156, Q_GW156, Q_GE156, Q_NB139_156, Q_NB156_139, fun h0_ => absurd ((hoff 17 (by kernel_rfl)).symm.trans h0_) (by decide), fun h0_ => absurd ((hoff 18 (by kernel_rfl)).symm.trans h0_) (by decide), fun h0_ => absurd ((hoff 19 (by kernel_rfl)).symm.trans h0_) (by decide), Q_X14_, Q_X15_, Q_X16_⟩
      refine steps_cons ?_ ?_
      · rintro b a w' ⟨gb154, gb155, gb156, m14_, m15_, m16_, ha, Q_BK139, Q_HB, Q_NB155_154, Q_NB154_155, Q_NB156_154, Q_NB154_156, Q_NB156_155, Q_NB155_156, Q_BK154, Q_GW154, Q_GE154, Q_NB139_154, Q_NB154_139, Q_BK155, Q_GW155, Q_GE155, Q_NB139_155, Q_NB155_139, Q_BK156, Q_GW156, Q_GE156, Q_NB139_156, Q_NB156_139, Q_BK154_e17, Q_BK155_e18, Q_BK156_e19, Q_X14_, Q_X15_, Q_X16_⟩ hb_ hon hoff
        refine ⟨_, rfl, fun K hK => ?_⟩
        replace ha := Aside0.mk ha
        have BK139 := Aside0.mk Q_BK139
        have HB := Aside0.mk Q_HB
        refine box_step ?hg (N := 11) ?hd (cs := #[.int .i64 0, .int .i64 0, .int .i64 0]) (t := 32) ?hr ?_; (case hd => rfl); (case hg => rfl); (case hr => first | (go_simp; done) | (go_simp; rfl))
        intro gb154 hg w19 hbox hb
        have n0_ := Aside0.mk (blk_below (g := gb139) (o := .cells #[.int .i64 a0_0, .int .i64 a0_1, .int .i64 a0_2, .int .i64 a0_3, .int .i64 a0_4] 23 (0, 0)) (by (with_reducible repeat (first | refine blk_drewN ?_ _ | refine blk_drew ?_ | refine blk_alloc ?_ _)); exact BK139.out) hb)
        have n1_ := Aside0.mk (below_step (by repeat (first | (with_reducible first | exact HB.out | apply below_alloc | apply pw_below_drewN | apply below_drew1 | refine below_set ?_ GE139.out) | exact HB.out)) hb)
        have n2_ := Aside0.mk (hbox)
        have n3_ := Aside0.mk ((by rw [hg]; exact (below_size (by repeat (first | (with_reducible first | exact HB.out | apply below_alloc | apply pw_below_drewN | apply below_drew1 | refine below_set ?_ GE139.out) | exact HB.out))) : w.heap.size ≤ gb154))
        have n4_ := Aside0.mk ((by rw [hg]; exact (below_size (by repeat (first | (with_reducible first | exact HB.out | apply below_alloc | apply pw_below_drewN | apply below_drew1 | refine below_set ?_ GE139.out) | exact HB.out))) : w.heap.size ≤ gb154))
        have n5_ := Aside0.mk ((by rw [hg]; exact Nat.ne_of_lt (blk_lt (g := gb139) (o := .cells #[.int .i64 a0_0, .int .i64 a0_1, .int .i64 a0_2, .int .i64 a0_3, .int .i64 a0_4] 23 (0, 0)) (by (with_reducible repeat (first | refine blk_drewN ?_ _ | refine blk_drew ?_ | refine blk_alloc ?_ _)); exact BK139.out)) : gb139 ≠ gb154))
        have n6_ := Aside0.mk ((by rw [hg]; exact Nat.ne_of_gt (blk_lt (g := gb139) (o := .cells #[.int .i64 a0_0, .int .i64 a0_1, .int .i64 a0_2, .int .i64 a0_3, .int .i64 a0_4] 23 (0, 0)) (by (with_reducible repeat (first | refine blk_drewN ?_ _ | refine blk_drew ?_ | refine blk_alloc ?_ _)); exact BK139.out)) : gb154 ≠ gb139))
        have z_NB155_154 := fun (h0_ : up b 14 14 = true) (h1_ : up b 14 15 = true) => (show gb155 ≠ gb154 from by have h_ := h1_; rw [up_ne (by decide)] at h_; have lt_ : gb155 < w'.heap.size := (by (cases hq_ : b 18 with | false => exact blk_lt (Q_BK155 h_ hq_) | true => exact blk_lt (Q_BK155_e18 hq_))); rw [hg]; exact Nat.ne_of_lt lt_)
        have z_NB154_155 := fun (h0_ : up b 14 14 = true) (h1_ : up b 14 15 = true) => (show gb154 ≠ gb155 from by have h_ := h1_; rw [up_ne (by decide)] at h_; have lt_ : gb155 < w'.heap.size := (by (cases hq_ : b 18 with | false => exact blk_lt (Q_BK155 h_ hq_) | true => exact blk_lt (Q_BK155_e18 hq_))); rw [hg]; exact Nat.ne_of_gt lt_)
        have z_NB156_154 := fun (h0_ : up b 14 14 = true) (h1_ : up b 14 16 = true) => (show gb156 ≠ gb154 from by have h_ := h1_; rw [up_ne (by decide)] at h_; have lt_ : gb156 < w'.heap.size := (by (cases hq_ : b 19 with | false => exact blk_lt (Q_BK156 h_ hq_) | true => exact blk_lt (Q_BK156_e19 hq_))); rw [hg]; exact Nat.ne_of_lt lt_)
        have z_NB154_156 := fun (h0_ : up b 14 14 = true) (h1_ : up b 14 16 = true) => (show gb154 ≠ gb156 from by have h_ := h1_; rw [up_ne (by decide)] at h_; have lt_ : gb156 < w'.heap.size := (by (cases hq_ : b 19 with | false => exact blk_lt (Q_BK156 h_ hq_) | true => exact blk_lt (Q_BK156_e19 hq_))); rw [hg]; exact Nat.ne_of_gt lt_)
        have z_BK155 := fun (h0_ : b 15 = true) (h1_ : b 18 = false) => (show w19.heap[gb155]? = some (.cells #[.int .i64 0, .int .i64 0, .int .i64 0] 32 (0, 0)) from by first | exact (blk_below (g := gb155) (o := .cells #[.int .i64 0, .int .i64 0, .int .i64 0] 32 (0, 0)) (by (with_reducible repeat (first | refine blk_drewN ?_ _ | refine blk_drew ?_ | refine blk_alloc ?_ _)); exact (Q_BK155 h0_ h1_)) hb))
        have z_BK156 := fun (h0_ : b 16 = true) (h1_ : b 19 = false) => (show w19.heap[gb156]? = some (.cells #[.int .i64 0, .int .i64 0, .int .i64 0] 32 (0, 0)) from by first | exact (blk_below (g := gb156) (o := .cells #[.int .i64 0, .int .i64 0, .int .i64 0] 32 (0, 0)) (by (with_reducible repeat (first | refine blk_drewN ?_ _ | refine blk_drew ?_ | refine blk_alloc ?_ _)); exact (Q_BK156 h0_ h1_)) hb))
        clear BK139
        clear HB
        have BK139 := n0_
        have HB := n1_
        have BK154 := n2_
        have GW154 := n3_
        have GE154 := n4_
        have NB139_154 := n5_
        have NB154_139 := n6_
        clear n0_ n1_ n2_ n3_ n4_ n5_ n6_
        clear hb hbox hg
        refine hK.out _ _ ⟨gb154, gb155, gb156, (.pointer (some ⟨gb154, 0, none⟩)), m15_, m16_, (by rw [ha.out]; exact putSel_upk 7 hb_ rfl rfl rfl), (by (with_reducible repeat (first | refine blk_drewN ?_ _ | refine blk_drew ?_ | refine blk_alloc ?_ _)); exact BK139.out), (by repeat (first | (with_reducible first | exact HB.out | apply below_alloc | apply pw_below_drewN | apply below_drew1 | refine below_set ?_ GE139.out | refine below_set ?_ GE154.out) | exact HB.out)), @z_NB155_154, @z_NB154_155, @z_NB156_154, @z_NB154_156, Q_NB156_155, Q_NB155_156, fun _ _ => (by (with_reducible repeat (first | refine blk_drewN ?_ _ | refine blk_drew ?_ | refine blk_alloc ?_ _)); exact BK154.out), fun _ => GW154.out, fun _ => GE154.out, fun _ => NB139_154.out, fun _ => NB154_139.out, z_BK155, Q_GW155, Q_GE155, Q_NB139_155, Q_NB155_139, z_BK156, Q_GW156, Q_GE156, Q_NB139_156, Q_NB156_139, fun h0_ => absurd ((hoff 17 (by kernel_rfl)).symm.trans h0_) (by decide), fun h0_ => absurd ((hoff 18 (by kernel_rfl)).symm.trans h0_) (by decide), fun h0_ => absurd ((hoff 19 (by kernel_rfl)).symm.trans h0_) (by decide), fun _ => rfl, Q_X15_, Q_X16_⟩
      refine steps_cons ?_ ?_
      · rintro b a w' ⟨gb154, gb155, gb156, m14_, m15_, m16_, ha, Q_BK139, Q_HB, Q_NB155_154, Q_NB154_155, Q_NB156_154, Q_NB154_156, Q_NB156_155, Q_NB155_156, Q_BK154, Q_GW154, Q_GE154, Q_NB139_154, Q_NB154_139, Q_BK155, Q_GW155, Q_GE155, Q_NB139_155, Q_NB155_139, Q_BK156, Q_GW156, Q_GE156, Q_NB139_156, Q_NB156_139, Q_BK154_e17, Q_BK155_e18, Q_BK156_e19, Q_X14_, Q_X15_, Q_X16_⟩ hb_ hon hoff
        refine ⟨_, rfl, fun K hK => ?_⟩
        replace ha := Aside0.mk ha
        have BK139 := Aside0.mk Q_BK139
        have HB := Aside0.mk Q_HB
        refine box_step ?hg (N := 12) ?hd (cs := #[.int .i64 0, .int .i64 0, .int .i64 0]) (t := 32) ?hr ?_; (case hd => rfl); (case hg => rfl); (case hr => first | (go_simp; done) | (go_simp; rfl))
        intro gb155 hg w19 hbox hb
        have n0_ := Aside0.mk (blk_below (g := gb139) (o := .cells #[.int .i64 a0_0, .int .i64 a0_1, .int .i64 a0_2, .int .i64 a0_3, .int .i64 a0_4] 23 (0, 0)) (by (with_reducible repeat (first | refine blk_drewN ?_ _ | refine blk_drew ?_ | refine blk_alloc ?_ _)); exact BK139.out) hb)
        have n1_ := Aside0.mk (below_step (by repeat (first | (with_reducible first | exact HB.out | apply below_alloc | apply pw_below_drewN | apply below_drew1 | refine below_set ?_ GE139.out) | exact HB.out)) hb)
        have n2_ := Aside0.mk (hbox)
        have n3_ := Aside0.mk ((by rw [hg]; exact (below_size (by repeat (first | (with_reducible first | exact HB.out | apply below_alloc | apply pw_below_drewN | apply below_drew1 | refine below_set ?_ GE139.out) | exact HB.out))) : w.heap.size ≤ gb155))
        have n4_ := Aside0.mk ((by rw [hg]; exact (below_size (by repeat (first | (with_reducible first | exact HB.out | apply below_alloc | apply pw_below_drewN | apply below_drew1 | refine below_set ?_ GE139.out) | exact HB.out))) : w.heap.size ≤ gb155))
        have n5_ := Aside0.mk ((by rw [hg]; exact Nat.ne_of_lt (blk_lt (g := gb139) (o := .cells #[.int .i64 a0_0, .int .i64 a0_1, .int .i64 a0_2, .int .i64 a0_3, .int .i64 a0_4] 23 (0, 0)) (by (with_reducible repeat (first | refine blk_drewN ?_ _ | refine blk_drew ?_ | refine blk_alloc ?_ _)); exact BK139.out)) : gb139 ≠ gb155))
        have n6_ := Aside0.mk ((by rw [hg]; exact Nat.ne_of_gt (blk_lt (g := gb139) (o := .cells #[.int .i64 a0_0, .int .i64 a0_1, .int .i64 a0_2, .int .i64 a0_3, .int .i64 a0_4] 23 (0, 0)) (by (with_reducible repeat (first | refine blk_drewN ?_ _ | refine blk_drew ?_ | refine blk_alloc ?_ _)); exact BK139.out)) : gb155 ≠ gb139))
        have z_NB155_154 := fun (h0_ : up b 15 14 = true) (h1_ : up b 15 15 = true) => (show gb155 ≠ gb154 from by have h_ := h0_; rw [up_ne (by decide)] at h_; have lt_ : gb154 < w'.heap.size := (by (cases hq_ : b 17 with | false => exact blk_lt (Q_BK154 h_ hq_) | true => exact blk_lt (Q_BK154_e17 hq_))); rw [hg]; exact Nat.ne_of_gt lt_)
        have z_NB154_155 := fun (h0_ : up b 15 14 = true) (h1_ : up b 15 15 = true) => (show gb154 ≠ gb155 from by have h_ := h0_; rw [up_ne (by decide)] at h_; have lt_ : gb154 < w'.heap.size := (by (cases hq_ : b 17 with | false => exact blk_lt (Q_BK154 h_ hq_) | true => exact blk_lt (Q_BK154_e17 hq_))); rw [hg]; exact Nat.ne_of_lt lt_)
        have z_NB156_155 := fun (h0_ : up b 15 15 = true) (h1_ : up b 15 16 = true) => (show gb156 ≠ gb155 from by have h_ := h1_; rw [up_ne (by decide)] at h_; have lt_ : gb156 < w'.heap.size := (by (cases hq_ : b 19 with | false => exact blk_lt (Q_BK156 h_ hq_) | true => exact blk_lt (Q_BK156_e19 hq_))); rw [hg]; exact Nat.ne_of_lt lt_)
        have z_NB155_156 := fun (h0_ : up b 15 15 = true) (h1_ : up b 15 16 = true) => (show gb155 ≠ gb156 from by have h_ := h1_; rw [up_ne (by decide)] at h_; have lt_ : gb156 < w'.heap.size := (by (cases hq_ : b 19 with | false => exact blk_lt (Q_BK156 h_ hq_) | true => exact blk_lt (Q_BK156_e19 hq_))); rw [hg]; exact Nat.ne_of_gt lt_)
        have z_BK154 := fun (h0_ : b 14 = true) (h1_ : b 17 = false) => (show w19.heap[gb154]? = some (.cells #[.int .i64 0, .int .i64 0, .int .i64 0] 32 (0, 0)) from by first | exact (blk_below (g := gb154) (o := .cells #[.int .i64 0, .int .i64 0, .int .i64 0] 32 (0, 0)) (by (with_reducible repeat (first | refine blk_drewN ?_ _ | refine blk_drew ?_ | refine blk_alloc ?_ _)); exact (Q_BK154 h0_ h1_)) hb))
        have z_BK156 := fun (h0_ : b 16 = true) (h1_ : b 19 = false) => (show w19.heap[gb156]? = some (.cells #[.int .i64 0, .int .i64 0, .int .i64 0] 32 (0, 0)) from by first | exact (blk_below (g := gb156) (o := .cells #[.int .i64 0, .int .i64 0, .int .i64 0] 32 (0, 0)) (by (with_reducible repeat (first | refine blk_drewN ?_ _ | refine blk_drew ?_ | refine blk_alloc ?_ _)); exact (Q_BK156 h0_ h1_)) hb))
        clear BK139
        clear HB
        have BK139 := n0_
        have HB := n1_
        have BK155 := n2_
        have GW155 := n3_
        have GE155 := n4_
        have NB139_155 := n5_
        have NB155_139 := n6_
        clear n0_ n1_ n2_ n3_ n4_ n5_ n6_
        clear hb hbox hg
        refine hK.out _ _ ⟨gb154, gb155, gb156, m14_, (.pointer (some ⟨gb155, 0, none⟩)), m16_, (by rw [ha.out]; exact putSel_upk 8 hb_ rfl rfl rfl), (by (with_reducible repeat (first | refine blk_drewN ?_ _ | refine blk_drew ?_ | refine blk_alloc ?_ _)); exact BK139.out), (by repeat (first | (with_reducible first | exact HB.out | apply below_alloc | apply pw_below_drewN | apply below_drew1 | refine below_set ?_ GE139.out | refine below_set ?_ GE155.out) | exact HB.out)), @z_NB155_154, @z_NB154_155, Q_NB156_154, Q_NB154_156, @z_NB156_155, @z_NB155_156, z_BK154, Q_GW154, Q_GE154, Q_NB139_154, Q_NB154_139, fun _ _ => (by (with_reducible repeat (first | refine blk_drewN ?_ _ | refine blk_drew ?_ | refine blk_alloc ?_ _)); exact BK155.out), fun _ => GW155.out, fun _ => GE155.out, fun _ => NB139_155.out, fun _ => NB155_139.out, z_BK156, Q_GW156, Q_GE156, Q_NB139_156, Q_NB156_139, fun h0_ => absurd ((hoff 17 (by kernel_rfl)).symm.trans h0_) (by decide), fun h0_ => absurd ((hoff 18 (by kernel_rfl)).symm.trans h0_) (by decide), fun h0_ => absurd ((hoff 19 (by kernel_rfl)).symm.trans h0_) (by decide), Q_X14_, fun _ => rfl, Q_X16_⟩
      refine steps_cons ?_ ?_
      · rintro b a w' ⟨gb154, gb155, gb156, m14_, m15_, m16_, ha, Q_BK139, Q_HB, Q_NB155_154, Q_NB154_155, Q_NB156_154, Q_NB154_156, Q_NB156_155, Q_NB155_156, Q_BK154, Q_GW154, Q_GE154, Q_NB139_154, Q_NB154_139, Q_BK155, Q_GW155, Q_GE155, Q_NB139_155, Q_NB155_139, Q_BK156, Q_GW156, Q_GE156, Q_NB139_156, Q_NB156_139, Q_BK154_e17, Q_BK155_e18, Q_BK156_e19, Q_X14_, Q_X15_, Q_X16_⟩ hb_ hon hoff
        refine ⟨_, rfl, fun K hK => ?_⟩
        replace ha := Aside0.mk ha
        have BK139 := Aside0.mk Q_BK139
        have HB := Aside0.mk Q_HB
        refine box_step ?hg (N := 13) ?hd (cs := #[.int .i64 0, .int .i64 0, .int .i64 0]) (t := 32) ?hr ?_; (case hd => rfl); (case hg => rfl); (case hr => first | (go_simp; done) | (go_simp; rfl))
        intro gb156 hg w19 hbox hb
        have n0_ := Aside0.mk (blk_below (g := gb139) (o := .cells #[.int .i64 a0_0, .int .i64 a0_1, .int .i64 a0_2, .int .i64 a0_3, .int .i64 a0_4] 23 (0, 0)) (by (with_reducible repeat (first | refine blk_drewN ?_ _ | refine blk_drew ?_ | refine blk_alloc ?_ _)); exact BK139.out) hb)
        have n1_ := Aside0.mk (below_step (by repeat (first | (with_reducible first | exact HB.out | apply below_alloc | apply pw_below_drewN | apply below_drew1 | refine below_set ?_ GE139.out) | exact HB.out)) hb)
        have n2_ := Aside0.mk (hbox)
        have n3_ := Aside0.mk ((by rw [hg]; exact (below_size (by repeat (first | (with_reducible first | exact HB.out | apply below_alloc | apply pw_below_drewN | apply below_drew1 | refine below_set ?_ GE139.out) | exact HB.out))) : w.heap.size ≤ gb156))
        have n4_ := Aside0.mk ((by rw [hg]; exact (below_size (by repeat (first | (with_reducible first | exact HB.out | apply below_alloc | apply pw_below_drewN | apply below_drew1 | refine below_set ?_ GE139.out) | exact HB.out))) : w.heap.size ≤ gb156))
        have n5_ := Aside0.mk ((by rw [hg]; exact Nat.ne_of_lt (blk_lt (g := gb139) (o := .cells #[.int .i64 a0_0, .int .i64 a0_1, .int .i64 a0_2, .int .i64 a0_3, .int .i64 a0_4] 23 (0, 0)) (by (with_reducible repeat (first | refine blk_drewN ?_ _ | refine blk_drew ?_ | refine blk_alloc ?_ _)); exact BK139.out)) : gb139 ≠ gb156))
        have n6_ := Aside0.mk ((by rw [hg]; exact Nat.ne_of_gt (blk_lt (g := gb139) (o := .cells #[.int .i64 a0_0, .int .i64 a0_1, .int .i64 a0_2, .int .i64 a0_3, .int .i64 a0_4] 23 (0, 0)) (by (with_reducible repeat (first | refine blk_drewN ?_ _ | refine blk_drew ?_ | refine blk_alloc ?_ _)); exact BK139.out)) : gb156 ≠ gb139))
        have z_NB156_154 := fun (h0_ : up b 16 14 = true) (h1_ : up b 16 16 = true) => (show gb156 ≠ gb154 from by have h_ := h0_; rw [up_ne (by decide)] at h_; have lt_ : gb154 < w'.heap.size := (by (cases hq_ : b 17 with | false => exact blk_lt (Q_BK154 h_ hq_) | true => exact blk_lt (Q_BK154_e17 hq_))); rw [hg]; exact Nat.ne_of_gt lt_)
        have z_NB154_156 := fun (h0_ : up b 16 14 = true) (h1_ : up b 16 16 = true) => (show gb154 ≠ gb156 from by have h_ := h0_; rw [up_ne (by decide)] at h_; have lt_ : gb154 < w'.heap.size := (by (cases hq_ : b 17 with | false => exact blk_lt (Q_BK154 h_ hq_) | true => exact blk_lt (Q_BK154_e17 hq_))); rw [hg]; exact Nat.ne_of_lt lt_)
        have z_NB156_155 := fun (h0_ : up b 16 15 = true) (h1_ : up b 16 16 = true) => (show gb156 ≠ gb155 from by have h_ := h0_; rw [up_ne (by decide)] at h_; have lt_ : gb155 < w'.heap.size := (by (cases hq_ : b 18 with | false => exact blk_lt (Q_BK155 h_ hq_) | true => exact blk_lt (Q_BK155_e18 hq_))); rw [hg]; exact Nat.ne_of_gt lt_)
        have z_NB155_156 := fun (h0_ : up b 16 15 = true) (h1_ : up b 16 16 = true) => (show gb155 ≠ gb156 from by have h_ := h0_; rw [up_ne (by decide)] at h_; have lt_ : gb155 < w'.heap.size := (by (cases hq_ : b 18 with | false => exact blk_lt (Q_BK155 h_ hq_) | true => exact blk_lt (Q_BK155_e18 hq_))); rw [hg]; exact Nat.ne_of_lt lt_)
        have z_BK154 := fun (h0_ : b 14 = true) (h1_ : b 17 = false) => (show w19.heap[gb154]? = some (.cells #[.int .i64 0, .int .i64 0, .int .i64 0] 32 (0, 0)) from by first | exact (blk_below (g := gb154) (o := .cells #[.int .i64 0, .int .i64 0, .int .i64 0] 32 (0, 0)) (by (with_reducible repeat (first | refine blk_drewN ?_ _ | refine blk_drew ?_ | refine blk_alloc ?_ _)); exact (Q_BK154 h0_ h1_)) hb))
        have z_BK155 := fun (h0_ : b 15 = true) (h1_ : b 18 = false) => (show w19.heap[gb155]? = some (.cells #[.int .i64 0, .int .i64 0, .int .i64 0] 32 (0, 0)) from by first | exact (blk_below (g := gb155) (o := .cells #[.int .i64 0, .int .i64 0, .int .i64 0] 32 (0, 0)) (by (with_reducible repeat (first | refine blk_drewN ?_ _ | refine blk_drew ?_ | refine blk_alloc ?_ _)); exact (Q_BK155 h0_ h1_)) hb))
        clear BK139
        clear HB
        have BK139 := n0_
        have HB := n1_
        have BK156 := n2_
        have GW156 := n3_
        have GE156 := n4_
        have NB139_156 := n5_
        have NB156_139 := n6_
        clear n0_ n1_ n2_ n3_ n4_ n5_ n6_
        clear hb hbox hg
        refine hK.out _ _ ⟨gb154, gb155, gb156, m14_, m15_, (.pointer (some ⟨gb156, 0, none⟩)), (by rw [ha.out]; exact putSel_upk 9 hb_ rfl rfl rfl), (by (with_reducible repeat (first | refine blk_drewN ?_ _ | refine blk_drew ?_ | refine blk_alloc ?_ _)); exact BK139.out), (by repeat (first | (with_reducible first | exact HB.out | apply below_alloc | apply pw_below_drewN | apply below_drew1 | refine below_set ?_ GE139.out | refine below_set ?_ GE156.out) | exact HB.out)), Q_NB155_154, Q_NB154_155, @z_NB156_154, @z_NB154_156, @z_NB156_155, @z_NB155_156, z_BK154, Q_GW154, Q_GE154, Q_NB139_154, Q_NB154_139, z_BK155, Q_GW155, Q_GE155, Q_NB139_155, Q_NB155_139, fun _ _ => (by (with_reducible repeat (first | refine blk_drewN ?_ _ | refine blk_drew ?_ | refine blk_alloc ?_ _)); exact BK156.out), fun _ => GW156.out, fun _ => GE156.out, fun _ => NB139_156.out, fun _ => NB156_139.out, fun h0_ => absurd ((hoff 17 (by kernel_rfl)).symm.trans h0_) (by decide), fun h0_ => absurd ((hoff 18 (by kernel_rfl)).symm.trans h0_) (by decide), fun h0_ => absurd ((hoff 19 (by kernel_rfl)).symm.trans h0_) (by decide), Q_X14_, Q_X15_, fun _ => rfl⟩
      refine steps_cons ?_ ?_
      · rintro b a w' ⟨gb154, gb155, gb156, m14_, m15_, m16_, ha, Q_BK139, Q_HB, Q_NB155_154, Q_NB154_155, Q_NB156_154, Q_NB154_156, Q_NB156_155, Q_NB155_156, Q_BK154, Q_GW154, Q_GE154, Q_NB139_154, Q_NB154_139, Q_BK155, Q_GW155, Q_GE155, Q_NB139_155, Q_NB155_139, Q_BK156, Q_GW156, Q_GE156, Q_NB139_156, Q_NB156_139, Q_BK154_e17, Q_BK155_e18, Q_BK156_e19, Q_X14_, Q_X15_, Q_X16_⟩ hb_ hon hoff
        refine ⟨_, rfl, fun K hK => ?_⟩
        have e11 : a.tmps[11]? = some (m14_) := by rw [ha]; exact putSel_on (e := (14, 11, m14_)) 7 rfl rfl (hon 14 (by kernel_rfl)) rfl
        rw [Q_X14_ (hon 14 (by kernel_rfl))] at e11
        have e43 : a.tmps[43]? = some (.agg #[.int .i64 t145, .int .i64 t146, .int .i64 t147]) := by rw [ha]; exact putSel_on (e := (3, 43, .agg #[.int .i64 t145, .int .i64 t146, .int .i64 t147])) 1 rfl rfl (hon 3 (by kernel_rfl)) rfl
        replace ha := Aside0.mk ha
        have BK139 := Aside0.mk Q_BK139
        have HB := Aside0.mk Q_HB
        have NB155_154 := Aside0.mk (Q_NB155_154 (hon 14 (by kernel_rfl)) (hon 15 (by kernel_rfl)))
        have NB154_155 := Aside0.mk (Q_NB154_155 (hon 14 (by kernel_rfl)) (hon 15 (by kernel_rfl)))
        have NB156_154 := Aside0.mk (Q_NB156_154 (hon 14 (by kernel_rfl)) (hon 16 (by kernel_rfl)))
        have NB154_156 := Aside0.mk (Q_NB154_156 (hon 14 (by kernel_rfl)) (hon 16 (by kernel_rfl)))
        have NB156_155 := Aside0.mk (Q_NB156_155 (hon 15 (by kernel_rfl)) (hon 16 (by kernel_rfl)))
        have NB155_156 := Aside0.mk (Q_NB155_156 (hon 15 (by kernel_rfl)) (hon 16 (by kernel_rfl)))
        have BK154 := Aside0.mk (Q_BK154 (hon 14 (by kernel_rfl)) hb_)
        have GW154 := Aside0.mk (Q_GW154 (hon 14 (by kernel_rfl)))
        have GE154 := Aside0.mk (Q_GE154 (hon 14 (by kernel_rfl)))
        have NB139_154 := Aside0.mk (Q_NB139_154 (hon 14 (by kernel_rfl)))
        have NB154_139 := Aside0.mk (Q_NB154_139 (hon 14 (by kernel_rfl)))
        have BK155 := Aside0.mk (Q_BK155 (hon 15 (by kernel_rfl)) (hoff 18 (by kernel_rfl)))
        have GW155 := Aside0.mk (Q_GW155 (hon 15 (by kernel_rfl)))
        have GE155 := Aside0.mk (Q_GE155 (hon 15 (by kernel_rfl)))
        have NB139_155 := Aside0.mk (Q_NB139_155 (hon 15 (by kernel_rfl)))
        have NB155_139 := Aside0.mk (Q_NB155_139 (hon 15 (by kernel_rfl)))
        have BK156 := Aside0.mk (Q_BK156 (hon 16 (by kernel_rfl)) (hoff 19 (by kernel_rfl)))
        have GW156 := Aside0.mk (Q_GW156 (hon 16 (by kernel_rfl)))
        have GE156 := Aside0.mk (Q_GE156 (hon 16 (by kernel_rfl)))
        have NB139_156 := Aside0.mk (Q_NB139_156 (hon 16 (by kernel_rfl)))
        have NB156_139 := Aside0.mk (Q_NB156_139 (hon 16 (by kernel_rfl)))
        have hs26 : w'.cell? ⟨gb154, 0, none⟩ = some (.int .i64 0) := (blk_cell BK154.out 0).trans rfl
        have hfs26 := blk_frozen BK154.out 0
        have hns26_0 := NB139_154.out
        have hns26_2 := NB155_154.out
        have hns26_3 := NB156_154.out
        have hms26_0 := NB154_139.out
        have hms26_2 := NB154_155.out
        have hms26_3 := NB154_156.out
        have hs27 : w'.cell? ⟨gb154, 1, none⟩ = some (.int .i64 0) := (blk_cell BK154.out 1).trans rfl
        have hfs27 := blk_frozen BK154.out 1
        have hns27_0 := NB139_154.out
        have hns27_2 := NB155_154.out
        have hns27_3 := NB156_154.out
        have hms27_0 := NB154_139.out
        have hms27_2 := NB154_155.out
        have hms27_3 := NB154_156.out
        have hs28 : w'.cell? ⟨gb154, 2, none⟩ = some (.int .i64 0) := (blk_cell BK154.out 2).trans rfl
        have hfs28 := blk_frozen BK154.out 2
        have hns28_0 := NB139_154.out
        have hns28_2 := NB155_154.out
        have hns28_3 := NB156_154.out
        have hms28_0 := NB154_139.out
        have hms28_2 := NB154_155.out
        have hms28_3 := NB154_156.out
        refine skip_ (w1 := ?_) (by rfl) rfl ?_ ?_
        rotate_left
        · go_simp
          rfl
        refine hK.out _ _ ⟨gb154, gb155, gb156, m14_, m15_, m16_, (by rw [ha.out]; exact putSel_none (v := undef) rfl), (by (with_reducible repeat (first | refine blk_drewN ?_ _ | refine blk_drew ?_ | refine blk_alloc ?_ _)); refine blk_far ?_ NB139_154.out _; (with_reducible repeat (first | refine blk_drewN ?_ _ | refine blk_drew ?_ | refine blk_alloc ?_ _)); refine blk_far ?_ NB139_154.out _; (with_reducible repeat (first | refine blk_drewN ?_ _ | refine blk_drew ?_ | refine blk_alloc ?_ _)); refine blk_far ?_ NB139_154.out _; (with_reducible repeat (first | refine blk_drewN ?_ _ | refine blk_drew ?_ | refine blk_alloc ?_ _)); exact BK139.out), (by repeat (first | (with_reducible first | exact HB.out | apply below_alloc | apply pw_below_drewN | apply below_drew1 | refine below_set ?_ GE139.out | refine below_set ?_ GE154.out | refine below_set ?_ GE155.out | refine below_set ?_ GE156.out) | exact HB.out)), fun _ _ => NB155_154.out, fun _ _ => NB154_155.out, fun _ _ => NB156_154.out, fun _ _ => NB154_156.out, fun _ _ => NB156_155.out, fun _ _ => NB155_156.out, fun _ h1_ => absurd ((up_self b 17).symm.trans h1_) (by decide), fun _ => GW154.out, fun _ => GE154.out, fun _ => NB139_154.out, fun _ => NB154_139.out, fun _ _ => (by (with_reducible repeat (first | refine blk_drewN ?_ _ | refine blk_drew ?_ | refine blk_alloc ?_ _)); refine blk_far ?_ NB155_154.out _; (with_reducible repeat (first | refine blk_drewN ?_ _ | refine blk_drew ?_ | refine blk_alloc ?_ _)); refine blk_far ?_ NB155_154.out _; (with_reducible repeat (first | refine blk_drewN ?_ _ | refine blk_drew ?_ | refine blk_alloc ?_ _)); refine blk_far ?_ NB155_154.out _; (with_reducible repeat (first | refine blk_drewN ?_ _ | refine blk_drew ?_ | refine blk_alloc ?_ _)); exact BK155.out), fun _ => GW155.out, fun _ => GE155.out, fun _ => NB139_155.out, fun _ => NB155_139.out, fun _ _ => (by (with_reducible repeat (first | refine blk_drewN ?_ _ | refine blk_drew ?_ | refine blk_alloc ?_ _)); refine blk_far ?_ NB156_154.out _; (with_reducible repeat (first | refine blk_drewN ?_ _ | refine blk_drew ?_ | refine blk_alloc ?_ _)); refine blk_far ?_ NB156_154.out _; (with_reducible repeat (first | refine blk_drewN ?_ _ | refine blk_drew ?_ | refine blk_alloc ?_ _)); refine blk_far ?_ NB156_154.out _; (with_reducible repeat (first | refine blk_drewN ?_ _ | refine blk_drew ?_ | refine blk_alloc ?_ _)); exact BK156.out), fun _ => GW156.out, fun _ => GE156.out, fun _ => NB139_156.out, fun _ => NB156_139.out, fun _ => (by (with_reducible repeat (first | refine blk_drewN ?_ _ | refine blk_drew ?_ | refine blk_alloc ?_ _)); refine blk_put (cs := #[.int .i64 t145, .int .i64 t146, .int .i64 0]) ?_ 2 _ rfl; (with_reducible repeat (first | refine blk_drewN ?_ _ | refine blk_drew ?_ | refine blk_alloc ?_ _)); refine blk_put (cs := #[.int .i64 t145, .int .i64 0, .int .i64 0]) ?_ 1 _ rfl; (with_reducible repeat (first | refine blk_drewN ?_ _ | refine blk_drew ?_ | refine blk_alloc ?_ _)); refine blk_put (cs := #[.int .i64 0, .int .i64 0, .int .i64 0]) ?_ 0 _ rfl; (with_reducible repeat (first | refine blk_drewN ?_ _ | refine blk_drew ?_ | refine blk_alloc ?_ _)); exact BK154.out), fun h0_ => absurd ((hoff 18 (by kernel_rfl)).symm.trans h0_) (by decide), fun h0_ => absurd ((hoff 19 (by kernel_rfl)).symm.trans h0_) (by decide), Q_X14_, Q_X15_, Q_X16_⟩
      refine steps_cons ?_ ?_
      · rintro b a w' ⟨gb154, gb155, gb156, m14_, m15_, m16_, ha, Q_BK139, Q_HB, Q_NB155_154, Q_NB154_155, Q_NB156_154, Q_NB154_156, Q_NB156_155, Q_NB155_156, Q_BK154, Q_GW154, Q_GE154, Q_NB139_154, Q_NB154_139, Q_BK155, Q_GW155, Q_GE155, Q_NB139_155, Q_NB155_139, Q_BK156, Q_GW156, Q_GE156, Q_NB139_156, Q_NB156_139, Q_BK154_e17, Q_BK155_e18, Q_BK156_e19, Q_X14_, Q_X15_, Q_X16_⟩ hb_ hon hoff
        refine ⟨_, rfl, fun K hK => ?_⟩
        have e12 : a.tmps[12]? = some (m15_) := by rw [ha]; exact putSel_on (e := (15, 12, m15_)) 8 rfl rfl (hon 15 (by kernel_rfl)) rfl
        rw [Q_X15_ (hon 15 (by kernel_rfl))] at e12
        have e47 : a.tmps[47]? = some (.agg #[.int .i64 t148, .int .i64 t149, .int .i64 t150]) := by rw [ha]; exact putSel_on (e := (7, 47, .agg #[.int .i64 t148, .int .i64 t149, .int .i64 t150])) 3 rfl rfl (hon 7 (by kernel_rfl)) rfl
        replace ha := Aside0.mk ha
        have BK139 := Aside0.mk Q_BK139
        have HB := Aside0.mk Q_HB
        have NB155_154 := Aside0.mk (Q_NB155_154 (hon 14 (by kernel_rfl)) (hon 15 (by kernel_rfl)))
        have NB154_155 := Aside0.mk (Q_NB154_155 (hon 14 (by kernel_rfl)) (hon 15 (by kernel_rfl)))
        have NB156_154 := Aside0.mk (Q_NB156_154 (hon 14 (by kernel_rfl)) (hon 16 (by kernel_rfl)))
        have NB154_156 := Aside0.mk (Q_NB154_156 (hon 14 (by kernel_rfl)) (hon 16 (by kernel_rfl)))
        have NB156_155 := Aside0.mk (Q_NB156_155 (hon 15 (by kernel_rfl)) (hon 16 (by kernel_rfl)))
        have NB155_156 := Aside0.mk (Q_NB155_156 (hon 15 (by kernel_rfl)) (hon 16 (by kernel_rfl)))
        have GW154 := Aside0.mk (Q_GW154 (hon 14 (by kernel_rfl)))
        have GE154 := Aside0.mk (Q_GE154 (hon 14 (by kernel_rfl)))
        have NB139_154 := Aside0.mk (Q_NB139_154 (hon 14 (by kernel_rfl)))
        have NB154_139 := Aside0.mk (Q_NB154_139 (hon 14 (by kernel_rfl)))
        have BK155 := Aside0.mk (Q_BK155 (hon 15 (by kernel_rfl)) hb_)
        have GW155 := Aside0.mk (Q_GW155 (hon 15 (by kernel_rfl)))
        have GE155 := Aside0.mk (Q_GE155 (hon 15 (by kernel_rfl)))
        have NB139_155 := Aside0.mk (Q_NB139_155 (hon 15 (by kernel_rfl)))
        have NB155_139 := Aside0.mk (Q_NB155_139 (hon 15 (by kernel_rfl)))
        have BK156 := Aside0.mk (Q_BK156 (hon 16 (by kernel_rfl)) (hoff 19 (by kernel_rfl)))
        have GW156 := Aside0.mk (Q_GW156 (hon 16 (by kernel_rfl)))
        have GE156 := Aside0.mk (Q_GE156 (hon 16 (by kernel_rfl)))
        have NB139_156 := Aside0.mk (Q_NB139_156 (hon 16 (by kernel_rfl)))
        have NB156_139 := Aside0.mk (Q_NB156_139 (hon 16 (by kernel_rfl)))
        have BK154 := Aside0.mk (Q_BK154_e17 (hon 17 (by kernel_rfl)))
        have hs29 : w'.cell? ⟨gb155, 0, none⟩ = some (.int .i64 0) := (blk_cell BK155.out 0).trans rfl
        have hfs29 := blk_frozen BK155.out 0
        have hns29_0 := NB139_155.out
        have hns29_1 := NB154_155.out
        have hns29_3 := NB156_155.out
        have hms29_0 := NB155_139.out
        have hms29_1 := NB155_154.out
        have hms29_3 := NB155_156.out
        have hs30 : w'.cell? ⟨gb155, 1, none⟩ = some (.int .i64 0) := (blk_cell BK155.out 1).trans rfl
        have hfs30 := blk_frozen BK155.out 1
        have hns30_0 := NB139_155.out
        have hns30_1 := NB154_155.out
        have hns30_3 := NB156_155.out
        have hms30_0 := NB155_139.out
        have hms30_1 := NB155_154.out
        have hms30_3 := NB155_156.out
        have hs31 : w'.cell? ⟨gb155, 2, none⟩ = some (.int .i64 0) := (blk_cell BK155.out 2).trans rfl
        have hfs31 := blk_frozen BK155.out 2
        have hns31_0 := NB139_155.out
        have hns31_1 := NB154_155.out
        have hns31_3 := NB156_155.out
        have hms31_0 := NB155_139.out
        have hms31_1 := NB155_154.out
        have hms31_3 := NB155_156.out
        refine skip_ (w1 := ?_) (by rfl) rfl ?_ ?_
        rotate_left
        · go_simp
          rfl
        refine hK.out _ _ ⟨gb154, gb155, gb156, m14_, m15_, m16_, (by rw [ha.out]; exact putSel_none (v := undef) rfl), (by (with_reducible repeat (first | refine blk_drewN ?_ _ | refine blk_drew ?_ | refine blk_alloc ?_ _)); refine blk_far ?_ NB139_155.out _; (with_reducible repeat (first | refine blk_drewN ?_ _ | refine blk_drew ?_ | refine blk_alloc ?_ _)); refine blk_far ?_ NB139_155.out _; (with_reducible repeat (first | refine blk_drewN ?_ _ | refine blk_drew ?_ | refine blk_alloc ?_ _)); refine blk_far ?_ NB139_155.out _; (with_reducible repeat (first | refine blk_drewN ?_ _ | refine blk_drew ?_ | refine blk_alloc ?_ _)); exact BK139.out), (by repeat (first | (with_reducible first | exact HB.out | apply below_alloc | apply pw_below_drewN | apply below_drew1 | refine below_set ?_ GE139.out | refine below_set ?_ GE154.out | refine below_set ?_ GE155.out | refine below_set ?_ GE156.out) | exact HB.out)), fun _ _ => NB155_154.out, fun _ _ => NB154_155.out, fun _ _ => NB156_154.out, fun _ _ => NB154_156.out, fun _ _ => NB156_155.out, fun _ _ => NB155_156.out, fun _ h1_ => absurd ((hon 17 (by kernel_rfl)).symm.trans h1_) (by decide), fun _ => GW154.out, fun _ => GE154.out, fun _ => NB139_154.out, fun _ => NB154_139.out, fun _ h1_ => absurd ((up_self b 18).symm.trans h1_) (by decide), fun _ => GW155.out, fun _ => GE155.out, fun _ => NB139_155.out, fun _ => NB155_139.out, fun _ _ => (by (with_reducible repeat (first | refine blk_drewN ?_ _ | refine blk_drew ?_ | refine blk_alloc ?_ _)); refine blk_far ?_ NB156_155.out _; (with_reducible repeat (first | refine blk_drewN ?_ _ | refine blk_drew ?_ | refine blk_alloc ?_ _)); refine blk_far ?_ NB156_155.out _; (with_reducible repeat (first | refine blk_drewN ?_ _ | refine blk_drew ?_ | refine blk_alloc ?_ _)); refine blk_far ?_ NB156_155.out _; (with_reducible repeat (first | refine blk_drewN ?_ _ | refine blk_drew ?_ | refine blk_alloc ?_ _)); exact BK156.out), fun _ => GW156.out, fun _ => GE156.out, fun _ => NB139_156.out, fun _ => NB156_139.out, fun _ => (by (with_reducible repeat (first | refine blk_drewN ?_ _ | refine blk_drew ?_ | refine blk_alloc ?_ _)); refine blk_far ?_ NB154_155.out _; (with_reducible repeat (first | refine blk_drewN ?_ _ | refine blk_drew ?_ | refine blk_alloc ?_ _)); refine blk_far ?_ NB154_155.out _; (with_reducible repeat (first | refine blk_drewN ?_ _ | refine blk_drew ?_ | refine blk_alloc ?_ _)); refine blk_far ?_ NB154_155.out _; (with_reducible repeat (first | refine blk_drewN ?_ _ | refine blk_drew ?_ | refine blk_alloc ?_ _)); exact BK154.out), fun _ => (by (with_reducible repeat (first | refine blk_drewN ?_ _ | refine blk_drew ?_ | refine blk_alloc ?_ _)); refine blk_put (cs := #[.int .i64 t148, .int .i64 t149, .int .i64 0]) ?_ 2 _ rfl; (with_reducible repeat (first | refine blk_drewN ?_ _ | refine blk_drew ?_ | refine blk_alloc ?_ _)); refine blk_put (cs := #[.int .i64 t148, .int .i64 0, .int .i64 0]) ?_ 1 _ rfl; (with_reducible repeat (first | refine blk_drewN ?_ _ | refine blk_drew ?_ | refine blk_alloc ?_ _)); refine blk_put (cs := #[.int .i64 0, .int .i64 0, .int .i64 0]) ?_ 0 _ rfl; (with_reducible repeat (first | refine blk_drewN ?_ _ | refine blk_drew ?_ | refine blk_alloc ?_ _)); exact BK155.out), fun h0_ => absurd ((hoff 19 (by kernel_rfl)).symm.trans h0_) (by decide), Q_X14_, Q_X15_, Q_X16_⟩
      refine steps_cons ?_ ?_
      · rintro b a w' ⟨gb154, gb155, gb156, m14_, m15_, m16_, ha, Q_BK139, Q_HB, Q_NB155_154, Q_NB154_155, Q_NB156_154, Q_NB154_156, Q_NB156_155, Q_NB155_156, Q_BK154, Q_GW154, Q_GE154, Q_NB139_154, Q_NB154_139, Q_BK155, Q_GW155, Q_GE155, Q_NB139_155, Q_NB155_139, Q_BK156, Q_GW156, Q_GE156, Q_NB139_156, Q_NB156_139, Q_BK154_e17, Q_BK155_e18, Q_BK156_e19, Q_X14_, Q_X15_, Q_X16_⟩ hb_ hon hoff
        refine ⟨_, rfl, fun K hK => ?_⟩
        have e13 : a.tmps[13]? = some (m16_) := by rw [ha]; exact putSel_on (e := (16, 13, m16_)) 9 rfl rfl (hon 16 (by kernel_rfl)) rfl
        rw [Q_X16_ (hon 16 (by kernel_rfl))] at e13
        have e53 : a.tmps[53]? = some (.agg #[.int .i64 t151, .int .i64 t152, .int .i64 t153]) := by rw [ha]; exact putSel_on (e := (13, 53, .agg #[.int .i64 t151, .int .i64 t152, .int .i64 t153])) 6 rfl rfl (hon 13 (by kernel_rfl)) rfl
        replace ha := Aside0.mk ha
        have BK139 := Aside0.mk Q_BK139
        have HB := Aside0.mk Q_HB
        have NB155_154 := Aside0.mk (Q_NB155_154 (hon 14 (by kernel_rfl)) (hon 15 (by kernel_rfl)))
        have NB154_155 := Aside0.mk (Q_NB154_155 (hon 14 (by kernel_rfl)) (hon 15 (by kernel_rfl)))
        have NB156_154 := Aside0.mk (Q_NB156_154 (hon 14 (by kernel_rfl)) (hon 16 (by kernel_rfl)))
        have NB154_156 := Aside0.mk (Q_NB154_156 (hon 14 (by kernel_rfl)) (hon 16 (by kernel_rfl)))
        have NB156_155 := Aside0.mk (Q_NB156_155 (hon 15 (by kernel_rfl)) (hon 16 (by kernel_rfl)))
        have NB155_156 := Aside0.mk (Q_NB155_156 (hon 15 (by kernel_rfl)) (hon 16 (by kernel_rfl)))
        have GW154 := Aside0.mk (Q_GW154 (hon 14 (by kernel_rfl)))
        have GE154 := Aside0.mk (Q_GE154 (hon 14 (by kernel_rfl)))
        have NB139_154 := Aside0.mk (Q_NB139_154 (hon 14 (by kernel_rfl)))
        have NB154_139 := Aside0.mk (Q_NB154_139 (hon 14 (by kernel_rfl)))
        have GW155 := Aside0.mk (Q_GW155 (hon 15 (by kernel_rfl)))
        have GE155 := Aside0.mk (Q_GE155 (hon 15 (by kernel_rfl)))
        have NB139_155 := Aside0.mk (Q_NB139_155 (hon 15 (by kernel_rfl)))
        have NB155_139 := Aside0.mk (Q_NB155_139 (hon 15 (by kernel_rfl)))
        have BK156 := Aside0.mk (Q_BK156 (hon 16 (by kernel_rfl)) hb_)
        have GW156 := Aside0.mk (Q_GW156 (hon 16 (by kernel_rfl)))
        have GE156 := Aside0.mk (Q_GE156 (hon 16 (by kernel_rfl)))
        have NB139_156 := Aside0.mk (Q_NB139_156 (hon 16 (by kernel_rfl)))
        have NB156_139 := Aside0.mk (Q_NB156_139 (hon 16 (by kernel_rfl)))
        have BK154 := Aside0.mk (Q_BK154_e17 (hon 17 (by kernel_rfl)))
        have BK155 := Aside0.mk (Q_BK155_e18 (hon 18 (by kernel_rfl)))
        have hs32 : w'.cell? ⟨gb156, 0, none⟩ = some (.int .i64 0) := (blk_cell BK156.out 0).trans rfl
        have hfs32 := blk_frozen BK156.out 0
        have hns32_0 := NB139_156.out
        have hns32_1 := NB154_156.out
        have hns32_2 := NB155_156.out
        have hms32_0 := NB156_139.out
        have hms32_1 := NB156_154.out
        have hms32_2 := NB156_155.out
        have hs33 : w'.cell? ⟨gb156, 1, none⟩ = some (.int .i64 0) := (blk_cell BK156.out 1).trans rfl
        have hfs33 := blk_frozen BK156.out 1
        have hns33_0 := NB139_156.out
        have hns33_1 := NB154_156.out
        have hns33_2 := NB155_156.out
        have hms33_0 := NB156_139.out
        have hms33_1 := NB156_154.out
        have hms33_2 := NB156_155.out
        have hs34 : w'.cell? ⟨gb156, 2, none⟩ = some (.int .i64 0) := (blk_cell BK156.out 2).trans rfl
        have hfs34 := blk_frozen BK156.out 2
        have hns34_0 := NB139_156.out
        have hns34_1 := NB154_156.out
        have hns34_2 := NB155_156.out
        have hms34_0 := NB156_139.out
        have hms34_1 := NB156_154.out
        have hms34_2 := NB156_155.out
        refine skip_ (w1 := ?_) (by rfl) rfl ?_ ?_
        rotate_left
        · go_simp
          rfl
        refine hK.out _ _ ⟨gb154, gb155, gb156, m14_, m15_, m16_, (by rw [ha.out]; exact putSel_none (v := undef) rfl), (by (with_reducible repeat (first | refine blk_drewN ?_ _ | refine blk_drew ?_ | refine blk_alloc ?_ _)); refine blk_far ?_ NB139_156.out _; (with_reducible repeat (first | refine blk_drewN ?_ _ | refine blk_drew ?_ | refine blk_alloc ?_ _)); refine blk_far ?_ NB139_156.out _; (with_reducible repeat (first | refine blk_drewN ?_ _ | refine blk_drew ?_ | refine blk_alloc ?_ _)); refine blk_far ?_ NB139_156.out _; (with_reducible repeat (first | refine blk_drewN ?_ _ | refine blk_drew ?_ | refine blk_alloc ?_ _)); exact BK139.out), (by repeat (first | (with_reducible first | exact HB.out | apply below_alloc | apply pw_below_drewN | apply below_drew1 | refine below_set ?_ GE139.out | refine below_set ?_ GE154.out | refine below_set ?_ GE155.out | refine below_set ?_ GE156.out) | exact HB.out)), fun _ _ => NB155_154.out, fun _ _ => NB154_155.out, fun _ _ => NB156_154.out, fun _ _ => NB154_156.out, fun _ _ => NB156_155.out, fun _ _ => NB155_156.out, fun _ h1_ => absurd ((hon 17 (by kernel_rfl)).symm.trans h1_) (by decide), fun _ => GW154.out, fun _ => GE154.out, fun _ => NB139_154.out, fun _ => NB154_139.out, fun _ h1_ => absurd ((hon 18 (by kernel_rfl)).symm.trans h1_) (by decide), fun _ => GW155.out, fun _ => GE155.out, fun _ => NB139_155.out, fun _ => NB155_139.out, fun _ h1_ => absurd ((up_self b 19).symm.trans h1_) (by decide), fun _ => GW156.out, fun _ => GE156.out, fun _ => NB139_156.out, fun _ => NB156_139.out, fun _ => (by (with_reducible repeat (first | refine blk_drewN ?_ _ | refine blk_drew ?_ | refine blk_alloc ?_ _)); refine blk_far ?_ NB154_156.out _; (with_reducible repeat (first | refine blk_drewN ?_ _ | refine blk_drew ?_ | refine blk_alloc ?_ _)); refine blk_far ?_ NB154_156.out _; (with_reducible repeat (first | refine blk_drewN ?_ _ | refine blk_drew ?_ | refine blk_alloc ?_ _)); refine blk_far ?_ NB154_156.out _; (with_reducible repeat (first | refine blk_drewN ?_ _ | refine blk_drew ?_ | refine blk_alloc ?_ _)); exact BK154.out), fun _ => (by (with_reducible repeat (first | refine blk_drewN ?_ _ | refine blk_drew ?_ | refine blk_alloc ?_ _)); refine blk_far ?_ NB155_156.out _; (with_reducible repeat (first | refine blk_drewN ?_ _ | refine blk_drew ?_ | refine blk_alloc ?_ _)); refine blk_far ?_ NB155_156.out _; (with_reducible repeat (first | refine blk_drewN ?_ _ | refine blk_drew ?_ | refine blk_alloc ?_ _)); refine blk_far ?_ NB155_156.out _; (with_reducible repeat (first | refine blk_drewN ?_ _ | refine blk_drew ?_ | refine blk_alloc ?_ _)); exact BK155.out), fun _ => (by (with_reducible repeat (first | refine blk_drewN ?_ _ | refine blk_drew ?_ | refine blk_alloc ?_ _)); refine blk_put (cs := #[.int .i64 t151, .int .i64 t152, .int .i64 0]) ?_ 2 _ rfl; (with_reducible repeat (first | refine blk_drewN ?_ _ | refine blk_drew ?_ | refine blk_alloc ?_ _)); refine blk_put (cs := #[.int .i64 t151, .int .i64 0, .int .i64 0]) ?_ 1 _ rfl; (with_reducible repeat (first | refine blk_drewN ?_ _ | refine blk_drew ?_ | refine blk_alloc ?_ _)); refine blk_put (cs := #[.int .i64 0, .int .i64 0, .int .i64 0]) ?_ 0 _ rfl; (with_reducible repeat (first | refine blk_drewN ?_ _ | refine blk_drew ?_ | refine blk_alloc ?_ _)); exact BK156.out), Q_X14_, Q_X15_, Q_X16_⟩
      exact steps_nil
    rintro b a w34 hall ⟨gb154, gb155, gb156, m14_, m15_, m16_, ha, Q_BK139, Q_HB, Q_NB155_154, Q_NB154_155, Q_NB156_154, Q_NB154_156, Q_NB156_155, Q_NB155_156, Q_BK154, Q_GW154, Q_GE154, Q_NB139_154, Q_NB154_139, Q_BK155, Q_GW155, Q_GE155, Q_NB139_155, Q_NB155_139, Q_BK156, Q_GW156, Q_GE156, Q_NB139_156, Q_NB156_139, Q_BK154_e17, Q_BK155_e18, Q_BK156_e19, Q_X14_, Q_X15_, Q_X16_⟩
    clear BK139 HB
    have hb0_ := hall 0 (by kernel_rfl)
    have hb3_ := hall 3 (by kernel_rfl)
    have hb4_ := hall 4 (by kernel_rfl)
    have hb7_ := hall 7 (by kernel_rfl)
    have hb8_ := hall 8 (by kernel_rfl)
    have hb11_ := hall 11 (by kernel_rfl)
    have hb13_ := hall 13 (by kernel_rfl)
    have hb14_ := hall 14 (by kernel_rfl)
    have hb15_ := hall 15 (by kernel_rfl)
    have hb16_ := hall 16 (by kernel_rfl)
    have hb17_ := hall 17 (by kernel_rfl)
    have hb18_ := hall 18 (by kernel_rfl)
    have hb19_ := hall 19 (by kernel_rfl)
    subst ha
    obtain rfl := Q_X14_ hb14_
    obtain rfl := Q_X15_ hb15_
    obtain rfl := Q_X16_ hb16_
    simp only [putSel, hb0_, hb3_, hb4_, hb7_, hb8_, hb11_, hb13_, hb14_, hb15_, hb16_, hb17_, hb18_, hb19_, if_true, Act.put, List.setIfInBounds_toArray, List.set_cons_zero, List.set_cons_succ]
    have BK139 := Aside0.mk Q_BK139
    clear Q_BK139
    have HB := Aside0.mk Q_HB
    clear Q_HB
    have NB155_154 := Aside0.mk (Q_NB155_154 hb14_ hb15_)
    clear Q_NB155_154
    have NB154_155 := Aside0.mk (Q_NB154_155 hb14_ hb15_)
    clear Q_NB154_155
    have NB156_154 := Aside0.mk (Q_NB156_154 hb14_ hb16_)
    clear Q_NB156_154
    have NB154_156 := Aside0.mk (Q_NB154_156 hb14_ hb16_)
    clear Q_NB154_156
    have NB156_155 := Aside0.mk (Q_NB156_155 hb15_ hb16_)
    clear Q_NB156_155
    have NB155_156 := Aside0.mk (Q_NB155_156 hb15_ hb16_)
    clear Q_NB155_156
    clear Q_BK154
    have GW154 := Aside0.mk (Q_GW154 hb14_)
    clear Q_GW154
    have GE154 := Aside0.mk (Q_GE154 hb14_)
    clear Q_GE154
    have NB139_154 := Aside0.mk (Q_NB139_154 hb14_)
    clear Q_NB139_154
    have NB154_139 := Aside0.mk (Q_NB154_139 hb14_)
    clear Q_NB154_139
    clear Q_BK155
    have GW155 := Aside0.mk (Q_GW155 hb15_)
    clear Q_GW155
    have GE155 := Aside0.mk (Q_GE155 hb15_)
    clear Q_GE155
    have NB139_155 := Aside0.mk (Q_NB139_155 hb15_)
    clear Q_NB139_155
    have NB155_139 := Aside0.mk (Q_NB155_139 hb15_)
    clear Q_NB155_139
    clear Q_BK156
    have GW156 := Aside0.mk (Q_GW156 hb16_)
    clear Q_GW156
    have GE156 := Aside0.mk (Q_GE156 hb16_)
    clear Q_GE156
    have NB139_156 := Aside0.mk (Q_NB139_156 hb16_)
    clear Q_NB139_156
    have NB156_139 := Aside0.mk (Q_NB156_139 hb16_)
    clear Q_NB156_139
    have BK154 := Aside0.mk (Q_BK154_e17 hb17_)
    clear Q_BK154_e17
    have BK155 := Aside0.mk (Q_BK155_e18 hb18_)
    clear Q_BK155_e18
    have BK156 := Aside0.mk (Q_BK156_e19 hb19_)
    clear Q_BK156_e19
    clear hall hb0_ hb3_ hb4_ hb7_ hb8_ hb11_ hb13_ hb14_ hb15_ hb16_ hb17_ hb18_ hb19_
    try go_wp2
    have n0_ := Aside0.mk (blk_drew BK139.out)
    have n1_ := Aside0.mk (blk_drew BK154.out)
    have n2_ := Aside0.mk (blk_drew BK155.out)
    have n3_ := Aside0.mk (blk_drew BK156.out)
    have n4_ := Aside0.mk (below_drew1 HB.out)
    clear BK139
    clear BK154
    clear BK155
    clear BK156
    clear HB
    have BK139 := n0_
    have BK154 := n1_
    have BK155 := n2_
    have BK156 := n3_
    have HB := n4_
    clear n0_ n1_ n2_ n3_ n4_
    refine start_ (n := 11) (S := fun w' => True) (ds := []) #[false, false, false, false, false, false, false, false, false, false, false] (by kernel_rfl) rfl rfl trivial (fun hHeld => ?_); refine with_tabW potsherdlaw24_CostSums.tab5 potsherdlaw24_CostSums.bits5 (fun HT_ HW_ => ?_)
    generalize w34.drew = w35 at BK139 BK154 BK155 BK156 HB hHeld ⊢
    refine pure_ (i := 1) (N := some 55) (v := ?_) (a' := ?_) #[false, true, false, false, false, false, false, false, false, false, false] rfl rfl (any_of HT_.out (by kernel_rfl)) (fun _ _ _ h => h) (Or.inl ⟨by rfl, ?_⟩) ?_ ?_
    rotate_left
    · intro w'
      go_simp
      with_reducible rfl
    rotate_left
    · simp only [Act.put, List.setIfInBounds_toArray, List.set_cons_zero, List.set_cons_succ, i64_w, i32_w]
      rfl
    refine pure_ (i := 4) (N := some 58) (v := ?_) (a' := ?_) #[false, true, false, false, true, false, false, false, false, false, false] rfl rfl (any_of HT_.out (by kernel_rfl)) (fun _ _ _ h => h) (Or.inl ⟨by rfl, ?_⟩) ?_ ?_
    rotate_left
    · intro w'
      go_simp
      with_reducible rfl
    rotate_left
    · simp only [Act.put, List.setIfInBounds_toArray, List.set_cons_zero, List.set_cons_succ, i64_w, i32_w]
      rfl
    refine pure_ (i := 5) (N := some 59) (v := ?_) (a' := ?_) #[false, true, false, false, true, true, false, false, false, false, false] rfl rfl (any_of HT_.out (by kernel_rfl)) (fun _ _ _ h => h) (Or.inl ⟨by rfl, ?_⟩) ?_ ?_
    rotate_left
    · intro w'
      go_simp
      with_reducible rfl
    rotate_left
    · simp only [Act.put, List.setIfInBounds_toArray, List.set_cons_zero, List.set_cons_succ, i64_w, i32_w]
      rfl
    refine inv_at [0, 2, 3, 6, 7, 8, 9, 10] (fun a0_ b a w' => ∃ (gb163 : Nat) (gb164 : Nat) (m7_ : Value) (m8_ : Value), a = putSel a0_ b [(0, 54, .agg #[.int .i64 a0_0, .int .i64 a0_1, .int .i64 a0_2, .int .i64 a0_3, .int .i64 a0_4]), (2, 56, .agg #[.int .i64 t157, .int .i64 t158, .int .i64 t159]), (3, 57, .agg #[.int .i64 a0_0, .int .i64 a0_1, .int .i64 a0_2, .int .i64 a0_3, .int .i64 a0_4]), (6, 60, .agg #[.int .i64 t160, .int .i64 t161, .int .i64 t162]), (7, 14, m7_), (8, 15, m8_)] ∧ (w'.heap[gb139]? = some (.cells #[.int .i64 a0_0, .int .i64 a0_1, .int .i64 a0_2, .int .i64 a0_3, .int .i64 a0_4] 23 (0, 0))) ∧ (w'.heap[gb154]? = some (.cells #[.int .i64 t145, .int .i64 t146, .int .i64 t147] 32 (0, 0))) ∧ (w'.heap[gb155]? = some (.cells #[.int .i64 t148, .int .i64 t149, .int .i64 t150] 32 (0, 0))) ∧ (w'.heap[gb156]? = some (.cells #[.int .i64 t151, .int .i64 t152, .int .i64 t153] 32 (0, 0))) ∧ (Below w.heap.size w w') ∧ (b 7 = true → b 8 = true → gb164 ≠ gb163) ∧ (b 7 = true → b 8 = true → gb163 ≠ gb164) ∧ (b 7 = true → b 9 = false → w'.heap[gb163]? = some (.cells #[.int .i64 0, .int .i64 0, .int .i64 0] 32 (0, 0))) ∧ (b 7 = true → w.heap.size ≤ gb163) ∧ (b 7 = true → w.heap.size ≤ gb163) ∧ (b 7 = true → gb139 ≠ gb163) ∧ (b 7 = true → gb163 ≠ gb139) ∧ (b 7 = true → gb154 ≠ gb163) ∧ (b 7 = true → gb163 ≠ gb154) ∧ (b 7 = true → gb155 ≠ gb163) ∧ (b 7 = true → gb163 ≠ gb155) ∧ (b 7 = true → gb156 ≠ gb163) ∧ (b 7 = true → gb163 ≠ gb156) ∧ (b 8 = true → b 10 = false → w'.heap[gb164]? = some (.cells #[.int .i64 0, .int .i64 0, .int .i64 0] 32 (0, 0))) ∧ (b 8 = true → w.heap.size ≤ gb164) ∧ (b 8 = true → w.heap.size ≤ gb164) ∧ (b 8 = true → gb139 ≠ gb164) ∧ (b 8 = true → gb164 ≠ gb139) ∧ (b 8 = true → gb154 ≠ gb164) ∧ (b 8 = true → gb164 ≠ gb154) ∧ (b 8 = true → gb155 ≠ gb164) ∧ (b 8 = true → gb164 ≠ gb155) ∧ (b 8 = true → gb156 ≠ gb164) ∧ (b 8 = true → gb164 ≠ gb156) ∧ (b 9 = true → w'.heap[gb163]? = some (.cells #[.int .i64 t157, .int .i64 t158, .int .i64 t159] 32 (0, 0))) ∧ (b 10 = true → w'.heap[gb164]? = some (.cells #[.int .i64 t160, .int .i64 t161, .int .i64 t162] 32 (0, 0))) ∧ (b 7 = true → (m7_ : Value) = .pointer (some ⟨gb163, 0, none⟩)) ∧ (b 8 = true → (m8_ : Value) = .pointer (some ⟨gb164, 0, none⟩))) HT_.out HW_.out (by kernel_rfl) (by kernel_rfl) ?_ ?_ ?_
    · exact ⟨0, 0, .bool false, .bool false, by simp only [putSel, Bool.false_eq_true, if_false], BK139.out, BK154.out, BK155.out, BK156.out, HB.out, fun h_ => absurd h_ (by decide), fun h_ => absurd h_ (by decide), fun h_ => absurd h_ (by decide), fun h_ => absurd h_ (by decide), fun h_ => absurd h_ (by decide), fun h_ => absurd h_ (by decide), fun h_ => absurd h_ (by decide), fun h_ => absurd h_ (by decide), fun h_ => absurd h_ (by decide), fun h_ => absurd h_ (by decide), fun h_ => absurd h_ (by decide), fun h_ => absurd h_ (by decide), fun h_ => absurd h_ (by decide), fun h_ => absurd h_ (by decide), fun h_ => absurd h_ (by decide), fun h_ => absurd h_ (by decide), fun h_ => absurd h_ (by decide), fun h_ => absurd h_ (by decide), fun h_ => absurd h_ (by decide), fun h_ => absurd h_ (by decide), fun h_ => absurd h_ (by decide), fun h_ => absurd h_ (by decide), fun h_ => absurd h_ (by decide), fun h_ => absurd h_ (by decide), fun h_ => absurd h_ (by decide), fun h_ => absurd h_ (by decide), fun h_ => absurd h_ (by decide), fun h_ => absurd h_ (by decide)⟩
    · skip
      clear BK139 BK154 BK155 BK156 HB
      refine steps_cons ?_ ?_
      · rintro b a w' ⟨gb163, gb164, m7_, m8_, ha, Q_BK139, Q_BK154, Q_BK155, Q_BK156, Q_HB, Q_NB164_163, Q_NB163_164, Q_BK163, Q_GW163, Q_GE163, Q_NB139_163, Q_NB163_139, Q_NB154_163, Q_NB163_154, Q_NB155_163, Q_NB163_155, Q_NB156_163, Q_NB163_156, Q_BK164, Q_GW164, Q_GE164, Q_NB139_164, Q_NB164_139, Q_NB154_164, Q_NB164_154, Q_NB155_164, Q_NB164_155, Q_NB156_164, Q_NB164_156, Q_BK163_e9, Q_BK164_e10, Q_X7_, Q_X8_⟩ hb_ hon hoff
        refine ⟨_, rfl, fun K hK => ?_⟩
        have e5 : a.tmps[5]? = some (.pointer (some ⟨gb139, 0, none⟩)) := by rw [ha]; exact (putSel_off rfl).trans rfl
        replace ha := Aside0.mk ha
        have BK139 := Aside0.mk Q_BK139
        have BK154 := Aside0.mk Q_BK154
        have BK155 := Aside0.mk Q_BK155
        have BK156 := Aside0.mk Q_BK156
        have HB := Aside0.mk Q_HB
        have hc0_ : w'.cell? ⟨gb139, 0, none⟩ = some (.int .i64 a0_0) := (blk_cell BK139.out 0).trans rfl
        have hc1_ : w'.cell? ⟨gb139, 1, none⟩ = some (.int .i64 a0_1) := (blk_cell BK139.out 1).trans rfl
        have hc2_ : w'.cell? ⟨gb139, 2, none⟩ = some (.int .i64 a0_2) := (blk_cell BK139.out 2).trans rfl
        have hc3_ : w'.cell? ⟨gb139, 3, none⟩ = some (.int .i64 a0_3) := (blk_cell BK139.out 3).trans rfl
        have hc4_ : w'.cell? ⟨gb139, 4, none⟩ = some (.int .i64 a0_4) := (blk_cell BK139.out 4).trans rfl
        refine value_ (w1 := w') (v := .agg #[.int .i64 a0_0, .int .i64 a0_1, .int .i64 a0_2, .int .i64 a0_3, .int .i64 a0_4]) (by rfl) rfl ?_ ?_
        · go_simp
          (try simp only [i64_w])
          try rfl
        refine hK.out _ _ ⟨gb163, gb164, m7_, m8_, (by rw [ha.out]; exact putSel_upk 0 hb_ rfl rfl rfl), Q_BK139, Q_BK154, Q_BK155, Q_BK156, Q_HB, Q_NB164_163, Q_NB163_164, Q_BK163, Q_GW163, Q_GE163, Q_NB139_163, Q_NB163_139, Q_NB154_163, Q_NB163_154, Q_NB155_163, Q_NB163_155, Q_NB156_163, Q_NB163_156, Q_BK164, Q_GW164, Q_GE164, Q_NB139_164, Q_NB164_139, Q_NB154_164, Q_NB164_154, Q_NB155_164, Q_NB164_155, Q_NB156_164, Q_NB164_156, fun h0_ => absurd ((hoff 9 (by kernel_rfl)).symm.trans h0_) (by decide), fun h0_ => absurd ((hoff 10 (by kernel_rfl)).symm.trans h0_) (by decide), Q_X7_, Q_X8_⟩
      refine steps_cons ?_ ?_
      · rintro b a w' ⟨gb163, gb164, m7_, m8_, ha, Q_BK139, Q_BK154, Q_BK155, Q_BK156, Q_HB, Q_NB164_163, Q_NB163_164, Q_BK163, Q_GW163, Q_GE163, Q_NB139_163, Q_NB163_139, Q_NB154_163, Q_NB163_154, Q_NB155_163, Q_NB163_155, Q_NB156_163, Q_NB163_156, Q_BK164, Q_GW164, Q_GE164, Q_NB139_164, Q_NB164_139, Q_NB154_164, Q_NB164_154, Q_NB155_164, Q_NB164_155, Q_NB156_164, Q_NB164_156, Q_BK163_e9, Q_BK164_e10, Q_X7_, Q_X8_⟩ hb_ hon hoff
        refine ⟨_, rfl, fun K hK => ?_⟩
        have e54 : a.tmps[54]? = some (.agg #[.int .i64 a0_0, .int .i64 a0_1, .int .i64 a0_2, .int .i64 a0_3, .int .i64 a0_4]) := by rw [ha]; exact putSel_on (e := (0, 54, .agg #[.int .i64 a0_0, .int .i64 a0_1, .int .i64 a0_2, .int .i64 a0_3, .int .i64 a0_4])) 0 rfl rfl (hon 0 (by kernel_rfl)) rfl
        have e55 : a.tmps[55]? = some (.int .i64 (wrap64 (Int.tmod (IntKind.u64.wrap (a1)) 10))) := by rw [ha]; exact (putSel_off rfl).trans rfl
        replace ha := Aside0.mk ha
        have BK139 := Aside0.mk Q_BK139
        have BK154 := Aside0.mk Q_BK154
        have BK155 := Aside0.mk Q_BK155
        have BK156 := Aside0.mk Q_BK156
        have HB := Aside0.mk Q_HB
        refine goes_ Try.func14 (by kernel_rfl) rfl #[.agg #[.int .i64 a0_0, .int .i64 a0_1, .int .i64 a0_2, .int .i64 a0_3, .int .i64 a0_4], .int .i64 (wrap64 (Int.tmod (IntKind.u64.wrap (a1)) 10)), .int .i64 0] (by rfl) rfl rfl (by first | (simp only [List.map_toArray, List.map_cons, List.map_nil, Act.eval, Array.getD_eq_getD_getElem?, Option.getD_some, e54, e55]; done) | (simp only [List.map_toArray, List.map_cons, List.map_nil, Act.eval, Array.getD_eq_getD_getElem?, Option.getD_some, e54, e55]; rfl)) ?_
        with_reducible refine (cost_Price.calls k a0_0 a0_1 a0_2 a0_3 a0_4 (wrap64 (Int.tmod (IntKind.u64.wrap (a1)) 10)) 0 t157 t158 t159 _ A11.out).mono ?_
        rintro e w36 ⟨rfl, hb⟩
        refine ⟨_, rfl, ?_⟩
        have n0_ := Aside0.mk (blk_below (g := gb139) (o := .cells #[.int .i64 a0_0, .int .i64 a0_1, .int .i64 a0_2, .int .i64 a0_3, .int .i64 a0_4] 23 (0, 0)) (by (with_reducible repeat (first | refine blk_drewN ?_ _ | refine blk_drew ?_ | refine blk_alloc ?_ _)); exact BK139.out) hb)
        have n1_ := Aside0.mk (blk_below (g := gb154) (o := .cells #[.int .i64 t145, .int .i64 t146, .int .i64 t147] 32 (0, 0)) (by (with_reducible repeat (first | refine blk_drewN ?_ _ | refine blk_drew ?_ | refine blk_alloc ?_ _)); exact BK154.out) hb)
        have n2_ := Aside0.mk (blk_below (g := gb155) (o := .cells #[.int .i64 t148, .int .i64 t149, .int .i64 t150] 32 (0, 0)) (by (with_reducible repeat (first | refine blk_drewN ?_ _ | refine blk_drew ?_ | refine blk_alloc ?_ _)); exact BK155.out) hb)
        have n3_ := Aside0.mk (blk_below (g := gb156) (o := .cells #[.int .i64 t151, .int .i64 t152, .int .i64 t153] 32 (0, 0)) (by (with_reducible repeat (first | refine blk_drewN ?_ _ | refine blk_drew ?_ | refine blk_alloc ?_ _)); exact BK156.out) hb)
        have n4_ := Aside0.mk (below_step (by repeat (first | (with_reducible first | exact HB.out | apply below_alloc | apply pw_below_drewN | apply below_drew1 | refine below_set ?_ GE139.out | refine below_set ?_ GE154.out | refine below_set ?_ GE155.out | refine below_set ?_ GE156.out) | exact HB.out)) hb)
        have z_BK163 := fun (h0_ : b 7 = true) (h1_ : b 9 = false) => (show w36.heap[gb163]? = some (.cells #[.int .i64 0, .int .i64 0, .int .i64 0] 32 (0, 0)) from by first | exact (blk_below (g := gb163) (o := .cells #[.int .i64 0, .int .i64 0, .int .i64 0] 32 (0, 0)) (by (with_reducible repeat (first | refine blk_drewN ?_ _ | refine blk_drew ?_ | refine blk_alloc ?_ _)); exact (Q_BK163 h0_ h1_)) hb))
        have z_BK164 := fun (h0_ : b 8 = true) (h1_ : b 10 = false) => (show w36.heap[gb164]? = some (.cells #[.int .i64 0, .int .i64 0, .int .i64 0] 32 (0, 0)) from by first | exact (blk_below (g := gb164) (o := .cells #[.int .i64 0, .int .i64 0, .int .i64 0] 32 (0, 0)) (by (with_reducible repeat (first | refine blk_drewN ?_ _ | refine blk_drew ?_ | refine blk_alloc ?_ _)); exact (Q_BK164 h0_ h1_)) hb))
        clear BK139
        clear BK154
        clear BK155
        clear BK156
        clear HB
        have BK139 := n0_
        have BK154 := n1_
        have BK155 := n2_
        have BK156 := n3_
        have HB := n4_
        clear n0_ n1_ n2_ n3_ n4_
        (try clear hb)
        (try clear hb2)
        (try clear hk)
        (try clear hi)
        refine hK.out _ _ ⟨gb163, gb164, m7_, m8_, (by rw [ha.out]; exact putSel_upk 1 hb_ rfl rfl rfl), (by (with_reducible repeat (first | refine blk_drewN ?_ _ | refine blk_drew ?_ | refine blk_alloc ?_ _)); exact BK139.out), (by (with_reducible repeat (first | refine blk_drewN ?_ _ | refine blk_drew ?_ | refine blk_alloc ?_ _)); exact BK154.out), (by (with_reducible repeat (first | refine blk_drewN ?_ _ | refine blk_drew ?_ | refine blk_alloc ?_ _)); exact BK155.out), (by (with_reducible repeat (first | refine blk_drewN ?_ _ | refine blk_drew ?_ | refine blk_alloc ?_ _)); exact BK156.out), (by repeat (first | (with_reducible first | exact HB.out | apply below_alloc | apply pw_below_drewN | apply below_drew1 | refine below_set ?_ GE139.out | refine below_set ?_ GE154.out | refine below_set ?_ GE155.out | refine below_set ?_ GE156.out) | exact HB.out)), Q_NB164_163, Q_NB163_164, z_BK163, Q_GW163, Q_GE163, Q_NB139_163, Q_NB163_139, Q_NB154_163, Q_NB163_154, Q_NB155_163, Q_NB163_155, Q_NB156_163, Q_NB163_156, z_BK164, Q_GW164, Q_GE164, Q_NB139_164, Q_NB164_139, Q_NB154_164, Q_NB164_154, Q_NB155_164, Q_NB164_155, Q_NB156_164, Q_NB164_156, fun h0_ => absurd ((hoff 9 (by kernel_rfl)).symm.trans h0_) (by decide), fun h0_ => absurd ((hoff 10 (by kernel_rfl)).symm.trans h0_) (by decide), Q_X7_, Q_X8_⟩
      refine steps_cons ?_ ?_
      · rintro b a w' ⟨gb163, gb164, m7_, m8_, ha, Q_BK139, Q_BK154, Q_BK155, Q_BK156, Q_HB, Q_NB164_163, Q_NB163_164, Q_BK163, Q_GW163, Q_GE163, Q_NB139_163, Q_NB163_139, Q_NB154_163, Q_NB163_154, Q_NB155_163, Q_NB163_155, Q_NB156_163, Q_NB163_156, Q_BK164, Q_GW164, Q_GE164, Q_NB139_164, Q_NB164_139, Q_NB154_164, Q_NB164_154, Q_NB155_164, Q_NB164_155, Q_NB156_164, Q_NB164_156, Q_BK163_e9, Q_BK164_e10, Q_X7_, Q_X8_⟩ hb_ hon hoff
        refine ⟨_, rfl, fun K hK => ?_⟩
        have e5 : a.tmps[5]? = some (.pointer (some ⟨gb139, 0, none⟩)) := by rw [ha]; exact (putSel_off rfl).trans rfl
        replace ha := Aside0.mk ha
        have BK139 := Aside0.mk Q_BK139
        have BK154 := Aside0.mk Q_BK154
        have BK155 := Aside0.mk Q_BK155
        have BK156 := Aside0.mk Q_BK156
        have HB := Aside0.mk Q_HB
        have hc0_ : w'.cell? ⟨gb139, 0, none⟩ = some (.int .i64 a0_0) := (blk_cell BK139.out 0).trans rfl
        have hc1_ : w'.cell? ⟨gb139, 1, none⟩ = some (.int .i64 a0_1) := (blk_cell BK139.out 1).trans rfl
        have hc2_ : w'.cell? ⟨gb139, 2, none⟩ = some (.int .i64 a0_2) := (blk_cell BK139.out 2).trans rfl
        have hc3_ : w'.cell? ⟨gb139, 3, none⟩ = some (.int .i64 a0_3) := (blk_cell BK139.out 3).trans rfl
        have hc4_ : w'.cell? ⟨gb139, 4, none⟩ = some (.int .i64 a0_4) := (blk_cell BK139.out 4).trans rfl
        refine value_ (w1 := w') (v := .agg #[.int .i64 a0_0, .int .i64 a0_1, .int .i64 a0_2, .int .i64 a0_3, .int .i64 a0_4]) (by rfl) rfl ?_ ?_
        · go_simp
          (try simp only [i64_w])
          try rfl
        refine hK.out _ _ ⟨gb163, gb164, m7_, m8_, (by rw [ha.out]; exact putSel_upk 2 hb_ rfl rfl rfl), Q_BK139, Q_BK154, Q_BK155, Q_BK156, Q_HB, Q_NB164_163, Q_NB163_164, Q_BK163, Q_GW163, Q_GE163, Q_NB139_163, Q_NB163_139, Q_NB154_163, Q_NB163_154, Q_NB155_163, Q_NB163_155, Q_NB156_163, Q_NB163_156, Q_BK164, Q_GW164, Q_GE164, Q_NB139_164, Q_NB164_139, Q_NB154_164, Q_NB164_154, Q_NB155_164, Q_NB164_155, Q_NB156_164, Q_NB164_156, fun h0_ => absurd ((hoff 9 (by kernel_rfl)).symm.trans h0_) (by decide), fun h0_ => absurd ((hoff 10 (by kernel_rfl)).symm.trans h0_) (by decide), Q_X7_, Q_X8_⟩
      refine steps_cons ?_ ?_
      · rintro b a w' ⟨gb163, gb164, m7_, m8_, ha, Q_BK139, Q_BK154, Q_BK155, Q_BK156, Q_HB, Q_NB164_163, Q_NB163_164, Q_BK163, Q_GW163, Q_GE163, Q_NB139_163, Q_NB163_139, Q_NB154_163, Q_NB163_154, Q_NB155_163, Q_NB163_155, Q_NB156_163, Q_NB163_156, Q_BK164, Q_GW164, Q_GE164, Q_NB139_164, Q_NB164_139, Q_NB154_164, Q_NB164_154, Q_NB155_164, Q_NB164_155, Q_NB156_164, Q_NB164_156, Q_BK163_e9, Q_BK164_e10, Q_X7_, Q_X8_⟩ hb_ hon hoff
        refine ⟨_, rfl, fun K hK => ?_⟩
        have e57 : a.tmps[57]? = some (.agg #[.int .i64 a0_0, .int .i64 a0_1, .int .i64 a0_2, .int .i64 a0_3, .int .i64 a0_4]) := by rw [ha]; exact putSel_on (e := (3, 57, .agg #[.int .i64 a0_0, .int .i64 a0_1, .int .i64 a0_2, .int .i64 a0_3, .int .i64 a0_4])) 2 rfl rfl (hon 3 (by kernel_rfl)) rfl
        have e58 : a.tmps[58]? = some (.int .i64 (wrap64 (Int.tmod (IntKind.u64.wrap (a1)) 10))) := by rw [ha]; exact (putSel_off rfl).trans rfl
        have e59 : a.tmps[59]? = some (.int .i64 (wrap64 (Int.tmod (IntKind.u64.wrap (a3)) 7))) := by rw [ha]; exact (putSel_off rfl).trans rfl
        replace ha := Aside0.mk ha
        have BK139 := Aside0.mk Q_BK139
        have BK154 := Aside0.mk Q_BK154
        have BK155 := Aside0.mk Q_BK155
        have BK156 := Aside0.mk Q_BK156
        have HB := Aside0.mk Q_HB
        refine goes_ Try.func14 (by kernel_rfl) rfl #[.agg #[.int .i64 a0_0, .int .i64 a0_1, .int .i64 a0_2, .int .i64 a0_3, .int .i64 a0_4], .int .i64 (wrap64 (Int.tmod (IntKind.u64.wrap (a1)) 10)), .int .i64 (wrap64 (Int.tmod (IntKind.u64.wrap (a3)) 7))] (by rfl) rfl rfl (by first | (simp only [List.map_toArray, List.map_cons, List.map_nil, Act.eval, Array.getD_eq_getD_getElem?, Option.getD_some, e57, e58, e59]; done) | (simp only [List.map_toArray, List.map_cons, List.map_nil, Act.eval, Array.getD_eq_getD_getElem?, Option.getD_some, e57, e58, e59]; rfl)) ?_
        with_reducible refine (cost_Price.calls k a0_0 a0_1 a0_2 a0_3 a0_4 (wrap64 (Int.tmod (IntKind.u64.wrap (a1)) 10)) (wrap64 (Int.tmod (IntKind.u64.wrap (a3)) 7)) t160 t161 t162 _ A12.out).mono ?_
        rintro e w38 ⟨rfl, hb⟩
        refine ⟨_, rfl, ?_⟩
        have n0_ := Aside0.mk (blk_below (g := gb139) (o := .cells #[.int .i64 a0_0, .int .i64 a0_1, .int .i64 a0_2, .int .i64 a0_3, .int .i64 a0_4] 23 (0, 0)) (by (with_reducible repeat (first | refine blk_drewN ?_ _ | refine blk_drew ?_ | refine blk_alloc ?_ _)); exact BK139.out) hb)
        have n1_ := Aside0.mk (blk_below (g := gb154) (o := .cells #[.int .i64 t145, .int .i64 t146, .int .i64 t147] 32 (0, 0)) (by (with_reducible repeat (first | refine blk_drewN ?_ _ | refine blk_drew ?_ | refine blk_alloc ?_ _)); exact BK154.out) hb)
        have n2_ := Aside0.mk (blk_below (g := gb155) (o := .cells #[.int .i64 t148, .int .i64 t149, .int .i64 t150] 32 (0, 0)) (by (with_reducible repeat (first | refine blk_drewN ?_ _ | refine blk_drew ?_ | refine blk_alloc ?_ _)); exact BK155.out) hb)
        have n3_ := Aside0.mk (blk_below (g := gb156) (o := .cells #[.int .i64 t151, .int .i64 t152, .int .i64 t153] 32 (0, 0)) (by (with_reducible repeat (first | refine blk_drewN ?_ _ | refine blk_drew ?_ | refine blk_alloc ?_ _)); exact BK156.out) hb)
        have n4_ := Aside0.mk (below_step (by repeat (first | (with_reducible first | exact HB.out | apply below_alloc | apply pw_below_drewN | apply below_drew1 | refine below_set ?_ GE139.out | refine below_set ?_ GE154.out | refine below_set ?_ GE155.out | refine below_set ?_ GE156.out) | exact HB.out)) hb)
        have z_BK163 := fun (h0_ : b 7 = true) (h1_ : b 9 = false) => (show w38.heap[gb163]? = some (.cells #[.int .i64 0, .int .i64 0, .int .i64 0] 32 (0, 0)) from by first | exact (blk_below (g := gb163) (o := .cells #[.int .i64 0, .int .i64 0, .int .i64 0] 32 (0, 0)) (by (with_reducible repeat (first | refine blk_drewN ?_ _ | refine blk_drew ?_ | refine blk_alloc ?_ _)); exact (Q_BK163 h0_ h1_)) hb))
        have z_BK164 := fun (h0_ : b 8 = true) (h1_ : b 10 = false) => (show w38.heap[gb164]? = some (.cells #[.int .i64 0, .int .i64 0, .int .i64 0] 32 (0, 0)) from by first | exact (blk_below (g := gb164) (o := .cells #[.int .i64 0, .int .i64 0, .int .i64 0] 32 (0, 0)) (by (with_reducible repeat (first | refine blk_drewN ?_ _ | refine blk_drew ?_ | refine blk_alloc ?_ _)); exact (Q_BK164 h0_ h1_)) hb))
        clear BK139
        clear BK154
        clear BK155
        clear BK156
        clear HB
        have BK139 := n0_
        have BK154 := n1_
        have BK155 := n2_
        have BK156 := n3_
        have HB := n4_
        clear n0_ n1_ n2_ n3_ n4_
        (try clear hb)
        (try clear hb2)
        (try clear hk)
        (try clear hi)
        refine hK.out _ _ ⟨gb163, gb164, m7_, m8_, (by rw [ha.out]; exact putSel_upk 3 hb_ rfl rfl rfl), (by (with_reducible repeat (first | refine blk_drewN ?_ _ | refine blk_drew ?_ | refine blk_alloc ?_ _)); exact BK139.out), (by (with_reducible repeat (first | refine blk_drewN ?_ _ | refine blk_drew ?_ | refine blk_alloc ?_ _)); exact BK154.out), (by (with_reducible repeat (first | refine blk_drewN ?_ _ | refine blk_drew ?_ | refine blk_alloc ?_ _)); exact BK155.out), (by (with_reducible repeat (first | refine blk_drewN ?_ _ | refine blk_drew ?_ | refine blk_alloc ?_ _)); exact BK156.out), (by repeat (first | (with_reducible first | exact HB.out | apply below_alloc | apply pw_below_drewN | apply below_drew1 | refine below_set ?_ GE139.out | refine below_set ?_ GE154.out | refine below_set ?_ GE155.out | refine below_set ?_ GE156.out) | exact HB.out)), Q_NB164_163, Q_NB163_164, z_BK163, Q_GW163, Q_GE163, Q_NB139_163, Q_NB163_139, Q_NB154_163, Q_NB163_154, Q_NB155_163, Q_NB163_155, Q_NB156_163, Q_NB163_156, z_BK164, Q_GW164, Q_GE164, Q_NB139_164, Q_NB164_139, Q_NB154_164, Q_NB164_154, Q_NB155_164, Q_NB164_155, Q_NB156_164, Q_NB164_156, fun h0_ => absurd ((hoff 9 (by kernel_rfl)).symm.trans h0_) (by decide), fun h0_ => absurd ((hoff 10 (by kernel_rfl)).symm.trans h0_) (by decide), Q_X7_, Q_X8_⟩
      refine steps_cons ?_ ?_
      · rintro b a w' ⟨gb163, gb164, m7_, m8_, ha, Q_BK139, Q_BK154, Q_BK155, Q_BK156, Q_HB, Q_NB164_163, Q_NB163_164, Q_BK163, Q_GW163, Q_GE163, Q_NB139_163, Q_NB163_139, Q_NB154_163, Q_NB163_154, Q_NB155_163, Q_NB163_155, Q_NB156_163, Q_NB163_156, Q_BK164, Q_GW164, Q_GE164, Q_NB139_164, Q_NB164_139, Q_NB154_164, Q_NB164_154, Q_NB155_164, Q_NB164_155, Q_NB156_164, Q_NB164_156, Q_BK163_e9, Q_BK164_e10, Q_X7_, Q_X8_⟩ hb_ hon hoff
        refine ⟨_, rfl, fun K hK => ?_⟩
        replace ha := Aside0.mk ha
        have BK139 := Aside0.mk Q_BK139
        have BK154 := Aside0.mk Q_BK154
        have BK155 := Aside0.mk Q_BK155
        have BK156 := Aside0.mk Q_BK156
        have HB := Aside0.mk Q_HB
        refine box_step ?hg (N := 14) ?hd (cs := #[.int .i64 0, .int .i64 0, .int .i64 0]) (t := 32) ?hr ?_; (case hd => rfl); (case hg => rfl); (case hr => first | (go_simp; done) | (go_simp; rfl))
        intro gb163 hg w36 hbox hb
        have n0_ := Aside0.mk (blk_below (g := gb139) (o := .cells #[.int .i64 a0_0, .int .i64 a0_1, .int .i64 a0_2, .int .i64 a0_3, .int .i64 a0_4] 23 (0, 0)) (by (with_reducible repeat (first | refine blk_drewN ?_ _ | refine blk_drew ?_ | refine blk_alloc ?_ _)); exact BK139.out) hb)
        have n1_ := Aside0.mk (blk_below (g := gb154) (o := .cells #[.int .i64 t145, .int .i64 t146, .int .i64 t147] 32 (0, 0)) (by (with_reducible repeat (first | refine blk_drewN ?_ _ | refine blk_drew ?_ | refine blk_alloc ?_ _)); exact BK154.out) hb)
        have n2_ := Aside0.mk (blk_below (g := gb155) (o := .cells #[.int .i64 t148, .int .i64 t149, .int .i64 t150] 32 (0, 0)) (by (with_reducible repeat (first | refine blk_drewN ?_ _ | refine blk_drew ?_ | refine blk_alloc ?_ _)); exact BK155.out) hb)
        have n3_ := Aside0.mk (blk_below (g := gb156) (o := .cells #[.int .i64 t151, .int .i64 t152, .int .i64 t153] 32 (0, 0)) (by (with_reducible repeat (first | refine blk_drewN ?_ _ | refine blk_drew ?_ | refine blk_alloc ?_ _)); exact BK156.out) hb)
        have n4_ := Aside0.mk (below_step (by repeat (first | (with_reducible first | exact HB.out | apply below_alloc | apply pw_below_drewN | apply below_drew1 | refine below_set ?_ GE139.out | refine below_set ?_ GE154.out | refine below_set ?_ GE155.out | refine below_set ?_ GE156.out) | exact HB.out)) hb)
        have n5_ := Aside0.mk (hbox)
        have n6_ := Aside0.mk ((by rw [hg]; exact (below_size (by repeat (first | (with_reducible first | exact HB.out | apply below_alloc | apply pw_below_drewN | apply below_drew1 | refine below_set ?_ GE139.out | refine below_set ?_ GE154.out | refine below_set ?_ GE155.out | refine below_set ?_ GE156.out) | exact HB.out))) : w.heap.size ≤ gb163))
        have n7_ := Aside0.mk ((by rw [hg]; exact (below_size (by repeat (first | (with_reducible first | exact HB.out | apply below_alloc | apply pw_below_drewN | apply below_drew1 | refine below_set ?_ GE139.out | refine below_set ?_ GE154.out | refine below_set ?_ GE155.out | refine below_set ?_ GE156.out) | exact HB.out))) : w.heap.size ≤ gb163))
        have n8_ := Aside0.mk ((by rw [hg]; exact Nat.ne_of_lt (blk_lt (g := gb139) (o := .cells #[.int .i64 a0_0, .int .i64 a0_1, .int .i64 a0_2, .int .i64 a0_3, .int .i64 a0_4] 23 (0, 0)) (by (with_reducible repeat (first | refine blk_drewN ?_ _ | refine blk_drew ?_ | refine blk_alloc ?_ _)); exact BK139.out)) : gb139 ≠ gb163))
        have n9_ := Aside0.mk ((by rw [hg]; exact Nat.ne_of_gt (blk_lt (g := gb139) (o := .cells #[.int .i64 a0_0, .int .i64 a0_1, .int .i64 a0_2, .int .i64 a0_3, .int .i64 a0_4] 23 (0, 0)) (by (with_reducible repeat (first | refine blk_drewN ?_ _ | refine blk_drew ?_ | refine blk_alloc ?_ _)); exact BK139.out)) : gb163 ≠ gb139))
        have n10_ := Aside0.mk ((by rw [hg]; exact Nat.ne_of_lt (blk_lt (g := gb154) (o := .cells #[.int .i64 t145, .int .i64 t146, .int .i64 t147] 32 (0, 0)) (by (with_reducible repeat (first | refine blk_drewN ?_ _ | refine blk_drew ?_ | refine blk_alloc ?_ _)); exact BK154.out)) : gb154 ≠ gb163))
        have n11_ := Aside0.mk ((by rw [hg]; exact Nat.ne_of_gt (blk_lt (g := gb154) (o := .cells #[.int .i64 t145, .int .i64 t146, .int .i64 t147] 32 (0, 0)) (by (with_reducible repeat (first | refine blk_drewN ?_ _ | refine blk_drew ?_ | refine blk_alloc ?_ _)); exact BK154.out)) : gb163 ≠ gb154))
        have n12_ := Aside0.mk ((by rw [hg]; exact Nat.ne_of_lt (blk_lt (g := gb155) (o := .cells #[.int .i64 t148, .int .i64 t149, .int .i64 t150] 32 (0, 0)) (by (with_reducible repeat (first | refine blk_drewN ?_ _ | refine blk_drew ?_ | refine blk_alloc ?_ _)); exact BK155.out)) : gb155 ≠ gb163))
        have n13_ := Aside0.mk ((by rw [hg]; exact Nat.ne_of_gt (blk_lt (g := gb155) (o := .cells #[.int .i64 t148, .int .i64 t149, .int .i64 t150] 32 (0, 0)) (by (with_reducible repeat (first | refine blk_drewN ?_ _ | refine blk_drew ?_ | refine blk_alloc ?_ _)); exact BK155.out)) : gb163 ≠ gb155))
        have n14_ := Aside0.mk ((by rw [hg]; exact Nat.ne_of_lt (blk_lt (g := gb156) (o := .cells #[.int .i64 t151, .int .i64 t152, .int .i64 t153] 32 (0, 0)) (by (with_reducible repeat (first | refine blk_drewN ?_ _ | refine blk_drew ?_ | refine blk_alloc ?_ _)); exact BK156.out)) : gb156 ≠ gb163))
        have n15_ := Aside0.mk ((by rw [hg]; exact Nat.ne_of_gt (blk_lt (g := gb156) (o := .cells #[.int .i64 t151, .int .i64 t152, .int .i64 t153] 32 (0, 0)) (by (with_reducible repeat (first | refine blk_drewN ?_ _ | refine blk_drew ?_ | refine blk_alloc ?_ _)); exact BK156.out)) : gb163 ≠ gb156))
        have z_NB164_163 := fun (h0_ : up b 7 7 = true) (h1_ : up b 7 8 = true) => (show gb164 ≠ gb163 from by have h_ := h1_; rw [up_ne (by decide)] at h_; have lt_ : gb164 < w'.heap.size := (by (cases hq_ : b 10 with | false => exact blk_lt (Q_BK164 h_ hq_) | true => exact blk_lt (Q_BK164_e10 hq_))); rw [hg]; exact Nat.ne_of_lt lt_)
        have z_NB163_164 := fun (h0_ : up b 7 7 = true) (h1_ : up b 7 8 = true) => (show gb163 ≠ gb164 from by have h_ := h1_; rw [up_ne (by decide)] at h_; have lt_ : gb164 < w'.heap.size := (by (cases hq_ : b 10 with | false => exact blk_lt (Q_BK164 h_ hq_) | true => exact blk_lt (Q_BK164_e10 hq_))); rw [hg]; exact Nat.ne_of_gt lt_)
        have z_BK164 := fun (h0_ : b 8 = true) (h1_ : b 10 = false) => (show w36.heap[gb164]? = some (.cells #[.int .i64 0, .int .i64 0, .int .i64 0] 32 (0, 0)) from by first | exact (blk_below (g := gb164) (o := .cells #[.int .i64 0, .int .i64 0, .int .i64 0] 32 (0, 0)) (by (with_reducible repeat (first | refine blk_drewN ?_ _ | refine blk_drew ?_ | refine blk_alloc ?_ _)); exact (Q_BK164 h0_ h1_)) hb))
        clear BK139
        clear BK154
        clear BK155
        clear BK156
        clear HB
        have BK139 := n0_
        have BK154 := n1_
        have BK155 := n2_
        have BK156 := n3_
        have HB := n4_
        have BK163 := n5_
        have GW163 := n6_
        have GE163 := n7_
        have NB139_163 := n8_
        have NB163_139 := n9_
        have NB154_163 := n10_
        have NB163_154 := n11_
        have NB155_163 := n12_
        have NB163_155 := n13_
        have NB156_163 := n14_
        have NB163_156 := n15_
        clear n0_ n1_ n2_ n3_ n4_ n5_ n6_ n7_ n8_ n9_ n10_ n11_ n12_ n13_ n14_ n15_
        clear hb hbox hg
        refine hK.out _ _ ⟨gb163, gb164, (.pointer (some ⟨gb163, 0, none⟩)), m8_, (by rw [ha.out]; exact putSel_upk 4 hb_ rfl rfl rfl), (by (with_reducible repeat (first | refine blk_drewN ?_ _ | refine blk_drew ?_ | refine blk_alloc ?_ _)); exact BK139.out), (by (with_reducible repeat (first | refine blk_drewN ?_ _ | refine blk_drew ?_ | refine blk_alloc ?_ _)); exact BK154.out), (by (with_reducible repeat (first | refine blk_drewN ?_ _ | refine blk_drew ?_ | refine blk_alloc ?_ _)); exact BK155.out), (by (with_reducible repeat (first | refine blk_drewN ?_ _ | refine blk_drew ?_ | refine blk_alloc ?_ _)); exact BK156.out), (by repeat (first | (with_reducible first | exact HB.out | apply below_alloc | apply pw_below_drewN | apply below_drew1 | refine below_set ?_ GE139.out | refine below_set ?_ GE154.out | refine below_set ?_ GE155.out | refine below_set ?_ GE156.out | refine below_set ?_ GE163.out) | exact HB.out)), @z_NB164_163, @z_NB163_164, fun _ _ => (by (with_reducible repeat (first | refine blk_drewN ?_ _ | refine blk_drew ?_ | refine blk_alloc ?_ _)); exact BK163.out), fun _ => GW163.out, fun _ => GE163.out, fun _ => NB139_163.out, fun _ => NB163_139.out, fun _ => NB154_163.out, fun _ => NB163_154.out, fun _ => NB155_163.out, fun _ => NB163_155.out, fun _ => NB156_163.out, fun _ => NB163_156.out, z_BK164, Q_GW164, Q_GE164, Q_NB139_164, Q_NB164_139, Q_NB154_164, Q_NB164_154, Q_NB155_164, Q_NB164_155, Q_NB156_164, Q_NB164_156, fun h0_ => absurd ((hoff 9 (by kernel_rfl)).symm.trans h0_) (by decide), fun h0_ => absurd ((hoff 10 (by kernel_rfl)).symm.trans h0_) (by decide), fun _ => rfl, Q_X8_⟩
      refine steps_cons ?_ ?_
      · rintro b a w' ⟨gb163, gb164, m7_, m8_, ha, Q_BK139, Q_BK154, Q_BK155, Q_BK156, Q_HB, Q_NB164_163, Q_NB163_164, Q_BK163, Q_GW163, Q_GE163, Q_NB139_163, Q_NB163_139, Q_NB154_163, Q_NB163_154, Q_NB155_163, Q_NB163_155, Q_NB156_163, Q_NB163_156, Q_BK164, Q_GW164, Q_GE164, Q_NB139_164, Q_NB164_139, Q_NB154_164, Q_NB164_154, Q_NB155_164, Q_NB164_155, Q_NB156_164, Q_NB164_156, Q_BK163_e9, Q_BK164_e10, Q_X7_, Q_X8_⟩ hb_ hon hoff
        refine ⟨_, rfl, fun K hK => ?_⟩
        replace ha := Aside0.mk ha
        have BK139 := Aside0.mk Q_BK139
        have BK154 := Aside0.mk Q_BK154
        have BK155 := Aside0.mk Q_BK155
        have BK156 := Aside0.mk Q_BK156
        have HB := Aside0.mk Q_HB
        refine box_step ?hg (N := 15) ?hd (cs := #[.int .i64 0, .int .i64 0, .int .i64 0]) (t := 32) ?hr ?_; (case hd => rfl); (case hg => rfl); (case hr => first | (go_simp; done) | (go_simp; rfl))
        intro gb164 hg w36 hbox hb
        have n0_ := Aside0.mk (blk_below (g := gb139) (o := .cells #[.int .i64 a0_0, .int .i64 a0_1, .int .i64 a0_2, .int .i64 a0_3, .int .i64 a0_4] 23 (0, 0)) (by (with_reducible repeat (first | refine blk_drewN ?_ _ | refine blk_drew ?_ | refine blk_alloc ?_ _)); exact BK139.out) hb)
        have n1_ := Aside0.mk (blk_below (g := gb154) (o := .cells #[.int .i64 t145, .int .i64 t146, .int .i64 t147] 32 (0, 0)) (by (with_reducible repeat (first | refine blk_drewN ?_ _ | refine blk_drew ?_ | refine blk_alloc ?_ _)); exact BK154.out) hb)
        have n2_ := Aside0.mk (blk_below (g := gb155) (o := .cells #[.int .i64 t148, .int .i64 t149, .int .i64 t150] 32 (0, 0)) (by (with_reducible repeat (first | refine blk_drewN ?_ _ | refine blk_drew ?_ | refine blk_alloc ?_ _)); exact BK155.out) hb)
        have n3_ := Aside0.mk (blk_below (g := gb156) (o := .cells #[.int .i64 t151, .int .i64 t152, .int .i64 t153] 32 (0, 0)) (by (with_reducible repeat (first | refine blk_drewN ?_ _ | refine blk_drew ?_ | refine blk_alloc ?_ _)); exact BK156.out) hb)
        have n4_ := Aside0.mk (below_step (by repeat (first | (with_reducible first | exact HB.out | apply below_alloc | apply pw_below_drewN | apply below_drew1 | refine below_set ?_ GE139.out | refine below_set ?_ GE154.out | refine below_set ?_ GE155.out | refine below_set ?_ GE156.out) | exact HB.out)) hb)
        have n5_ := Aside0.mk (hbox)
        have n6_ := Aside0.mk ((by rw [hg]; exact (below_size (by repeat (first | (with_reducible first | exact HB.out | apply below_alloc | apply pw_below_drewN | apply below_drew1 | refine below_set ?_ GE139.out | refine below_set ?_ GE154.out | refine below_set ?_ GE155.out | refine below_set ?_ GE156.out) | exact HB.out))) : w.heap.size ≤ gb164))
        have n7_ := Aside0.mk ((by rw [hg]; exact (below_size (by repeat (first | (with_reducible first | exact HB.out | apply below_alloc | apply pw_below_drewN | apply below_drew1 | refine below_set ?_ GE139.out | refine below_set ?_ GE154.out | refine below_set ?_ GE155.out | refine below_set ?_ GE156.out) | exact HB.out))) : w.heap.size ≤ gb164))
        have n8_ := Aside0.mk ((by rw [hg]; exact Nat.ne_of_lt (blk_lt (g := gb139) (o := .cells #[.int .i64 a0_0, .int .i64 a0_1, .int .i64 a0_2, .int .i64 a0_3, .int .i64 a0_4] 23 (0, 0)) (by (with_reducible repeat (first | refine blk_drewN ?_ _ | refine blk_drew ?_ | refine blk_alloc ?_ _)); exact BK139.out)) : gb139 ≠ gb164))
        have n9_ := Aside0.mk ((by rw [hg]; exact Nat.ne_of_gt (blk_lt (g := gb139) (o := .cells #[.int .i64 a0_0, .int .i64 a0_1, .int .i64 a0_2, .int .i64 a0_3, .int .i64 a0_4] 23 (0, 0)) (by (with_reducible repeat (first | refine blk_drewN ?_ _ | refine blk_drew ?_ | refine blk_alloc ?_ _)); exact BK139.out)) : gb164 ≠ gb139))
        have n10_ := Aside0.mk ((by rw [hg]; exact Nat.ne_of_lt (blk_lt (g := gb154) (o := .cells #[.int .i64 t145, .int .i64 t146, .int .i64 t147] 32 (0, 0)) (by (with_reducible repeat (first | refine blk_drewN ?_ _ | refine blk_drew ?_ | refine blk_alloc ?_ _)); exact BK154.out)) : gb154 ≠ gb164))
        have n11_ := Aside0.mk ((by rw [hg]; exact Nat.ne_of_gt (blk_lt (g := gb154) (o := .cells #[.int .i64 t145, .int .i64 t146, .int .i64 t147] 32 (0, 0)) (by (with_reducible repeat (first | refine blk_drewN ?_ _ | refine blk_drew ?_ | refine blk_alloc ?_ _)); exact BK154.out)) : gb164 ≠ gb154))
        have n12_ := Aside0.mk ((by rw [hg]; exact Nat.ne_of_lt (blk_lt (g := gb155) (o := .cells #[.int .i64 t148, .int .i64 t149, .int .i64 t150] 32 (0, 0)) (by (with_reducible repeat (first | refine blk_drewN ?_ _ | refine blk_drew ?_ | refine blk_alloc ?_ _)); exact BK155.out)) : gb155 ≠ gb164))
        have n13_ := Aside0.mk ((by rw [hg]; exact Nat.ne_of_gt (blk_lt (g := gb155) (o := .cells #[.int .i64 t148, .int .i64 t149, .int .i64 t150] 32 (0, 0)) (by (with_reducible repeat (first | refine blk_drewN ?_ _ | refine blk_drew ?_ | refine blk_alloc ?_ _)); exact BK155.out)) : gb164 ≠ gb155))
        have n14_ := Aside0.mk ((by rw [hg]; exact Nat.ne_of_lt (blk_lt (g := gb156) (o := .cells #[.int .i64 t151, .int .i64 t152, .int .i64 t153] 32 (0, 0)) (by (with_reducible repeat (first | refine blk_drewN ?_ _ | refine blk_drew ?_ | refine blk_alloc ?_ _)); exact BK156.out)) : gb156 ≠ gb164))
        have n15_ := Aside0.mk ((by rw [hg]; exact Nat.ne_of_gt (blk_lt (g := gb156) (o := .cells #[.int .i64 t151, .int .i64 t152, .int .i64 t153] 32 (0, 0)) (by (with_reducible repeat (first | refine blk_drewN ?_ _ | refine blk_drew ?_ | refine blk_alloc ?_ _)); exact BK156.out)) : gb164 ≠ gb156))
        have z_NB164_163 := fun (h0_ : up b 8 7 = true) (h1_ : up b 8 8 = true) => (show gb164 ≠ gb163 from by have h_ := h0_; rw [up_ne (by decide)] at h_; have lt_ : gb163 < w'.heap.size := (by (cases hq_ : b 9 with | false => exact blk_lt (Q_BK163 h_ hq_) | true => exact blk_lt (Q_BK163_e9 hq_))); rw [hg]; exact Nat.ne_of_gt lt_)
        have z_NB163_164 := fun (h0_ : up b 8 7 = true) (h1_ : up b 8 8 = true) => (show gb163 ≠ gb164 from by have h_ := h0_; rw [up_ne (by decide)] at h_; have lt_ : gb163 < w'.heap.size := (by (cases hq_ : b 9 with | false => exact blk_lt (Q_BK163 h_ hq_) | true => exact blk_lt (Q_BK163_e9 hq_))); rw [hg]; exact Nat.ne_of_lt lt_)
        have z_BK163 := fun (h0_ : b 7 = true) (h1_ : b 9 = false) => (show w36.heap[gb163]? = some (.cells #[.int .i64 0, .int .i64 0, .int .i64 0] 32 (0, 0)) from by first | exact (blk_below (g := gb163) (o := .cells #[.int .i64 0, .int .i64 0, .int .i64 0] 32 (0, 0)) (by (with_reducible repeat (first | refine blk_drewN ?_ _ | refine blk_drew ?_ | refine blk_alloc ?_ _)); exact (Q_BK163 h0_ h1_)) hb))
        clear BK139
        clear BK154
        clear BK155
        clear BK156
        clear HB
        have BK139 := n0_
        have BK154 := n1_
        have BK155 := n2_
        have BK156 := n3_
        have HB := n4_
        have BK164 := n5_
        have GW164 := n6_
        have GE164 := n7_
        have NB139_164 := n8_
        have NB164_139 := n9_
        have NB154_164 := n10_
        have NB164_154 := n11_
        have NB155_164 := n12_
        have NB164_155 := n13_
        have NB156_164 := n14_
        have NB164_156 := n15_
        clear n0_ n1_ n2_ n3_ n4_ n5_ n6_ n7_ n8_ n9_ n10_ n11_ n12_ n13_ n14_ n15_
        clear hb hbox hg
        refine hK.out _ _ ⟨gb163, gb164, m7_, (.pointer (some ⟨gb164, 0, none⟩)), (by rw [ha.out]; exact putSel_upk 5 hb_ rfl rfl rfl), (by (with_reducible repeat (first | refine blk_drewN ?_ _ | refine blk_drew ?_ | refine blk_alloc ?_ _)); exact BK139.out), (by (with_reducible repeat (first | refine blk_drewN ?_ _ | refine blk_drew ?_ | refine blk_alloc ?_ _)); exact BK154.out), (by (with_reducible repeat (first | refine blk_drewN ?_ _ | refine blk_drew ?_ | refine blk_alloc ?_ _)); exact BK155.out), (by (with_reducible repeat (first | refine blk_drewN ?_ _ | refine blk_drew ?_ | refine blk_alloc ?_ _)); exact BK156.out), (by repeat (first | (with_reducible first | exact HB.out | apply below_alloc | apply pw_below_drewN | apply below_drew1 | refine below_set ?_ GE139.out | refine below_set ?_ GE154.out | refine below_set ?_ GE155.out | refine below_set ?_ GE156.out | refine below_set ?_ GE164.out) | exact HB.out)), @z_NB164_163, @z_NB163_164, z_BK163, Q_GW163, Q_GE163, Q_NB139_163, Q_NB163_139, Q_NB154_163, Q_NB163_154, Q_NB155_163, Q_NB163_155, Q_NB156_163, Q_NB163_156, fun _ _ => (by (with_reducible repeat (first | refine blk_drewN ?_ _ | refine blk_drew ?_ | refine blk_alloc ?_ _)); exact BK164.out), fun _ => GW164.out, fun _ => GE164.out, fun _ => NB139_164.out, fun _ => NB164_139.out, fun _ => NB154_164.out, fun _ => NB164_154.out, fun _ => NB155_164.out, fun _ => NB164_155.out, fun _ => NB156_164.out, fun _ => NB164_156.out, fun h0_ => absurd ((hoff 9 (by kernel_rfl)).symm.trans h0_) (by decide), fun h0_ => absurd ((hoff 10 (by kernel_rfl)).symm.trans h0_) (by decide), Q_X7_, fun _ => rfl⟩
      refine steps_cons ?_ ?_
      · rintro b a w' ⟨gb163, gb164, m7_, m8_, ha, Q_BK139, Q_BK154, Q_BK155, Q_BK156, Q_HB, Q_NB164_163, Q_NB163_164, Q_BK163, Q_GW163, Q_GE163, Q_NB139_163, Q_NB163_139, Q_NB154_163, Q_NB163_154, Q_NB155_163, Q_NB163_155, Q_NB156_163, Q_NB163_156, Q_BK164, Q_GW164, Q_GE164, Q_NB139_164, Q_NB164_139, Q_NB154_164, Q_NB164_154, Q_NB155_164, Q_NB164_155, Q_NB156_164, Q_NB164_156, Q_BK163_e9, Q_BK164_e10, Q_X7_, Q_X8_⟩ hb_ hon hoff
        refine ⟨_, rfl, fun K hK => ?_⟩
        have e14 : a.tmps[14]? = some (m7_) := by rw [ha]; exact putSel_on (e := (7, 14, m7_)) 4 rfl rfl (hon 7 (by kernel_rfl)) rfl
        rw [Q_X7_ (hon 7 (by kernel_rfl))] at e14
        have e56 : a.tmps[56]? = some (.agg #[.int .i64 t157, .int .i64 t158, .int .i64 t159]) := by rw [ha]; exact putSel_on (e := (2, 56, .agg #[.int .i64 t157, .int .i64 t158, .int .i64 t159])) 1 rfl rfl (hon 2 (by kernel_rfl)) rfl
        replace ha := Aside0.mk ha
        have BK139 := Aside0.mk Q_BK139
        have BK154 := Aside0.mk Q_BK154
        have BK155 := Aside0.mk Q_BK155
        have BK156 := Aside0.mk Q_BK156
        have HB := Aside0.mk Q_HB
        have NB164_163 := Aside0.mk (Q_NB164_163 (hon 7 (by kernel_rfl)) (hon 8 (by kernel_rfl)))
        have NB163_164 := Aside0.mk (Q_NB163_164 (hon 7 (by kernel_rfl)) (hon 8 (by kernel_rfl)))
        have BK163 := Aside0.mk (Q_BK163 (hon 7 (by kernel_rfl)) hb_)
        have GW163 := Aside0.mk (Q_GW163 (hon 7 (by kernel_rfl)))
        have GE163 := Aside0.mk (Q_GE163 (hon 7 (by kernel_rfl)))
        have NB139_163 := Aside0.mk (Q_NB139_163 (hon 7 (by kernel_rfl)))
        have NB163_139 := Aside0.mk (Q_NB163_139 (hon 7 (by kernel_rfl)))
        have NB154_163 := Aside0.mk (Q_NB154_163 (hon 7 (by kernel_rfl)))
        have NB163_154 := Aside0.mk (Q_NB163_154 (hon 7 (by kernel_rfl)))
        have NB155_163 := Aside0.mk (Q_NB155_163 (hon 7 (by kernel_rfl)))
        have NB163_155 := Aside0.mk (Q_NB163_155 (hon 7 (by kernel_rfl)))
        have NB156_163 := Aside0.mk (Q_NB156_163 (hon 7 (by kernel_rfl)))
        have NB163_156 := Aside0.mk (Q_NB163_156 (hon 7 (by kernel_rfl)))
        have BK164 := Aside0.mk (Q_BK164 (hon 8 (by kernel_rfl)) (hoff 10 (by kernel_rfl)))
        have GW164 := Aside0.mk (Q_GW164 (hon 8 (by kernel_rfl)))
        have GE164 := Aside0.mk (Q_GE164 (hon 8 (by kernel_rfl)))
        have NB139_164 := Aside0.mk (Q_NB139_164 (hon 8 (by kernel_rfl)))
        have NB164_139 := Aside0.mk (Q_NB164_139 (hon 8 (by kernel_rfl)))
        have NB154_164 := Aside0.mk (Q_NB154_164 (hon 8 (by kernel_rfl)))
        have NB164_154 := Aside0.mk (Q_NB164_154 (hon 8 (by kernel_rfl)))
        have NB155_164 := Aside0.mk (Q_NB155_164 (hon 8 (by kernel_rfl)))
        have NB164_155 := Aside0.mk (Q_NB164_155 (hon 8 (by kernel_rfl)))
        have NB156_164 := Aside0.mk (Q_NB156_164 (hon 8 (by kernel_rfl)))
        have NB164_156 := Aside0.mk (Q_NB164_156 (hon 8 (by kernel_rfl)))
        have hs41 : w'.cell? ⟨gb163, 0, none⟩ = some (.int .i64 0) := (blk_cell BK163.out 0).trans rfl
        have hfs41 := blk_frozen BK163.out 0
        have hns41_0 := NB139_163.out
        have hns41_1 := NB154_163.out
        have hns41_2 := NB155_163.out
        have hns41_3 := NB156_163.out
        have hns41_5 := NB164_163.out
        have hms41_0 := NB163_139.out
        have hms41_1 := NB163_154.out
        have hms41_2 := NB163_155.out
        have hms41_3 := NB163_156.out
        have hms41_5 := NB163_164.out
        have hs42 : w'.cell? ⟨gb163, 1, none⟩ = some (.int .i64 0) := (blk_cell BK163.out 1).trans rfl
        have hfs42 := blk_frozen BK163.out 1
        have hns42_0 := NB139_163.out
        have hns42_1 := NB154_163.out
        have hns42_2 := NB155_163.out
        have hns42_3 := NB156_163.out
        have hns42_5 := NB164_163.out
        have hms42_0 := NB163_139.out
        have hms42_1 := NB163_154.out
        have hms42_2 := NB163_155.out
        have hms42_3 := NB163_156.out
        have hms42_5 := NB163_164.out
        have hs43 : w'.cell? ⟨gb163, 2, none⟩ = some (.int .i64 0) := (blk_cell BK163.out 2).trans rfl
        have hfs43 := blk_frozen BK163.out 2
        have hns43_0 := NB139_163.out
        have hns43_1 := NB154_163.out
        have hns43_2 := NB155_163.out
        have hns43_3 := NB156_163.out
        have hns43_5 := NB164_163.out
        have hms43_0 := NB163_139.out
        have hms43_1 := NB163_154.out
        have hms43_2 := NB163_155.out
        have hms43_3 := NB163_156.out
        have hms43_5 := NB163_164.out
        refine skip_ (w1 := ?_) (by rfl) rfl ?_ ?_
        rotate_left
        · go_simp
          rfl
        refine hK.out _ _ ⟨gb163, gb164, m7_, m8_, (by rw [ha.out]; exact putSel_none (v := undef) rfl), (by (with_reducible repeat (first | refine blk_drewN ?_ _ | refine blk_drew ?_ | refine blk_alloc ?_ _)); refine blk_far ?_ NB139_163.out _; (with_reducible repeat (first | refine blk_drewN ?_ _ | refine blk_drew ?_ | refine blk_alloc ?_ _)); refine blk_far ?_ NB139_163.out _; (with_reducible repeat (first | refine blk_drewN ?_ _ | refine blk_drew ?_ | refine blk_alloc ?_ _)); refine blk_far ?_ NB139_163.out _; (with_reducible repeat (first | refine blk_drewN ?_ _ | refine blk_drew ?_ | refine blk_alloc ?_ _)); exact BK139.out), (by (with_reducible repeat (first | refine blk_drewN ?_ _ | refine blk_drew ?_ | refine blk_alloc ?_ _)); refine blk_far ?_ NB154_163.out _; (with_reducible repeat (first | refine blk_drewN ?_ _ | refine blk_drew ?_ | refine blk_alloc ?_ _)); refine blk_far ?_ NB154_163.out _; (with_reducible repeat (first | refine blk_drewN ?_ _ | refine blk_drew ?_ | refine blk_alloc ?_ _)); refine blk_far ?_ NB154_163.out _; (with_reducible repeat (first | refine blk_drewN ?_ _ | refine blk_drew ?_ | refine blk_alloc ?_ _)); exact BK154.out), (by (with_reducible repeat (first | refine blk_drewN ?_ _ | refine blk_drew ?_ | refine blk_alloc ?_ _)); refine blk_far ?_ NB155_163.out _; (with_reducible repeat (first | refine blk_drewN ?_ _ | refine blk_drew ?_ | refine blk_alloc ?_ _)); refine blk_far ?_ NB155_163.out _; (with_reducible repeat (first | refine blk_drewN ?_ _ | refine blk_drew ?_ | refine blk_alloc ?_ _)); refine blk_far ?_ NB155_163.out _; (with_reducible repeat (first | refine blk_drewN ?_ _ | refine blk_drew ?_ | refine blk_alloc ?_ _)); exact BK155.out), (by (with_reducible repeat (first | refine blk_drewN ?_ _ | refine blk_drew ?_ | refine blk_alloc ?_ _)); refine blk_far ?_ NB156_163.out _; (with_reducible repeat (first | refine blk_drewN ?_ _ | refine blk_drew ?_ | refine blk_alloc ?_ _)); refine blk_far ?_ NB156_163.out _; (with_reducible repeat (first | refine blk_drewN ?_ _ | refine blk_drew ?_ | refine blk_alloc ?_ _)); refine blk_far ?_ NB156_163.out _; (with_reducible repeat (first | refine blk_drewN ?_ _ | refine blk_drew ?_ | refine blk_alloc ?_ _)); exact BK156.out), (by repeat (first | (with_reducible first | exact HB.out | apply below_alloc | apply pw_below_drewN | apply below_drew1 | refine below_set ?_ GE139.out | refine below_set ?_ GE154.out | refine below_set ?_ GE155.out | refine below_set ?_ GE156.out | refine below_set ?_ GE163.out | refine below_set ?_ GE164.out) | exact HB.out)), fun _ _ => NB164_163.out, fun _ _ => NB163_164.out, fun _ h1_ => absurd ((up_self b 9).symm.trans h1_) (by decide), fun _ => GW163.out, fun _ => GE163.out, fun _ => NB139_163.out, fun _ => NB163_139.out, fun _ => NB154_163.out, fun _ => NB163_154.out, fun _ => NB155_163.out, fun _ => NB163_155.out, fun _ => NB156_163.out, fun _ => NB163_156.out, fun _ _ => (by (with_reducible repeat (first | refine blk_drewN ?_ _ | refine blk_drew ?_ | refine blk_alloc ?_ _)); refine blk_far ?_ NB164_163.out _; (with_reducible repeat (first | refine blk_drewN ?_ _ | refine blk_drew ?_ | refine blk_alloc ?_ _)); refine blk_far ?_ NB164_163.out _; (with_reducible repeat (first | refine blk_drewN ?_ _ | refine blk_drew ?_ | refine blk_alloc ?_ _)); refine blk_far ?_ NB164_163.out _; (with_reducible repeat (first | refine blk_drewN ?_ _ | refine blk_drew ?_ | refine blk_alloc ?_ _)); exact BK164.out), fun _ => GW164.out, fun _ => GE164.out, fun _ => NB139_164.out, fun _ => NB164_139.out, fun _ => NB154_164.out, fun _ => NB164_154.out, fun _ => NB155_164.out, fun _ => NB164_155.out, fun _ => NB156_164.out, fun _ => NB164_156.out, fun _ => (by (with_reducible repeat (first | refine blk_drewN ?_ _ | refine blk_drew ?_ | refine blk_alloc ?_ _)); refine blk_put (cs := #[.int .i64 t157, .int .i64 t158, .int .i64 0]) ?_ 2 _ rfl; (with_reducible repeat (first | refine blk_drewN ?_ _ | refine blk_drew ?_ | refine blk_alloc ?_ _)); refine blk_put (cs := #[.int .i64 t157, .int .i64 0, .int .i64 0]) ?_ 1 _ rfl; (with_reducible repeat (first | refine blk_drewN ?_ _ | refine blk_drew ?_ | refine blk_alloc ?_ _)); refine blk_put (cs := #[.int .i64 0, .int .i64 0, .int .i64 0]) ?_ 0 _ rfl; (with_reducible repeat (first | refine blk_drewN ?_ _ | refine blk_drew ?_ | refine blk_alloc ?_ _)); exact BK163.out), fun h0_ => absurd ((hoff 10 (by kernel_rfl)).symm.trans h0_) (by decide), Q_X7_, Q_X8_⟩
      refine steps_cons ?_ ?_
      · rintro b a w' ⟨gb163, gb164, m7_, m8_, ha, Q_BK139, Q_BK154, Q_BK155, Q_BK156, Q_HB, Q_NB164_163, Q_NB163_164, Q_BK163, Q_GW163, Q_GE163, Q_NB139_163, Q_NB163_139, Q_NB154_163, Q_NB163_154, Q_NB155_163, Q_NB163_155, Q_NB156_163, Q_NB163_156, Q_BK164, Q_GW164, Q_GE164, Q_NB139_164, Q_NB164_139, Q_NB154_164, Q_NB164_154, Q_NB155_164, Q_NB164_155, Q_NB156_164, Q_NB164_156, Q_BK163_e9, Q_BK164_e10, Q_X7_, Q_X8_⟩ hb_ hon hoff
        refine ⟨_, rfl, fun K hK => ?_⟩
        have e15 : a.tmps[15]? = some (m8_) := by rw [ha]; exact putSel_on (e := (8, 15, m8_)) 5 rfl rfl (hon 8 (by kernel_rfl)) rfl
        rw [Q_X8_ (hon 8 (by kernel_rfl))] at e15
        have e60 : a.tmps[60]? = some (.agg #[.int .i64 t160, .int .i64 t161, .int .i64 t162]) := by rw [ha]; exact putSel_on (e := (6, 60, .agg #[.int .i64 t160, .int .i64 t161, .int .i64 t162])) 3 rfl rfl (hon 6 (by kernel_rfl)) rfl
        replace ha := Aside0.mk ha
        have BK139 := Aside0.mk Q_BK139
        have BK154 := Aside0.mk Q_BK154
        have BK155 := Aside0.mk Q_BK155
        have BK156 := Aside0.mk Q_BK156
        have HB := Aside0.mk Q_HB
        have NB164_163 := Aside0.mk (Q_NB164_163 (hon 7 (by kernel_rfl)) (hon 8 (by kernel_rfl)))
        have NB163_164 := Aside0.mk (Q_NB163_164 (hon 7 (by kernel_rfl)) (hon 8 (by kernel_rfl)))
        have GW163 := Aside0.mk (Q_GW163 (hon 7 (by kernel_rfl)))
        have GE163 := Aside0.mk (Q_GE163 (hon 7 (by kernel_rfl)))
        have NB139_163 := Aside0.mk (Q_NB139_163 (hon 7 (by kernel_rfl)))
        have NB163_139 := Aside0.mk (Q_NB163_139 (hon 7 (by kernel_rfl)))
        have NB154_163 := Aside0.mk (Q_NB154_163 (hon 7 (by kernel_rfl)))
        have NB163_154 := Aside0.mk (Q_NB163_154 (hon 7 (by kernel_rfl)))
        have NB155_163 := Aside0.mk (Q_NB155_163 (hon 7 (by kernel_rfl)))
        have NB163_155 := Aside0.mk (Q_NB163_155 (hon 7 (by kernel_rfl)))
        have NB156_163 := Aside0.mk (Q_NB156_163 (hon 7 (by kernel_rfl)))
        have NB163_156 := Aside0.mk (Q_NB163_156 (hon 7 (by kernel_rfl)))
        have BK164 := Aside0.mk (Q_BK164 (hon 8 (by kernel_rfl)) hb_)
        have GW164 := Aside0.mk (Q_GW164 (hon 8 (by kernel_rfl)))
        have GE164 := Aside0.mk (Q_GE164 (hon 8 (by kernel_rfl)))
        have NB139_164 := Aside0.mk (Q_NB139_164 (hon 8 (by kernel_rfl)))
        have NB164_139 := Aside0.mk (Q_NB164_139 (hon 8 (by kernel_rfl)))
        have NB154_164 := Aside0.mk (Q_NB154_164 (hon 8 (by kernel_rfl)))
        have NB164_154 := Aside0.mk (Q_NB164_154 (hon 8 (by kernel_rfl)))
        have NB155_164 := Aside0.mk (Q_NB155_164 (hon 8 (by kernel_rfl)))
        have NB164_155 := Aside0.mk (Q_NB164_155 (hon 8 (by kernel_rfl)))
        have NB156_164 := Aside0.mk (Q_NB156_164 (hon 8 (by kernel_rfl)))
        have NB164_156 := Aside0.mk (Q_NB164_156 (hon 8 (by kernel_rfl)))
        have BK163 := Aside0.mk (Q_BK163_e9 (hon 9 (by kernel_rfl)))
        have hs44 : w'.cell? ⟨gb164, 0, none⟩ = some (.int .i64 0) := (blk_cell BK164.out 0).trans rfl
        have hfs44 := blk_frozen BK164.out 0
        have hns44_0 := NB139_164.out
        have hns44_1 := NB154_164.out
        have hns44_2 := NB155_164.out
        have hns44_3 := NB156_164.out
        have hns44_4 := NB163_164.out
        have hms44_0 := NB164_139.out
        have hms44_1 := NB164_154.out
        have hms44_2 := NB164_155.out
        have hms44_3 := NB164_156.out
        have hms44_4 := NB164_163.out
        have hs45 : w'.cell? ⟨gb164, 1, none⟩ = some (.int .i64 0) := (blk_cell BK164.out 1).trans rfl
        have hfs45 := blk_frozen BK164.out 1
        have hns45_0 := NB139_164.out
        have hns45_1 := NB154_164.out
        have hns45_2 := NB155_164.out
        have hns45_3 := NB156_164.out
        have hns45_4 := NB163_164.out
        have hms45_0 := NB164_139.out
        have hms45_1 := NB164_154.out
        have hms45_2 := NB164_155.out
        have hms45_3 := NB164_156.out
        have hms45_4 := NB164_163.out
        have hs46 : w'.cell? ⟨gb164, 2, none⟩ = some (.int .i64 0) := (blk_cell BK164.out 2).trans rfl
        have hfs46 := blk_frozen BK164.out 2
        have hns46_0 := NB139_164.out
        have hns46_1 := NB154_164.out
        have hns46_2 := NB155_164.out
        have hns46_3 := NB156_164.out
        have hns46_4 := NB163_164.out
        have hms46_0 := NB164_139.out
        have hms46_1 := NB164_154.out
        have hms46_2 := NB164_155.out
        have hms46_3 := NB164_156.out
        have hms46_4 := NB164_163.out
        refine skip_ (w1 := ?_) (by rfl) rfl ?_ ?_
        rotate_left
        · go_simp
          rfl
        refine hK.out _ _ ⟨gb163, gb164, m7_, m8_, (by rw [ha.out]; exact putSel_none (v := undef) rfl), (by (with_reducible repeat (first | refine blk_drewN ?_ _ | refine blk_drew ?_ | refine blk_alloc ?_ _)); refine blk_far ?_ NB139_164.out _; (with_reducible repeat (first | refine blk_drewN ?_ _ | refine blk_drew ?_ | refine blk_alloc ?_ _)); refine blk_far ?_ NB139_164.out _; (with_reducible repeat (first | refine blk_drewN ?_ _ | refine blk_drew ?_ | refine blk_alloc ?_ _)); refine blk_far ?_ NB139_164.out _; (with_reducible repeat (first | refine blk_drewN ?_ _ | refine blk_drew ?_ | refine blk_alloc ?_ _)); exact BK139.out), (by (with_reducible repeat (first | refine blk_drewN ?_ _ | refine blk_drew ?_ | refine blk_alloc ?_ _)); refine blk_far ?_ NB154_164.out _; (with_reducible repeat (first | refine blk_drewN ?_ _ | refine blk_drew ?_ | refine blk_alloc ?_ _)); refine blk_far ?_ NB154_164.out _; (with_reducible repeat (first | refine blk_drewN ?_ _ | refine blk_drew ?_ | refine blk_alloc ?_ _)); refine blk_far ?_ NB154_164.out _; (with_reducible repeat (first | refine blk_drewN ?_ _ | refine blk_drew ?_ | refine blk_alloc ?_ _)); exact BK154.out), (by (with_reducible repeat (first | refine blk_drewN ?_ _ | refine blk_drew ?_ | refine blk_alloc ?_ _)); refine blk_far ?_ NB155_164.out _; (with_reducible repeat (first | refine blk_drewN ?_ _ | refine blk_drew ?_ | refine blk_alloc ?_ _)); refine blk_far ?_ NB155_164.out _; (with_reducible repeat (first | refine blk_drewN ?_ _ | refine blk_drew ?_ | refine blk_alloc ?_ _)); refine blk_far ?_ NB155_164.out _; (with_reducible repeat (first | refine blk_drewN ?_ _ | refine blk_drew ?_ | refine blk_alloc ?_ _)); exact BK155.out), (by (with_reducible repeat (first | refine blk_drewN ?_ _ | refine blk_drew ?_ | refine blk_alloc ?_ _)); refine blk_far ?_ NB156_164.out _; (with_reducible repeat (first | refine blk_drewN ?_ _ | refine blk_drew ?_ | refine blk_alloc ?_ _)); refine blk_far ?_ NB156_164.out _; (with_reducible repeat (first | refine blk_drewN ?_ _ | refine blk_drew ?_ | refine blk_alloc ?_ _)); refine blk_far ?_ NB156_164.out _; (with_reducible repeat (first | refine blk_drewN ?_ _ | refine blk_drew ?_ | refine blk_alloc ?_ _)); exact BK156.out), (by repeat (first | (with_reducible first | exact HB.out | apply below_alloc | apply pw_below_drewN | apply below_drew1 | refine below_set ?_ GE139.out | refine below_set ?_ GE154.out | refine below_set ?_ GE155.out | refine below_set ?_ GE156.out | refine below_set ?_ GE163.out | refine below_set ?_ GE164.out) | exact HB.out)), fun _ _ => NB164_163.out, fun _ _ => NB163_164.out, fun _ h1_ => absurd ((hon 9 (by kernel_rfl)).symm.trans h1_) (by decide), fun _ => GW163.out, fun _ => GE163.out, fun _ => NB139_163.out, fun _ => NB163_139.out, fun _ => NB154_163.out, fun _ => NB163_154.out, fun _ => NB155_163.out, fun _ => NB163_155.out, fun _ => NB156_163.out, fun _ => NB163_156.out, fun _ h1_ => absurd ((up_self b 10).symm.trans h1_) (by decide), fun _ => GW164.out, fun _ => GE164.out, fun _ => NB139_164.out, fun _ => NB164_139.out, fun _ => NB154_164.out, fun _ => NB164_154.out, fun _ => NB155_164.out, fun _ => NB164_155.out, fun _ => NB156_164.out, fun _ => NB164_156.out, fun _ => (by (with_reducible repeat (first | refine blk_drewN ?_ _ | refine blk_drew ?_ | refine blk_alloc ?_ _)); refine blk_far ?_ NB163_164.out _; (with_reducible repeat (first | refine blk_drewN ?_ _ | refine blk_drew ?_ | refine blk_alloc ?_ _)); refine blk_far ?_ NB163_164.out _; (with_reducible repeat (first | refine blk_drewN ?_ _ | refine blk_drew ?_ | refine blk_alloc ?_ _)); refine blk_far ?_ NB163_164.out _; (with_reducible repeat (first | refine blk_drewN ?_ _ | refine blk_drew ?_ | refine blk_alloc ?_ _)); exact BK163.out), fun _ => (by (with_reducible repeat (first | refine blk_drewN ?_ _ | refine blk_drew ?_ | refine blk_alloc ?_ _)); refine blk_put (cs := #[.int .i64 t160, .int .i64 t161, .int .i64 0]) ?_ 2 _ rfl; (with_reducible repeat (first | refine blk_drewN ?_ _ | refine blk_drew ?_ | refine blk_alloc ?_ _)); refine blk_put (cs := #[.int .i64 t160, .int .i64 0, .int .i64 0]) ?_ 1 _ rfl; (with_reducible repeat (first | refine blk_drewN ?_ _ | refine blk_drew ?_ | refine blk_alloc ?_ _)); refine blk_put (cs := #[.int .i64 0, .int .i64 0, .int .i64 0]) ?_ 0 _ rfl; (with_reducible repeat (first | refine blk_drewN ?_ _ | refine blk_drew ?_ | refine blk_alloc ?_ _)); exact BK164.out), Q_X7_, Q_X8_⟩
      exact steps_nil
    rintro b a w46 hall ⟨gb163, gb164, m7_, m8_, ha, Q_BK139, Q_BK154, Q_BK155, Q_BK156, Q_HB, Q_NB164_163, Q_NB163_164, Q_BK163, Q_GW163, Q_GE163, Q_NB139_163, Q_NB163_139, Q_NB154_163, Q_NB163_154, Q_NB155_163, Q_NB163_155, Q_NB156_163, Q_NB163_156, Q_BK164, Q_GW164, Q_GE164, Q_NB139_164, Q_NB164_139, Q_NB154_164, Q_NB164_154, Q_NB155_164, Q_NB164_155, Q_NB156_164, Q_NB164_156, Q_BK163_e9, Q_BK164_e10, Q_X7_, Q_X8_⟩
    clear BK139 BK154 BK155 BK156 HB
    have hb0_ := hall 0 (by kernel_rfl)
    have hb2_ := hall 2 (by kernel_rfl)
    have hb3_ := hall 3 (by kernel_rfl)
    have hb6_ := hall 6 (by kernel_rfl)
    have hb7_ := hall 7 (by kernel_rfl)
    have hb8_ := hall 8 (by kernel_rfl)
    have hb9_ := hall 9 (by kernel_rfl)
    have hb10_ := hall 10 (by kernel_rfl)
    subst ha
    obtain rfl := Q_X7_ hb7_
    obtain rfl := Q_X8_ hb8_
    simp only [putSel, hb0_, hb2_, hb3_, hb6_, hb7_, hb8_, hb9_, hb10_, if_true, Act.put, List.setIfInBounds_toArray, List.set_cons_zero, List.set_cons_succ]
    have BK139 := Aside0.mk Q_BK139
    clear Q_BK139
    have BK154 := Aside0.mk Q_BK154
    clear Q_BK154
    have BK155 := Aside0.mk Q_BK155
    clear Q_BK155
    have BK156 := Aside0.mk Q_BK156
    clear Q_BK156
    have HB := Aside0.mk Q_HB
    clear Q_HB
    have NB164_163 := Aside0.mk (Q_NB164_163 hb7_ hb8_)
    clear Q_NB164_163
    have NB163_164 := Aside0.mk (Q_NB163_164 hb7_ hb8_)
    clear Q_NB163_164
    clear Q_BK163
    have GW163 := Aside0.mk (Q_GW163 hb7_)
    clear Q_GW163
    have GE163 := Aside0.mk (Q_GE163 hb7_)
    clear Q_GE163
    have NB139_163 := Aside0.mk (Q_NB139_163 hb7_)
    clear Q_NB139_163
    have NB163_139 := Aside0.mk (Q_NB163_139 hb7_)
    clear Q_NB163_139
    have NB154_163 := Aside0.mk (Q_NB154_163 hb7_)
    clear Q_NB154_163
    have NB163_154 := Aside0.mk (Q_NB163_154 hb7_)
    clear Q_NB163_154
    have NB155_163 := Aside0.mk (Q_NB155_163 hb7_)
    clear Q_NB155_163
    have NB163_155 := Aside0.mk (Q_NB163_155 hb7_)
    clear Q_NB163_155
    have NB156_163 := Aside0.mk (Q_NB156_163 hb7_)
    clear Q_NB156_163
    have NB163_156 := Aside0.mk (Q_NB163_156 hb7_)
    clear Q_NB163_156
    clear Q_BK164
    have GW164 := Aside0.mk (Q_GW164 hb8_)
    clear Q_GW164
    have GE164 := Aside0.mk (Q_GE164 hb8_)
    clear Q_GE164
    have NB139_164 := Aside0.mk (Q_NB139_164 hb8_)
    clear Q_NB139_164
    have NB164_139 := Aside0.mk (Q_NB164_139 hb8_)
    clear Q_NB164_139
    have NB154_164 := Aside0.mk (Q_NB154_164 hb8_)
    clear Q_NB154_164
    have NB164_154 := Aside0.mk (Q_NB164_154 hb8_)
    clear Q_NB164_154
    have NB155_164 := Aside0.mk (Q_NB155_164 hb8_)
    clear Q_NB155_164
    have NB164_155 := Aside0.mk (Q_NB164_155 hb8_)
    clear Q_NB164_155
    have NB156_164 := Aside0.mk (Q_NB156_164 hb8_)
    clear Q_NB156_164
    have NB164_156 := Aside0.mk (Q_NB164_156 hb8_)
    clear Q_NB164_156
    have BK163 := Aside0.mk (Q_BK163_e9 hb9_)
    clear Q_BK163_e9
    have BK164 := Aside0.mk (Q_BK164_e10 hb10_)
    clear Q_BK164_e10
    clear hall hb0_ hb2_ hb3_ hb6_ hb7_ hb8_ hb9_ hb10_
    have hnb47 := NB139_154.out
    have hnc47 := NB154_139.out
    have hnb48 := NB139_155.out
    have hnc48 := NB155_139.out
    have hnb49 := NB139_156.out
    have hnc49 := NB156_139.out
    have hnb50 := NB139_163.out
    have hnc50 := NB163_139.out
    have hnb51 := NB139_164.out
    have hnc51 := NB164_139.out
    have hcz52_0 : w46.cell? ⟨gb139, 0, none⟩ = some (.int .i64 a0_0) := (blk_cell BK139.out 0).trans rfl
    have hcz52_1 : w46.cell? ⟨gb139, 1, none⟩ = some (.int .i64 a0_1) := (blk_cell BK139.out 1).trans rfl
    have hcz52_2 : w46.cell? ⟨gb139, 2, none⟩ = some (.int .i64 a0_2) := (blk_cell BK139.out 2).trans rfl
    have hcz52_3 : w46.cell? ⟨gb139, 3, none⟩ = some (.int .i64 a0_3) := (blk_cell BK139.out 3).trans rfl
    have hcz52_4 : w46.cell? ⟨gb139, 4, none⟩ = some (.int .i64 a0_4) := (blk_cell BK139.out 4).trans rfl
    have hfz52_0 := blk_frozen BK139.out 0
    have hfz52_1 := blk_frozen BK139.out 1
    have hfz52_2 := blk_frozen BK139.out 2
    have hfz52_3 := blk_frozen BK139.out 3
    have hfz52_4 := blk_frozen BK139.out 4
    go_upto_region 7 with (first | ((with_reducible refine gate_callee (f := 16) rfl ?_); refine goesL_ (some 65) rfl rfl Try.func16 (by kernel_rfl) rfl #[.agg #[.int .i64 a0_0, .int .i64 a0_1, .int .i64 a0_2, .int .i64 a0_3, .int .i64 a0_4], .agg #[.int .i64 a4, .string (⟨#[]⟩ : ByteArray), .string (⟨#[]⟩ : ByteArray), .int .i64 0, .int .i64 0, .int .i64 0, .slice none 0 0], .int .i64 (wrap64 (Int.tmod (IntKind.u64.wrap (a3)) 7))] rfl (by (try simp only [List.map_toArray, List.map_cons, List.map_nil]); first | done | rfl | (simp only [List.length_drop, List.length_take]; rfl)) ?_; (refine (cost_Call.calls k a0_0 a0_1 a0_2 a0_3 a0_4 a4 (⟨#[]⟩ : ByteArray) (⟨#[]⟩ : ByteArray) 0 0 0 _ _ ([] : List Int) (wrap64 (Int.tmod (IntKind.u64.wrap (a3)) 7)) t165 t166 t167 _ ?side1 ?side2 A13.out).mono ?_); (case side1 => exact Kd.C_nil _ _); (case side2 => exact Nat.le_refl _); rintro e w53 ⟨rfl, hb⟩; refine ⟨_, rfl, ?_⟩; have n0_ := Aside0.mk (blk_below (g := gb139) (o := .cells #[.int .i64 a0_0, .int .i64 a0_1, .int .i64 a0_2, .int .i64 a0_3, .int .i64 a0_4] 23 (0, 0)) (by (with_reducible repeat (first | refine blk_drewN ?_ _ | refine blk_drew ?_ | refine blk_alloc ?_ _)); exact BK139.out) hb); have n1_ := Aside0.mk (blk_below (g := gb154) (o := .cells #[.int .i64 t145, .int .i64 t146, .int .i64 t147] 32 (0, 0)) (by (with_reducible repeat (first | refine blk_drewN ?_ _ | refine blk_drew ?_ | refine blk_alloc ?_ _)); exact BK154.out) hb); have n2_ := Aside0.mk (blk_below (g := gb155) (o := .cells #[.int .i64 t148, .int .i64 t149, .int .i64 t150] 32 (0, 0)) (by (with_reducible repeat (first | refine blk_drewN ?_ _ | refine blk_drew ?_ | refine blk_alloc ?_ _)); exact BK155.out) hb); have n3_ := Aside0.mk (blk_below (g := gb156) (o := .cells #[.int .i64 t151, .int .i64 t152, .int .i64 t153] 32 (0, 0)) (by (with_reducible repeat (first | refine blk_drewN ?_ _ | refine blk_drew ?_ | refine blk_alloc ?_ _)); exact BK156.out) hb); have n4_ := Aside0.mk (blk_below (g := gb163) (o := .cells #[.int .i64 t157, .int .i64 t158, .int .i64 t159] 32 (0, 0)) (by (with_reducible repeat (first | refine blk_drewN ?_ _ | refine blk_drew ?_ | refine blk_alloc ?_ _)); exact BK163.out) hb); have n5_ := Aside0.mk (blk_below (g := gb164) (o := .cells #[.int .i64 t160, .int .i64 t161, .int .i64 t162] 32 (0, 0)) (by (with_reducible repeat (first | refine blk_drewN ?_ _ | refine blk_drew ?_ | refine blk_alloc ?_ _)); exact BK164.out) hb); have n6_ := Aside0.mk (below_step (by repeat (first | (with_reducible first | exact HB.out | apply below_alloc | apply pw_below_drewN | apply below_drew1 | refine below_set ?_ GE139.out | refine below_set ?_ GE154.out | refine below_set ?_ GE155.out | refine below_set ?_ GE156.out | refine below_set ?_ GE163.out | refine below_set ?_ GE164.out) | exact HB.out)) hb); clear BK139; clear BK154; clear BK155; clear BK156; clear BK163; clear BK164; clear HB; have BK139 := n0_; have BK154 := n1_; have BK155 := n2_; have BK156 := n3_; have BK163 := n4_; have BK164 := n5_; have HB := n6_; clear n0_ n1_ n2_ n3_ n4_ n5_ n6_; (try clear hb); (try clear hb2); (try clear hk); (try clear hi)) | ((with_reducible refine gate_dst (N := 16) rfl ?_); refine box_event ?hg (N := 16) ?hd (cs := #[.int .i64 0, .int .i64 0, .int .i64 0]) (t := 32) ?hr ?_; (case hd => rfl); (case hg => rfl); (case hr => first | (go_simp; done) | (go_simp; rfl)); intro gb168 hg w54 hbox hb; have n0_ := Aside0.mk (blk_below (g := gb139) (o := .cells #[.int .i64 a0_0, .int .i64 a0_1, .int .i64 a0_2, .int .i64 a0_3, .int .i64 a0_4] 23 (0, 0)) (by (with_reducible repeat (first | refine blk_drewN ?_ _ | refine blk_drew ?_ | refine blk_alloc ?_ _)); exact BK139.out) hb); have n1_ := Aside0.mk (blk_below (g := gb154) (o := .cells #[.int .i64 t145, .int .i64 t146, .int .i64 t147] 32 (0, 0)) (by (with_reducible repeat (first | refine blk_drewN ?_ _ | refine blk_drew ?_ | refine blk_alloc ?_ _)); exact BK154.out) hb); have n2_ := Aside0.mk (blk_below (g := gb155) (o := .cells #[.int .i64 t148, .int .i64 t149, .int .i64 t150] 32 (0, 0)) (by (with_reducible repeat (first | refine blk_drewN ?_ _ | refine blk_drew ?_ | refine blk_alloc ?_ _)); exact BK155.out) hb); have n3_ := Aside0.mk (blk_below (g := gb156) (o := .cells #[.int .i64 t151, .int .i64 t152, .int .i64 t153] 32 (0, 0)) (by (with_reducible repeat (first | refine blk_drewN ?_ _ | refine blk_drew ?_ | refine blk_alloc ?_ _)); exact BK156.out) hb); have n4_ := Aside0.mk (blk_below (g := gb163) (o := .cells #[.int .i64 t157, .int .i64 t158, .int .i64 t159] 32 (0, 0)) (by (with_reducible repeat (first | refine blk_drewN ?_ _ | refine blk_drew ?_ | refine blk_alloc ?_ _)); exact BK163.out) hb); have n5_ := Aside0.mk (blk_below (g := gb164) (o := .cells #[.int .i64 t160, .int .i64 t161, .int .i64 t162] 32 (0, 0)) (by (with_reducible repeat (first | refine blk_drewN ?_ _ | refine blk_drew ?_ | refine blk_alloc ?_ _)); exact BK164.out) hb); have n6_ := Aside0.mk (below_step (by repeat (first | (with_reducible first | exact HB.out | apply below_alloc | apply pw_below_drewN | apply below_drew1 | refine below_set ?_ GE139.out | refine below_set ?_ GE154.out | refine below_set ?_ GE155.out | refine below_set ?_ GE156.out | refine below_set ?_ GE163.out | refine below_set ?_ GE164.out) | exact HB.out)) hb); have n7_ := Aside0.mk (hbox); have n8_ := Aside0.mk ((by rw [hg]; exact (below_size (by repeat (first | (with_reducible first | exact HB.out | apply below_alloc | apply pw_below_drewN | apply below_drew1 | refine below_set ?_ GE139.out | refine below_set ?_ GE154.out | refine below_set ?_ GE155.out | refine below_set ?_ GE156.out | refine below_set ?_ GE163.out | refine below_set ?_ GE164.out) | exact HB.out))) : w.heap.size ≤ gb168)); have n9_ := Aside0.mk ((by rw [hg]; exact (below_size (by repeat (first | (with_reducible first | exact HB.out | apply below_alloc | apply pw_below_drewN | apply below_drew1 | refine below_set ?_ GE139.out | refine below_set ?_ GE154.out | refine below_set ?_ GE155.out | refine below_set ?_ GE156.out | refine below_set ?_ GE163.out | refine below_set ?_ GE164.out) | exact HB.out))) : w.heap.size ≤ gb168)); have n10_ := Aside0.mk ((by rw [hg]; exact Nat.ne_of_lt (blk_lt (g := gb139) (o := .cells #[.int .i64 a0_0, .int .i64 a0_1, .int .i64 a0_2, .int .i64 a0_3, .int .i64 a0_4] 23 (0, 0)) (by (with_reducible repeat (first | refine blk_drewN ?_ _ | refine blk_drew ?_ | refine blk_alloc ?_ _)); exact BK139.out)) : gb139 ≠ gb168)); have n11_ := Aside0.mk ((by rw [hg]; exact Nat.ne_of_gt (blk_lt (g := gb139) (o := .cells #[.int .i64 a0_0, .int .i64 a0_1, .int .i64 a0_2, .int .i64 a0_3, .int .i64 a0_4] 23 (0, 0)) (by (with_reducible repeat (first | refine blk_drewN ?_ _ | refine blk_drew ?_ | refine blk_alloc ?_ _)); exact BK139.out)) : gb168 ≠ gb139)); have n12_ := Aside0.mk ((by rw [hg]; exact Nat.ne_of_lt (blk_lt (g := gb154) (o := .cells #[.int .i64 t145, .int .i64 t146, .int .i64 t147] 32 (0, 0)) (by (with_reducible repeat (first | refine blk_drewN ?_ _ | refine blk_drew ?_ | refine blk_alloc ?_ _)); exact BK154.out)) : gb154 ≠ gb168)); have n13_ := Aside0.mk ((by rw [hg]; exact Nat.ne_of_gt (blk_lt (g := gb154) (o := .cells #[.int .i64 t145, .int .i64 t146, .int .i64 t147] 32 (0, 0)) (by (with_reducible repeat (first | refine blk_drewN ?_ _ | refine blk_drew ?_ | refine blk_alloc ?_ _)); exact BK154.out)) : gb168 ≠ gb154)); have n14_ := Aside0.mk ((by rw [hg]; exact Nat.ne_of_lt (blk_lt (g := gb155) (o := .cells #[.int .i64 t148, .int .i64 t149, .int .i64 t150] 32 (0, 0)) (by (with_reducible repeat (first | refine blk_drewN ?_ _ | refine blk_drew ?_ | refine blk_alloc ?_ _)); exact BK155.out)) : gb155 ≠ gb168)); have n15_ := Aside0.mk ((by rw [hg]; exact Nat.ne_of_gt (blk_lt (g := gb155) (o := .cells #[.int .i64 t148, .int .i64 t149, .int .i64 t150] 32 (0, 0)) (by (with_reducible repeat (first | refine blk_drewN ?_ _ | refine blk_drew ?_ | refine blk_alloc ?_ _)); exact BK155.out)) : gb168 ≠ gb155)); have n16_ := Aside0.mk ((by rw [hg]; exact Nat.ne_of_lt (blk_lt (g := gb156) (o := .cells #[.int .i64 t151, .int .i64 t152, .int .i64 t153] 32 (0, 0)) (by (with_reducible repeat (first | refine blk_drewN ?_ _ | refine blk_drew ?_ | refine blk_alloc ?_ _)); exact BK156.out)) : gb156 ≠ gb168)); have n17_ := Aside0.mk ((by rw [hg]; exact Nat.ne_of_gt (blk_lt (g := gb156) (o := .cells #[.int .i64 t151, .int .i64 t152, .int .i64 t153] 32 (0, 0)) (by (with_reducible repeat (first | refine blk_drewN ?_ _ | refine blk_drew ?_ | refine blk_alloc ?_ _)); exact BK156.out)) : gb168 ≠ gb156)); have n18_ := Aside0.mk ((by rw [hg]; exact Nat.ne_of_lt (blk_lt (g := gb163) (o := .cells #[.int .i64 t157, .int .i64 t158, .int .i64 t159] 32 (0, 0)) (by (with_reducible repeat (first | refine blk_drewN ?_ _ | refine blk_drew ?_ | refine blk_alloc ?_ _)); exact BK163.out)) : gb163 ≠ gb168)); have n19_ := Aside0.mk ((by rw [hg]; exact Nat.ne_of_gt (blk_lt (g := gb163) (o := .cells #[.int .i64 t157, .int .i64 t158, .int .i64 t159] 32 (0, 0)) (by (with_reducible repeat (first | refine blk_drewN ?_ _ | refine blk_drew ?_ | refine blk_alloc ?_ _)); exact BK163.out)) : gb168 ≠ gb163)); have n20_ := Aside0.mk ((by rw [hg]; exact Nat.ne_of_lt (blk_lt (g := gb164) (o := .cells #[.int .i64 t160, .int .i64 t161, .int .i64 t162] 32 (0, 0)) (by (with_reducible repeat (first | refine blk_drewN ?_ _ | refine blk_drew ?_ | refine blk_alloc ?_ _)); exact BK164.out)) : gb164 ≠ gb168)); have n21_ := Aside0.mk ((by rw [hg]; exact Nat.ne_of_gt (blk_lt (g := gb164) (o := .cells #[.int .i64 t160, .int .i64 t161, .int .i64 t162] 32 (0, 0)) (by (with_reducible repeat (first | refine blk_drewN ?_ _ | refine blk_drew ?_ | refine blk_alloc ?_ _)); exact BK164.out)) : gb168 ≠ gb164)); clear BK139; clear BK154; clear BK155; clear BK156; clear BK163; clear BK164; clear HB; have BK139 := n0_; have BK154 := n1_; have BK155 := n2_; have BK156 := n3_; have BK163 := n4_; have BK164 := n5_; have HB := n6_; have BK168 := n7_; have GW168 := n8_; have GE168 := n9_; have NB139_168 := n10_; have NB168_139 := n11_; have NB154_168 := n12_; have NB168_154 := n13_; have NB155_168 := n14_; have NB168_155 := n15_; have NB156_168 := n16_; have NB168_156 := n17_; have NB163_168 := n18_; have NB168_163 := n19_; have NB164_168 := n20_; have NB168_164 := n21_; clear n0_ n1_ n2_ n3_ n4_ n5_ n6_ n7_ n8_ n9_ n10_ n11_ n12_ n13_ n14_ n15_ n16_ n17_ n18_ n19_ n20_ n21_; clear hb hbox hg; have hnb55 := NB168_139.out; have hnc55 := NB139_168.out; have hnb56 := NB168_154.out; have hnc56 := NB154_168.out; have hnb57 := NB168_155.out; have hnc57 := NB155_168.out; have hnb58 := NB168_156.out; have hnc58 := NB156_168.out; have hnb59 := NB168_163.out; have hnc59 := NB163_168.out; have hnb60 := NB168_164.out; have hnc60 := NB164_168.out; have hcz61_0 : w54.cell? ⟨gb168, 0, none⟩ = some (.int .i64 0) := (blk_cell BK168.out 0).trans rfl; have hcz61_1 : w54.cell? ⟨gb168, 1, none⟩ = some (.int .i64 0) := (blk_cell BK168.out 1).trans rfl; have hcz61_2 : w54.cell? ⟨gb168, 2, none⟩ = some (.int .i64 0) := (blk_cell BK168.out 2).trans rfl; have hfz61_0 := blk_frozen BK168.out 0; have hfz61_1 := blk_frozen BK168.out 1; have hfz61_2 := blk_frozen BK168.out 2))
    (try simp only [Act.put, List.setIfInBounds_toArray, List.set_cons_zero, List.set_cons_succ])
    go_cut [95] (fun v95 wc => ∃ (kq : Nat) (x95_13 : Bool), v95 = .bool x95_13 ∧ Aside0 (potsherdlaw24_CostSums.j0 kq a4 x95_13 t165 t166 t167 = some true) ∧ Aside0 (kq ≤ k) ∧ Aside0 (wc.heap[gb139]? = some (.cells #[.int .i64 a0_0, .int .i64 a0_1, .int .i64 a0_2, .int .i64 a0_3, .int .i64 a0_4] 23 (0, 0))) ∧ Aside0 (wc.heap[gb154]? = some (.cells #[.int .i64 t145, .int .i64 t146, .int .i64 t147] 32 (0, 0))) ∧ Aside0 (wc.heap[gb155]? = some (.cells #[.int .i64 t148, .int .i64 t149, .int .i64 t150] 32 (0, 0))) ∧ Aside0 (wc.heap[gb156]? = some (.cells #[.int .i64 t151, .int .i64 t152, .int .i64 t153] 32 (0, 0))) ∧ Aside0 (wc.heap[gb163]? = some (.cells #[.int .i64 t157, .int .i64 t158, .int .i64 t159] 32 (0, 0))) ∧ Aside0 (wc.heap[gb164]? = some (.cells #[.int .i64 t160, .int .i64 t161, .int .i64 t162] 32 (0, 0))) ∧ Aside0 (wc.heap[gb168]? = some (.cells #[.int .i64 t165, .int .i64 t166, .int .i64 t167] 32 (0, 0))) ∧ Aside0 (Below w.heap.size w wc))
    case first =>
      have H := HC14.out
      clear HC14
      replace H := Option.bind_eq_some_iff.mp H
      obtain ⟨⟨t169, t170, t171⟩, A620, H⟩ := H
      replace H : (if (!(t169 == t148) || (!(t170 == t149) || (!(t171 == t150)))) = true then (potsherdlaw24_CostSums.j0 k a4 true t165 t166 t167) else (if t161 = (wrap64 (t158 * (wrap64 ((wrap64 (Int.tmod (IntKind.u64.wrap (a3)) 7)) + 1)))) then ((cost_Call.f k a0_0 a0_1 a0_2 a0_3 a0_4 12 (⟨#[]⟩ : ByteArray) (⟨#[]⟩ : ByteArray) 0 0 0 ([] : List Int) (wrap64 (Int.tmod (IntKind.u64.wrap (a3)) 7))).bind fun bt172 => ((cost_Within.f t165 t166 t167 bt172.1 bt172.2.1 bt172.2.2).bind fun t175 => (if t175 = true then ((cost_Within.f t145 t146 t147 t151 t152 t153).bind fun t176 => (potsherdlaw24_CostSums.j0 k a4 (!t176) t165 t166 t167)) else (potsherdlaw24_CostSums.j0 k a4 true t165 t166 t167)))) else (potsherdlaw24_CostSums.j0 k a4 true t165 t166 t167))) = some true := H
      have A62 := Aside0.mk A620
      clear A620
      by_cases c63 : (!(t169 == t148) || (!(t170 == t149) || (!(t171 == t150)))) = true
      · rw [if_pos c63] at H
        have c63b0 : (!(t169 == t148) || (!(t170 == t149) || (!(t171 == t150)))) = true := c63
        clear c63
        (first | rw [c63b0] | (simp only [i64_w, i32_w]; rw [c63b0]) | skip)
        exact absurd H (by cases k <;> simp [potsherdlaw24_CostSums.j0])
      · rw [if_neg c63] at H
        have c63b0 : (!(t169 == t148) || (!(t170 == t149) || (!(t171 == t150)))) = false := by simpa using c63
        clear c63
        (first | rw [c63b0] | (simp only [i64_w, i32_w]; rw [c63b0]) | skip)
        by_cases c64 : t161 = (wrap64 (t158 * (wrap64 ((wrap64 (Int.tmod (IntKind.u64.wrap (a3)) 7)) + 1))))
        · rw [if_pos c64] at H
          have c64b0 : (t161 == (wrap64 (t158 * (wrap64 ((wrap64 (Int.tmod (IntKind.u64.wrap (a3)) 7)) + 1))))) = true := beq_iff_eq.mpr c64
          have c64b1 : (t161 != (wrap64 (t158 * (wrap64 ((wrap64 (Int.tmod (IntKind.u64.wrap (a3)) 7)) + 1))))) = false := bne_eq_false_iff_eq.mpr c64
          clear c64
          replace H := Option.bind_eq_some_iff.mp H
          obtain ⟨⟨t172, t173, t174⟩, A650, H⟩ := H
          replace H : ((cost_Within.f t165 t166 t167 t172 t173 t174).bind fun t175 => (if t175 = true then ((cost_Within.f t145 t146 t147 t151 t152 t153).bind fun t176 => (potsherdlaw24_CostSums.j0 k a4 (!t176) t165 t166 t167)) else (potsherdlaw24_CostSums.j0 k a4 true t165 t166 t167))) = some true := H
          have A65 := Aside0.mk A650
          clear A650
          replace H := Option.bind_eq_some_iff.mp H
          obtain ⟨t175, A660, H⟩ := H
          replace H : (if t175 = true then ((cost_Within.f t145 t146 t147 t151 t152 t153).bind fun t176 => (potsherdlaw24_CostSums.j0 k a4 (!t176) t165 t166 t167)) else (potsherdlaw24_CostSums.j0 k a4 true t165 t166 t167)) = some true := H
          have A66 := Aside0.mk A660
          clear A660
          by_cases c67 : t175 = true
          · subst c67
            have H1 : ((cost_Within.f t145 t146 t147 t151 t152 t153).bind fun t176 => (potsherdlaw24_CostSums.j0 k a4 (!t176) t165 t166 t167)) = some true := by rw [if_pos rfl] at H; exact H
            clear H
            have H := H1
            clear H1
            replace H := Option.bind_eq_some_iff.mp H
            obtain ⟨t176, A680, H⟩ := H
            replace H : (potsherdlaw24_CostSums.j0 k a4 (!t176) t165 t166 t167) = some true := H
            have A68 := Aside0.mk A680
            clear A680
            have H' := Aside0.mk H
            clear H
            try go_wp2
            have n0_ : Aside0 ((((w54.setCell ⟨gb168, 0, none⟩ (.int .i64 t165)).setCell ⟨gb168, 1, none⟩ (.int .i64 t166)).setCell ⟨gb168, 2, none⟩ (.int .i64 t167)).heap[gb139]? = some (.cells #[.int .i64 a0_0, .int .i64 a0_1, .int .i64 a0_2, .int .i64 a0_3, .int .i64 a0_4] 23 (0, 0))) := ⟨by (with_reducible repeat (first | refine blk_drewN ?_ _ | refine blk_drew ?_ | refine blk_alloc ?_ _)); refine blk_far ?_ NB139_168.out _; (with_reducible repeat (first | refine blk_drewN ?_ _ | refine blk_drew ?_ | refine blk_alloc ?_ _)); refine blk_far ?_ NB139_168.out _; (with_reducible repeat (first | refine blk_drewN ?_ _ | refine blk_drew ?_ | refine blk_alloc ?_ _)); refine blk_far ?_ NB139_168.out _; (with_reducible repeat (first | refine blk_drewN ?_ _ | refine blk_drew ?_ | refine blk_alloc ?_ _)); exact BK139.out⟩
            have n1_ : Aside0 ((((w54.setCell ⟨gb168, 0, none⟩ (.int .i64 t165)).setCell ⟨gb168, 1, none⟩ (.int .i64 t166)).setCell ⟨gb168, 2, none⟩ (.int .i64 t167)).heap[gb154]? = some (.cells #[.int .i64 t145, .int .i64 t146, .int .i64 t147] 32 (0, 0))) := ⟨by (with_reducible repeat (first | refine blk_drewN ?_ _ | refine blk_drew ?_ | refine blk_alloc ?_ _)); refine blk_far ?_ NB154_168.out _; (with_reducible repeat (first | refine blk_drewN ?_ _ | refine blk_drew ?_ | refine blk_alloc ?_ _)); refine blk_far ?_ NB154_168.out _; (with_reducible repeat (first | refine blk_drewN ?_ _ | refine blk_drew ?_ | refine blk_alloc ?_ _)); refine blk_far ?_ NB154_168.out _; (with_reducible repeat (first | refine blk_drewN ?_ _ | refine blk_drew ?_ | refine blk_alloc ?_ _)); exact BK154.out⟩
            have n2_ : Aside0 ((((w54.setCell ⟨gb168, 0, none⟩ (.int .i64 t165)).setCell ⟨gb168, 1, none⟩ (.int .i64 t166)).setCell ⟨gb168, 2, none⟩ (.int .i64 t167)).heap[gb155]? = some (.cells #[.int .i64 t148, .int .i64 t149, .int .i64 t150] 32 (0, 0))) := ⟨by (with_reducible repeat (first | refine blk_drewN ?_ _ | refine blk_drew ?_ | refine blk_alloc ?_ _)); refine blk_far ?_ NB155_168.out _; (with_reducible repeat (first | refine blk_drewN ?_ _ | refine blk_drew ?_ | refine blk_alloc ?_ _)); refine blk_far ?_ NB155_168.out _; (with_reducible repeat (first | refine blk_drewN ?_ _ | refine blk_drew ?_ | refine blk_alloc ?_ _)); refine blk_far ?_ NB155_168.out _; (with_reducible repeat (first | refine blk_drewN ?_ _ | refine blk_drew ?_ | refine blk_alloc ?_ _)); exact BK155.out⟩
            have n3_ : Aside0 ((((w54.setCell ⟨gb168, 0, none⟩ (.int .i64 t165)).setCell ⟨gb168, 1, none⟩ (.int .i64 t166)).setCell ⟨gb168, 2, none⟩ (.int .i64 t167)).heap[gb156]? = some (.cells #[.int .i64 t151, .int .i64 t152, .int .i64 t153] 32 (0, 0))) := ⟨by (with_reducible repeat (first | refine blk_drewN ?_ _ | refine blk_drew ?_ | refine blk_alloc ?_ _)); refine blk_far ?_ NB156_168.out _; (with_reducible repeat (first | refine blk_drewN ?_ _ | refine blk_drew ?_ | refine blk_alloc ?_ _)); refine blk_far ?_ NB156_168.out _; (with_reducible repeat (first | refine blk_drewN ?_ _ | refine blk_drew ?_ | refine blk_alloc ?_ _)); refine blk_far ?_ NB156_168.out _; (with_reducible repeat (first | refine blk_drewN ?_ _ | refine blk_drew ?_ | refine blk_alloc ?_ _)); exact BK156.out⟩
            have n4_ : Aside0 ((((w54.setCell ⟨gb168, 0, none⟩ (.int .i64 t165)).setCell ⟨gb168, 1, none⟩ (.int .i64 t166)).setCell ⟨gb168, 2, none⟩ (.int .i64 t167)).heap[gb163]? = some (.cells #[.int .i64 t157, .int .i64 t158, .int .i64 t159] 32 (0, 0))) := ⟨by (with_reducible repeat (first | refine blk_drewN ?_ _ | refine blk_drew ?_ | refine blk_alloc ?_ _)); refine blk_far ?_ NB163_168.out _; (with_reducible repeat (first | refine blk_drewN ?_ _ | refine blk_drew ?_ | refine blk_alloc ?_ _)); refine blk_far ?_ NB163_168.out _; (with_reducible repeat (first | refine blk_drewN ?_ _ | refine blk_drew ?_ | refine blk_alloc ?_ _)); refine blk_far ?_ NB163_168.out _; (with_reducible repeat (first | refine blk_drewN ?_ _ | refine blk_drew ?_ | refine blk_alloc ?_ _)); exact BK163.out⟩
            have n5_ : Aside0 ((((w54.setCell ⟨gb168, 0, none⟩ (.int .i64 t165)).setCell ⟨gb168, 1, none⟩ (.int .i64 t166)).setCell ⟨gb168, 2, none⟩ (.int .i64 t167)).heap[gb164]? = some (.cells #[.int .i64 t160, .int .i64 t161, .int .i64 t162] 32 (0, 0))) := ⟨by (with_reducible repeat (first | refine blk_drewN ?_ _ | refine blk_drew ?_ | refine blk_alloc ?_ _)); refine blk_far ?_ NB164_168.out _; (with_reducible repeat (first | refine blk_drewN ?_ _ | refine blk_drew ?_ | refine blk_alloc ?_ _)); refine blk_far ?_ NB164_168.out _; (with_reducible repeat (first | refine blk_drewN ?_ _ | refine blk_drew ?_ | refine blk_alloc ?_ _)); refine blk_far ?_ NB164_168.out _; (with_reducible repeat (first | refine blk_drewN ?_ _ | refine blk_drew ?_ | refine blk_alloc ?_ _)); exact BK164.out⟩
            have n6_ : Aside0 ((((w54.setCell ⟨gb168, 0, none⟩ (.int .i64 t165)).setCell ⟨gb168, 1, none⟩ (.int .i64 t166)).setCell ⟨gb168, 2, none⟩ (.int .i64 t167)).heap[gb168]? = some (.cells #[.int .i64 t165, .int .i64 t166, .int .i64 t167] 32 (0, 0))) := ⟨by (with_reducible repeat (first | refine blk_drewN ?_ _ | refine blk_drew ?_ | refine blk_alloc ?_ _)); refine blk_put (cs := #[.int .i64 t165, .int .i64 t166, .int .i64 0]) ?_ 2 _ rfl; (with_reducible repeat (first | refine blk_drewN ?_ _ | refine blk_drew ?_ | refine blk_alloc ?_ _)); refine blk_put (cs := #[.int .i64 t165, .int .i64 0, .int .i64 0]) ?_ 1 _ rfl; (with_reducible repeat (first | refine blk_drewN ?_ _ | refine blk_drew ?_ | refine blk_alloc ?_ _)); refine blk_put (cs := #[.int .i64 0, .int .i64 0, .int .i64 0]) ?_ 0 _ rfl; (with_reducible repeat (first | refine blk_drewN ?_ _ | refine blk_drew ?_ | refine blk_alloc ?_ _)); exact BK168.out⟩
            have n7_ : Aside0 (Below w.heap.size w (((w54.setCell ⟨gb168, 0, none⟩ (.int .i64 t165)).setCell ⟨gb168, 1, none⟩ (.int .i64 t166)).setCell ⟨gb168, 2, none⟩ (.int .i64 t167))) := ⟨by repeat (first | (with_reducible first | exact HB.out | apply below_alloc | apply pw_below_drewN | apply below_drew1 | refine below_set ?_ GE139.out | refine below_set ?_ GE154.out | refine below_set ?_ GE155.out | refine below_set ?_ GE156.out | refine below_set ?_ GE163.out | refine below_set ?_ GE164.out | refine below_set ?_ GE168.out) | exact HB.out)⟩
            (try clear BK139)
            (try clear BK154)
            (try clear BK155)
            (try clear BK156)
            (try clear BK163)
            (try clear BK164)
            (try clear BK168)
            (try clear HB)
            generalize (((w54.setCell ⟨gb168, 0, none⟩ (.int .i64 t165)).setCell ⟨gb168, 1, none⟩ (.int .i64 t166)).setCell ⟨gb168, 2, none⟩ (.int .i64 t167)) = w69 at n0_ n1_ n2_ n3_ n4_ n5_ n6_ n7_ ⊢
            have BK139 := n0_
            have BK154 := n1_
            have BK155 := n2_
            have BK156 := n3_
            have BK163 := n4_
            have BK164 := n5_
            have BK168 := n6_
            have HB := n7_
            clear n0_ n1_ n2_ n3_ n4_ n5_ n6_ n7_
            have n0_ := Aside0.mk (blk_drew BK139.out)
            have n1_ := Aside0.mk (blk_drew BK154.out)
            have n2_ := Aside0.mk (blk_drew BK155.out)
            have n3_ := Aside0.mk (blk_drew BK156.out)
            have n4_ := Aside0.mk (blk_drew BK163.out)
            have n5_ := Aside0.mk (blk_drew BK164.out)
            have n6_ := Aside0.mk (blk_drew BK168.out)
            have n7_ := Aside0.mk (below_drew1 HB.out)
            clear BK139
            clear BK154
            clear BK155
            clear BK156
            clear BK163
            clear BK164
            clear BK168
            clear HB
            have BK139 := n0_
            have BK154 := n1_
            have BK155 := n2_
            have BK156 := n3_
            have BK163 := n4_
            have BK164 := n5_
            have BK168 := n6_
            have HB := n7_
            clear n0_ n1_ n2_ n3_ n4_ n5_ n6_ n7_
            refine start_ (n := 30) (S := fun w' => w'.cell? ⟨gb156, 0, none⟩ = some (.int .i64 t151) ∧ w'.cell? ⟨gb156, 1, none⟩ = some (.int .i64 t152) ∧ w'.cell? ⟨gb156, 2, none⟩ = some (.int .i64 t153) ∧ w'.cell? ⟨gb154, 0, none⟩ = some (.int .i64 t145) ∧ w'.cell? ⟨gb154, 1, none⟩ = some (.int .i64 t146) ∧ w'.cell? ⟨gb154, 2, none⟩ = some (.int .i64 t147) ∧ w'.cell? ⟨gb155, 0, none⟩ = some (.int .i64 t148) ∧ w'.cell? ⟨gb155, 1, none⟩ = some (.int .i64 t149) ∧ w'.cell? ⟨gb155, 2, none⟩ = some (.int .i64 t150) ∧ w'.cell? ⟨gb164, 0, none⟩ = some (.int .i64 t160) ∧ w'.cell? ⟨gb164, 1, none⟩ = some (.int .i64 t161) ∧ w'.cell? ⟨gb164, 2, none⟩ = some (.int .i64 t162) ∧ w'.cell? ⟨gb163, 0, none⟩ = some (.int .i64 t157) ∧ w'.cell? ⟨gb163, 1, none⟩ = some (.int .i64 t158) ∧ w'.cell? ⟨gb163, 2, none⟩ = some (.int .i64 t159) ∧ w'.cell? ⟨gb168, 0, none⟩ = some (.int .i64 t165) ∧ w'.cell? ⟨gb168, 1, none⟩ = some (.int .i64 t166) ∧ w'.cell? ⟨gb168, 2, none⟩ = some (.int .i64 t167) ∧ w'.cell? ⟨gb139, 0, none⟩ = some (.int .i64 a0_0) ∧ w'.cell? ⟨gb139, 1, none⟩ = some (.int .i64 a0_1) ∧ w'.cell? ⟨gb139, 2, none⟩ = some (.int .i64 a0_2) ∧ w'.cell? ⟨gb139, 3, none⟩ = some (.int .i64 a0_3) ∧ w'.cell? ⟨gb139, 4, none⟩ = some (.int .i64 a0_4)) (ds := []) #[false, false, false, false, false, false, false, false, false, false, false, false, false, false, false, false, false, false, false, false, false, false, false, false, false, false, false, false, false, false] (by kernel_rfl) rfl rfl ⟨(blk_cell BK156.out 0).trans rfl, (blk_cell BK156.out 1).trans rfl, (blk_cell BK156.out 2).trans rfl, (blk_cell BK154.out 0).trans rfl, (blk_cell BK154.out 1).trans rfl, (blk_cell BK154.out 2).trans rfl, (blk_cell BK155.out 0).trans rfl, (blk_cell BK155.out 1).trans rfl, (blk_cell BK155.out 2).trans rfl, (blk_cell BK164.out 0).trans rfl, (blk_cell BK164.out 1).trans rfl, (blk_cell BK164.out 2).trans rfl, (blk_cell BK163.out 0).trans rfl, (blk_cell BK163.out 1).trans rfl, (blk_cell BK163.out 2).trans rfl, (blk_cell BK168.out 0).trans rfl, (blk_cell BK168.out 1).trans rfl, (blk_cell BK168.out 2).trans rfl, (blk_cell BK139.out 0).trans rfl, (blk_cell BK139.out 1).trans rfl, (blk_cell BK139.out 2).trans rfl, (blk_cell BK139.out 3).trans rfl, (blk_cell BK139.out 4).trans rfl⟩ (fun hHeld => ?_); refine with_tabW potsherdlaw24_CostSums.tab7 potsherdlaw24_CostSums.bits7 (fun HT_ HW_ => ?_)
            generalize w69.drew = w70 at BK139 BK154 BK155 BK156 BK163 BK164 BK168 HB hHeld ⊢
            refine take_ (i := 0) (N := some 66) (v := ?_) (a' := ?_) #[true, false, false, false, false, false, false, false, false, false, false, false, false, false, false, false, false, false, false, false, false, false, false, false, false, false, false, false, false, false] rfl rfl (take_ofW HT_.out HW_.out (by kernel_rfl)) (fun _ _ _ h => h) (Or.inl ⟨by rfl, ?_⟩) hHeld ?_ ?_
            rotate_left
            · rintro w' ⟨s0, s1, s2, s3, s4, s5, s6, s7, s8, s9, s10, s11, s12, s13, s14, s15, s16, s17, s18, s19, s20, s21, s22⟩
              go_simp
              with_reducible rfl
            rotate_left
            · simp only [Act.put, List.setIfInBounds_toArray, List.set_cons_zero, List.set_cons_succ, i64_w, i32_w]
              rfl
            refine take_ (i := 1) (N := some 67) (v := ?_) (a' := ?_) #[true, true, false, false, false, false, false, false, false, false, false, false, false, false, false, false, false, false, false, false, false, false, false, false, false, false, false, false, false, false] rfl rfl (take_ofW HT_.out HW_.out (by kernel_rfl)) (fun _ _ _ h => h) (Or.inl ⟨by rfl, ?_⟩) hHeld ?_ ?_
            rotate_left
            · rintro w' ⟨s0, s1, s2, s3, s4, s5, s6, s7, s8, s9, s10, s11, s12, s13, s14, s15, s16, s17, s18, s19, s20, s21, s22⟩
              go_simp
              with_reducible rfl
            rotate_left
            · simp only [Act.put, List.setIfInBounds_toArray, List.set_cons_zero, List.set_cons_succ, i64_w, i32_w]
              rfl
            refine take_ (i := 3) (N := some 69) (v := ?_) (a' := ?_) #[true, true, false, true, false, false, false, false, false, false, false, false, false, false, false, false, false, false, false, false, false, false, false, false, false, false, false, false, false, false] rfl rfl (take_ofW HT_.out HW_.out (by kernel_rfl)) (fun _ _ _ h => h) (Or.inl ⟨by rfl, ?_⟩) hHeld ?_ ?_
            rotate_left
            · rintro w' ⟨s0, s1, s2, s3, s4, s5, s6, s7, s8, s9, s10, s11, s12, s13, s14, s15, s16, s17, s18, s19, s20, s21, s22⟩
              go_simp
              with_reducible rfl
            rotate_left
            · simp only [Act.put, List.setIfInBounds_toArray, List.set_cons_zero, List.set_cons_succ, i64_w, i32_w]
              rfl
            refine one_ (i := 2) (N := some 68) #[true, true, true, true, false, false, false, false, false, false, false, false, false, false, false, false, false, false, false, false, false, false, false, false, false, false, false, false, false, false] rfl rfl (one_of HT_.out (by kernel_rfl)) (by decide) (fun K hK => ?_)
            refine goes_ Try.func20 (by kernel_rfl) rfl #[.agg #[.int .i64 t151, .int .i64 t152, .int .i64 t153], .agg #[.int .i64 t145, .int .i64 t146, .int .i64 t147]] (by rfl) rfl rfl (by (try simp only [List.map_toArray, List.map_cons, List.map_nil]); first | done | rfl | (simp only [List.length_drop, List.length_take]; rfl)) ?_
            with_reducible refine (cost_Less.calls t151 t152 t153 t145 t146 t147 t169 t170 t171 _ A62.out).mono ?_
            rintro e w71 ⟨rfl, hb⟩
            refine ⟨_, rfl, ?_⟩
            have n0_ := Aside0.mk (blk_below (g := gb139) (o := .cells #[.int .i64 a0_0, .int .i64 a0_1, .int .i64 a0_2, .int .i64 a0_3, .int .i64 a0_4] 23 (0, 0)) (by (with_reducible repeat (first | refine blk_drewN ?_ _ | refine blk_drew ?_ | refine blk_alloc ?_ _)); exact BK139.out) hb)
            have n1_ := Aside0.mk (blk_below (g := gb154) (o := .cells #[.int .i64 t145, .int .i64 t146, .int .i64 t147] 32 (0, 0)) (by (with_reducible repeat (first | refine blk_drewN ?_ _ | refine blk_drew ?_ | refine blk_alloc ?_ _)); exact BK154.out) hb)
            have n2_ := Aside0.mk (blk_below (g := gb155) (o := .cells #[.int .i64 t148, .int .i64 t149, .int .i64 t150] 32 (0, 0)) (by (with_reducible repeat (first | refine blk_drewN ?_ _ | refine blk_drew ?_ | refine blk_alloc ?_ _)); exact BK155.out) hb)
            have n3_ := Aside0.mk (blk_below (g := gb156) (o := .cells #[.int .i64 t151, .int .i64 t152, .int .i64 t153] 32 (0, 0)) (by (with_reducible repeat (first | refine blk_drewN ?_ _ | refine blk_drew ?_ | refine blk_alloc ?_ _)); exact BK156.out) hb)
            have n4_ := Aside0.mk (blk_below (g := gb163) (o := .cells #[.int .i64 t157, .int .i64 t158, .int .i64 t159] 32 (0, 0)) (by (with_reducible repeat (first | refine blk_drewN ?_ _ | refine blk_drew ?_ | refine blk_alloc ?_ _)); exact BK163.out) hb)
            have n5_ := Aside0.mk (blk_below (g := gb164) (o := .cells #[.int .i64 t160, .int .i64 t161, .int .i64 t162] 32 (0, 0)) (by (with_reducible repeat (first | refine blk_drewN ?_ _ | refine blk_drew ?_ | refine blk_alloc ?_ _)); exact BK164.out) hb)
            have n6_ := Aside0.mk (blk_below (g := gb168) (o := .cells #[.int .i64 t165, .int .i64 t166, .int .i64 t167] 32 (0, 0)) (by (with_reducible repeat (first | refine blk_drewN ?_ _ | refine blk_drew ?_ | refine blk_alloc ?_ _)); exact BK168.out) hb)
            have n7_ := Aside0.mk (below_step (by repeat (first | (with_reducible first | exact HB.out | apply below_alloc | apply pw_below_drewN | apply below_drew1 | refine below_set ?_ GE139.out | refine below_set ?_ GE154.out | refine below_set ?_ GE155.out | refine below_set ?_ GE156.out | refine below_set ?_ GE163.out | refine below_set ?_ GE164.out | refine below_set ?_ GE168.out) | exact HB.out)) hb)
            clear BK139
            clear BK154
            clear BK155
            clear BK156
            clear BK163
            clear BK164
            clear BK168
            clear HB
            have BK139 := n0_
            have BK154 := n1_
            have BK155 := n2_
            have BK156 := n3_
            have BK163 := n4_
            have BK164 := n5_
            have BK168 := n6_
            have HB := n7_
            clear n0_ n1_ n2_ n3_ n4_ n5_ n6_ n7_
            (try clear hb)
            (try clear hb2)
            (try clear hk)
            (try clear hi)
            refine hK.out _ _ ⟨(blk_cell BK156.out 0).trans rfl, (blk_cell BK156.out 1).trans rfl, (blk_cell BK156.out 2).trans rfl, (blk_cell BK154.out 0).trans rfl, (blk_cell BK154.out 1).trans rfl, (blk_cell BK154.out 2).trans rfl, (blk_cell BK155.out 0).trans rfl, (blk_cell BK155.out 1).trans rfl, (blk_cell BK155.out 2).trans rfl, (blk_cell BK164.out 0).trans rfl, (blk_cell BK164.out 1).trans rfl, (blk_cell BK164.out 2).trans rfl, (blk_cell BK163.out 0).trans rfl, (blk_cell BK163.out 1).trans rfl, (blk_cell BK163.out 2).trans rfl, (blk_cell BK168.out 0).trans rfl, (blk_cell BK168.out 1).trans rfl, (blk_cell BK168.out 2).trans rfl, (blk_cell BK139.out 0).trans rfl, (blk_cell BK139.out 1).trans rfl, (blk_cell BK139.out 2).trans rfl, (blk_cell BK139.out 3).trans rfl, (blk_cell BK139.out 4).trans rfl⟩ (fun hHeld => ?_)
            clear hK K
            refine norm_ (a' := ?_) ?_ ?_
            rotate_left
            · show Act.put _ (some 68) _ = _
              simp only [Act.put, List.setIfInBounds_toArray, List.set_cons_zero, List.set_cons_succ, i64_w, i32_w]
              rfl
            refine pure_ (i := 4) (N := some 70) (v := ?_) (a' := ?_) #[true, true, true, true, true, false, false, false, false, false, false, false, false, false, false, false, false, false, false, false, false, false, false, false, false, false, false, false, false, false] rfl rfl (any_of HT_.out (by kernel_rfl)) (fun _ _ _ h => h) (Or.inl ⟨by rfl, ?_⟩) ?_ ?_
            rotate_left
            · intro w'
              go_simp
              with_reducible rfl
            rotate_left
            · simp only [Act.put, List.setIfInBounds_toArray, List.set_cons_zero, List.set_cons_succ, i64_w, i32_w]
              rfl
            refine pure_ (i := 5) (N := some 71) (v := ?_) (a' := ?_) #[true, true, true, true, true, true, false, false, false, false, false, false, false, false, false, false, false, false, false, false, false, false, false, false, false, false, false, false, false, false] rfl rfl (any_of HT_.out (by kernel_rfl)) (fun _ _ _ h => h) (Or.inl ⟨by rfl, ?_⟩) ?_ ?_
            rotate_left
            · intro w'
              go_simp
              with_reducible rfl
            rotate_left
            · simp only [Act.put, List.setIfInBounds_toArray, List.set_cons_zero, List.set_cons_succ, i64_w, i32_w]
              rfl
            refine pure_ (i := 6) (N := some 72) (v := ?_) (a' := ?_) #[true, true, true, true, true, true, true, false, false, false, false, false, false, false, false, false, false, false, false, false, false, false, false, false, false, false, false, false, false, false] rfl rfl (any_of HT_.out (by kernel_rfl)) (fun _ _ _ h => h) (Or.inl ⟨by rfl, ?_⟩) ?_ ?_
            rotate_left
            · intro w'
              go_simp
              with_reducible rfl
            rotate_left
            · simp only [Act.put, List.setIfInBounds_toArray, List.set_cons_zero, List.set_cons_succ, i64_w, i32_w]
              rfl
            refine pure_ (i := 8) (N := some 74) (v := ?_) (a' := ?_) #[true, true, true, true, true, true, true, false, true, false, false, false, false, false, false, false, false, false, false, false, false, false, false, false, false, false, false, false, false, false] rfl rfl (any_of HT_.out (by kernel_rfl)) (fun _ _ _ h => h) (Or.inl ⟨by rfl, ?_⟩) ?_ ?_
            rotate_left
            · intro w'
              go_simp
              with_reducible rfl
            rotate_left
            · simp only [Act.put, List.setIfInBounds_toArray, List.set_cons_zero, List.set_cons_succ, i64_w, i32_w]
              rfl
            refine pure_ (i := 10) (N := some 76) (v := ?_) (a' := ?_) #[true, true, true, true, true, true, true, false, true, false, true, false, false, false, false, false, false, false, false, false, false, false, false, false, false, false, false, false, false, false] rfl rfl (any_of HT_.out (by kernel_rfl)) (fun _ _ _ h => h) (Or.inl ⟨by rfl, ?_⟩) ?_ ?_
            rotate_left
            · intro w'
              go_simp
              with_reducible rfl
            rotate_left
            · simp only [Act.put, List.setIfInBounds_toArray, List.set_cons_zero, List.set_cons_succ, i64_w, i32_w]
              rfl
            refine pure_ (i := 11) (N := some 77) (v := ?_) (a' := ?_) #[true, true, true, true, true, true, true, false, true, false, true, true, false, false, false, false, false, false, false, false, false, false, false, false, false, false, false, false, false, false] rfl rfl (any_of HT_.out (by kernel_rfl)) (fun _ _ _ h => h) (Or.inl ⟨by rfl, ?_⟩) ?_ ?_
            rotate_left
            · intro w'
              go_simp
              with_reducible rfl
            rotate_left
            · simp only [Act.put, List.setIfInBounds_toArray, List.set_cons_zero, List.set_cons_succ, i64_w, i32_w]
              rfl
            refine take_ (i := 7) (N := some 73) (v := ?_) (a' := ?_) #[true, true, true, true, true, true, true, true, true, false, true, true, false, false, false, false, false, false, false, false, false, false, false, false, false, false, false, false, false, false] rfl rfl (take_ofW HT_.out HW_.out (by kernel_rfl)) (fun _ _ _ h => h) (Or.inl ⟨by rfl, ?_⟩) hHeld ?_ ?_
            rotate_left
            · rintro w' ⟨s0, s1, s2, s3, s4, s5, s6, s7, s8, s9, s10, s11, s12, s13, s14, s15, s16, s17, s18, s19, s20, s21, s22⟩
              go_simp
              with_reducible rfl
            rotate_left
            · simp only [Act.put, List.setIfInBounds_toArray, List.set_cons_zero, List.set_cons_succ, i64_w, i32_w]
              rfl
            refine take_ (i := 9) (N := some 75) (v := ?_) (a' := ?_) #[true, true, true, true, true, true, true, true, true, true, true, true, false, false, false, false, false, false, false, false, false, false, false, false, false, false, false, false, false, false] rfl rfl (take_ofW HT_.out HW_.out (by kernel_rfl)) (fun _ _ _ h => h) (Or.inl ⟨by rfl, ?_⟩) hHeld ?_ ?_
            rotate_left
            · rintro w' ⟨s0, s1, s2, s3, s4, s5, s6, s7, s8, s9, s10, s11, s12, s13, s14, s15, s16, s17, s18, s19, s20, s21, s22⟩
              go_simp
              with_reducible rfl
            rotate_left
            · simp only [Act.put, List.setIfInBounds_toArray, List.set_cons_zero, List.set_cons_succ, i64_w, i32_w]
              rfl
            refine pure_ (i := 12) (N := some 78) (v := ?_) (a' := ?_) #[true, true, true, true, true, true, true, true, true, true, true, true, true, false, false, false, false, false, false, false, false, false, false, false, false, false, false, false, false, false] rfl rfl (any_of HT_.out (by kernel_rfl)) (fun _ _ _ h => h) (Or.inl ⟨by rfl, ?_⟩) ?_ ?_
            rotate_left
            · intro w'
              go_simp
              with_reducible rfl
            rotate_left
            · simp only [Act.put, List.setIfInBounds_toArray, List.set_cons_zero, List.set_cons_succ, i64_w, i32_w]
              rfl
            refine pure_ (i := 13) (N := some 79) (v := ?_) (a' := ?_) #[true, true, true, true, true, true, true, true, true, true, true, true, true, true, false, false, false, false, false, false, false, false, false, false, false, false, false, false, false, false] rfl rfl (any_of HT_.out (by kernel_rfl)) (fun _ _ _ h => h) (Or.inl ⟨by rfl, ?_⟩) ?_ ?_
            rotate_left
            · intro w'
              go_simp
              with_reducible rfl
            rotate_left
            · simp only [Act.put, List.setIfInBounds_toArray, List.set_cons_zero, List.set_cons_succ, i64_w, i32_w]
              rfl
            refine pure_ (i := 14) (N := some 80) (v := ?_) (a' := ?_) #[true, true, true, true, true, true, true, true, true, true, true, true, true, true, true, false, false, false, false, false, false, false, false, false, false, false, false, false, false, false] rfl rfl (any_of HT_.out (by kernel_rfl)) (fun _ _ _ h => h) (Or.inl ⟨by rfl, ?_⟩) ?_ ?_
            rotate_left
            · intro w'
              go_simp
              with_reducible rfl
            rotate_left
            · simp only [Act.put, List.setIfInBounds_toArray, List.set_cons_zero, List.set_cons_succ, i64_w, i32_w]
              rfl
            refine pure_ (i := 15) (N := some 81) (v := ?_) (a' := ?_) #[true, true, true, true, true, true, true, true, true, true, true, true, true, true, true, true, false, false, false, false, false, false, false, false, false, false, false, false, false, false] rfl rfl (any_of HT_.out (by kernel_rfl)) (fun _ _ _ h => h) (Or.inl ⟨by rfl, ?_⟩) ?_ ?_
            rotate_left
            · intro w'
              go_simp
              with_reducible rfl
            rotate_left
            · simp only [Act.put, List.setIfInBounds_toArray, List.set_cons_zero, List.set_cons_succ, i64_w, i32_w]
              rfl
            refine pure_ (i := 18) (N := some 84) (v := ?_) (a' := ?_) #[true, true, true, true, true, true, true, true, true, true, true, true, true, true, true, true, false, false, true, false, false, false, false, false, false, false, false, false, false, false] rfl rfl (any_of HT_.out (by kernel_rfl)) (fun _ _ _ h => h) (Or.inl ⟨by rfl, ?_⟩) ?_ ?_
            rotate_left
            · intro w'
              go_simp
              with_reducible rfl
            rotate_left
            · simp only [Act.put, List.setIfInBounds_toArray, List.set_cons_zero, List.set_cons_succ, i64_w, i32_w]
              rfl
            refine pure_ (i := 19) (N := some 85) (v := ?_) (a' := ?_) #[true, true, true, true, true, true, true, true, true, true, true, true, true, true, true, true, false, false, true, true, false, false, false, false, false, false, false, false, false, false] rfl rfl (any_of HT_.out (by kernel_rfl)) (fun _ _ _ h => h) (Or.inl ⟨by rfl, ?_⟩) ?_ ?_
            rotate_left
            · intro w'
              go_simp
              with_reducible rfl
            rotate_left
            · simp only [Act.put, List.setIfInBounds_toArray, List.set_cons_zero, List.set_cons_succ, i64_w, i32_w]
              rfl
            refine take_ (i := 16) (N := some 82) (v := ?_) (a' := ?_) #[true, true, true, true, true, true, true, true, true, true, true, true, true, true, true, true, true, false, true, true, false, false, false, false, false, false, false, false, false, false] rfl rfl (take_ofW HT_.out HW_.out (by kernel_rfl)) (fun _ _ _ h => h) (Or.inl ⟨by rfl, ?_⟩) hHeld ?_ ?_
            rotate_left
            · rintro w' ⟨s0, s1, s2, s3, s4, s5, s6, s7, s8, s9, s10, s11, s12, s13, s14, s15, s16, s17, s18, s19, s20, s21, s22⟩
              go_simp
              with_reducible rfl
            rotate_left
            · simp only [Act.put, List.setIfInBounds_toArray, List.set_cons_zero, List.set_cons_succ, i64_w, i32_w]
              rfl
            refine take_ (i := 17) (N := some 83) (v := ?_) (a' := ?_) #[true, true, true, true, true, true, true, true, true, true, true, true, true, true, true, true, true, true, true, true, false, false, false, false, false, false, false, false, false, false] rfl rfl (take_ofW HT_.out HW_.out (by kernel_rfl)) (fun _ _ _ h => h) (Or.inl ⟨by rfl, ?_⟩) hHeld ?_ ?_
            rotate_left
            · rintro w' ⟨s0, s1, s2, s3, s4, s5, s6, s7, s8, s9, s10, s11, s12, s13, s14, s15, s16, s17, s18, s19, s20, s21, s22⟩
              go_simp
              with_reducible rfl
            rotate_left
            · simp only [Act.put, List.setIfInBounds_toArray, List.set_cons_zero, List.set_cons_succ, i64_w, i32_w]
              rfl
            refine one_ (i := 20) (N := some 86) #[true, true, true, true, true, true, true, true, true, true, true, true, true, true, true, true, true, true, true, true, true, false, false, false, false, false, false, false, false, false] rfl rfl (one_of HT_.out (by kernel_rfl)) (by decide) (fun K hK => ?_)
            refine goes_ Try.func16 (by kernel_rfl) rfl #[.agg #[.int .i64 a0_0, .int .i64 a0_1, .int .i64 a0_2, .int .i64 a0_3, .int .i64 a0_4], .agg #[.int .i64 12, .string (⟨#[]⟩ : ByteArray), .string (⟨#[]⟩ : ByteArray), .int .i64 0, .int .i64 0, .int .i64 0, .slice none 0 0], .int .i64 (wrap64 (Int.tmod (IntKind.u64.wrap (a3)) 7))] (by rfl) rfl rfl (by (try simp only [List.map_toArray, List.map_cons, List.map_nil]); first | done | rfl | (simp only [List.length_drop, List.length_take]; rfl)) ?_
            refine (cost_Call.calls k a0_0 a0_1 a0_2 a0_3 a0_4 12 (⟨#[]⟩ : ByteArray) (⟨#[]⟩ : ByteArray) 0 0 0 _ _ ([] : List Int) (wrap64 (Int.tmod (IntKind.u64.wrap (a3)) 7)) t172 t173 t174 _ ?side1 ?side2 A65.out).mono ?_
            (case side1 => exact Kd.C_nil _ _)
            (case side2 => exact Nat.le_refl _)
            rintro e w72 ⟨rfl, hb⟩
            refine ⟨_, rfl, ?_⟩
            have n0_ := Aside0.mk (blk_below (g := gb139) (o := .cells #[.int .i64 a0_0, .int .i64 a0_1, .int .i64 a0_2, .int .i64 a0_3, .int .i64 a0_4] 23 (0, 0)) (by (with_reducible repeat (first | refine blk_drewN ?_ _ | refine blk_drew ?_ | refine blk_alloc ?_ _)); exact BK139.out) hb)
            have n1_ := Aside0.mk (blk_below (g := gb154) (o := .cells #[.int .i64 t145, .int .i64 t146, .int .i64 t147] 32 (0, 0)) (by (with_reducible repeat (first | refine blk_drewN ?_ _ | refine blk_drew ?_ | refine blk_alloc ?_ _)); exact BK154.out) hb)
            have n2_ := Aside0.mk (blk_below (g := gb155) (o := .cells #[.int .i64 t148, .int .i64 t149, .int .i64 t150] 32 (0, 0)) (by (with_reducible repeat (first | refine blk_drewN ?_ _ | refine blk_drew ?_ | refine blk_alloc ?_ _)); exact BK155.out) hb)
            have n3_ := Aside0.mk (blk_below (g := gb156) (o := .cells #[.int .i64 t151, .int .i64 t152, .int .i64 t153] 32 (0, 0)) (by (with_reducible repeat (first | refine blk_drewN ?_ _ | refine blk_drew ?_ | refine blk_alloc ?_ _)); exact BK156.out) hb)
            have n4_ := Aside0.mk (blk_below (g := gb163) (o := .cells #[.int .i64 t157, .int .i64 t158, .int .i64 t159] 32 (0, 0)) (by (with_reducible repeat (first | refine blk_drewN ?_ _ | refine blk_drew ?_ | refine blk_alloc ?_ _)); exact BK163.out) hb)
            have n5_ := Aside0.mk (blk_below (g := gb164) (o := .cells #[.int .i64 t160, .int .i64 t161, .int .i64 t162] 32 (0, 0)) (by (with_reducible repeat (first | refine blk_drewN ?_ _ | refine blk_drew ?_ | refine blk_alloc ?_ _)); exact BK164.out) hb)
            have n6_ := Aside0.mk (blk_below (g := gb168) (o := .cells #[.int .i64 t165, .int .i64 t166, .int .i64 t167] 32 (0, 0)) (by (with_reducible repeat (first | refine blk_drewN ?_ _ | refine blk_drew ?_ | refine blk_alloc ?_ _)); exact BK168.out) hb)
            have n7_ := Aside0.mk (below_step (by repeat (first | (with_reducible first | exact HB.out | apply below_alloc | apply pw_below_drewN | apply below_drew1 | refine below_set ?_ GE139.out | refine below_set ?_ GE154.out | refine below_set ?_ GE155.out | refine below_set ?_ GE156.out | refine below_set ?_ GE163.out | refine below_set ?_ GE164.out | refine below_set ?_ GE168.out) | exact HB.out)) hb)
            clear BK139
            clear BK154
            clear BK155
            clear BK156
            clear BK163
            clear BK164
            clear BK168
            clear HB
            have BK139 := n0_
            have BK154 := n1_
            have BK155 := n2_
            have BK156 := n3_
            have BK163 := n4_
            have BK164 := n5_
            have BK168 := n6_
            have HB := n7_
            clear n0_ n1_ n2_ n3_ n4_ n5_ n6_ n7_
            (try clear hb)
            (try clear hb2)
            (try clear hk)
            (try clear hi)
            refine hK.out _ _ ⟨(blk_cell BK156.out 0).trans rfl, (blk_cell BK156.out 1).trans rfl, (blk_cell BK156.out 2).trans rfl, (blk_cell BK154.out 0).trans rfl, (blk_cell BK154.out 1).trans rfl, (blk_cell BK154.out 2).trans rfl, (blk_cell BK155.out 0).trans rfl, (blk_cell BK155.out 1).trans rfl, (blk_cell BK155.out 2).trans rfl, (blk_cell BK164.out 0).trans rfl, (blk_cell BK164.out 1).trans rfl, (blk_cell BK164.out 2).trans rfl, (blk_cell BK163.out 0).trans rfl, (blk_cell BK163.out 1).trans rfl, (blk_cell BK163.out 2).trans rfl, (blk_cell BK168.out 0).trans rfl, (blk_cell BK168.out 1).trans rfl, (blk_cell BK168.out 2).trans rfl, (blk_cell BK139.out 0).trans rfl, (blk_cell BK139.out 1).trans rfl, (blk_cell BK139.out 2).trans rfl, (blk_cell BK139.out 3).trans rfl, (blk_cell BK139.out 4).trans rfl⟩ (fun hHeld => ?_)
            clear hK K
            refine norm_ (a' := ?_) ?_ ?_
            rotate_left
            · show Act.put _ (some 86) _ = _
              simp only [Act.put, List.setIfInBounds_toArray, List.set_cons_zero, List.set_cons_succ, i64_w, i32_w]
              rfl
            refine one_ (i := 21) (N := some 87) #[true, true, true, true, true, true, true, true, true, true, true, true, true, true, true, true, true, true, true, true, true, true, false, false, false, false, false, false, false, false] rfl rfl (one_of HT_.out (by kernel_rfl)) (by decide) (fun K hK => ?_)
            refine goes_ Try.func19 (by kernel_rfl) rfl #[.agg #[.int .i64 t165, .int .i64 t166, .int .i64 t167], .agg #[.int .i64 t172, .int .i64 t173, .int .i64 t174]] (by rfl) rfl rfl (by (try simp only [List.map_toArray, List.map_cons, List.map_nil]); first | done | rfl | (simp only [List.length_drop, List.length_take]; rfl)) ?_
            with_reducible refine (cost_Within.calls t165 t166 t167 t172 t173 t174 true _ A66.out).mono ?_
            rintro e w73 ⟨rfl, hb⟩
            refine ⟨_, rfl, ?_⟩
            have n0_ := Aside0.mk (blk_below (g := gb139) (o := .cells #[.int .i64 a0_0, .int .i64 a0_1, .int .i64 a0_2, .int .i64 a0_3, .int .i64 a0_4] 23 (0, 0)) (by (with_reducible repeat (first | refine blk_drewN ?_ _ | refine blk_drew ?_ | refine blk_alloc ?_ _)); exact BK139.out) hb)
            have n1_ := Aside0.mk (blk_below (g := gb154) (o := .cells #[.int .i64 t145, .int .i64 t146, .int .i64 t147] 32 (0, 0)) (by (with_reducible repeat (first | refine blk_drewN ?_ _ | refine blk_drew ?_ | refine blk_alloc ?_ _)); exact BK154.out) hb)
            have n2_ := Aside0.mk (blk_below (g := gb155) (o := .cells #[.int .i64 t148, .int .i64 t149, .int .i64 t150] 32 (0, 0)) (by (with_reducible repeat (first | refine blk_drewN ?_ _ | refine blk_drew ?_ | refine blk_alloc ?_ _)); exact BK155.out) hb)
            have n3_ := Aside0.mk (blk_below (g := gb156) (o := .cells #[.int .i64 t151, .int .i64 t152, .int .i64 t153] 32 (0, 0)) (by (with_reducible repeat (first | refine blk_drewN ?_ _ | refine blk_drew ?_ | refine blk_alloc ?_ _)); exact BK156.out) hb)
            have n4_ := Aside0.mk (blk_below (g := gb163) (o := .cells #[.int .i64 t157, .int .i64 t158, .int .i64 t159] 32 (0, 0)) (by (with_reducible repeat (first | refine blk_drewN ?_ _ | refine blk_drew ?_ | refine blk_alloc ?_ _)); exact BK163.out) hb)
            have n5_ := Aside0.mk (blk_below (g := gb164) (o := .cells #[.int .i64 t160, .int .i64 t161, .int .i64 t162] 32 (0, 0)) (by (with_reducible repeat (first | refine blk_drewN ?_ _ | refine blk_drew ?_ | refine blk_alloc ?_ _)); exact BK164.out) hb)
            have n6_ := Aside0.mk (blk_below (g := gb168) (o := .cells #[.int .i64 t165, .int .i64 t166, .int .i64 t167] 32 (0, 0)) (by (with_reducible repeat (first | refine blk_drewN ?_ _ | refine blk_drew ?_ | refine blk_alloc ?_ _)); exact BK168.out) hb)
            have n7_ := Aside0.mk (below_step (by repeat (first | (with_reducible first | exact HB.out | apply below_alloc | apply pw_below_drewN | apply below_drew1 | refine below_set ?_ GE139.out | refine below_set ?_ GE154.out | refine below_set ?_ GE155.out | refine below_set ?_ GE156.out | refine below_set ?_ GE163.out | refine below_set ?_ GE164.out | refine below_set ?_ GE168.out) | exact HB.out)) hb)
            clear BK139
            clear BK154
            clear BK155
            clear BK156
            clear BK163
            clear BK164
            clear BK168
            clear HB
            have BK139 := n0_
            have BK154 := n1_
            have BK155 := n2_
            have BK156 := n3_
            have BK163 := n4_
            have BK164 := n5_
            have BK168 := n6_
            have HB := n7_
            clear n0_ n1_ n2_ n3_ n4_ n5_ n6_ n7_
            (try clear hb)
            (try clear hb2)
            (try clear hk)
            (try clear hi)
            refine hK.out _ _ ⟨(blk_cell BK156.out 0).trans rfl, (blk_cell BK156.out 1).trans rfl, (blk_cell BK156.out 2).trans rfl, (blk_cell BK154.out 0).trans rfl, (blk_cell BK154.out 1).trans rfl, (blk_cell BK154.out 2).trans rfl, (blk_cell BK155.out 0).trans rfl, (blk_cell BK155.out 1).trans rfl, (blk_cell BK155.out 2).trans rfl, (blk_cell BK164.out 0).trans rfl, (blk_cell BK164.out 1).trans rfl, (blk_cell BK164.out 2).trans rfl, (blk_cell BK163.out 0).trans rfl, (blk_cell BK163.out 1).trans rfl, (blk_cell BK163.out 2).trans rfl, (blk_cell BK168.out 0).trans rfl, (blk_cell BK168.out 1).trans rfl, (blk_cell BK168.out 2).trans rfl, (blk_cell BK139.out 0).trans rfl, (blk_cell BK139.out 1).trans rfl, (blk_cell BK139.out 2).trans rfl, (blk_cell BK139.out 3).trans rfl, (blk_cell BK139.out 4).trans rfl⟩ (fun hHeld => ?_)
            clear hK K
            refine norm_ (a' := ?_) ?_ ?_
            rotate_left
            · show Act.put _ (some 87) _ = _
              simp only [Act.put, List.setIfInBounds_toArray, List.set_cons_zero, List.set_cons_succ, i64_w, i32_w]
              rfl
            refine pure_ (i := 22) (N := some 88) (v := ?_) (a' := ?_) #[true, true, true, true, true, true, true, true, true, true, true, true, true, true, true, true, true, true, true, true, true, true, true, false, false, false, false, false, false, false] rfl rfl (any_of HT_.out (by kernel_rfl)) (fun _ _ _ h => h) (Or.inl ⟨by rfl, ?_⟩) ?_ ?_
            rotate_left
            · intro w'
              go_simp
              with_reducible rfl
            rotate_left
            · simp only [Act.put, List.setIfInBounds_toArray, List.set_cons_zero, List.set_cons_succ, i64_w, i32_w]
              rfl
            refine pure_ (i := 23) (N := some 89) (v := ?_) (a' := ?_) #[true, true, true, true, true, true, true, true, true, true, true, true, true, true, true, true, true, true, true, true, true, true, true, true, false, false, false, false, false, false] rfl rfl (any_of HT_.out (by kernel_rfl)) (fun _ _ _ h => h) (Or.inl ⟨by rfl, ?_⟩) ?_ ?_
            rotate_left
            · intro w'
              go_simp
              with_reducible rfl
            rotate_left
            · simp only [Act.put, List.setIfInBounds_toArray, List.set_cons_zero, List.set_cons_succ, i64_w, i32_w]
              rfl
            refine pure_ (i := 24) (N := some 90) (v := ?_) (a' := ?_) #[true, true, true, true, true, true, true, true, true, true, true, true, true, true, true, true, true, true, true, true, true, true, true, true, true, false, false, false, false, false] rfl rfl (any_of HT_.out (by kernel_rfl)) (fun _ _ _ h => h) (Or.inl ⟨by rfl, ?_⟩) ?_ ?_
            rotate_left
            · intro w'
              go_simp
              with_reducible rfl
            rotate_left
            · simp only [Act.put, List.setIfInBounds_toArray, List.set_cons_zero, List.set_cons_succ, i64_w, i32_w]
              rfl
            refine take_ (i := 25) (N := some 91) (v := ?_) (a' := ?_) #[true, true, true, true, true, true, true, true, true, true, true, true, true, true, true, true, true, true, true, true, true, true, true, true, true, true, false, false, false, false] rfl rfl (take_ofW HT_.out HW_.out (by kernel_rfl)) (fun _ _ _ h => h) (Or.inl ⟨by rfl, ?_⟩) hHeld ?_ ?_
            rotate_left
            · rintro w' ⟨s0, s1, s2, s3, s4, s5, s6, s7, s8, s9, s10, s11, s12, s13, s14, s15, s16, s17, s18, s19, s20, s21, s22⟩
              go_simp
              with_reducible rfl
            rotate_left
            · simp only [Act.put, List.setIfInBounds_toArray, List.set_cons_zero, List.set_cons_succ, i64_w, i32_w]
              rfl
            refine take_ (i := 26) (N := some 92) (v := ?_) (a' := ?_) #[true, true, true, true, true, true, true, true, true, true, true, true, true, true, true, true, true, true, true, true, true, true, true, true, true, true, true, false, false, false] rfl rfl (take_ofW HT_.out HW_.out (by kernel_rfl)) (fun _ _ _ h => h) (Or.inl ⟨by rfl, ?_⟩) hHeld ?_ ?_
            rotate_left
            · rintro w' ⟨s0, s1, s2, s3, s4, s5, s6, s7, s8, s9, s10, s11, s12, s13, s14, s15, s16, s17, s18, s19, s20, s21, s22⟩
              go_simp
              with_reducible rfl
            rotate_left
            · simp only [Act.put, List.setIfInBounds_toArray, List.set_cons_zero, List.set_cons_succ, i64_w, i32_w]
              rfl
            refine one_ (i := 27) (N := some 93) #[true, true, true, true, true, true, true, true, true, true, true, true, true, true, true, true, true, true, true, true, true, true, true, true, true, true, true, true, false, false] rfl rfl (one_of HT_.out (by kernel_rfl)) (by decide) (fun K hK => ?_)
            refine goes_ Try.func19 (by kernel_rfl) rfl #[.agg #[.int .i64 t145, .int .i64 t146, .int .i64 t147], .agg #[.int .i64 t151, .int .i64 t152, .int .i64 t153]] (by rfl) rfl rfl (by (try simp only [List.map_toArray, List.map_cons, List.map_nil]); first | done | rfl | (simp only [List.length_drop, List.length_take]; rfl)) ?_
            with_reducible refine (cost_Within.calls t145 t146 t147 t151 t152 t153 t176 _ A68.out).mono ?_
            rintro e w74 ⟨rfl, hb⟩
            refine ⟨_, rfl, ?_⟩
            have n0_ := Aside0.mk (blk_below (g := gb139) (o := .cells #[.int .i64 a0_0, .int .i64 a0_1, .int .i64 a0_2, .int .i64 a0_3, .int .i64 a0_4] 23 (0, 0)) (by (with_reducible repeat (first | refine blk_drewN ?_ _ | refine blk_drew ?_ | refine blk_alloc ?_ _)); exact BK139.out) hb)
            have n1_ := Aside0.mk (blk_below (g := gb154) (o := .cells #[.int .i64 t145, .int .i64 t146, .int .i64 t147] 32 (0, 0)) (by (with_reducible repeat (first | refine blk_drewN ?_ _ | refine blk_drew ?_ | refine blk_alloc ?_ _)); exact BK154.out) hb)
            have n2_ := Aside0.mk (blk_below (g := gb155) (o := .cells #[.int .i64 t148, .int .i64 t149, .int .i64 t150] 32 (0, 0)) (by (with_reducible repeat (first | refine blk_drewN ?_ _ | refine blk_drew ?_ | refine blk_alloc ?_ _)); exact BK155.out) hb)
            have n3_ := Aside0.mk (blk_below (g := gb156) (o := .cells #[.int .i64 t151, .int .i64 t152, .int .i64 t153] 32 (0, 0)) (by (with_reducible repeat (first | refine blk_drewN ?_ _ | refine blk_drew ?_ | refine blk_alloc ?_ _)); exact BK156.out) hb)
            have n4_ := Aside0.mk (blk_below (g := gb163) (o := .cells #[.int .i64 t157, .int .i64 t158, .int .i64 t159] 32 (0, 0)) (by (with_reducible repeat (first | refine blk_drewN ?_ _ | refine blk_drew ?_ | refine blk_alloc ?_ _)); exact BK163.out) hb)
            have n5_ := Aside0.mk (blk_below (g := gb164) (o := .cells #[.int .i64 t160, .int .i64 t161, .int .i64 t162] 32 (0, 0)) (by (with_reducible repeat (first | refine blk_drewN ?_ _ | refine blk_drew ?_ | refine blk_alloc ?_ _)); exact BK164.out) hb)
            have n6_ := Aside0.mk (blk_below (g := gb168) (o := .cells #[.int .i64 t165, .int .i64 t166, .int .i64 t167] 32 (0, 0)) (by (with_reducible repeat (first | refine blk_drewN ?_ _ | refine blk_drew ?_ | refine blk_alloc ?_ _)); exact BK168.out) hb)
            have n7_ := Aside0.mk (below_step (by repeat (first | (with_reducible first | exact HB.out | apply below_alloc | apply pw_below_drewN | apply below_drew1 | refine below_set ?_ GE139.out | refine below_set ?_ GE154.out | refine below_set ?_ GE155.out | refine below_set ?_ GE156.out | refine below_set ?_ GE163.out | refine below_set ?_ GE164.out | refine below_set ?_ GE168.out) | exact HB.out)) hb)
            clear BK139
            clear BK154
            clear BK155
            clear BK156
            clear BK163
            clear BK164
            clear BK168
            clear HB
            have BK139 := n0_
            have BK154 := n1_
            have BK155 := n2_
            have BK156 := n3_
            have BK163 := n4_
            have BK164 := n5_
            have BK168 := n6_
            have HB := n7_
            clear n0_ n1_ n2_ n3_ n4_ n5_ n6_ n7_
            (try clear hb)
            (try clear hb2)
            (try clear hk)
            (try clear hi)
            refine hK.out _ _ ⟨(blk_cell BK156.out 0).trans rfl, (blk_cell BK156.out 1).trans rfl, (blk_cell BK156.out 2).trans rfl, (blk_cell BK154.out 0).trans rfl, (blk_cell BK154.out 1).trans rfl, (blk_cell BK154.out 2).trans rfl, (blk_cell BK155.out 0).trans rfl, (blk_cell BK155.out 1).trans rfl, (blk_cell BK155.out 2).trans rfl, (blk_cell BK164.out 0).trans rfl, (blk_cell BK164.out 1).trans rfl, (blk_cell BK164.out 2).trans rfl, (blk_cell BK163.out 0).trans rfl, (blk_cell BK163.out 1).trans rfl, (blk_cell BK163.out 2).trans rfl, (blk_cell BK168.out 0).trans rfl, (blk_cell BK168.out 1).trans rfl, (blk_cell BK168.out 2).trans rfl, (blk_cell BK139.out 0).trans rfl, (blk_cell BK139.out 1).trans rfl, (blk_cell BK139.out 2).trans rfl, (blk_cell BK139.out 3).trans rfl, (blk_cell BK139.out 4).trans rfl⟩ (fun hHeld => ?_)
            clear hK K
            refine norm_ (a' := ?_) ?_ ?_
            rotate_left
            · show Act.put _ (some 93) _ = _
              simp only [Act.put, List.setIfInBounds_toArray, List.set_cons_zero, List.set_cons_succ, i64_w, i32_w]
              rfl
            refine pure_ (i := 28) (N := some 94) (v := ?_) (a' := ?_) #[true, true, true, true, true, true, true, true, true, true, true, true, true, true, true, true, true, true, true, true, true, true, true, true, true, true, true, true, true, false] rfl rfl (any_of HT_.out (by kernel_rfl)) (fun _ _ _ h => h) (Or.inl ⟨by rfl, ?_⟩) ?_ ?_
            rotate_left
            · intro w'
              go_simp
              with_reducible rfl
            rotate_left
            · simp only [Act.put, List.setIfInBounds_toArray, List.set_cons_zero, List.set_cons_succ, i64_w, i32_w]
              rfl
            refine pure_ (i := 29) (N := some 95) (v := ?_) (a' := ?_) #[true, true, true, true, true, true, true, true, true, true, true, true, true, true, true, true, true, true, true, true, true, true, true, true, true, true, true, true, true, true] rfl rfl (any_of HT_.out (by kernel_rfl)) (fun _ _ _ h => h) (Or.inl ⟨by rfl, ?_⟩) ?_ ?_
            rotate_left
            · intro w'
              go_simp
              with_reducible rfl
            rotate_left
            · simp only [Act.put, List.setIfInBounds_toArray, List.set_cons_zero, List.set_cons_succ, i64_w, i32_w]
              rfl
            refine done_ (done_of HT_.out (by kernel_rfl)) ?_
            try go_wp2
            go_meet
            case rel => exact ⟨_, (!t176), (by first | rfl | (simp; done) | (simp [*]; done)), H', ⟨by first | omega | exact Nat.le_refl _⟩, ⟨by (with_reducible repeat (first | refine blk_drewN ?_ _ | refine blk_drew ?_ | refine blk_alloc ?_ _)); exact BK139.out⟩, ⟨by (with_reducible repeat (first | refine blk_drewN ?_ _ | refine blk_drew ?_ | refine blk_alloc ?_ _)); exact BK154.out⟩, ⟨by (with_reducible repeat (first | refine blk_drewN ?_ _ | refine blk_drew ?_ | refine blk_alloc ?_ _)); exact BK155.out⟩, ⟨by (with_reducible repeat (first | refine blk_drewN ?_ _ | refine blk_drew ?_ | refine blk_alloc ?_ _)); exact BK156.out⟩, ⟨by (with_reducible repeat (first | refine blk_drewN ?_ _ | refine blk_drew ?_ | refine blk_alloc ?_ _)); exact BK163.out⟩, ⟨by (with_reducible repeat (first | refine blk_drewN ?_ _ | refine blk_drew ?_ | refine blk_alloc ?_ _)); exact BK164.out⟩, ⟨by (with_reducible repeat (first | refine blk_drewN ?_ _ | refine blk_drew ?_ | refine blk_alloc ?_ _)); exact BK168.out⟩, ⟨by repeat (first | (with_reducible first | exact HB.out | apply below_alloc | apply pw_below_drewN | apply below_drew1 | refine below_set ?_ GE139.out | refine below_set ?_ GE154.out | refine below_set ?_ GE155.out | refine below_set ?_ GE156.out | refine below_set ?_ GE163.out | refine below_set ?_ GE164.out | refine below_set ?_ GE168.out) | exact HB.out)⟩⟩
          · replace c67 := Bool.eq_false_iff.mpr c67
            subst c67
            have H1 : (potsherdlaw24_CostSums.j0 k a4 true t165 t166 t167) = some true := by rw [if_neg (show ¬ (false = true) by decide)] at H; exact H
            clear H
            have H := H1
            clear H1
            exact absurd H (by cases k <;> simp [potsherdlaw24_CostSums.j0])
        · rw [if_neg c64] at H
          have c64b0 : (t161 == (wrap64 (t158 * (wrap64 ((wrap64 (Int.tmod (IntKind.u64.wrap (a3)) 7)) + 1))))) = false := beq_eq_false_iff_ne.mpr c64
          have c64b1 : (t161 != (wrap64 (t158 * (wrap64 ((wrap64 (Int.tmod (IntKind.u64.wrap (a3)) 7)) + 1))))) = true := bne_iff_ne.mpr c64
          exact absurd H (by cases k <;> simp [potsherdlaw24_CostSums.j0])
    case rest =>
      clear HC14
      try clear c1
      try clear c2
      try clear p2
      try clear c4
      try clear c5
      try clear c6
      try clear p6
      try clear c16
      try clear c19
      try clear c20
      try clear c47
      try clear c48
      try clear c49
      try clear c50
      try clear c51
      try clear c55
      try clear c56
      try clear c57
      try clear c58
      try clear c59
      try clear c60
      try clear c63
      try clear c63b0
      try clear c64
      try clear c64b0
      try clear c64b1
      try clear p64
      try clear c67
      try clear hcz52_0
      try clear hcz52_1
      try clear hcz52_2
      try clear hcz52_3
      try clear hcz52_4
      try clear hcz61_0
      try clear hcz61_1
      try clear hcz61_2
      try clear hfz52_0
      try clear hfz52_1
      try clear hfz52_2
      try clear hfz52_3
      try clear hfz52_4
      try clear hfz61_0
      try clear hfz61_1
      try clear hfz61_2
      obtain ⟨kq, x95_13, rfl, HA, HJ13, BK139, BK154, BK155, BK156, BK163, BK164, BK168, HB⟩ := hcut
      cases kq with
      | zero => exact absurd HA.out (by simp [potsherdlaw24_CostSums.j0])
      | succ kj13 =>
        have H := HA.out
        clear HA
        simp only [potsherdlaw24_CostSums.j0] at H
        by_cases c75 : x95_13 = true
        · subst c75
          have H1 : (some false) = some true := by rw [if_pos rfl] at H; exact H
          clear H
          have H := H1
          clear H1
          exact absurd H (by simp)
        · replace c75 := Bool.eq_false_iff.mpr c75
          subst c75
          have H1 : (if a4 < 1 then (potsherdlaw24_CostSums.j1 kj13 true t165 t166 t167) else (if a4 > 13 then (potsherdlaw24_CostSums.j1 kj13 true t165 t166 t167) else (if a4 = 7 then (potsherdlaw24_CostSums.j1 kj13 true t165 t166 t167) else (if a4 = 8 then (potsherdlaw24_CostSums.j1 kj13 true t165 t166 t167) else (if a4 = 9 then (potsherdlaw24_CostSums.j1 kj13 true t165 t166 t167) else (potsherdlaw24_CostSums.j1 kj13 (a4 == 11) t165 t166 t167)))))) = some true := by rw [if_neg (show ¬ (false = true) by decide)] at H; exact H
          clear H
          have H := H1
          clear H1
          have HC76 := Aside0.mk H
          clear H
          go_upto_region 9 with (fail)
          go_cut [17] (fun v17 wc => ∃ (kq : Nat) (x17_75 : Bool), v17 = .bool x17_75 ∧ Aside0 (potsherdlaw24_CostSums.j1 kq x17_75 t165 t166 t167 = some true) ∧ Aside0 (kq ≤ kj13) ∧ Aside0 (wc.heap[gb139]? = some (.cells #[.int .i64 a0_0, .int .i64 a0_1, .int .i64 a0_2, .int .i64 a0_3, .int .i64 a0_4] 23 (0, 0))) ∧ Aside0 (wc.heap[gb154]? = some (.cells #[.int .i64 t145, .int .i64 t146, .int .i64 t147] 32 (0, 0))) ∧ Aside0 (wc.heap[gb155]? = some (.cells #[.int .i64 t148, .int .i64 t149, .int .i64 t150] 32 (0, 0))) ∧ Aside0 (wc.heap[gb156]? = some (.cells #[.int .i64 t151, .int .i64 t152, .int .i64 t153] 32 (0, 0))) ∧ Aside0 (wc.heap[gb163]? = some (.cells #[.int .i64 t157, .int .i64 t158, .int .i64 t159] 32 (0, 0))) ∧ Aside0 (wc.heap[gb164]? = some (.cells #[.int .i64 t160, .int .i64 t161, .int .i64 t162] 32 (0, 0))) ∧ Aside0 (wc.heap[gb168]? = some (.cells #[.int .i64 t165, .int .i64 t166, .int .i64 t167] 32 (0, 0))) ∧ Aside0 (Below w.heap.size w wc))
          case first =>
            have H := HC76.out
            clear HC76
            by_cases c77 : a4 < 1
            · rw [if_pos c77] at H
              have c77b0 : decide (a4 < 1) = true := decide_eq_true c77
              clear c77
              (first | rw [c77b0] | (simp only [i64_w, i32_w]; rw [c77b0]) | skip)
              have H' := Aside0.mk H
              clear H
              go_wp2
              go_meet
              case rel => exact ⟨_, (true), (by first | rfl | (simp; done) | (simp [*]; done)), H', ⟨by have := HJ13.out; first | omega | exact Nat.le_refl _⟩, ⟨by (with_reducible repeat (first | refine blk_drewN ?_ _ | refine blk_drew ?_ | refine blk_alloc ?_ _)); exact BK139.out⟩, ⟨by (with_reducible repeat (first | refine blk_drewN ?_ _ | refine blk_drew ?_ | refine blk_alloc ?_ _)); exact BK154.out⟩, ⟨by (with_reducible repeat (first | refine blk_drewN ?_ _ | refine blk_drew ?_ | refine blk_alloc ?_ _)); exact BK155.out⟩, ⟨by (with_reducible repeat (first | refine blk_drewN ?_ _ | refine blk_drew ?_ | refine blk_alloc ?_ _)); exact BK156.out⟩, ⟨by (with_reducible repeat (first | refine blk_drewN ?_ _ | refine blk_drew ?_ | refine blk_alloc ?_ _)); exact BK163.out⟩, ⟨by (with_reducible repeat (first | refine blk_drewN ?_ _ | refine blk_drew ?_ | refine blk_alloc ?_ _)); exact BK164.out⟩, ⟨by (with_reducible repeat (first | refine blk_drewN ?_ _ | refine blk_drew ?_ | refine blk_alloc ?_ _)); exact BK168.out⟩, ⟨by repeat (first | (with_reducible first | exact HB.out | apply below_alloc | apply pw_below_drewN | apply below_drew1 | refine below_set ?_ GE139.out | refine below_set ?_ GE154.out | refine below_set ?_ GE155.out | refine below_set ?_ GE156.out | refine below_set ?_ GE163.out | refine below_set ?_ GE164.out | refine below_set ?_ GE168.out) | exact HB.out)⟩⟩
            · rw [if_neg c77] at H
              have c77b0 : decide (a4 < 1) = false := decide_eq_false c77
              clear c77
              (first | rw [c77b0] | (simp only [i64_w, i32_w]; rw [c77b0]) | skip)
              by_cases c78 : a4 > 13
              · rw [if_pos c78] at H
                have c78b0 : decide (13 < a4) = true := decide_eq_true c78
                clear c78
                have H' := Aside0.mk H
                clear H
                go_wp2
                go_meet
                case rel => exact ⟨_, (true), (by first | rfl | (simp; done) | (simp [*]; done)), H', ⟨by have := HJ13.out; first | omega | exact Nat.le_refl _⟩, ⟨by (with_reducible repeat (first | refine blk_drewN ?_ _ | refine blk_drew ?_ | refine blk_alloc ?_ _)); exact BK139.out⟩, ⟨by (with_reducible repeat (first | refine blk_drewN ?_ _ | refine blk_drew ?_ | refine blk_alloc ?_ _)); exact BK154.out⟩, ⟨by (with_reducible repeat (first | refine blk_drewN ?_ _ | refine blk_drew ?_ | refine blk_alloc ?_ _)); exact BK155.out⟩, ⟨by (with_reducible repeat (first | refine blk_drewN ?_ _ | refine blk_drew ?_ | refine blk_alloc ?_ _)); exact BK156.out⟩, ⟨by (with_reducible repeat (first | refine blk_drewN ?_ _ | refine blk_drew ?_ | refine blk_alloc ?_ _)); exact BK163.out⟩, ⟨by (with_reducible repeat (first | refine blk_drewN ?_ _ | refine blk_drew ?_ | refine blk_alloc ?_ _)); exact BK164.out⟩, ⟨by (with_reducible repeat (first | refine blk_drewN ?_ _ | refine blk_drew ?_ | refine blk_alloc ?_ _)); exact BK168.out⟩, ⟨by repeat (first | (with_reducible first | exact HB.out | apply below_alloc | apply pw_below_drewN | apply below_drew1 | refine below_set ?_ GE139.out | refine below_set ?_ GE154.out | refine below_set ?_ GE155.out | refine below_set ?_ GE156.out | refine below_set ?_ GE163.out | refine below_set ?_ GE164.out | refine below_set ?_ GE168.out) | exact HB.out)⟩⟩
              · rw [if_neg c78] at H
                have c78b0 : decide (13 < a4) = false := decide_eq_false c78
                clear c78
                by_cases c79 : a4 = 7
                · rw [if_pos c79] at H
                  have c79b0 : (a4 == 7) = true := beq_iff_eq.mpr c79
                  have c79b1 : (a4 != 7) = false := bne_eq_false_iff_eq.mpr c79
                  clear c79
                  have H' := Aside0.mk H
                  clear H
                  go_wp2
                  go_meet
                  case rel => exact ⟨_, (true), (by first | rfl | (simp; done) | (simp [*]; done)), H', ⟨by have := HJ13.out; first | omega | exact Nat.le_refl _⟩, ⟨by (with_reducible repeat (first | refine blk_drewN ?_ _ | refine blk_drew ?_ | refine blk_alloc ?_ _)); exact BK139.out⟩, ⟨by (with_reducible repeat (first | refine blk_drewN ?_ _ | refine blk_drew ?_ | refine blk_alloc ?_ _)); exact BK154.out⟩, ⟨by (with_reducible repeat (first | refine blk_drewN ?_ _ | refine blk_drew ?_ | refine blk_alloc ?_ _)); exact BK155.out⟩, ⟨by (with_reducible repeat (first | refine blk_drewN ?_ _ | refine blk_drew ?_ | refine blk_alloc ?_ _)); exact BK156.out⟩, ⟨by (with_reducible repeat (first | refine blk_drewN ?_ _ | refine blk_drew ?_ | refine blk_alloc ?_ _)); exact BK163.out⟩, ⟨by (with_reducible repeat (first | refine blk_drewN ?_ _ | refine blk_drew ?_ | refine blk_alloc ?_ _)); exact BK164.out⟩, ⟨by (with_reducible repeat (first | refine blk_drewN ?_ _ | refine blk_drew ?_ | refine blk_alloc ?_ _)); exact BK168.out⟩, ⟨by repeat (first | (with_reducible first | exact HB.out | apply below_alloc | apply pw_below_drewN | apply below_drew1 | refine below_set ?_ GE139.out | refine below_set ?_ GE154.out | refine below_set ?_ GE155.out | refine below_set ?_ GE156.out | refine below_set ?_ GE163.out | refine below_set ?_ GE164.out | refine below_set ?_ GE168.out) | exact HB.out)⟩⟩
                · rw [if_neg c79] at H
                  have c79b0 : (a4 == 7) = false := beq_eq_false_iff_ne.mpr c79
                  have c79b1 : (a4 != 7) = true := bne_iff_ne.mpr c79
                  by_cases c80 : a4 = 8
                  · rw [if_pos c80] at H
                    have c80b0 : (a4 == 8) = true := beq_iff_eq.mpr c80
                    have c80b1 : (a4 != 8) = false := bne_eq_false_iff_eq.mpr c80
                    clear c80
                    have H' := Aside0.mk H
                    clear H
                    go_wp2
                    go_meet
                    case rel => exact ⟨_, (true), (by first | rfl | (simp; done) | (simp [*]; done)), H', ⟨by have := HJ13.out; first | omega | exact Nat.le_refl _⟩, ⟨by (with_reducible repeat (first | refine blk_drewN ?_ _ | refine blk_drew ?_ | refine blk_alloc ?_ _)); exact BK139.out⟩, ⟨by (with_reducible repeat (first | refine blk_drewN ?_ _ | refine blk_drew ?_ | refine blk_alloc ?_ _)); exact BK154.out⟩, ⟨by (with_reducible repeat (first | refine blk_drewN ?_ _ | refine blk_drew ?_ | refine blk_alloc ?_ _)); exact BK155.out⟩, ⟨by (with_reducible repeat (first | refine blk_drewN ?_ _ | refine blk_drew ?_ | refine blk_alloc ?_ _)); exact BK156.out⟩, ⟨by (with_reducible repeat (first | refine blk_drewN ?_ _ | refine blk_drew ?_ | refine blk_alloc ?_ _)); exact BK163.out⟩, ⟨by (with_reducible repeat (first | refine blk_drewN ?_ _ | refine blk_drew ?_ | refine blk_alloc ?_ _)); exact BK164.out⟩, ⟨by (with_reducible repeat (first | refine blk_drewN ?_ _ | refine blk_drew ?_ | refine blk_alloc ?_ _)); exact BK168.out⟩, ⟨by repeat (first | (with_reducible first | exact HB.out | apply below_alloc | apply pw_below_drewN | apply below_drew1 | refine below_set ?_ GE139.out | refine below_set ?_ GE154.out | refine below_set ?_ GE155.out | refine below_set ?_ GE156.out | refine below_set ?_ GE163.out | refine below_set ?_ GE164.out | refine below_set ?_ GE168.out) | exact HB.out)⟩⟩
                  · rw [if_neg c80] at H
                    have c80b0 : (a4 == 8) = false := beq_eq_false_iff_ne.mpr c80
                    have c80b1 : (a4 != 8) = true := bne_iff_ne.mpr c80
                    by_cases c81 : a4 = 9
                    · rw [if_pos c81] at H
                      have c81b0 : (a4 == 9) = true := beq_iff_eq.mpr c81
                      have c81b1 : (a4 != 9) = false := bne_eq_false_iff_eq.mpr c81
                      clear c81
                      have H' := Aside0.mk H
                      clear H
                      go_wp2
                      go_meet
                      case rel => exact ⟨_, (true), (by first | rfl | (simp; done) | (simp [*]; done)), H', ⟨by have := HJ13.out; first | omega | exact Nat.le_refl _⟩, ⟨by (with_reducible repeat (first | refine blk_drewN ?_ _ | refine blk_drew ?_ | refine blk_alloc ?_ _)); exact BK139.out⟩, ⟨by (with_reducible repeat (first | refine blk_drewN ?_ _ | refine blk_drew ?_ | refine blk_alloc ?_ _)); exact BK154.out⟩, ⟨by (with_reducible repeat (first | refine blk_drewN ?_ _ | refine blk_drew ?_ | refine blk_alloc ?_ _)); exact BK155.out⟩, ⟨by (with_reducible repeat (first | refine blk_drewN ?_ _ | refine blk_drew ?_ | refine blk_alloc ?_ _)); exact BK156.out⟩, ⟨by (with_reducible repeat (first | refine blk_drewN ?_ _ | refine blk_drew ?_ | refine blk_alloc ?_ _)); exact BK163.out⟩, ⟨by (with_reducible repeat (first | refine blk_drewN ?_ _ | refine blk_drew ?_ | refine blk_alloc ?_ _)); exact BK164.out⟩, ⟨by (with_reducible repeat (first | refine blk_drewN ?_ _ | refine blk_drew ?_ | refine blk_alloc ?_ _)); exact BK168.out⟩, ⟨by repeat (first | (with_reducible first | exact HB.out | apply below_alloc | apply pw_below_drewN | apply below_drew1 | refine below_set ?_ GE139.out | refine below_set ?_ GE154.out | refine below_set ?_ GE155.out | refine below_set ?_ GE156.out | refine below_set ?_ GE163.out | refine below_set ?_ GE164.out | refine below_set ?_ GE168.out) | exact HB.out)⟩⟩
                    · rw [if_neg c81] at H
                      have c81b0 : (a4 == 9) = false := beq_eq_false_iff_ne.mpr c81
                      have c81b1 : (a4 != 9) = true := bne_iff_ne.mpr c81
                      have H' := Aside0.mk H
                      clear H
                      go_wp2
                      go_meet
                      case rel => exact ⟨_, ((a4 == 11)), (by first | rfl | (simp; done) | (simp [*]; done)), H', ⟨by have := HJ13.out; first | omega | exact Nat.le_refl _⟩, ⟨by (with_reducible repeat (first | refine blk_drewN ?_ _ | refine blk_drew ?_ | refine blk_alloc ?_ _)); exact BK139.out⟩, ⟨by (with_reducible repeat (first | refine blk_drewN ?_ _ | refine blk_drew ?_ | refine blk_alloc ?_ _)); exact BK154.out⟩, ⟨by (with_reducible repeat (first | refine blk_drewN ?_ _ | refine blk_drew ?_ | refine blk_alloc ?_ _)); exact BK155.out⟩, ⟨by (with_reducible repeat (first | refine blk_drewN ?_ _ | refine blk_drew ?_ | refine blk_alloc ?_ _)); exact BK156.out⟩, ⟨by (with_reducible repeat (first | refine blk_drewN ?_ _ | refine blk_drew ?_ | refine blk_alloc ?_ _)); exact BK163.out⟩, ⟨by (with_reducible repeat (first | refine blk_drewN ?_ _ | refine blk_drew ?_ | refine blk_alloc ?_ _)); exact BK164.out⟩, ⟨by (with_reducible repeat (first | refine blk_drewN ?_ _ | refine blk_drew ?_ | refine blk_alloc ?_ _)); exact BK168.out⟩, ⟨by repeat (first | (with_reducible first | exact HB.out | apply below_alloc | apply pw_below_drewN | apply below_drew1 | refine below_set ?_ GE139.out | refine below_set ?_ GE154.out | refine below_set ?_ GE155.out | refine below_set ?_ GE156.out | refine below_set ?_ GE163.out | refine below_set ?_ GE164.out | refine below_set ?_ GE168.out) | exact HB.out)⟩⟩
          case rest =>
            clear HC76
            try clear c1
            try clear c2
            try clear p2
            try clear c4
            try clear c5
            try clear c6
            try clear p6
            try clear c7
            try clear c8
            try clear c16
            try clear c19
            try clear c20
            try clear c47
            try clear c48
            try clear c49
            try clear c50
            try clear c51
            try clear c55
            try clear c56
            try clear c57
            try clear c58
            try clear c59
            try clear c60
            try clear c63
            try clear c63b0
            try clear c64
            try clear c64b0
            try clear c64b1
            try clear p64
            try clear c67
            try clear c75
            try clear c77
            try clear c77b0
            try clear c78
            try clear c78b0
            try clear c79
            try clear c79b0
            try clear c79b1
            try clear c80
            try clear c80b0
            try clear c80b1
            try clear c81
            try clear c81b0
            try clear c81b1
            try clear hcz52_0
            try clear hcz52_1
            try clear hcz52_2
            try clear hcz52_3
            try clear hcz52_4
            try clear hcz61_0
            try clear hcz61_1
            try clear hcz61_2
            try clear hfz52_0
            try clear hfz52_1
            try clear hfz52_2
            try clear hfz52_3
            try clear hfz52_4
            try clear hfz61_0
            try clear hfz61_1
            try clear hfz61_2
            try clear p2
            try clear p6
            try clear p64
            obtain ⟨kq, x17_75, rfl, HA, HJ75, BK139, BK154, BK155, BK156, BK163, BK164, BK168, HB⟩ := hcut
            cases kq with
            | zero => exact absurd HA.out (by simp [potsherdlaw24_CostSums.j1])
            | succ kj75 =>
              have H := HA.out
              clear HA
              simp only [potsherdlaw24_CostSums.j1] at H
              by_cases c82 : t166 = 0
              · rw [if_pos c82] at H
                have c82b0 : (t166 == 0) = true := beq_iff_eq.mpr c82
                have c82b1 : (t166 != 0) = false := bne_eq_false_iff_eq.mpr c82
                clear c82
                by_cases c83 : ((t167 == 0) == x17_75) = true
                · rw [if_pos c83] at H
                  have c83b0 : ((t167 == 0) == x17_75) = true := c83
                  (try (have c83b1 : decide ((t167 == 0) = x17_75) = true := by simpa using c83))
                  (try (have c83b2 : ((t167 == 0) == x17_75) = true := by simpa using c83))
                  clear c83
                  replace H := Option.bind_eq_some_iff.mp H
                  obtain ⟨t177, A840, H⟩ := H
                  replace H : (some t177) = some true := H
                  have A84 := Aside0.mk A840
                  clear A840
                  have HRET := Aside0.mk (Option.some.inj H)
                  clear H
                  have hnb85 := NB168_139.out
                  have hnc85 := NB139_168.out
                  have hnb86 := NB168_154.out
                  have hnc86 := NB154_168.out
                  have hnb87 := NB168_155.out
                  have hnc87 := NB155_168.out
                  have hnb88 := NB168_156.out
                  have hnc88 := NB156_168.out
                  have hnb89 := NB168_163.out
                  have hnc89 := NB163_168.out
                  have hnb90 := NB168_164.out
                  have hnc90 := NB164_168.out
                  have hcz91_0 : wc.cell? ⟨gb168, 0, none⟩ = some (.int .i64 t165) := (blk_cell BK168.out 0).trans rfl
                  have hcz91_1 : wc.cell? ⟨gb168, 1, none⟩ = some (.int .i64 t166) := (blk_cell BK168.out 1).trans rfl
                  have hcz91_2 : wc.cell? ⟨gb168, 2, none⟩ = some (.int .i64 t167) := (blk_cell BK168.out 2).trans rfl
                  have hfz91_0 := blk_frozen BK168.out 0
                  have hfz91_1 := blk_frozen BK168.out 1
                  have hfz91_2 := blk_frozen BK168.out 2
                  go_wp2_with (first | (go_at_call 12; (with_reducible refine (potsherdlaw24_awake.calls kj75  t177 _ A84.out).mono ?_); rintro e w92 ⟨rfl, hb⟩; have n0_ := Aside0.mk (blk_below (g := gb139) (o := .cells #[.int .i64 a0_0, .int .i64 a0_1, .int .i64 a0_2, .int .i64 a0_3, .int .i64 a0_4] 23 (0, 0)) (by (with_reducible repeat (first | refine blk_drewN ?_ _ | refine blk_drew ?_ | refine blk_alloc ?_ _)); exact BK139.out) hb); have n1_ := Aside0.mk (blk_below (g := gb154) (o := .cells #[.int .i64 t145, .int .i64 t146, .int .i64 t147] 32 (0, 0)) (by (with_reducible repeat (first | refine blk_drewN ?_ _ | refine blk_drew ?_ | refine blk_alloc ?_ _)); exact BK154.out) hb); have n2_ := Aside0.mk (blk_below (g := gb155) (o := .cells #[.int .i64 t148, .int .i64 t149, .int .i64 t150] 32 (0, 0)) (by (with_reducible repeat (first | refine blk_drewN ?_ _ | refine blk_drew ?_ | refine blk_alloc ?_ _)); exact BK155.out) hb); have n3_ := Aside0.mk (blk_below (g := gb156) (o := .cells #[.int .i64 t151, .int .i64 t152, .int .i64 t153] 32 (0, 0)) (by (with_reducible repeat (first | refine blk_drewN ?_ _ | refine blk_drew ?_ | refine blk_alloc ?_ _)); exact BK156.out) hb); have n4_ := Aside0.mk (blk_below (g := gb163) (o := .cells #[.int .i64 t157, .int .i64 t158, .int .i64 t159] 32 (0, 0)) (by (with_reducible repeat (first | refine blk_drewN ?_ _ | refine blk_drew ?_ | refine blk_alloc ?_ _)); exact BK163.out) hb); have n5_ := Aside0.mk (blk_below (g := gb164) (o := .cells #[.int .i64 t160, .int .i64 t161, .int .i64 t162] 32 (0, 0)) (by (with_reducible repeat (first | refine blk_drewN ?_ _ | refine blk_drew ?_ | refine blk_alloc ?_ _)); exact BK164.out) hb); have n6_ := Aside0.mk (blk_below (g := gb168) (o := .cells #[.int .i64 t165, .int .i64 t166, .int .i64 t167] 32 (0, 0)) (by (with_reducible repeat (first | refine blk_drewN ?_ _ | refine blk_drew ?_ | refine blk_alloc ?_ _)); exact BK168.out) hb); have n7_ := Aside0.mk (below_step (by repeat (first | (with_reducible first | exact HB.out | apply below_alloc | apply pw_below_drewN | apply below_drew1 | refine below_set ?_ GE139.out | refine below_set ?_ GE154.out | refine below_set ?_ GE155.out | refine below_set ?_ GE156.out | refine below_set ?_ GE163.out | refine below_set ?_ GE164.out | refine below_set ?_ GE168.out) | exact HB.out)) hb); clear BK139; clear BK154; clear BK155; clear BK156; clear BK163; clear BK164; clear BK168; clear HB; have BK139 := n0_; have BK154 := n1_; have BK155 := n2_; have BK156 := n3_; have BK163 := n4_; have BK164 := n5_; have BK168 := n6_; have HB := n7_; clear n0_ n1_ n2_ n3_ n4_ n5_ n6_ n7_; (try clear hb); (try clear hb2); (try clear hk); (try clear hi)))
                  go_ret
                  exact ⟨by first | rfl | exact congrArg (fun b_ => Ending.returned (Value.bool b_)) HRET.out | (rw [HRET.out]) | (simp [errW_none, errW_some] <;> rfl) | (simp [*, errW_none, errW_some] <;> rfl), by repeat (first | (with_reducible first | exact HB.out | apply below_alloc | apply pw_below_drewN | apply below_drew1 | refine below_set ?_ GE139.out | refine below_set ?_ GE154.out | refine below_set ?_ GE155.out | refine below_set ?_ GE156.out | refine below_set ?_ GE163.out | refine below_set ?_ GE164.out | refine below_set ?_ GE168.out) | exact HB.out)⟩
                · rw [if_neg c83] at H
                  have c83b0 : ((t167 == 0) == x17_75) = false := by simpa using c83
                  (try (have c83b1 : decide ((t167 == 0) = x17_75) = false := by simpa using c83))
                  (try (have c83b2 : ((t167 == 0) == x17_75) = false := by simpa using c83))
                  (try (have c83b3 : ¬ ((t167 == 0) = x17_75) := by simpa using c83))
                  clear c83
                  exact absurd H (by simp)
              · rw [if_neg c82] at H
                have c82b0 : (t166 == 0) = false := beq_eq_false_iff_ne.mpr c82
                have c82b1 : (t166 != 0) = true := bne_iff_ne.mpr c82
                by_cases c93 : (false == x17_75) = true
                · rw [if_pos c93] at H
                  have c93b0 : (false == x17_75) = true := c93
                  (try (have c93b1 : decide (false = x17_75) = true := by simpa using c93))
                  (try (have c93b2 : (false == x17_75) = true := by simpa using c93))
                  clear c93
                  replace H := Option.bind_eq_some_iff.mp H
                  obtain ⟨t178, A940, H⟩ := H
                  replace H : (some t178) = some true := H
                  have A94 := Aside0.mk A940
                  clear A940
                  have HRET := Aside0.mk (Option.some.inj H)
                  clear H
                  have hnb95 := NB168_139.out
                  have hnc95 := NB139_168.out
                  have hnb96 := NB168_154.out
                  have hnc96 := NB154_168.out
                  have hnb97 := NB168_155.out
                  have hnc97 := NB155_168.out
                  have hnb98 := NB168_156.out
                  have hnc98 := NB156_168.out
                  have hnb99 := NB168_163.out
                  have hnc99 := NB163_168.out
                  have hnb100 := NB168_164.out
                  have hnc100 := NB164_168.out
                  have hcz101_0 : wc.cell? ⟨gb168, 0, none⟩ = some (.int .i64 t165) := (blk_cell BK168.out 0).trans rfl
                  have hcz101_1 : wc.cell? ⟨gb168, 1, none⟩ = some (.int .i64 t166) := (blk_cell BK168.out 1).trans rfl
                  have hcz101_2 : wc.cell? ⟨gb168, 2, none⟩ = some (.int .i64 t167) := (blk_cell BK168.out 2).trans rfl
                  have hfz101_0 := blk_frozen BK168.out 0
                  have hfz101_1 := blk_frozen BK168.out 1
                  have hfz101_2 := blk_frozen BK168.out 2
                  go_wp2_with (first | (go_at_call 12; (with_reducible refine (potsherdlaw24_awake.calls kj75  t178 _ A94.out).mono ?_); rintro e w102 ⟨rfl, hb⟩; have n0_ := Aside0.mk (blk_below (g := gb139) (o := .cells #[.int .i64 a0_0, .int .i64 a0_1, .int .i64 a0_2, .int .i64 a0_3, .int .i64 a0_4] 23 (0, 0)) (by (with_reducible repeat (first | refine blk_drewN ?_ _ | refine blk_drew ?_ | refine blk_alloc ?_ _)); exact BK139.out) hb); have n1_ := Aside0.mk (blk_below (g := gb154) (o := .cells #[.int .i64 t145, .int .i64 t146, .int .i64 t147] 32 (0, 0)) (by (with_reducible repeat (first | refine blk_drewN ?_ _ | refine blk_drew ?_ | refine blk_alloc ?_ _)); exact BK154.out) hb); have n2_ := Aside0.mk (blk_below (g := gb155) (o := .cells #[.int .i64 t148, .int .i64 t149, .int .i64 t150] 32 (0, 0)) (by (with_reducible repeat (first | refine blk_drewN ?_ _ | refine blk_drew ?_ | refine blk_alloc ?_ _)); exact BK155.out) hb); have n3_ := Aside0.mk (blk_below (g := gb156) (o := .cells #[.int .i64 t151, .int .i64 t152, .int .i64 t153] 32 (0, 0)) (by (with_reducible repeat (first | refine blk_drewN ?_ _ | refine blk_drew ?_ | refine blk_alloc ?_ _)); exact BK156.out) hb); have n4_ := Aside0.mk (blk_below (g := gb163) (o := .cells #[.int .i64 t157, .int .i64 t158, .int .i64 t159] 32 (0, 0)) (by (with_reducible repeat (first | refine blk_drewN ?_ _ | refine blk_drew ?_ | refine blk_alloc ?_ _)); exact BK163.out) hb); have n5_ := Aside0.mk (blk_below (g := gb164) (o := .cells #[.int .i64 t160, .int .i64 t161, .int .i64 t162] 32 (0, 0)) (by (with_reducible repeat (first | refine blk_drewN ?_ _ | refine blk_drew ?_ | refine blk_alloc ?_ _)); exact BK164.out) hb); have n6_ := Aside0.mk (blk_below (g := gb168) (o := .cells #[.int .i64 t165, .int .i64 t166, .int .i64 t167] 32 (0, 0)) (by (with_reducible repeat (first | refine blk_drewN ?_ _ | refine blk_drew ?_ | refine blk_alloc ?_ _)); exact BK168.out) hb); have n7_ := Aside0.mk (below_step (by repeat (first | (with_reducible first | exact HB.out | apply below_alloc | apply pw_below_drewN | apply below_drew1 | refine below_set ?_ GE139.out | refine below_set ?_ GE154.out | refine below_set ?_ GE155.out | refine below_set ?_ GE156.out | refine below_set ?_ GE163.out | refine below_set ?_ GE164.out | refine below_set ?_ GE168.out) | exact HB.out)) hb); clear BK139; clear BK154; clear BK155; clear BK156; clear BK163; clear BK164; clear BK168; clear HB; have BK139 := n0_; have BK154 := n1_; have BK155 := n2_; have BK156 := n3_; have BK163 := n4_; have BK164 := n5_; have BK168 := n6_; have HB := n7_; clear n0_ n1_ n2_ n3_ n4_ n5_ n6_ n7_; (try clear hb); (try clear hb2); (try clear hk); (try clear hi)))
                  go_ret
                  exact ⟨by first | rfl | exact congrArg (fun b_ => Ending.returned (Value.bool b_)) HRET.out | (rw [HRET.out]) | (simp [errW_none, errW_some] <;> rfl) | (simp [*, errW_none, errW_some] <;> rfl), by repeat (first | (with_reducible first | exact HB.out | apply below_alloc | apply pw_below_drewN | apply below_drew1 | refine below_set ?_ GE139.out | refine below_set ?_ GE154.out | refine below_set ?_ GE155.out | refine below_set ?_ GE156.out | refine below_set ?_ GE163.out | refine below_set ?_ GE164.out | refine below_set ?_ GE168.out) | exact HB.out)⟩
                · rw [if_neg c93] at H
                  have c93b0 : (false == x17_75) = false := by simpa using c93
                  (try (have c93b1 : decide (false = x17_75) = false := by simpa using c93))
                  (try (have c93b2 : (false == x17_75) = false := by simpa using c93))
                  (try (have c93b3 : ¬ (false = x17_75) := by simpa using c93))
                  clear c93
                  exact absurd H (by simp)
  · replace c7 := Bool.eq_false_iff.mpr c7
    subst c7
    have H1 : ((cost_Price.f k a0_0 a0_1 a0_2 a0_3 a0_4 1 0).bind fun bt141 => (if (bt141.1 == 0 && (bt141.2.1 == 0 && (bt141.2.2 == 0))) = true then ((potsherdlaw24_awake.f k).bind fun t144 => (some t144)) else (some false))) = some true := by rw [if_neg (show ¬ (false = true) by decide)] at H; exact H
    clear H
    have H := H1
    clear H1
    replace H := Option.bind_eq_some_iff.mp H
    obtain ⟨⟨t141, t142, t143⟩, A1030, H⟩ := H
    replace H : (if (t141 == 0 && (t142 == 0 && (t143 == 0))) = true then ((potsherdlaw24_awake.f k).bind fun t144 => (some t144)) else (some false)) = some true := H
    have A103 := Aside0.mk A1030
    clear A1030
    by_cases c104 : (t141 == 0 && (t142 == 0 && (t143 == 0))) = true
    · rw [if_pos c104] at H
      have c104b0 : (t141 == 0 && (t142 == 0 && (t143 == 0))) = true := c104
      (try (have c104b1 : decide (t141 = 0 && (t142 == 0 && (t143 == 0))) = true := by simpa using c104))
      (try (have c104b2 : (t141 == 0 && (t142 == 0 && (t143 == 0))) = true := by simpa using c104))
      clear c104
      replace H := Option.bind_eq_some_iff.mp H
      obtain ⟨t144, A1050, H⟩ := H
      replace H : (some t144) = some true := H
      have A105 := Aside0.mk A1050
      clear A1050
      have HRET := Aside0.mk (Option.some.inj H)
      clear H
      go_enter Try.func5, Try.ntmps5
      go_wp2_with (first | ((with_reducible refine gate_dst (N := 5) rfl ?_); refine box_event ?hg (N := 5) ?hd (cs := #[.int .i64 a0_0, .int .i64 a0_1, .int .i64 a0_2, .int .i64 a0_3, .int .i64 a0_4]) (t := 23) ?hr ?_; (case hd => rfl); (case hg => rfl); (case hr => first | (go_simp; done) | (go_simp; rfl)); intro gb139 hg w106 hbox hb; have n0_ := Aside0.mk (below_step (by repeat (first | (with_reducible first | exact HB.out | apply below_alloc | apply pw_below_drewN | apply below_drew1) | exact HB.out)) hb); have n1_ := Aside0.mk (hbox); have n2_ := Aside0.mk ((by rw [hg]; exact (below_size (by repeat (first | (with_reducible first | exact HB.out | apply below_alloc | apply pw_below_drewN | apply below_drew1) | exact HB.out))) : w.heap.size ≤ gb139)); have n3_ := Aside0.mk ((by rw [hg]; exact (below_size (by repeat (first | (with_reducible first | exact HB.out | apply below_alloc | apply pw_below_drewN | apply below_drew1) | exact HB.out))) : w.heap.size ≤ gb139)); clear HB; have HB := n0_; have BK139 := n1_; have GW139 := n2_; have GE139 := n3_; clear n0_ n1_ n2_ n3_; clear hb hbox hg; have hcz107_0 : w106.cell? ⟨gb139, 0, none⟩ = some (.int .i64 a0_0) := (blk_cell BK139.out 0).trans rfl; have hcz107_1 : w106.cell? ⟨gb139, 1, none⟩ = some (.int .i64 a0_1) := (blk_cell BK139.out 1).trans rfl; have hcz107_2 : w106.cell? ⟨gb139, 2, none⟩ = some (.int .i64 a0_2) := (blk_cell BK139.out 2).trans rfl; have hcz107_3 : w106.cell? ⟨gb139, 3, none⟩ = some (.int .i64 a0_3) := (blk_cell BK139.out 3).trans rfl; have hcz107_4 : w106.cell? ⟨gb139, 4, none⟩ = some (.int .i64 a0_4) := (blk_cell BK139.out 4).trans rfl; have hfz107_0 := blk_frozen BK139.out 0; have hfz107_1 := blk_frozen BK139.out 1; have hfz107_2 := blk_frozen BK139.out 2; have hfz107_3 := blk_frozen BK139.out 3; have hfz107_4 := blk_frozen BK139.out 4) | ((with_reducible refine gate_callee (f := 11) rfl ?_); refine goesL_ (some 19) rfl rfl Try.func11 (by kernel_rfl) rfl #[.agg #[.int .i64 a0_0, .int .i64 a0_1, .int .i64 a0_2, .int .i64 a0_3, .int .i64 a0_4]] rfl (by (try simp only [List.map_toArray, List.map_cons, List.map_nil]); first | done | rfl | (simp only [List.length_drop, List.length_take]; rfl)) ?_; (with_reducible refine (potsherdref3_MayPlan.calls a0_0 a0_1 a0_2 a0_3 a0_4 false _ A6.out).mono ?_); rintro e w108 ⟨rfl, hb⟩; refine ⟨_, rfl, ?_⟩; have n0_ := Aside0.mk (blk_below (g := gb139) (o := .cells #[.int .i64 a0_0, .int .i64 a0_1, .int .i64 a0_2, .int .i64 a0_3, .int .i64 a0_4] 23 (0, 0)) (by (with_reducible repeat (first | refine blk_drewN ?_ _ | refine blk_drew ?_ | refine blk_alloc ?_ _)); exact BK139.out) hb); have n1_ := Aside0.mk (below_step (by repeat (first | (with_reducible first | exact HB.out | apply below_alloc | apply pw_below_drewN | apply below_drew1 | refine below_set ?_ GE139.out) | exact HB.out)) hb); clear BK139; clear HB; have BK139 := n0_; have HB := n1_; clear n0_ n1_; (try clear hb); (try clear hb2); (try clear hk); (try clear hi); have hcz109_0 : w108.cell? ⟨gb139, 0, none⟩ = some (.int .i64 a0_0) := (blk_cell BK139.out 0).trans rfl; have hcz109_1 : w108.cell? ⟨gb139, 1, none⟩ = some (.int .i64 a0_1) := (blk_cell BK139.out 1).trans rfl; have hcz109_2 : w108.cell? ⟨gb139, 2, none⟩ = some (.int .i64 a0_2) := (blk_cell BK139.out 2).trans rfl; have hcz109_3 : w108.cell? ⟨gb139, 3, none⟩ = some (.int .i64 a0_3) := (blk_cell BK139.out 3).trans rfl; have hcz109_4 : w108.cell? ⟨gb139, 4, none⟩ = some (.int .i64 a0_4) := (blk_cell BK139.out 4).trans rfl; have hfz109_0 := blk_frozen BK139.out 0; have hfz109_1 := blk_frozen BK139.out 1; have hfz109_2 := blk_frozen BK139.out 2; have hfz109_3 := blk_frozen BK139.out 3; have hfz109_4 := blk_frozen BK139.out 4) | ((with_reducible refine gate_callee (f := 14) rfl ?_); refine goesL_ (some 22) rfl rfl Try.func14 (by kernel_rfl) rfl #[.agg #[.int .i64 a0_0, .int .i64 a0_1, .int .i64 a0_2, .int .i64 a0_3, .int .i64 a0_4], .int .i64 1, .int .i64 0] rfl (by (try simp only [List.map_toArray, List.map_cons, List.map_nil]); first | done | rfl | (simp only [List.length_drop, List.length_take]; rfl)) ?_; (with_reducible refine (cost_Price.calls k a0_0 a0_1 a0_2 a0_3 a0_4 1 0 t141 t142 t143 _ A103.out).mono ?_); rintro e w110 ⟨rfl, hb⟩; refine ⟨_, rfl, ?_⟩; have n0_ := Aside0.mk (blk_below (g := gb139) (o := .cells #[.int .i64 a0_0, .int .i64 a0_1, .int .i64 a0_2, .int .i64 a0_3, .int .i64 a0_4] 23 (0, 0)) (by (with_reducible repeat (first | refine blk_drewN ?_ _ | refine blk_drew ?_ | refine blk_alloc ?_ _)); exact BK139.out) hb); have n1_ := Aside0.mk (below_step (by repeat (first | (with_reducible first | exact HB.out | apply below_alloc | apply pw_below_drewN | apply below_drew1 | refine below_set ?_ GE139.out) | exact HB.out)) hb); clear BK139; clear HB; have BK139 := n0_; have HB := n1_; clear n0_ n1_; (try clear hb); (try clear hb2); (try clear hk); (try clear hi)) | (go_at_call 12; (with_reducible refine (potsherdlaw24_awake.calls k  t144 _ A105.out).mono ?_); rintro e w111 ⟨rfl, hb⟩; have n0_ := Aside0.mk (blk_below (g := gb139) (o := .cells #[.int .i64 a0_0, .int .i64 a0_1, .int .i64 a0_2, .int .i64 a0_3, .int .i64 a0_4] 23 (0, 0)) (by (with_reducible repeat (first | refine blk_drewN ?_ _ | refine blk_drew ?_ | refine blk_alloc ?_ _)); exact BK139.out) hb); have n1_ := Aside0.mk (below_step (by repeat (first | (with_reducible first | exact HB.out | apply below_alloc | apply pw_below_drewN | apply below_drew1 | refine below_set ?_ GE139.out) | exact HB.out)) hb); clear BK139; clear HB; have BK139 := n0_; have HB := n1_; clear n0_ n1_; (try clear hb); (try clear hb2); (try clear hk); (try clear hi)))
      go_ret
      exact ⟨by first | rfl | exact congrArg (fun b_ => Ending.returned (Value.bool b_)) HRET.out | (rw [HRET.out]) | (simp [errW_none, errW_some] <;> rfl) | (simp [*, errW_none, errW_some] <;> rfl), by repeat (first | (with_reducible first | exact HB.out | apply below_alloc | apply pw_below_drewN | apply below_drew1 | refine below_set ?_ GE139.out) | exact HB.out)⟩
    · rw [if_neg c104] at H
      have c104b0 : (t141 == 0 && (t142 == 0 && (t143 == 0))) = false := by simpa using c104
      (try (have c104b1 : decide (t141 = 0 && (t142 == 0 && (t143 == 0))) = false := by simpa using c104))
      (try (have c104b2 : (t141 == 0 && (t142 == 0 && (t143 == 0))) = false := by simpa using c104))
      (try (have c104b3 : ¬ (t141 = 0 && (t142 == 0 && (t143 == 0))) := by simpa using c104))
      clear c104
      exact absurd H (by simp)

end Go.Proofs.Ytnjnmegjbcgajaa.PCostSums
