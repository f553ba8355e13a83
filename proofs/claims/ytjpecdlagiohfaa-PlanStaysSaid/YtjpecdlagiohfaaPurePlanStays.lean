/- The law PlanStays, as printed, comes to true at every config and every number; no condition but that each number is of its kind. -/
import Derived.Test.YtjpecdlagiohfaaPPlanStaysx
import Derived.Test.YtjpecdlagiohfaaPlain
namespace Go.Proofs.Ytjpecdlagiohfaa.PurePlanStays
open Go.RowKit Go.Proofs.Ytjpecdlagiohfaa.PPlanStays Go.Proofs.YtjpecdlagiohfaaW.PrintWords Go.Proofs.YtjpecdlagiohfaaW.PrintLast
open Go Go.Proofs.Ytjpecdlagiohfaa.Plain Go.Proofs.YtjpecdlagiohfaaW.PrintMore
/-- What a config must be. -/
abbrev M (a b c d e : Int) : Prop := 3 ≤ a ∧ a ≤ 64 ∧ 2 ≤ b ∧ b ≤ 32 ∧ 0 ≤ c ∧ c ≤ 6 ∧ 1 ≤ d ∧ d ≤ 60 ∧ 2 ≤ e ∧ e ≤ 50

theorem within_eq (a b c : Int) : plan_within.f a b c = some (decide (b ≤ a ∧ a ≤ c)) := by
  unfold plan_within.f
  by_cases h : a ≥ b
  · rw [if_pos h]; congr 1; rw [decide_eq_decide]; omega
  · rw [if_neg h, decide_eq_false (by omega)]

theorem may_eq (a b c d e : Int) : plan_May.f a b c d e = some (decide (M a b c d e)) := by
  unfold plan_May.f
  simp only [within_eq, Option.bind_some, decide_eq_true_eq]
  by_cases h1 : 3 ≤ a ∧ a ≤ 64
  · by_cases h2 : 2 ≤ b ∧ b ≤ 32
    · by_cases h3 : 0 ≤ c ∧ c ≤ 6
      · by_cases h4 : 1 ≤ d ∧ d ≤ 60
        · rw [if_pos h1, if_pos h2, if_pos h3, if_pos h4]; congr 1; rw [decide_eq_decide]; omega
        · rw [if_pos h1, if_pos h2, if_pos h3, if_neg h4, decide_eq_false (by omega)]
      · rw [if_pos h1, if_pos h2, if_neg h3, decide_eq_false (by omega)]
    · rw [if_pos h1, if_neg h2, decide_eq_false (by omega)]
  · rw [if_neg h1, decide_eq_false (by omega)]

theorem ref_may_eq (a b c d e : Int) : potsherdref3_MayPlan.f a b c d e = some (decide (M a b c d e)) := by
  unfold potsherdref3_MayPlan.f
  by_cases h : M a b c d e
  · rw [if_pos (by omega), if_pos (by omega), if_pos (by omega), if_pos (by omega), if_pos (by omega), if_pos (by omega), if_pos (by omega), if_pos (by omega), if_pos (by omega)]
    congr 1; rw [decide_eq_decide]; omega
  · rw [decide_eq_false h]
    repeat' split
    all_goals first | rfl | (congr 1; rw [decide_eq_false]; omega)

/-- How many blocks are neither bad, clean nor kept. -/
def U (a c n : Int) : Int := if a - n - c - 1 < 0 then 0 else a - n - c - 1

theorem U_bd (a c n : Int) (h : a ≤ 64) (h1 : 0 ≤ c) (h2 : 0 ≤ n) : 0 ≤ U a c n ∧ U a c n ≤ 63 := by unfold U; split <;> omega

theorem mul_bd (x b : Int) (h0 : 0 ≤ x) (h1 : x ≤ 63) (h2 : 2 ≤ b) (h3 : b ≤ 32) : 0 ≤ x * b ∧ x * b ≤ 2016 := by
  refine ⟨Int.mul_nonneg h0 (by omega), ?_⟩
  have := Int.mul_le_mul h1 h3 (by omega) (by omega)
  omega

theorem room_yes (a b c d e n : Int) (h : M a b c d e) (h0 : 0 ≤ n) (h1 : n ≤ a) : plan_Room.f a b c d e n = some (U a c n * b) := by
  unfold plan_Room.f
  simp only [may_eq, within_eq, Option.bind_some, decide_eq_true_eq]
  rw [if_pos h, if_pos ⟨h0, h1⟩, w64 (a := a - n) (by omega) (by omega), w64 (a := a - n - c) (by omega) (by omega), w64 (a := a - n - c - 1) (by omega) (by omega)]
  have hu : mx (a - n - c - 1) 0 = U a c n := by rw [mx_eq]; rfl
  rw [hu]
  have h2 := U_bd a c n (by omega) (by omega) h0
  have h3 := mul_bd _ b h2.1 h2.2 (by omega) (by omega)
  rw [w64 (by omega) (by omega)]

theorem room_no (a b c d e n : Int) (h : ¬ (M a b c d e ∧ 0 ≤ n ∧ n ≤ a)) : plan_Room.f a b c d e n = some 0 := by
  unfold plan_Room.f
  simp only [may_eq, within_eq, Option.bind_some, decide_eq_true_eq]
  by_cases h1 : M a b c d e
  · rw [if_pos h1, if_neg (by omega)]
  · rw [if_neg h1]

theorem need_yes (a b c d e : Int) (h : M a b c d e) : plan_Need.f a b c d e = some (d + 8) := by
  unfold plan_Need.f
  simp only [may_eq, Option.bind_some, decide_eq_true_eq]
  rw [if_pos h, w64 (a := d + 1) (by omega) (by omega), w64 (a := d + 1 + 5) (by omega) (by omega), w64 (a := d + 1 + 5 + 1) (by omega) (by omega), w64 (by omega) (by omega)]
  congr 1; omega

theorem need_no (a b c d e : Int) (h : ¬ M a b c d e) : plan_Need.f a b c d e = some 0 := by
  unfold plan_Need.f
  simp only [may_eq, Option.bind_some, decide_eq_true_eq]
  rw [if_neg h]

theorem fits_eq (a b c d e n : Int) : plan_Fits.f a b c d e n = some (decide (M a b c d e ∧ 0 ≤ n ∧ n ≤ a ∧ d + 8 ≤ U a c n * b)) := by
  unfold plan_Fits.f
  simp only [may_eq, within_eq, Option.bind_some, decide_eq_true_eq]
  by_cases h : M a b c d e
  · by_cases h1 : 0 ≤ n ∧ n ≤ a
    · rw [if_pos h, if_pos h1, room_yes a b c d e n h h1.1 h1.2, need_yes a b c d e h]
      simp only [Option.bind_some]
      congr 1; rw [decide_eq_decide]
      exact ⟨fun x => ⟨h, h1.1, h1.2, x⟩, fun x => x.2.2.2⟩
    · rw [if_pos h, if_neg h1, decide_eq_false (fun x => h1 ⟨x.2.1, x.2.2.1⟩)]
  · rw [if_neg h, decide_eq_false (fun x => h x.1)]

theorem floor_yes (a b c d e n : Int) (h : M a b c d e) (h0 : 0 ≤ n) (h1 : n ≤ 9223372036854775807) : plan_Floor.f a b c d e n = some (if c - n + 1 < 0 then 0 else c - n + 1) := by
  unfold plan_Floor.f
  simp only [may_eq, Option.bind_some, decide_eq_true_eq]
  rw [if_pos h, if_neg (by omega), w64 (a := c - n) (by omega) (by omega), w64 (a := c - n + 1) (by omega) (by omega), mx_eq]

theorem floor_no (a b c d e n : Int) (h : ¬ (M a b c d e ∧ 0 ≤ n)) : plan_Floor.f a b c d e n = some 0 := by
  unfold plan_Floor.f
  simp only [may_eq, Option.bind_some, decide_eq_true_eq]
  by_cases h1 : M a b c d e
  · rw [if_pos h1, if_pos (by omega)]
  · rw [if_neg h1]

theorem awake_yes : potsherdlaw6_awake.f = some true := by decide +kernel

theorem umod' (a m : Int) (hm : 0 < m) (hm2 : m ≤ 100) : ∃ p, 0 ≤ p ∧ p < m ∧ wrap64 (Int.tmod (IntKind.u64.wrap a) (IntKind.u64.wrap m)) = p := by
  have : IntKind.u64.wrap m = m := by rw [u64w]; omega
  rw [this]
  exact umod a m hm (by omega)

theorem PlanStays (a b c d e n k : Int) (wn : (Lit.int .i64 n).wf = true) : potsherdlaw6_PlanStays.f a b c d e n k = some true := by
  have hn := wf64 wn
  have hfits : plan_Fits.f a b c d e n = potsherdref3_Fits.f a b c d e n := by
    unfold potsherdref3_Fits.f
    rw [fits_eq]
    simp only [ref_may_eq, Option.bind_some, decide_eq_true_eq]
    by_cases h : M a b c d e
    · by_cases h0 : 0 ≤ n
      · by_cases h1 : n ≤ a
        · have hneed : potsherdref3_Need.f a b c d e = some (d + 8) := by
            unfold potsherdref3_Need.f
            simp only [ref_may_eq, Option.bind_some, decide_eq_true_eq]
            rw [if_pos h, w64 (a := d + 5) (by omega) (by omega), w64 (by omega) (by omega)]; congr 1; omega
          have hroom : potsherdref3_Room.f a b c d e n = some (U a c n * b) := by
            unfold potsherdref3_Room.f
            simp only [ref_may_eq, Option.bind_some, decide_eq_true_eq]
            rw [if_pos h, if_neg (by omega), if_neg (by omega), w64 (a := a - n) (by omega) (by omega), w64 (a := a - n - c) (by omega) (by omega), w64 (a := a - n - c - 1) (by omega) (by omega)]
            congr 1
            unfold U
            rw [mx_eq]
            by_cases g : a - n - c - 1 < 0
            · have h3 : (a - n - c - 1) * b ≤ 0 := Int.mul_nonpos_of_nonpos_of_nonneg (by omega) (by omega)
              have h4 : -(70 * 32) ≤ (a - n - c - 1) * b := by
                have : (-(a - n - c - 1)) * b ≤ 70 * 32 := Int.mul_le_mul (by omega) (by omega) (by omega) (by omega)
                rw [Int.neg_mul] at this; omega
              rw [if_pos g, w64 (by omega) (by omega), if_neg (by omega)]; simp
            · have h3 := mul_bd (a - n - c - 1) b (by omega) (by omega) (by omega) (by omega)
              rw [if_neg g, w64 (by omega) (by omega)]; split <;> omega
          rw [if_pos h, if_pos (by omega), if_pos (by omega), hroom, hneed]
          simp only [Option.bind_some]
          congr 1; rw [decide_eq_decide]
          exact ⟨fun x => x.2.2.2, fun x => ⟨h, h0, h1, x⟩⟩
        · rw [if_pos h, if_pos (by omega), if_neg (by omega), decide_eq_false (fun x => h1 x.2.2.1)]
      · rw [if_pos h, if_neg (by omega), decide_eq_false (fun x => h0 x.2.1)]
    · rw [if_neg h, decide_eq_false (fun x => h x.1)]
  unfold potsherdlaw6_PlanStays.f
  rw [← hfits, fits_eq]
  simp only [Option.bind_some, decide_eq_true_eq, awake_yes]
  by_cases h : M a b c d e ∧ 0 ≤ n ∧ n ≤ a ∧ d + 8 ≤ U a c n * b
  · obtain ⟨hM, h0, h1, h2⟩ := h
    rw [if_pos ⟨hM, h0, h1, h2⟩, w64 (a := c + 1) (by omega) (by omega), if_neg (by rw [u64w]; omega)]
    obtain ⟨p, hp0, hp1, ep⟩ := umod' k (c + 1) (by omega) (by omega)
    rw [ep, floor_yes a b c d e p hM hp0 (by omega), room_yes a b c d e n hM h0 h1, if_neg (by omega : ¬ c - p + 1 < 0)]
    simp only [Option.bind_some]
    rw [w64 (a := a - n) (by omega) (by omega), w64 (a := a - n - p) (by omega) (by omega), w64 (a := a - n - p - (c - p + 1)) (by omega) (by omega)]
    have hu : a - n - p - (c - p + 1) = U a c n := by
      unfold U at h2 ⊢
      by_cases g : a - n - c - 1 < 0
      · rw [if_pos g] at h2; omega
      · rw [if_neg g]; omega
    have h3 := U_bd a c n (by omega) (by omega) h0
    have h4 := mul_bd _ b h3.1 h3.2 (by omega) (by omega)
    rw [hu, w64 (a := U a c n * b) (by omega) (by omega), if_pos rfl, w64 (a := d + 1) (by omega) (by omega), w64 (a := d + 1 + 5) (by omega) (by omega), w64 (a := d + 1 + 5 + 1) (by omega) (by omega), if_pos (by omega)]
  · rw [if_neg h, if_neg h]

end Go.Proofs.Ytjpecdlagiohfaa.PurePlanStays
