/- The law PlanLess, as printed, comes to true at every config and every number; no condition but that each number is of its kind. -/
import Derived.Test.YtjpecdlagiohfaaPPlanLessx
import Derived.Test.YtjpecdlagiohfaaPlain
namespace Go.Proofs.Ytjpecdlagiohfaa.PurePlanLess
open Go.RowKit Go.Proofs.Ytjpecdlagiohfaa.PPlanLess Go.Proofs.YtjpecdlagiohfaaW.PrintWords Go.Proofs.YtjpecdlagiohfaaW.PrintLast
open Go Go.Proofs.Ytjpecdlagiohfaa.Plain Go.Proofs.YtjpecdlagiohfaaW.PrintMore
/-- What a config must be. -/
abbrev M (a b c d e : Int) : Prop := 3 ≤ a ∧ a ≤ 64 ∧ 2 ≤ b ∧ b ≤ 32 ∧ 0 ≤ c ∧ c ≤ 6 ∧ 1 ≤ d ∧ d ≤ 60 ∧ 2 ≤ e ∧ e ≤ 50

theorem within_eq (a b c : Int) : plan_within.f a b c = some (decide (b ≤ a ∧ a ≤ c)) := by
  unfold plan_within.f
  by_cases h : a ≥ b
  · rw [if_pos h]; congr 1; rw [decide_eq_decide]; omega
  · rw [if_neg h, decide_eq_false (by omega)]

theorem may_eq (a b c d e : Int) : plan_May.f a b c d e = some (decide (M a b c d e)) := by
  unfold plan_May.f
  simp only [within_eq, Option.bind_some, decide_eq_true_eq]
  by_cases h1 : 3 ≤ a ∧ a ≤ 64
  · by_cases h2 : 2 ≤ b ∧ b ≤ 32
    · by_cases h3 : 0 ≤ c ∧ c ≤ 6
      · by_cases h4 : 1 ≤ d ∧ d ≤ 60
        · rw [if_pos h1, if_pos h2, if_pos h3, if_pos h4]; congr 1; rw [decide_eq_decide]; omega
        · rw [if_pos h1, if_pos h2, if_pos h3, if_neg h4, decide_eq_false (by omega)]
      · rw [if_pos h1, if_pos h2, if_neg h3, decide_eq_false (by omega)]
    · rw [if_pos h1, if_neg h2, decide_eq_false (by omega)]
  · rw [if_neg h1, decide_eq_false (by omega)]

theorem ref_may_eq (a b c d e : Int) : potsherdref3_MayPlan.f a b c d e = some (decide (M a b c d e)) := by
  unfold potsherdref3_MayPlan.f
  by_cases h : M a b c d e
  · rw [if_pos (by omega), if_pos (by omega), if_pos (by omega), if_pos (by omega), if_pos (by omega), if_pos (by omega), if_pos (by omega), if_pos (by omega), if_pos (by omega)]
    congr 1; rw [decide_eq_decide]; omega
  · rw [decide_eq_false h]
    repeat' split
    all_goals first | rfl | (congr 1; rw [decide_eq_false]; omega)

/-- How many blocks are neither bad, clean nor kept. -/
def U (a c n : Int) : Int := if a - n - c - 1 < 0 then 0 else a - n - c - 1

theorem U_bd (a c n : Int) (h : a ≤ 64) (h1 : 0 ≤ c) (h2 : 0 ≤ n) : 0 ≤ U a c n ∧ U a c n ≤ 63 := by unfold U; split <;> omega

theorem mul_bd (x b : Int) (h0 : 0 ≤ x) (h1 : x ≤ 63) (h2 : 2 ≤ b) (h3 : b ≤ 32) : 0 ≤ x * b ∧ x * b ≤ 2016 := by
  refine ⟨Int.mul_nonneg h0 (by omega), ?_⟩
  have := Int.mul_le_mul h1 h3 (by omega) (by omega)
  omega

theorem room_yes (a b c d e n : Int) (h : M a b c d e) (h0 : 0 ≤ n) (h1 : n ≤ a) : plan_Room.f a b c d e n = some (U a c n * b) := by
  unfold plan_Room.f
  simp only [may_eq, within_eq, Option.bind_some, decide_eq_true_eq]
  rw [if_pos h, if_pos ⟨h0, h1⟩, w64 (a := a - n) (by omega) (by omega), w64 (a := a - n - c) (by omega) (by omega), w64 (a := a - n - c - 1) (by omega) (by omega)]
  have hu : mx (a - n - c - 1) 0 = U a c n := by rw [mx_eq]; rfl
  rw [hu]
  have h2 := U_bd a c n (by omega) (by omega) h0
  have h3 := mul_bd _ b h2.1 h2.2 (by omega) (by omega)
  rw [w64 (by omega) (by omega)]

theorem room_no (a b c d e n : Int) (h : ¬ (M a b c d e ∧ 0 ≤ n ∧ n ≤ a)) : plan_Room.f a b c d e n = some 0 := by
  unfold plan_Room.f
  simp only [may_eq, within_eq, Option.bind_some, decide_eq_true_eq]
  by_cases h1 : M a b c d e
  · rw [if_pos h1, if_neg (by omega)]
  · rw [if_neg h1]

theorem need_yes (a b c d e : Int) (h : M a b c d e) : plan_Need.f a b c d e = some (d + 8) := by
  unfold plan_Need.f
  simp only [may_eq, Option.bind_some, decide_eq_true_eq]
  rw [if_pos h, w64 (a := d + 1) (by omega) (by omega), w64 (a := d + 1 + 5) (by omega) (by omega), w64 (a := d + 1 + 5 + 1) (by omega) (by omega), w64 (by omega) (by omega)]
  congr 1; omega

theorem need_no (a b c d e : Int) (h : ¬ M a b c d e) : plan_Need.f a b c d e = some 0 := by
  unfold plan_Need.f
  simp only [may_eq, Option.bind_some, decide_eq_true_eq]
  rw [if_neg h]

theorem fits_eq (a b c d e n : Int) : plan_Fits.f a b c d e n = some (decide (M a b c d e ∧ 0 ≤ n ∧ n ≤ a ∧ d + 8 ≤ U a c n * b)) := by
  unfold plan_Fits.f
  simp only [may_eq, within_eq, Option.bind_some, decide_eq_true_eq]
  by_cases h : M a b c d e
  · by_cases h1 : 0 ≤ n ∧ n ≤ a
    · rw [if_pos h, if_pos h1, room_yes a b c d e n h h1.1 h1.2, need_yes a b c d e h]
      simp only [Option.bind_some]
      congr 1; rw [decide_eq_decide]
      exact ⟨fun x => ⟨h, h1.1, h1.2, x⟩, fun x => x.2.2.2⟩
    · rw [if_pos h, if_neg h1, decide_eq_false (fun x => h1 ⟨x.2.1, x.2.2.1⟩)]
  · rw [if_neg h, decide_eq_false (fun x => h x.1)]

theorem floor_yes (a b c d e n : Int) (h : M a b c d e) (h0 : 0 ≤ n) (h1 : n ≤ 9223372036854775807) : plan_Floor.f a b c d e n = some (if c - n + 1 < 0 then 0 else c - n + 1) := by
  unfold plan_Floor.f
  simp only [may_eq, Option.bind_some, decide_eq_true_eq]
  rw [if_pos h, if_neg (by omega), w64 (a := c - n) (by omega) (by omega), w64 (a := c - n + 1) (by omega) (by omega), mx_eq]

theorem floor_no (a b c d e n : Int) (h : ¬ (M a b c d e ∧ 0 ≤ n)) : plan_Floor.f a b c d e n = some 0 := by
  unfold plan_Floor.f
  simp only [may_eq, Option.bind_some, decide_eq_true_eq]
  by_cases h1 : M a b c d e
  · rw [if_pos h1, if_pos (by omega)]
  · rw [if_neg h1]

theorem awake_yes : potsherdlaw6_awake.f = some true := by decide +kernel

/-- It fits: as one condition. -/
abbrev Fit (a b c d e n : Int) : Prop := M a b c d e ∧ 0 ≤ n ∧ n ≤ a ∧ d + 8 ≤ U a c n * b

theorem one (k : Nat) (a b c d e n i a' b' c' d' e' : Int) (X : List S35) (h0 : 0 ≤ i) (h1 : i < X.length) (hx : rd_T35 X i = ⟨a', b', c', d', e'⟩) (hl : X.length = 4) (hm : M a' b' c' d' e' → Fit a b c d e n → Fit a' b' c' d' e' n) :
    potsherdlaw6_PlanLess.l0 (k + 2) n X X.length i a b c d e = potsherdlaw6_PlanLess.l0 k n X X.length (i + 1) a b c d e := by
  have hb : X.length = 4 := hl
  simp only [potsherdlaw6_PlanLess.l0]
  rw [if_pos h1, if_pos h0, if_pos h1, hx]
  simp only [may_eq, fits_eq, Option.bind_some, decide_eq_true_eq, potsherdlaw6_PlanLess.j2]
  rw [w64 (a := i + 1) (by omega) (by omega)]
  by_cases g1 : M a' b' c' d' e'
  · rw [if_pos g1]
    by_cases g2 : Fit a b c d e n
    · rw [if_pos g2, decide_eq_true (hm g1 g2), if_neg (by decide)]
    · rw [if_neg g2, if_neg (by decide)]
  · rw [if_neg g1, if_neg (by decide)]

theorem U_more (a c n : Int) : U a c n ≤ U (a + 1) c n := by unfold U; split <;> split <;> omega
theorem U_spare (a c n : Int) : U a c n ≤ U a (c - 1) n := by unfold U; split <;> split <;> omega
theorem U_less (a c n : Int) (h : 0 < U a c n) : U a c (n + 1) = U a c n - 1 := by
  unfold U at h ⊢
  by_cases g : a - n - c - 1 < 0
  · rw [if_pos g] at h; omega
  · rw [if_neg g] at h ⊢; rw [if_neg (by omega)]; omega

theorem last (k : Nat) (a b c d e n : Int) (X : List S35) (hM : M a b c d e) (hn0 : 0 ≤ n) (hn1 : n ≤ 64) : potsherdlaw6_PlanLess.l0 (k + 2) n X X.length X.length a b c d e = some true := by
  have hj : potsherdlaw6_PlanLess.j3 (k + 1) n false a b c d e = some true := by
    simp only [potsherdlaw6_PlanLess.j3]
    rw [if_neg (by decide), need_yes a b c d e hM, fits_eq]
    simp only [Option.bind_some, awake_yes, decide_eq_true_eq]
    rw [if_pos (by omega)]
    by_cases g : Fit a b c d e n
    · rw [if_pos g, room_yes a b c d e n hM g.2.1 g.2.2.1]
      simp only [Option.bind_some]
      rw [if_pos g.2.2.2]
    · rw [if_neg g]
  rw [potsherdlaw6_PlanLess.l0]
  rw [if_neg (by omega)]
  by_cases g : n ≤ a
  · rw [room_yes a b c d e n hM hn0 g]
    simp only [Option.bind_some]
    by_cases g1 : U a c n * b > 0
    · rw [if_pos g1]
      by_cases g2 : n < a
      · have hu : 0 < U a c n := by
          have := U_bd a c n (by omega) (by omega) hn0
          rcases Int.lt_or_eq_of_le this.1 with h | h
          · exact h
          · rw [← h] at g1; simp at g1
        have h2 := U_bd a c n (by omega) (by omega) hn0
        have h3 := mul_bd _ b h2.1 h2.2 (by omega) (by omega)
        rw [if_pos g2, w64 (a := n + 1) (by omega) (by omega), room_yes a b c d e (n + 1) hM (by omega) (by omega), U_less a c n hu, Int.sub_mul, Int.one_mul, w64 (by omega) (by omega)]
        simp only [Option.bind_some, bne_self_eq_false]
        exact hj
      · rw [if_neg g2]; exact hj
    · rw [if_neg g1]; exact hj
  · rw [room_no a b c d e n (by omega)]
    simp only [Option.bind_some]
    rw [if_neg (by omega)]; exact hj

theorem PlanLess (a b c d e n : Int) (wn : (Lit.int .i64 n).wf = true) : ∃ k, potsherdlaw6_PlanLess.f k a b c d e n = some true := by
  have hn := wf64 wn
  refine ⟨20, ?_⟩
  unfold potsherdlaw6_PlanLess.f
  simp only [ref_may_eq, Option.bind_some, decide_eq_true_eq, potsherdlaw6_PlanLess.j0, may_eq, awake_yes, beq_self_eq_true, if_true]
  by_cases h : M a b c d e
  · rw [if_pos h]
    by_cases g : n < 0
    · rw [if_pos g]
    · rw [if_neg g]
      by_cases g2 : n > 64
      · rw [if_pos g2]
      · rw [if_neg g2]
        rw [w64 (a := a + 1) (by omega) (by omega), w64 (a := b + 1) (by omega) (by omega), w64 (a := c - 1) (by omega) (by omega), w64 (a := d - 1) (by omega) (by omega)]
        have hb : 0 ≤ b := by omega
        rw [one 17 a b c d e n 0 (a + 1) b c d e _ (by omega) (by simp) rfl rfl (fun x y => ⟨x, y.2.1, by omega, by have := Int.mul_le_mul_of_nonneg_right (U_more a c n) hb; omega⟩)]
        rw [one 15 a b c d e n (0 + 1) a (b + 1) c d e _ (by omega) (by simp) rfl rfl (fun x y => ⟨x, y.2.1, by omega, by
          have h2 := U_bd a c n (by omega) (by omega) y.2.1
          rw [Int.mul_add, Int.mul_one]; omega⟩)]
        rw [one 13 a b c d e n (0 + 1 + 1) a b (c - 1) d e _ (by omega) (by simp) rfl rfl (fun x y => ⟨x, y.2.1, by omega, by have := Int.mul_le_mul_of_nonneg_right (U_spare a c n) hb; omega⟩)]
        rw [one 11 a b c d e n (0 + 1 + 1 + 1) a b c (d - 1) e _ (by omega) (by simp) rfl rfl (fun x y => ⟨x, y.2.1, by omega, by omega⟩)]
        exact last 9 a b c d e n _ h (by omega) (by omega)
  · rw [if_neg h]

end Go.Proofs.Ytjpecdlagiohfaa.PurePlanLess
