/- The law CostSteps, as printed, comes to true at every input; no condition but that each number is of its kind. -/
import Derived.Test.YtnjnmegjbcgajaaPCostStepsx
import Derived.Test.YtnjnmegjbcgajaaPlain
namespace Go.Proofs.Ytnjnmegjbcgajaa.PureCostSteps
open Go.RowKit Go.Proofs.Ytnjnmegjbcgajaa.PCostSteps Go.Proofs.YtnjnmegjbcgajaaW.PrintWords Go.Proofs.YtnjnmegjbcgajaaW.PrintLast
open Go Go.Proofs.Ytnjnmegjbcgajaa.Plain Go.Proofs.YtnjnmegjbcgajaaW.PrintMore
/-- What a config must be. -/
abbrev M (a b c d e : Int) : Prop := 3 ≤ a ∧ a ≤ 64 ∧ 2 ≤ b ∧ b ≤ 32 ∧ 0 ≤ c ∧ c ≤ 6 ∧ 1 ≤ d ∧ d ≤ 60 ∧ 2 ≤ e ∧ e ≤ 50

theorem within_eq (a b c : Int) : plan_within.f a b c = some (decide (b ≤ a ∧ a ≤ c)) := by
  unfold plan_within.f
  by_cases h : a ≥ b
  · rw [if_pos h]; congr 1; rw [decide_eq_decide]; omega
  · rw [if_neg h, decide_eq_false (by omega)]

theorem may_eq (a b c d e : Int) : plan_May.f a b c d e = some (decide (M a b c d e)) := by
  unfold plan_May.f
  simp only [within_eq, Option.bind_some, decide_eq_true_eq]
  by_cases h1 : 3 ≤ a ∧ a ≤ 64
  · by_cases h2 : 2 ≤ b ∧ b ≤ 32
    · by_cases h3 : 0 ≤ c ∧ c ≤ 6
      · by_cases h4 : 1 ≤ d ∧ d ≤ 60
        · rw [if_pos h1, if_pos h2, if_pos h3, if_pos h4]; congr 1; rw [decide_eq_decide]; omega
        · rw [if_pos h1, if_pos h2, if_pos h3, if_neg h4, decide_eq_false (by omega)]
      · rw [if_pos h1, if_pos h2, if_neg h3, decide_eq_false (by omega)]
    · rw [if_pos h1, if_neg h2, decide_eq_false (by omega)]
  · rw [if_neg h1, decide_eq_false (by omega)]

theorem ref_may_eq (a b c d e : Int) : potsherdref3_MayPlan.f a b c d e = some (decide (M a b c d e)) := by
  unfold potsherdref3_MayPlan.f
  by_cases h : M a b c d e
  · rw [if_pos (by omega), if_pos (by omega), if_pos (by omega), if_pos (by omega), if_pos (by omega), if_pos (by omega), if_pos (by omega), if_pos (by omega), if_pos (by omega)]
    congr 1; rw [decide_eq_decide]; omega
  · rw [decide_eq_false h]
    repeat' split
    all_goals first | rfl | (congr 1; rw [decide_eq_false]; omega)


theorem mulb (x y X Y : Int) (h0 : 0 ≤ x) (h1 : x ≤ X) (h2 : 0 ≤ y) (h3 : y ≤ Y) : 0 ≤ x * y ∧ x * y ≤ X * Y :=
  ⟨Int.mul_nonneg h0 h2, Int.mul_le_mul h1 h3 h2 (by omega)⟩

/-- How many erases so many pages cost at most. -/
def er (a p f : Int) : Int := p * (2 * (a + 4)) * (f + 1)

theorem er_bd (a p f : Int) (h0 : 3 ≤ a) (h1 : a ≤ 64) (h2 : 0 ≤ p) (h3 : p ≤ 20) (h4 : 0 ≤ f) (h5 : f ≤ 7) : (0 ≤ p * (2 * (a + 4)) ∧ p * (2 * (a + 4)) ≤ 2720) ∧ 0 ≤ er a p f ∧ er a p f ≤ 21760 := by
  have e1 := mulb p (2 * (a + 4)) 20 136 h2 h3 (by omega) (by omega)
  have e2 := mulb (p * (2 * (a + 4))) (f + 1) 2720 8 e1.1 (by omega) (by omega) (by omega)
  exact ⟨⟨e1.1, by omega⟩, e2.1, by unfold er; omega⟩

abbrev PF (p f : Int) : Prop := 0 ≤ p ∧ p ≤ 20 ∧ 0 ≤ f ∧ f ≤ 7

theorem price_yes (a b c d e p f : Int) (h : M a b c d e) (g : PF p f) : cost_Price.f a b c d e p f = some (er a p f * b, er a p f * b, er a p f) := by
  unfold cost_Price.f cost_rounds.f
  simp only [may_eq, Option.bind_some, decide_eq_true_eq]
  have e := er_bd a p f (by omega) (by omega) (by omega) (by omega) (by omega) (by omega)
  have e3 := mulb (er a p f) b 21760 32 e.2.1 e.2.2 (by omega) (by omega)
  rw [if_pos h, if_neg (by omega), if_neg (by omega), if_neg (by omega), if_neg (by omega), w64 (a := a + 4) (by omega) (by omega), w64 (a := 2 * (a + 4)) (by omega) (by omega), w64 (a := p * (2 * (a + 4))) (by omega) (by omega), w64 (a := f + 1) (by omega) (by omega)]
  rw [show p * (2 * (a + 4)) * (f + 1) = er a p f from rfl, w64 (a := er a p f) (by omega) (by omega), w64 (by omega) (by omega)]

theorem price_no (a b c d e p f : Int) (h : ¬ (M a b c d e ∧ PF p f)) : cost_Price.f a b c d e p f = some (0, 0, 0) := by
  unfold cost_Price.f
  simp only [may_eq, Option.bind_some, decide_eq_true_eq]
  by_cases h1 : M a b c d e
  · rw [if_pos h1]
    by_cases h2 : p < 0
    · rw [if_pos h2]
    · rw [if_neg h2]
      by_cases h3 : p > 20
      · rw [if_pos h3]
      · rw [if_neg h3]
        by_cases h4 : f < 0
        · rw [if_pos h4]
        · rw [if_neg h4, if_pos (by omega)]
  · rw [if_neg h1]

theorem steps_yes (k : Nat) (a b c d e n : Int) (h : M a b c d e) (hn : 1 ≤ n) (hn' : n ≤ 9223372036854775807) : cost_Steps.f (k + 1) a b c d e n = some (if n ≥ a * b then 1 else (a * b + n - 1) / n) := by
  unfold cost_Steps.f
  simp only [may_eq, Option.bind_some, decide_eq_true_eq, cost_Steps.j0]
  have e1 := mulb a b 64 32 (by omega) (by omega) (by omega) (by omega)
  rw [if_pos h, if_neg (by omega), w64 (a := a * b) (by omega) (by omega)]
  by_cases g : n ≥ a * b
  · rw [if_pos g, if_pos g]
  · rw [if_neg g, if_neg g, if_neg (by omega), w64 (a := a * b + n) (by omega) (by omega), w64 (a := a * b + n - 1) (by omega) (by omega), Int.tdiv_eq_ediv_of_nonneg (by omega)]
    have h1 : 0 ≤ (a * b + n - 1) / n := Int.ediv_nonneg (by omega) (by omega)
    have h2 : (a * b + n - 1) / n ≤ a * b + n - 1 := Int.ediv_le_self _ (by omega)
    rw [w64 (by omega) (by omega)]

theorem steps_no (k : Nat) (a b c d e n : Int) (h : ¬ (M a b c d e ∧ 1 ≤ n)) : cost_Steps.f (k + 1) a b c d e n = some 0 := by
  unfold cost_Steps.f
  simp only [may_eq, Option.bind_some, decide_eq_true_eq, cost_Steps.j0, if_true]
  by_cases h1 : M a b c d e
  · rw [if_pos h1, if_pos (by omega)]
  · rw [if_neg h1]

theorem awake_yes (k : Nat) (h : 2 ≤ k) : potsherdlaw24_awake.f k = some true := at_rounds (k := 2) potsherdlaw24_awake.mono h (by decide +kernel)

theorem CostSteps (a b c d e n : Int) (wn : (Lit.int .i64 n).wf = true) : ∃ k, potsherdlaw24_CostSteps.f k a b c d e n = some true := by
  have hn := wf64 wn
  refine ⟨10, ?_⟩
  unfold potsherdlaw24_CostSteps.f
  simp only [ref_may_eq, Option.bind_some, decide_eq_true_eq, potsherdlaw24_CostSteps.j0, awake_yes 9 (by omega), if_true]
  by_cases h : M a b c d e
  · rw [if_pos h]
    by_cases h0 : n < 1
    · rw [if_pos h0]
    · rw [if_neg h0]
      by_cases h1 : n > 5000
      · rw [if_pos h1]
      · rw [if_neg h1, steps_yes 8 a b c d e n h (by omega) (by omega)]
        have e1 := mulb a b 64 32 (by omega) (by omega) (by omega) (by omega)
        have e2 : 6 ≤ a * b := by have := Int.mul_le_mul (show 3 ≤ a by omega) (show 2 ≤ b by omega) (by omega) (by omega); omega
        simp only [Option.bind_some]
        rw [w64 (a := a * b) (by omega) (by omega)]
        by_cases g : n ≥ a * b
        · rw [if_pos g, if_pos (by omega), if_pos (by rw [Int.one_mul, w64 (by omega) (by omega)]; omega), if_pos (by rw [show (1 - 1 : Int) = 0 by rfl, w64 (a := 0) (by omega) (by omega), Int.zero_mul, w64 (by omega) (by omega)]; omega)]
        · rw [if_neg g]
          have q1 := Int.ediv_mul_le (a * b + n - 1) (show n ≠ 0 by omega)
          have q2 := Int.lt_ediv_add_one_mul_self (a * b + n - 1) (show 0 < n by omega)
          have q3 : 1 ≤ (a * b + n - 1) / n := by rw [Int.le_ediv_iff_mul_le (by omega)]; omega
          generalize (a * b + n - 1) / n = q at *
          rw [Int.add_mul] at q2
          have q4 : (q - 1) * n = q * n - n := by rw [Int.sub_mul, Int.one_mul]
          have q5 : 0 ≤ (q - 1) * n := Int.mul_nonneg (by omega) (by omega)
          have q6 : q ≤ q * n := by have := Int.mul_le_mul_of_nonneg_left (show 1 ≤ n by omega) (show 0 ≤ q by omega); omega
          rw [if_pos (by omega), w64 (a := q * n) (by omega) (by omega), if_pos (by omega), w64 (a := q - 1) (by omega) (by omega), w64 (a := (q - 1) * n) (by omega) (by omega), if_pos (by omega)]
  · rw [if_neg h]

end Go.Proofs.Ytnjnmegjbcgajaa.PureCostSteps
