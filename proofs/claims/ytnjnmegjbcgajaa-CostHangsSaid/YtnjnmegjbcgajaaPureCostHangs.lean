/- The law CostHangs, as printed, comes to true at every input; no condition but that each number is of its kind. -/
import Derived.Test.YtnjnmegjbcgajaaPCostHangsx
import Derived.Test.YtnjnmegjbcgajaaPlain
namespace Go.Proofs.Ytnjnmegjbcgajaa.PureCostHangs
open Go.RowKit Go.Proofs.Ytnjnmegjbcgajaa.PCostHangs Go.Proofs.YtnjnmegjbcgajaaW.PrintWords Go.Proofs.YtnjnmegjbcgajaaW.PrintLast
open Go Go.Proofs.Ytnjnmegjbcgajaa.Plain Go.Proofs.YtnjnmegjbcgajaaW.PrintMore
/-- What a config must be. -/
abbrev M (a b c d e : Int) : Prop := 3 ≤ a ∧ a ≤ 64 ∧ 2 ≤ b ∧ b ≤ 32 ∧ 0 ≤ c ∧ c ≤ 6 ∧ 1 ≤ d ∧ d ≤ 60 ∧ 2 ≤ e ∧ e ≤ 50

theorem within_eq (a b c : Int) : plan_within.f a b c = some (decide (b ≤ a ∧ a ≤ c)) := by
  unfold plan_within.f
  by_cases h : a ≥ b
  · rw [if_pos h]; congr 1; rw [decide_eq_decide]; omega
  · rw [if_neg h, decide_eq_false (by omega)]

theorem may_eq (a b c d e : Int) : plan_May.f a b c d e = some (decide (M a b c d e)) := by
  unfold plan_May.f
  simp only [within_eq, Option.bind_some, decide_eq_true_eq]
  by_cases h1 : 3 ≤ a ∧ a ≤ 64
  · by_cases h2 : 2 ≤ b ∧ b ≤ 32
    · by_cases h3 : 0 ≤ c ∧ c ≤ 6
      · by_cases h4 : 1 ≤ d ∧ d ≤ 60
        · rw [if_pos h1, if_pos h2, if_pos h3, if_pos h4]; congr 1; rw [decide_eq_decide]; omega
        · rw [if_pos h1, if_pos h2, if_pos h3, if_neg h4, decide_eq_false (by omega)]
      · rw [if_pos h1, if_pos h2, if_neg h3, decide_eq_false (by omega)]
    · rw [if_pos h1, if_neg h2, decide_eq_false (by omega)]
  · rw [if_neg h1, decide_eq_false (by omega)]

theorem ref_may_eq (a b c d e : Int) : potsherdref3_MayPlan.f a b c d e = some (decide (M a b c d e)) := by
  unfold potsherdref3_MayPlan.f
  by_cases h : M a b c d e
  · rw [if_pos (by omega), if_pos (by omega), if_pos (by omega), if_pos (by omega), if_pos (by omega), if_pos (by omega), if_pos (by omega), if_pos (by omega), if_pos (by omega)]
    congr 1; rw [decide_eq_decide]; omega
  · rw [decide_eq_false h]
    repeat' split
    all_goals first | rfl | (congr 1; rw [decide_eq_false]; omega)


theorem mulb (x y X Y : Int) (h0 : 0 ≤ x) (h1 : x ≤ X) (h2 : 0 ≤ y) (h3 : y ≤ Y) : 0 ≤ x * y ∧ x * y ≤ X * Y :=
  ⟨Int.mul_nonneg h0 h2, Int.mul_le_mul h1 h3 h2 (by omega)⟩

/-- How many erases so many pages cost at most. -/
def er (a p f : Int) : Int := p * (2 * (a + 4)) * (f + 1)

theorem er_bd (a p f : Int) (h0 : 3 ≤ a) (h1 : a ≤ 64) (h2 : 0 ≤ p) (h3 : p ≤ 20) (h4 : 0 ≤ f) (h5 : f ≤ 7) : (0 ≤ p * (2 * (a + 4)) ∧ p * (2 * (a + 4)) ≤ 2720) ∧ 0 ≤ er a p f ∧ er a p f ≤ 21760 := by
  have e1 := mulb p (2 * (a + 4)) 20 136 h2 h3 (by omega) (by omega)
  have e2 := mulb (p * (2 * (a + 4))) (f + 1) 2720 8 e1.1 (by omega) (by omega) (by omega)
  exact ⟨⟨e1.1, by omega⟩, e2.1, by unfold er; omega⟩

abbrev PF (p f : Int) : Prop := 0 ≤ p ∧ p ≤ 20 ∧ 0 ≤ f ∧ f ≤ 7

theorem price_yes (k : Nat) (a b c d e p f : Int) (h : M a b c d e) (g : PF p f) : cost_Price.f (k + 1) a b c d e p f = some (er a p f * b, er a p f * b, er a p f) := by
  unfold cost_Price.f
  simp only [may_eq, Option.bind_some, decide_eq_true_eq, cost_Price.j0, cost_rounds.f]
  have e := er_bd a p f (by omega) (by omega) (by omega) (by omega) (by omega) (by omega)
  have e3 := mulb (er a p f) b 21760 32 e.2.1 e.2.2 (by omega) (by omega)
  rw [if_pos h, if_neg (by omega), if_neg (by omega), if_neg (by omega), if_neg (by omega), w64 (a := a + 4) (by omega) (by omega), w64 (a := 2 * (a + 4)) (by omega) (by omega), w64 (a := p * (2 * (a + 4))) (by omega) (by omega), w64 (a := f + 1) (by omega) (by omega)]
  rw [show p * (2 * (a + 4)) * (f + 1) = er a p f from rfl, w64 (a := er a p f) (by omega) (by omega), w64 (by omega) (by omega)]

theorem price_no (k : Nat) (a b c d e p f : Int) (h : ¬ (M a b c d e ∧ PF p f)) : cost_Price.f (k + 1) a b c d e p f = some (0, 0, 0) := by
  unfold cost_Price.f
  simp only [may_eq, Option.bind_some, decide_eq_true_eq, cost_Price.j0, if_true]
  by_cases h1 : M a b c d e
  · rw [if_pos h1]
    by_cases h2 : p < 0
    · rw [if_pos h2]
    · rw [if_neg h2]
      by_cases h3 : p > 20
      · rw [if_pos h3]
      · rw [if_neg h3]
        by_cases h4 : f < 0
        · rw [if_pos h4]
        · rw [if_neg h4, if_pos (by omega)]
  · rw [if_neg h1]

theorem steps_yes (k : Nat) (a b c d e n : Int) (h : M a b c d e) (hn : 1 ≤ n) (hn' : n ≤ 9223372036854775807) : cost_Steps.f (k + 1) a b c d e n = some (if n ≥ a * b then 1 else (a * b + n - 1) / n) := by
  unfold cost_Steps.f
  simp only [may_eq, Option.bind_some, decide_eq_true_eq, cost_Steps.j0]
  have e1 := mulb a b 64 32 (by omega) (by omega) (by omega) (by omega)
  rw [if_pos h, if_neg (by omega), w64 (a := a * b) (by omega) (by omega)]
  by_cases g : n ≥ a * b
  · rw [if_pos g, if_pos g]
  · rw [if_neg g, if_neg g, if_neg (by omega), w64 (a := a * b + n) (by omega) (by omega), w64 (a := a * b + n - 1) (by omega) (by omega), Int.tdiv_eq_ediv_of_nonneg (by omega)]
    have h1 : 0 ≤ (a * b + n - 1) / n := Int.ediv_nonneg (by omega) (by omega)
    have h2 : (a * b + n - 1) / n ≤ a * b + n - 1 := Int.ediv_le_self _ (by omega)
    rw [w64 (by omega) (by omega)]

theorem steps_no (k : Nat) (a b c d e n : Int) (h : ¬ (M a b c d e ∧ 1 ≤ n)) : cost_Steps.f (k + 1) a b c d e n = some 0 := by
  unfold cost_Steps.f
  simp only [may_eq, Option.bind_some, decide_eq_true_eq, cost_Steps.j0, if_true]
  by_cases h1 : M a b c d e
  · rw [if_pos h1, if_pos (by omega)]
  · rw [if_neg h1]

theorem awake_yes (k : Nat) (h : 3 ≤ k) : potsherdlaw24_awake.f k = some true := at_rounds (k := 3) potsherdlaw24_awake.mono h (by decide +kernel)

/-- How many pages a call writes at most. -/
def pg (k : Int) : Int := if k = 12 then 6 else if k = 13 then 2 else if k = 1 ∨ k = 2 ∨ k = 3 ∨ k = 4 ∨ k = 5 ∨ k = 6 ∨ k = 10 then 1 else 0

theorem pg_bd (k : Int) : 0 ≤ pg k ∧ pg k ≤ 6 := by unfold pg; repeat' split
                                                    all_goals omega

theorem pagesOf_eq (n : Nat) (k : Int) (s t : ByteArray) (x y z : Int) (l : List Int) : cost_pagesOf.f (n + 1) k s t x y z l = some (pg k) := by
  unfold cost_pagesOf.f pg
  simp only [cost_pagesOf.j0, beq_iff_eq]
  repeat' split
  all_goals first | rfl | omega

theorem call_yes (k : Nat) (a b c d e q : Int) (s t : ByteArray) (x y z : Int) (l : List Int) (f : Int) (h : M a b c d e) (h0 : 0 ≤ f) (h1 : f ≤ 7) :
    cost_Call.f (k + 2) a b c d e q s t x y z l f = some (er a (pg q) f * b + 5, er a (pg q) f * b, er a (pg q) f) := by
  unfold cost_Call.f
  simp only [may_eq, Option.bind_some, decide_eq_true_eq, cost_Call.j0, pagesOf_eq]
  have hp := pg_bd q
  have hE := er_bd a (pg q) f (by omega) (by omega) (by omega) (by omega) (by omega) (by omega)
  have e3 := mulb (er a (pg q) f) b 21760 32 hE.2.1 hE.2.2 (by omega) (by omega)
  rw [if_pos h, if_neg (by omega), if_neg (by omega), price_yes k a b c d e (pg q) f h ⟨by omega, by omega, h0, h1⟩]
  simp only [Option.bind_some]
  rw [w64 (by omega) (by omega)]

theorem call_no (k : Nat) (a b c d e q : Int) (s t : ByteArray) (x y z : Int) (l : List Int) (f : Int) (h : ¬ (M a b c d e ∧ 0 ≤ f ∧ f ≤ 7)) :
    cost_Call.f (k + 2) a b c d e q s t x y z l f = some (0, 0, 0) := by
  unfold cost_Call.f
  simp only [may_eq, Option.bind_some, decide_eq_true_eq, cost_Call.j0, if_true]
  by_cases h1 : M a b c d e
  · rw [if_pos h1]
    by_cases h2 : f < 0
    · rw [if_pos h2]
    · rw [if_neg h2, if_pos (by omega)]
  · rw [if_neg h1]

theorem CostHangs (a b c d e a' b' c' d' e' q : Int) (s t : ByteArray) (x y z : Int) (l : List Int) (f0 : Int) : ∃ n, potsherdlaw24_CostHangs.f n a b c d e a' b' c' d' e' q s t x y z l f0 = some true := by
  refine ⟨20, ?_⟩
  obtain ⟨f, hf0, hf1, ef⟩ := umod f0 8 (by omega) (by omega)
  unfold potsherdlaw24_CostHangs.f
  simp only [ref_may_eq, Option.bind_some, decide_eq_true_eq, potsherdlaw24_CostHangs.j0, awake_yes 19 (by omega), if_true, ef]
  by_cases h : M a b c d e
  · rw [if_pos h]
    by_cases h' : M a' b' c' d' e'
    · rw [decide_eq_true h', if_neg (by decide), call_yes 17 a b c d e q s t x y z l f h hf0 (by omega), call_yes 17 a' b' c' d' e' q s t x y z l f h' hf0 (by omega)]
      simp only [Option.bind_some]
      have hpg := pg_bd q
      have e1 := er_bd a (pg q) f (by omega) (by omega) (by omega) (by omega) (by omega) (by omega)
      have e2 := er_bd a' (pg q) f (by omega) (by omega) (by omega) (by omega) (by omega) (by omega)
      have m1 := mulb (er a (pg q) f) b 21760 32 e1.2.1 e1.2.2 (by omega) (by omega)
      have m2 := mulb (er a' (pg q) f) b' 21760 32 e2.2.1 e2.2.2 (by omega) (by omega)
      have hw : ∀ x y z x' y' z' : Int, x ≤ x' → y ≤ y' → z ≤ z' → cost_Within.f x y z x' y' z' = some true := fun x y z x' y' z' h1 h2 h3 => by
        unfold cost_Within.f; rw [if_pos h1, if_pos h2, decide_eq_true h3]
      have hz : ∀ x : Int, 0 ≤ x → x ≤ 9000000 → wrap64 (x - 0) = x := fun x h1 h2 => by rw [w64 (by omega) (by omega)]; omega
      have hM : M a b c' d' e' := by omega
      have last : potsherdlaw24_CostHangs.j1 19 f false a b c d e a' b' c' d' e' q s t x y z l (er a (pg q) f * b + 5) (er a (pg q) f * b) (er a (pg q) f) (er a' (pg q) f * b' + 5) (er a' (pg q) f * b') (er a' (pg q) f) = some true := by
        simp only [potsherdlaw24_CostHangs.j1]
        rw [if_neg (by decide), call_yes 16 a b c' d' e' q s t x y z l f hM hf0 (by omega)]
        simp only [Option.bind_some, beq_self_eq_true, Bool.and_self, if_true]
        rw [hw _ _ _ _ _ _ (by omega) (by omega) (by omega)]
        simp only [Option.bind_some, if_true, cost_Less.f, Int.sub_self]
        rw [w64 (a := 0) (by omega) (by omega), if_pos (by decide), hz _ (by omega) (by omega), hz _ (by omega) (by omega), hz _ (by omega) (by omega)]
        rw [hw _ _ _ _ _ _ (by omega) (by omega) (by omega)]
        simp only [Option.bind_some, if_true, awake_yes 18 (by omega)]
      by_cases g1 : a ≤ a'
      · rw [if_pos g1]
        by_cases g2 : b ≤ b'
        · have k1 : er a (pg q) f ≤ er a' (pg q) f := by
            unfold er
            exact Int.mul_le_mul_of_nonneg_right (Int.mul_le_mul_of_nonneg_left (by omega) (by omega)) (by omega)
          have k2 : er a (pg q) f * b ≤ er a' (pg q) f * b' := Int.mul_le_mul k1 g2 (by omega) e2.2.1
          rw [if_pos g2, hw _ _ _ _ _ _ (by omega) (by omega) (by omega)]
          exact last
        · rw [if_neg g2]; exact last
      · rw [if_neg g1]; exact last
    · rw [decide_eq_false h', if_pos (by decide)]
  · rw [if_neg h]

end Go.Proofs.Ytnjnmegjbcgajaa.PureCostHangs
