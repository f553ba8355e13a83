/- The law CostForms, as printed, comes to true at every input; no condition but that each number is of its kind. -/
import Derived.Test.YtnjnmegjbcgajaaPCostFormsx
import Derived.Test.YtnjnmegjbcgajaaPlain
namespace Go.Proofs.Ytnjnmegjbcgajaa.PureCostForms
open Go.RowKit Go.Proofs.Ytnjnmegjbcgajaa.PCostForms Go.Proofs.YtnjnmegjbcgajaaW.PrintWords Go.Proofs.YtnjnmegjbcgajaaW.PrintLast
open Go Go.Proofs.Ytnjnmegjbcgajaa.Plain Go.Proofs.YtnjnmegjbcgajaaW.PrintMore
/-- What a config must be. -/
abbrev M (a b c d e : Int) : Prop := 3 ≤ a ∧ a ≤ 64 ∧ 2 ≤ b ∧ b ≤ 32 ∧ 0 ≤ c ∧ c ≤ 6 ∧ 1 ≤ d ∧ d ≤ 60 ∧ 2 ≤ e ∧ e ≤ 50

theorem within_eq (a b c : Int) : plan_within.f a b c = some (decide (b ≤ a ∧ a ≤ c)) := by
  unfold plan_within.f
  by_cases h : a ≥ b
  · rw [if_pos h]; congr 1; rw [decide_eq_decide]; omega
  · rw [if_neg h, decide_eq_false (by omega)]

theorem may_eq (a b c d e : Int) : plan_May.f a b c d e = some (decide (M a b c d e)) := by
  unfold plan_May.f
  simp only [within_eq, Option.bind_some, decide_eq_true_eq]
  by_cases h1 : 3 ≤ a ∧ a ≤ 64
  · by_cases h2 : 2 ≤ b ∧ b ≤ 32
    · by_cases h3 : 0 ≤ c ∧ c ≤ 6
      · by_cases h4 : 1 ≤ d ∧ d ≤ 60
        · rw [if_pos h1, if_pos h2, if_pos h3, if_pos h4]; congr 1; rw [decide_eq_decide]; omega
        · rw [if_pos h1, if_pos h2, if_pos h3, if_neg h4, decide_eq_false (by omega)]
      · rw [if_pos h1, if_pos h2, if_neg h3, decide_eq_false (by omega)]
    · rw [if_pos h1, if_neg h2, decide_eq_false (by omega)]
  · rw [if_neg h1, decide_eq_false (by omega)]

theorem ref_may_eq (a b c d e : Int) : potsherdref3_MayPlan.f a b c d e = some (decide (M a b c d e)) := by
  unfold potsherdref3_MayPlan.f
  by_cases h : M a b c d e
  · rw [if_pos (by omega), if_pos (by omega), if_pos (by omega), if_pos (by omega), if_pos (by omega), if_pos (by omega), if_pos (by omega), if_pos (by omega), if_pos (by omega)]
    congr 1; rw [decide_eq_decide]; omega
  · rw [decide_eq_false h]
    repeat' split
    all_goals first | rfl | (congr 1; rw [decide_eq_false]; omega)


theorem mulb (x y X Y : Int) (h0 : 0 ≤ x) (h1 : x ≤ X) (h2 : 0 ≤ y) (h3 : y ≤ Y) : 0 ≤ x * y ∧ x * y ≤ X * Y :=
  ⟨Int.mul_nonneg h0 h2, Int.mul_le_mul h1 h3 h2 (by omega)⟩

/-- How many erases so many pages cost at most. -/
def er (a p f : Int) : Int := p * (2 * (a + 4)) * (f + 1)

theorem er_bd (a p f : Int) (h0 : 3 ≤ a) (h1 : a ≤ 64) (h2 : 0 ≤ p) (h3 : p ≤ 20) (h4 : 0 ≤ f) (h5 : f ≤ 7) : (0 ≤ p * (2 * (a + 4)) ∧ p * (2 * (a + 4)) ≤ 2720) ∧ 0 ≤ er a p f ∧ er a p f ≤ 21760 := by
  have e1 := mulb p (2 * (a + 4)) 20 136 h2 h3 (by omega) (by omega)
  have e2 := mulb (p * (2 * (a + 4))) (f + 1) 2720 8 e1.1 (by omega) (by omega) (by omega)
  exact ⟨⟨e1.1, by omega⟩, e2.1, by unfold er; omega⟩

abbrev PF (p f : Int) : Prop := 0 ≤ p ∧ p ≤ 20 ∧ 0 ≤ f ∧ f ≤ 7

theorem price_yes (a b c d e p f : Int) (h : M a b c d e) (g : PF p f) : cost_Price.f a b c d e p f = some (er a p f * b, er a p f * b, er a p f) := by
  unfold cost_Price.f cost_rounds.f
  simp only [may_eq, Option.bind_some, decide_eq_true_eq]
  have e := er_bd a p f (by omega) (by omega) (by omega) (by omega) (by omega) (by omega)
  have e3 := mulb (er a p f) b 21760 32 e.2.1 e.2.2 (by omega) (by omega)
  rw [if_pos h, if_neg (by omega), if_neg (by omega), if_neg (by omega), if_neg (by omega), w64 (a := a + 4) (by omega) (by omega), w64 (a := 2 * (a + 4)) (by omega) (by omega), w64 (a := p * (2 * (a + 4))) (by omega) (by omega), w64 (a := f + 1) (by omega) (by omega)]
  rw [show p * (2 * (a + 4)) * (f + 1) = er a p f from rfl, w64 (a := er a p f) (by omega) (by omega), w64 (by omega) (by omega)]

theorem price_no (a b c d e p f : Int) (h : ¬ (M a b c d e ∧ PF p f)) : cost_Price.f a b c d e p f = some (0, 0, 0) := by
  unfold cost_Price.f
  simp only [may_eq, Option.bind_some, decide_eq_true_eq]
  by_cases h1 : M a b c d e
  · rw [if_pos h1]
    by_cases h2 : p < 0
    · rw [if_pos h2]
    · rw [if_neg h2]
      by_cases h3 : p > 20
      · rw [if_pos h3]
      · rw [if_neg h3]
        by_cases h4 : f < 0
        · rw [if_pos h4]
        · rw [if_neg h4, if_pos (by omega)]
  · rw [if_neg h1]

theorem steps_yes (k : Nat) (a b c d e n : Int) (h : M a b c d e) (hn : 1 ≤ n) (hn' : n ≤ 9223372036854775807) : cost_Steps.f (k + 1) a b c d e n = some (if n ≥ a * b then 1 else (a * b + n - 1) / n) := by
  unfold cost_Steps.f
  simp only [may_eq, Option.bind_some, decide_eq_true_eq, cost_Steps.j0]
  have e1 := mulb a b 64 32 (by omega) (by omega) (by omega) (by omega)
  rw [if_pos h, if_neg (by omega), w64 (a := a * b) (by omega) (by omega)]
  by_cases g : n ≥ a * b
  · rw [if_pos g, if_pos g]
  · rw [if_neg g, if_neg g, if_neg (by omega), w64 (a := a * b + n) (by omega) (by omega), w64 (a := a * b + n - 1) (by omega) (by omega), Int.tdiv_eq_ediv_of_nonneg (by omega)]
    have h1 : 0 ≤ (a * b + n - 1) / n := Int.ediv_nonneg (by omega) (by omega)
    have h2 : (a * b + n - 1) / n ≤ a * b + n - 1 := Int.ediv_le_self _ (by omega)
    rw [w64 (by omega) (by omega)]

theorem steps_no (k : Nat) (a b c d e n : Int) (h : ¬ (M a b c d e ∧ 1 ≤ n)) : cost_Steps.f (k + 1) a b c d e n = some 0 := by
  unfold cost_Steps.f
  simp only [may_eq, Option.bind_some, decide_eq_true_eq, cost_Steps.j0, if_true]
  by_cases h1 : M a b c d e
  · rw [if_pos h1, if_pos (by omega)]
  · rw [if_neg h1]

theorem awake_yes (k : Nat) (h : 2 ≤ k) : potsherdlaw24_awake.f k = some true := at_rounds (k := 2) potsherdlaw24_awake.mono h (by decide +kernel)

/-- How many pages a call writes at most. -/
def pg (k : Int) : Int := if k = 12 then 6 else if k = 13 then 2 else if k = 1 ∨ k = 2 ∨ k = 3 ∨ k = 4 ∨ k = 5 ∨ k = 6 ∨ k = 10 then 1 else 0

theorem pg_bd (k : Int) : 0 ≤ pg k ∧ pg k ≤ 6 := by unfold pg; repeat' split
                                                    all_goals omega

theorem pagesOf_eq (k : Int) (s t : ByteArray) (x y z : Int) (l : List Int) : cost_pagesOf.f k s t x y z l = some (pg k) := by
  unfold cost_pagesOf.f pg
  repeat' split
  all_goals first | rfl | omega

theorem call_yes (k : Nat) (a b c d e q : Int) (s t : ByteArray) (x y z : Int) (l : List Int) (f : Int) (h : M a b c d e) (h0 : 0 ≤ f) (h1 : f ≤ 7) :
    cost_Call.f (k + 1) a b c d e q s t x y z l f = some (er a (pg q) f * b + 5, er a (pg q) f * b, er a (pg q) f) := by
  unfold cost_Call.f
  simp only [may_eq, Option.bind_some, decide_eq_true_eq, cost_Call.j0, pagesOf_eq]
  have hp := pg_bd q
  have hE := er_bd a (pg q) f (by omega) (by omega) (by omega) (by omega) (by omega) (by omega)
  have e3 := mulb (er a (pg q) f) b 21760 32 hE.2.1 hE.2.2 (by omega) (by omega)
  rw [if_pos h, if_neg (by omega), if_neg (by omega), price_yes a b c d e (pg q) f h ⟨by omega, by omega, h0, h1⟩]
  simp only [Option.bind_some]
  rw [w64 (by omega) (by omega)]

theorem call_no (k : Nat) (a b c d e q : Int) (s t : ByteArray) (x y z : Int) (l : List Int) (f : Int) (h : ¬ (M a b c d e ∧ 0 ≤ f ∧ f ≤ 7)) :
    cost_Call.f (k + 1) a b c d e q s t x y z l f = some (0, 0, 0) := by
  unfold cost_Call.f
  simp only [may_eq, Option.bind_some, decide_eq_true_eq, cost_Call.j0, if_true]
  by_cases h1 : M a b c d e
  · rw [if_pos h1]
    by_cases h2 : f < 0
    · rw [if_pos h2]
    · rw [if_neg h2, if_pos (by omega)]
  · rw [if_neg h1]

theorem CostForms (a b c d e q : Int) (s t : ByteArray) (x y z : Int) (l : List Int) (p f n u0 u1 u2 v0 v1 v2 : Int) (wn : (Lit.int .i64 n).wf = true) : ∃ k, potsherdlaw24_CostForms.f k a b c d e q s t x y z l p f n u0 u1 u2 v0 v1 v2 = some true := by
  have hn := wf64 wn
  refine ⟨20, ?_⟩
  have hprice : ∀ p, cost_Price.f a b c d e p f = potsherdref3_Price.f a b c d e p f ∧ ∃ r, cost_Price.f a b c d e p f = some r := by
    intro p
    unfold potsherdref3_Price.f
    simp only [ref_may_eq, Option.bind_some, decide_eq_true_eq]
    by_cases h : M a b c d e
    · by_cases g : PF p f
      · have e1 := er_bd a p f (by omega) (by omega) (by omega) (by omega) (by omega) (by omega)
        have e3 := mulb (er a p f) b 21760 32 e1.2.1 e1.2.2 (by omega) (by omega)
        have e4 : p * 2 * (a + 4) = p * (2 * (a + 4)) := Int.mul_assoc _ _ _
        rw [price_yes a b c d e p f h g, if_pos h, if_neg (by omega), if_neg (by omega), if_neg (by omega), if_neg (by omega), w64 (a := p * 2) (by omega) (by omega), w64 (a := a + 4) (by omega) (by omega), w64 (a := f + 1) (by omega) (by omega), e4,
          w64 (a := p * (2 * (a + 4))) (by omega) (by omega), show p * (2 * (a + 4)) * (f + 1) = er a p f from rfl, w64 (a := er a p f) (by omega) (by omega), w64 (by omega) (by omega)]
        exact ⟨rfl, _, rfl⟩
      · rw [price_no a b c d e p f (fun w => g w.2), if_pos h]
        refine ⟨?_, _, rfl⟩
        by_cases h2 : p < 0
        · rw [if_pos h2]
        · rw [if_neg h2]
          by_cases h3 : p > 20
          · rw [if_pos h3]
          · rw [if_neg h3]
            by_cases h4 : f < 0
            · rw [if_pos h4]
            · rw [if_neg h4, if_pos (by omega)]
    · rw [price_no a b c d e p f (fun w => h w.1), if_neg h]
      exact ⟨rfl, _, rfl⟩
  have hrcall : ∀ k, potsherdref3_Call.f (k + 1) a b c d e q s t x y z l f = potsherdref3_Call.j0 (k + 1) f (pg q) a b c d e := by
    intro k
    unfold potsherdref3_Call.f pg
    repeat' split
    all_goals first | rfl | omega
  have hcall : ∀ k, cost_Call.f (k + 1) a b c d e q s t x y z l f = potsherdref3_Call.f (k + 1) a b c d e q s t x y z l f ∧ ∃ r, cost_Call.f (k + 1) a b c d e q s t x y z l f = some r := by
    intro k
    rw [hrcall]
    have hp := pg_bd q
    simp only [potsherdref3_Call.j0, ref_may_eq, Option.bind_some, decide_eq_true_eq]
    by_cases h : M a b c d e
    · by_cases g : 0 ≤ f ∧ f ≤ 7
      · rw [if_pos h, if_neg (by omega), if_neg (by omega), ← (hprice (pg q)).1, price_yes a b c d e (pg q) f h ⟨by omega, by omega, by omega, by omega⟩, call_yes k a b c d e q s t x y z l f h g.1 g.2]
        have e1 := er_bd a (pg q) f (by omega) (by omega) (by omega) (by omega) (by omega) (by omega)
        have e3 := mulb (er a (pg q) f) b 21760 32 e1.2.1 e1.2.2 (by omega) (by omega)
        simp only [Option.bind_some]
        rw [w64 (by omega) (by omega)]
        exact ⟨rfl, _, rfl⟩
      · rw [call_no k a b c d e q s t x y z l f (by omega), if_pos h]
        refine ⟨?_, _, rfl⟩
        by_cases h4 : f < 0
        · rw [if_pos h4]
        · rw [if_neg h4, if_pos (by omega)]
    · rw [call_no k a b c d e q s t x y z l f (by omega), if_neg h]
      exact ⟨rfl, _, rfl⟩
  have hsteps : ∀ k, cost_Steps.f (k + 1) a b c d e n = potsherdref3_Steps.f (k + 1) a b c d e n ∧ ∃ r, cost_Steps.f (k + 1) a b c d e n = some r := by
    intro k
    unfold potsherdref3_Steps.f
    simp only [ref_may_eq, Option.bind_some, decide_eq_true_eq, potsherdref3_Steps.j0, if_true]
    by_cases h : M a b c d e
    · by_cases g : 1 ≤ n
      · rw [steps_yes k a b c d e n h g hn.2, if_pos h, if_neg (by omega : ¬ n < 1)]
        refine ⟨?_, _, rfl⟩
        have e1 := mulb a b 64 32 (by omega) (by omega) (by omega) (by omega)
        rw [w64 (a := a * b) (by omega) (by omega)]
        by_cases g2 : n ≥ a * b
        · rw [if_pos g2, if_pos g2]
        · rw [if_neg g2, if_neg g2, if_neg (by omega), w64 (a := a * b + n) (by omega) (by omega), w64 (a := a * b + n - 1) (by omega) (by omega), Int.tdiv_eq_ediv_of_nonneg (by omega)]
          have h1 : 0 ≤ (a * b + n - 1) / n := Int.ediv_nonneg (by omega) (by omega)
          have h2 : (a * b + n - 1) / n ≤ a * b + n - 1 := Int.ediv_le_self _ (by omega)
          rw [w64 (by omega) (by omega)]
      · rw [steps_no k a b c d e n (by omega), if_pos h, if_pos (by omega)]; exact ⟨rfl, _, rfl⟩
    · rw [steps_no k a b c d e n (by omega), if_neg h]; exact ⟨rfl, _, rfl⟩
  have hin : ∃ r, cost_Within.f u0 u1 u2 v0 v1 v2 = some r := by
    unfold cost_Within.f; repeat' split
    all_goals exact ⟨_, rfl⟩
  obtain ⟨i, hi⟩ := hin
  have last : ∀ (k : Nat) (small : Bool), 9 ≤ k → potsherdlaw24_CostForms.j1 (k + 1) p f n i small a b c d e q s t x y z l u0 u1 u2 v0 v1 v2 (wrap64 (u0 - v0)) (wrap64 (u1 - v1)) (wrap64 (u2 - v2)) = some true := by
    intro k small hk
    obtain ⟨k, rfl⟩ : ∃ m, k = m + 1 := ⟨k - 1, by omega⟩
    simp only [potsherdlaw24_CostForms.j1]
    obtain ⟨r1, g1⟩ := (hprice p).2
    obtain ⟨r2, g2⟩ := (hcall k).2
    obtain ⟨r3, g3⟩ := (hsteps k).2
    rw [← (hprice p).1, ← (hcall k).1, ← (hsteps k).1, g1, g2, g3, hi]
    simp only [Option.bind_some, beq_self_eq_true, Bool.and_self, if_true, cost_Less.f, awake_yes (k + 1) (by omega), ite_self]
  have two : ∀ k, 10 ≤ k → potsherdlaw24_CostForms.j0 (k + 1) p f n i a b c d e q s t x y z l u0 u1 u2 v0 v1 v2 = some true := by
    intro k hk
    obtain ⟨k, rfl⟩ : ∃ m, k = m + 1 := ⟨k - 1, by omega⟩
    simp only [potsherdlaw24_CostForms.j0, last k _ (by omega), ite_self]
  unfold potsherdlaw24_CostForms.f
  unfold cost_Within.f at hi
  by_cases k0 : u0 ≤ v0
  · rw [if_pos k0] at hi ⊢
    by_cases k1 : u1 ≤ v1
    · rw [if_pos k1] at hi ⊢
      rw [Option.some.inj hi]; exact two 19 (by omega)
    · rw [if_neg k1] at hi ⊢
      rw [Option.some.inj hi]; exact two 19 (by omega)
  · rw [if_neg k0] at hi ⊢
    rw [Option.some.inj hi]; exact two 19 (by omega)

end Go.Proofs.Ytnjnmegjbcgajaa.PureCostForms
