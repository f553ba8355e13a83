/- The law PlanLeast, as printed, comes to true at every config and every number; no condition but that each number is of its kind. -/
import Derived.Test.YtjpecdlagiohfaaPPlanLeastx
import Derived.Test.YtjpecdlagiohfaaPlain
namespace Go.Proofs.Ytjpecdlagiohfaa.PurePlanLeast
open Go.RowKit Go.Proofs.Ytjpecdlagiohfaa.PPlanLeast Go.Proofs.YtjpecdlagiohfaaW.PrintWords Go.Proofs.YtjpecdlagiohfaaW.PrintLast
open Go Go.Proofs.Ytjpecdlagiohfaa.Plain Go.Proofs.YtjpecdlagiohfaaW.PrintMore
/-- What a config must be. -/
abbrev M (a b c d e : Int) : Prop := 3 ≤ a ∧ a ≤ 64 ∧ 2 ≤ b ∧ b ≤ 32 ∧ 0 ≤ c ∧ c ≤ 6 ∧ 1 ≤ d ∧ d ≤ 60 ∧ 2 ≤ e ∧ e ≤ 50

theorem within_eq (a b c : Int) : plan_within.f a b c = some (decide (b ≤ a ∧ a ≤ c)) := by
  unfold plan_within.f
  by_cases h : a ≥ b
  · rw [if_pos h]; congr 1; rw [decide_eq_decide]; omega
  · rw [if_neg h, decide_eq_false (by omega)]

theorem may_eq (a b c d e : Int) : plan_May.f a b c d e = some (decide (M a b c d e)) := by
  unfold plan_May.f
  simp only [within_eq, Option.bind_some, decide_eq_true_eq]
  by_cases h1 : 3 ≤ a ∧ a ≤ 64
  · by_cases h2 : 2 ≤ b ∧ b ≤ 32
    · by_cases h3 : 0 ≤ c ∧ c ≤ 6
      · by_cases h4 : 1 ≤ d ∧ d ≤ 60
        · rw [if_pos h1, if_pos h2, if_pos h3, if_pos h4]; congr 1; rw [decide_eq_decide]; omega
        · rw [if_pos h1, if_pos h2, if_pos h3, if_neg h4, decide_eq_false (by omega)]
      · rw [if_pos h1, if_pos h2, if_neg h3, decide_eq_false (by omega)]
    · rw [if_pos h1, if_neg h2, decide_eq_false (by omega)]
  · rw [if_neg h1, decide_eq_false (by omega)]

theorem ref_may_eq (a b c d e : Int) : potsherdref3_MayPlan.f a b c d e = some (decide (M a b c d e)) := by
  unfold potsherdref3_MayPlan.f
  by_cases h : M a b c d e
  · rw [if_pos (by omega), if_pos (by omega), if_pos (by omega), if_pos (by omega), if_pos (by omega), if_pos (by omega), if_pos (by omega), if_pos (by omega), if_pos (by omega)]
    congr 1; rw [decide_eq_decide]; omega
  · rw [decide_eq_false h]
    repeat' split
    all_goals first | rfl | (congr 1; rw [decide_eq_false]; omega)

/-- How many blocks are neither bad, clean nor kept. -/
def U (a c n : Int) : Int := if a - n - c - 1 < 0 then 0 else a - n - c - 1

theorem U_bd (a c n : Int) (h : a ≤ 64) (h1 : 0 ≤ c) (h2 : 0 ≤ n) : 0 ≤ U a c n ∧ U a c n ≤ 63 := by unfold U; split <;> omega

theorem mul_bd (x b : Int) (h0 : 0 ≤ x) (h1 : x ≤ 63) (h2 : 2 ≤ b) (h3 : b ≤ 32) : 0 ≤ x * b ∧ x * b ≤ 2016 := by
  refine ⟨Int.mul_nonneg h0 (by omega), ?_⟩
  have := Int.mul_le_mul h1 h3 (by omega) (by omega)
  omega

theorem room_yes (a b c d e n : Int) (h : M a b c d e) (h0 : 0 ≤ n) (h1 : n ≤ a) : plan_Room.f a b c d e n = some (U a c n * b) := by
  unfold plan_Room.f
  simp only [may_eq, within_eq, Option.bind_some, decide_eq_true_eq]
  rw [if_pos h, if_pos ⟨h0, h1⟩, w64 (a := a - n) (by omega) (by omega), w64 (a := a - n - c) (by omega) (by omega), w64 (a := a - n - c - 1) (by omega) (by omega)]
  have hu : mx (a - n - c - 1) 0 = U a c n := by rw [mx_eq]; rfl
  rw [hu]
  have h2 := U_bd a c n (by omega) (by omega) h0
  have h3 := mul_bd _ b h2.1 h2.2 (by omega) (by omega)
  rw [w64 (by omega) (by omega)]

theorem room_no (a b c d e n : Int) (h : ¬ (M a b c d e ∧ 0 ≤ n ∧ n ≤ a)) : plan_Room.f a b c d e n = some 0 := by
  unfold plan_Room.f
  simp only [may_eq, within_eq, Option.bind_some, decide_eq_true_eq]
  by_cases h1 : M a b c d e
  · rw [if_pos h1, if_neg (by omega)]
  · rw [if_neg h1]

theorem need_yes (a b c d e : Int) (h : M a b c d e) : plan_Need.f a b c d e = some (d + 8) := by
  unfold plan_Need.f
  simp only [may_eq, Option.bind_some, decide_eq_true_eq]
  rw [if_pos h, w64 (a := d + 1) (by omega) (by omega), w64 (a := d + 1 + 5) (by omega) (by omega), w64 (a := d + 1 + 5 + 1) (by omega) (by omega), w64 (by omega) (by omega)]
  congr 1; omega

theorem need_no (a b c d e : Int) (h : ¬ M a b c d e) : plan_Need.f a b c d e = some 0 := by
  unfold plan_Need.f
  simp only [may_eq, Option.bind_some, decide_eq_true_eq]
  rw [if_neg h]

theorem fits_eq (a b c d e n : Int) : plan_Fits.f a b c d e n = some (decide (M a b c d e ∧ 0 ≤ n ∧ n ≤ a ∧ d + 8 ≤ U a c n * b)) := by
  unfold plan_Fits.f
  simp only [may_eq, within_eq, Option.bind_some, decide_eq_true_eq]
  by_cases h : M a b c d e
  · by_cases h1 : 0 ≤ n ∧ n ≤ a
    · rw [if_pos h, if_pos h1, room_yes a b c d e n h h1.1 h1.2, need_yes a b c d e h]
      simp only [Option.bind_some]
      congr 1; rw [decide_eq_decide]
      exact ⟨fun x => ⟨h, h1.1, h1.2, x⟩, fun x => x.2.2.2⟩
    · rw [if_pos h, if_neg h1, decide_eq_false (fun x => h1 ⟨x.2.1, x.2.2.1⟩)]
  · rw [if_neg h, decide_eq_false (fun x => h x.1)]

theorem floor_yes (a b c d e n : Int) (h : M a b c d e) (h0 : 0 ≤ n) (h1 : n ≤ 9223372036854775807) : plan_Floor.f a b c d e n = some (if c - n + 1 < 0 then 0 else c - n + 1) := by
  unfold plan_Floor.f
  simp only [may_eq, Option.bind_some, decide_eq_true_eq]
  rw [if_pos h, if_neg (by omega), w64 (a := c - n) (by omega) (by omega), w64 (a := c - n + 1) (by omega) (by omega), mx_eq]

theorem floor_no (a b c d e n : Int) (h : ¬ (M a b c d e ∧ 0 ≤ n)) : plan_Floor.f a b c d e n = some 0 := by
  unfold plan_Floor.f
  simp only [may_eq, Option.bind_some, decide_eq_true_eq]
  by_cases h1 : M a b c d e
  · rw [if_pos h1, if_pos (by omega)]
  · rw [if_neg h1]

theorem awake_yes : potsherdlaw6_awake.f = some true := by decide +kernel

/-- It fits with so many blocks. -/
abbrev F (b c d n m : Int) : Prop := n ≤ m ∧ d + 8 ≤ U m c n * b

theorem U_step (m c n : Int) : U m c n ≤ U (m + 1) c n ∧ U (m + 1) c n ≤ U m c n + 1 := by unfold U; split <;> split <;> omega

theorem F_step (b c d n m : Int) (hb : 2 ≤ b) (h : F b c d n m) : F b c d n (m + 1) := by
  refine ⟨by have := h.1; omega, ?_⟩
  have h1 := (U_step m c n).1
  have := Int.mul_le_mul_of_nonneg_right h1 (show 0 ≤ b by omega)
  have := h.2
  omega

theorem F_least (b c d n m : Int) (hb : 2 ≤ b) (hd : 1 ≤ d) (hc : 0 ≤ c) (h : F b c d n (m + 1)) (h' : ¬ F b c d n m) : U (m + 1) c n * b - (d + 8) < b := by
  by_cases g : n ≤ m
  · have h2 : ¬ d + 8 ≤ U m c n * b := fun x => h' ⟨g, x⟩
    have h1 := (U_step m c n).2
    have := Int.mul_le_mul_of_nonneg_right h1 (show 0 ≤ b by omega)
    rw [Int.add_mul] at this
    omega
  · have h1 := h.2
    have : U (m + 1) c n = 0 := by unfold U; rw [if_pos (by omega)]
    rw [this] at h1; omega

theorem M_at {b c d e m : Int} (h : M 3 b c d e) (h0 : 3 ≤ m) (h1 : m ≤ 64) : M m b c d e := ⟨h0, h1, h.2.2⟩

theorem fits_at (b c d e n m : Int) (hM : M 3 b c d e) (hn : 0 ≤ n) (h0 : 3 ≤ m) (h1 : m ≤ 64) : plan_Fits.f m b c d e n = some (decide (F b c d n m)) := by
  rw [fits_eq]; congr 1; rw [decide_eq_decide]
  exact ⟨fun x => x.2.2, fun x => ⟨M_at hM h0 h1, hn, x⟩⟩

theorem loop_yes (b c d e n : Int) (hM : M 3 b c d e) (hn : 0 ≤ n) (j : Nat) : ∀ (m first x0 : Int) (was : Bool) (k : Nat), 3 ≤ m → m ≤ 65 → 65 - m = j → k = 2 * j + 1 →
    (was = false → first = 0 ∧ (m = 3 ∨ ¬ F b c d n (m - 1))) →
    (was = true → 3 ≤ first ∧ first ≤ m - 1 ∧ F b c d n first ∧ F b c d n (m - 1) ∧ (first = 3 ∨ ¬ F b c d n (first - 1))) →
    potsherdlaw6_PlanLeast.l0 k n was first m x0 b c d e = some true := by
  induction j with
  | zero =>
    intro m first x0 was k h0 h1 hj hk hf ht
    subst hk
    simp only [potsherdlaw6_PlanLeast.l0]
    rw [if_neg (by omega)]
    cases was with
    | false => rw [if_pos (hf rfl).1, awake_yes]; rfl
    | true =>
      obtain ⟨g0, g1, g2, g3, g4⟩ := ht rfl
      have hMf : M first b c d e := M_at hM g0 (by omega)
      rw [if_neg (by omega), room_yes first b c d e n hMf hn g2.1, need_yes first b c d e hMf]
      simp only [Option.bind_some, awake_yes]
      have h3 := U_bd first c n (by omega) (by omega) hn
      have h4 := mul_bd _ b h3.1 h3.2 (by omega) (by omega)
      have h5 := g2.2
      rw [w64 (by omega) (by omega), if_pos (by omega)]
      rcases g4 with rfl | g4
      · rw [if_pos rfl]
      · have h6 := F_least b c d n (first - 1) (by omega) (by omega) (by omega) (by rw [Int.sub_add_cancel]; exact g2) g4
        rw [Int.sub_add_cancel] at h6
        split
        · rfl
        · first | rfl | rw [if_pos (by omega)]
  | succ j ih =>
    intro m first x0 was k h0 h1 hj hk hf ht
    obtain ⟨k, rfl⟩ : ∃ i, k = i + 2 := ⟨k - 2, by omega⟩
    simp only [potsherdlaw6_PlanLeast.l0]
    rw [if_pos (by omega), fits_at b c d e n m hM hn h0 (by omega)]
    simp only [Option.bind_some, potsherdlaw6_PlanLeast.j2]
    rw [w64 (a := m + 1) (by omega) (by omega)]
    cases was with
    | false =>
      simp only [Bool.false_eq_true, if_false, decide_eq_true_eq]
      by_cases g : F b c d n m
      · rw [if_pos g, decide_eq_true g]
        have ef := hf rfl
        exact ih (m + 1) m m true k (by omega) (by omega) (by omega) (by omega) (fun x => by cases x)
          (fun _ => ⟨h0, by omega, g, by rw [Int.add_sub_cancel]; exact g, ef.2⟩)
      · rw [if_neg g, decide_eq_false g]
        have ef := hf rfl
        exact ih (m + 1) first m false k (by omega) (by omega) (by omega) (by omega) (fun _ => ⟨ef.1, .inr (by rw [Int.add_sub_cancel]; exact g)⟩) (fun x => by cases x)
    | true =>
      obtain ⟨g0, g1, g2, g3, g4⟩ := ht rfl
      have g : F b c d n m := by have := F_step b c d n (m - 1) (by omega) g3; rwa [Int.sub_add_cancel] at this
      simp only [decide_eq_true g, if_true, Bool.not_true, Bool.false_eq_true, if_false]
      exact ih (m + 1) first m true k (by omega) (by omega) (by omega) (by omega) (fun x => by cases x)
        (fun _ => ⟨g0, by omega, g2, by rw [Int.add_sub_cancel]; exact g, g4⟩)

theorem PlanLeast (a b c d e n : Int) (_wn : (Lit.int .i64 n).wf = true) : ∃ k, potsherdlaw6_PlanLeast.f k a b c d e n = some true := by
  refine ⟨2 * 62 + 2, ?_⟩
  unfold potsherdlaw6_PlanLeast.f
  rw [ref_may_eq]
  simp only [Option.bind_some, decide_eq_true_eq, potsherdlaw6_PlanLeast.j0, awake_yes, if_true]
  by_cases h : M 3 b c d e
  · rw [if_pos h]
    by_cases g : n < 0
    · rw [if_pos g]
    · rw [if_neg g]
      by_cases g2 : n > 10
      · rw [if_pos g2]
      · rw [if_neg g2]
        exact loop_yes b c d e n h (by omega) 62 3 0 3 false 125 (by omega) (by omega) (by omega) rfl (fun _ => ⟨rfl, .inl rfl⟩) (fun x => by cases x)
  · rw [if_neg h]

end Go.Proofs.Ytjpecdlagiohfaa.PurePlanLeast
