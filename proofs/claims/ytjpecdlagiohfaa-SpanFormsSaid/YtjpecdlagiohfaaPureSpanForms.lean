/- The law SpanForms, as printed, comes to true at every input; no condition but that each number is of its kind. -/
import Derived.Test.YtjpecdlagiohfaaPSpanFormsx
import Derived.Test.YtjpecdlagiohfaaPlain
namespace Go.Proofs.Ytjpecdlagiohfaa.Pure
open Go.RowKit Go.Proofs.Ytjpecdlagiohfaa.PSpanForms Go.Proofs.YtjpecdlagiohfaaW.PrintWords Go.Proofs.YtjpecdlagiohfaaW.PrintLast
open Go.Proofs.Ytjpecdlagiohfaa.Plain Go.Proofs.YtjpecdlagiohfaaW.PrintMore

theorem pieces_same : ∀ (k : Nat) (a b : Int) (l : List S25), potsherdref12_Pieces.l0 k a b l = span_Pieces.l0 k a b l
  | 0, _, _, _ => rfl
  | k + 1, a, b, l => by simp only [potsherdref12_Pieces.l0, span_Pieces.l0, pieces_same k]

theorem fits_same (a b : Int) : potsherdref12_FitsFile.f a b = span_Fits.f a b := by
  unfold potsherdref12_FitsFile.f span_Fits.f
  repeat' split
  all_goals first | rfl | omega

theorem fits_some (a b : Int) (ha : -9223372036854775808 ≤ a ∧ a ≤ 9223372036854775807) : span_Fits.f a b = some (decide (0 ≤ a ∧ 0 ≤ b ∧ a + b ≤ 80)) := by
  unfold span_Fits.f
  by_cases h1 : a ≥ 0
  · by_cases h2 : a ≤ 80
    · by_cases h3 : b ≥ 0
      · rw [if_pos h1, if_pos h2, if_pos h3, w64 (by omega) (by omega)]
        have : (b ≤ 80 - a) = (0 ≤ a ∧ 0 ≤ b ∧ a + b ≤ 80) := by rw [eq_iff_iff]; omega
        simp only [this]
      · rw [if_pos h1, if_pos h2, if_neg h3, decide_eq_false (by omega)]
    · rw [if_pos h1, if_neg h2, decide_eq_false (by omega)]
  · rw [if_neg h1, decide_eq_false (by omega)]

theorem pieces_ends (d : Nat) : ∀ (k : Nat) (a b : Int) (l : List S25), 0 ≤ a → a + b ≤ 80 → b ≤ d → d < k → l.length + d ≤ 200 →
    ∃ r, span_Pieces.l0 k a b l = some r ∧ r.length ≤ l.length + d := by
  induction d with
  | zero =>
    intro k a b l h0 h1 h2 hk hl
    obtain ⟨k, rfl⟩ : ∃ m, k = m + 1 := ⟨k - 1, by omega⟩
    exact ⟨l, by simp only [span_Pieces.l0]; rw [if_neg (by omega)], by omega⟩
  | succ d ih =>
    intro k a b l h0 h1 h2 hk hl
    obtain ⟨k, rfl⟩ : ∃ m, k = m + 1 := ⟨k - 1, by omega⟩
    by_cases hb : b > 0
    · have e1 : wrap64 (16 - Int.tmod a 16) = 16 - a % 16 := by rw [tmod16 h0, w64 (by omega) (by omega)]
      simp only [span_Pieces.l0, e1]
      rw [if_pos hb, if_pos (by omega)]
      have e2 : 0 < mn b (16 - a % 16) ∧ mn b (16 - a % 16) ≤ b := by rw [mn_eq]; split <;> omega
      rw [w64 (a := a + _) (by omega) (by omega), w64 (a := b - _) (by omega) (by omega)]
      obtain ⟨r, hr, hl'⟩ := ih k (a + mn b (16 - a % 16)) (b - mn b (16 - a % 16)) (l ++ [⟨wrap64 (a.tdiv 16), a.tmod 16, mn b (16 - a % 16)⟩]) (by omega) (by omega) (by omega) (by omega) (by simp; omega)
      exact ⟨r, hr, by simp at hl'; omega⟩
    · exact ⟨l, by simp only [span_Pieces.l0]; rw [if_neg hb], by omega⟩

theorem pieces_some (a b : Int) (ha : -9223372036854775808 ≤ a ∧ a ≤ 9223372036854775807) : ∃ r, span_Pieces.f 100 a b = some r ∧ potsherdref12_Pieces.f 100 a b = some r ∧ r.length ≤ 80 := by
  unfold span_Pieces.f potsherdref12_Pieces.f
  simp only [fits_same, pieces_same, fits_some a b ha, Option.bind_some]
  by_cases h : 0 ≤ a ∧ 0 ≤ b ∧ a + b ≤ 80
  · obtain ⟨r, hr, hl⟩ := pieces_ends 80 100 a b [] h.1 h.2.2 (by omega) (by omega) (by simp)
    exact ⟨r, by simpa [h] using hr, by simpa [h] using hr, by simpa using hl⟩
  · exact ⟨[], by simp [h], by simp [h], by simp⟩

theorem pages_same (a : Int) (ha : -9223372036854775808 ≤ a ∧ a ≤ 9223372036854775807) : potsherdref12_FilePages.f a = span_Pages.f a := by
  unfold potsherdref12_FilePages.f span_Pages.f
  by_cases h1 : a ≤ 0
  · rw [if_pos h1, mx_eq, mn_eq]; congr 1; split <;> split <;> omega
  · rw [if_neg h1]
    by_cases h2 : a ≥ 80
    · rw [if_pos h2, mx_eq, mn_eq]; congr 1; split <;> split <;> omega
    · rw [if_neg h2, w64 (a := a + 16) (by omega) (by omega), w64 (a := a + 16 - 1) (by omega) (by omega), tdiv16 (by omega), w64 (by omega) (by omega), mx_eq, mn_eq]; congr 1; split <;> split <;> omega

theorem cut_same (a b c : Int) : potsherdref12_CutSize.f a b c = span_Cut.f a b c := rfl

theorem awake_yes : potsherdlaw16_awake.f 10 = some true := by decide +kernel

theorem cut_some (a b c : Int) : ∃ r, span_Cut.f a b c = some r := by
  unfold span_Cut.f; repeat' split
  all_goals exact ⟨_, rfl⟩

theorem loop_yes (d : Nat) : ∀ (k : Nat) (x0 x1 x2 : Int) (l : List S25) (i : Int), -9223372036854775808 ≤ x0 ∧ x0 ≤ 9223372036854775807 → -9223372036854775808 ≤ x2 ∧ x2 ≤ 9223372036854775807 → 0 ≤ i → i ≤ l.length → (l.length : Int) - i = d → d + 10 < k → l.length ≤ 80 →
    potsherdlaw16_SpanForms.l0 k x0 x1 x2 l l l.length i = some true := by
  induction d with
  | zero =>
    intro k x0 x1 x2 l i hx0 hx2 h0 h1 hd hk hl
    obtain ⟨k, rfl⟩ : ∃ m, k = m + 1 := ⟨k - 1, by omega⟩
    simp only [potsherdlaw16_SpanForms.l0]
    rw [if_neg (by omega), pages_same x2 hx2, fits_same, fits_some x0 x1 hx0, cut_same]
    obtain ⟨r, hr⟩ := cut_some x2 x0 x1
    rw [hr]
    have ha : potsherdlaw16_awake.f k = some true := at_rounds potsherdlaw16_awake.mono (by omega) awake_yes
    rw [ha]
    unfold span_Pages.f
    simp
  | succ d ih =>
    intro k x0 x1 x2 l i hx0 hx2 h0 h1 hd hk hl
    obtain ⟨k, rfl⟩ : ∃ m, k = m + 1 := ⟨k - 1, by omega⟩
    simp only [potsherdlaw16_SpanForms.l0]
    rw [if_pos (by omega), if_pos h0, if_pos (by omega), if_pos (by omega), if_neg (by simp), w64 (by omega) (by omega)]
    exact ih k x0 x1 x2 l (i + 1) hx0 hx2 (by omega) (by omega) (by omega) (by omega) hl

theorem SpanForms : potsherdlaw16_SpanForms.Pure := by
  intro a b c wa wb wc
  have ha := wf64 wa
  have hc := wf64 wc
  obtain ⟨r, h1, h2, hl⟩ := pieces_some a b ha
  refine ⟨100, ?_⟩
  unfold potsherdlaw16_SpanForms.f
  rw [h1, h2]
  simp only [Option.bind_some]
  rw [if_pos trivial]
  exact loop_yes r.length 100 a b c r 0 ha hc (by omega) (by omega) (by omega) (by omega) hl
end Go.Proofs.Ytjpecdlagiohfaa.Pure
