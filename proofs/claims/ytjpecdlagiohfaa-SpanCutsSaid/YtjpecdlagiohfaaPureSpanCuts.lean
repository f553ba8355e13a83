/- The law SpanCuts, as printed, comes to true at every input; no condition but that each number is of its kind. -/
import Derived.Test.YtjpecdlagiohfaaPSpanCutsx
import Derived.Test.YtjpecdlagiohfaaPlain
namespace Go.Proofs.Ytjpecdlagiohfaa.Pure
open Go.RowKit Go.Proofs.Ytjpecdlagiohfaa.PSpanCuts Go.Proofs.YtjpecdlagiohfaaW.PrintWords Go.Proofs.YtjpecdlagiohfaaW.PrintLast
open Go.Proofs.Ytjpecdlagiohfaa.Plain Go.Proofs.YtjpecdlagiohfaaW.PrintMore

theorem size_yes : ∀ p : Fin 100, potsherdlaw16_SpanCuts.j0 20 (p.val : Int) false = some true := by decide +kernel

theorem size_yes' (p : Int) (h0 : 0 ≤ p) (h1 : p < 100) : potsherdlaw16_SpanCuts.j0 20 p false = some true := by
  have := size_yes ⟨p.toNat, by omega⟩
  simpa [Int.toNat_of_nonneg h0] using this

theorem SpanCuts : potsherdlaw16_SpanCuts.Pure := by
  intro a b c _ _ _
  refine ⟨20, ?_⟩
  obtain ⟨p, hp0, hp1, ep⟩ := umod a 100 (by omega) (by omega)
  obtain ⟨q, hq0, hq1, eq⟩ := umod b 100 (by omega) (by omega)
  obtain ⟨r, hr0, hr1, er⟩ := umod c 100 (by omega) (by omega)
  unfold potsherdlaw16_SpanCuts.f
  rw [ep, eq, er]
  have hy := size_yes' p hp0 hp1
  have hf : ∃ t, span_Cut.f p q r = some t ∧ 0 ≤ t ∧ t ≤ r ∧ (t > 0 → q + t ≤ p) ∧ (t < r → q + t < p → ¬ q < p) := by
    unfold span_Cut.f
    rw [if_neg (by omega), if_neg (by omega), w64 (by omega) (by omega), mn_eq]
    by_cases h : p ≤ q
    · rw [if_pos h]; exact ⟨0, rfl, by omega, by omega, by omega, by omega⟩
    · rw [if_neg h]; split
      · exact ⟨_, rfl, by omega, by omega, by omega, by omega⟩
      · exact ⟨_, rfl, by omega, by omega, by omega, by omega⟩
  obtain ⟨t, ht, h0, h1, h2, h3⟩ := hf
  rw [ht]
  simp only [Option.bind_some]
  rw [w64 (a := q + t) (by omega) (by omega), if_neg (by omega), if_neg (by omega)]
  have hd : t < r → q + t < p → decide (q < p) = false := fun x y => decide_eq_false (h3 x y)
  by_cases ht0 : t > 0
  · rw [if_pos ht0, if_neg (by omega)]
    by_cases g1 : t < r
    · rw [if_pos g1]
      by_cases g2 : q + t < p
      · rw [if_pos g2, hd g1 g2]; exact hy
      · rw [if_neg g2]; exact hy
    · rw [if_neg g1]; exact hy
  · rw [if_neg ht0]
    by_cases g1 : t < r
    · rw [if_pos g1]
      by_cases g2 : q + t < p
      · rw [if_pos g2, hd g1 g2]; exact hy
      · rw [if_neg g2]; exact hy
    · rw [if_neg g1]; exact hy
end Go.Proofs.Ytjpecdlagiohfaa.Pure
