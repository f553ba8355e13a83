/- The law SpanSides, as printed, comes to true at every input; no condition but that each number is of its kind. -/
import Derived.Test.YtjpecdlagiohfaaPSpanSidesx
import Derived.Test.YtjpecdlagiohfaaPlain
namespace Go.Proofs.Ytjpecdlagiohfaa.Pure
open Go.RowKit Go.Proofs.Ytjpecdlagiohfaa.PSpanSides Go.Proofs.YtjpecdlagiohfaaW.PrintWords Go.Proofs.YtjpecdlagiohfaaW.PrintLast
open Go.Proofs.Ytjpecdlagiohfaa.Plain Go.Proofs.YtjpecdlagiohfaaW.PrintMore

/-- The law at the two numbers that it makes of its arguments. -/
def at2 (k : Nat) (p q : Int) : Option Bool := (span_Pieces.f k p q).bind fun t113 => ((span_Fits.f p q).bind fun t116 => (if t116 = true then (potsherdlaw16_SpanSides.l0 k p q t113 p t113 (t113.length : Int) 0) else (if (t113.length : Int) = 0 then (if (wrap64 (p + q)) > 80 then ((potsherdlaw16_awake.f k).bind fun t117 => (some t117)) else (some false)) else (some false))))

theorem at2_yes : ∀ p : Fin 100, ∀ q : Fin 100, at2 20 (p.val : Int) (q.val : Int) = some true := by decide +kernel

theorem SpanSides : potsherdlaw16_SpanSides.Pure := by
  intro a b _ _
  obtain ⟨p, hp0, hp1, ep⟩ := umod a 100 (by omega) (by omega)
  obtain ⟨q, hq0, hq1, eq⟩ := umod b 100 (by omega) (by omega)
  refine ⟨20, ?_⟩
  unfold potsherdlaw16_SpanSides.f
  rw [ep, eq]
  have := at2_yes ⟨p.toNat, by omega⟩ ⟨q.toNat, by omega⟩
  simp only [Int.toNat_of_nonneg hp0, Int.toNat_of_nonneg hq0] at this
  exact this
end Go.Proofs.Ytjpecdlagiohfaa.Pure
