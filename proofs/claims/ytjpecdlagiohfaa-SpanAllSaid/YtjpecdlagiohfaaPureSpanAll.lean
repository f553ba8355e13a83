/- The law SpanAll, as printed, comes to true at every input; no condition but that each number is of its kind. -/
import Derived.Test.YtjpecdlagiohfaaPSpanAllx
import Derived.Test.YtjpecdlagiohfaaPlain
namespace Go.Proofs.Ytjpecdlagiohfaa.Pure
open Go.RowKit Go.Proofs.Ytjpecdlagiohfaa.PSpanAll Go.Proofs.YtjpecdlagiohfaaW.PrintWords Go.Proofs.YtjpecdlagiohfaaW.PrintLast
open Go.Proofs.Ytjpecdlagiohfaa.Plain Go.Proofs.YtjpecdlagiohfaaW.PrintMore

/-- The law as it stands, at the two numbers that it makes of its arguments. -/
theorem first_half (k : Nat) (a b p : Int) (ep : wrap64 (Int.tmod (IntKind.u64.wrap a) 6) = p) : potsherdlaw16_SpanAll.f k a b =
    (span_Pieces.f k 0 (wrap64 (p * 16))).bind fun t113 => (if (t113.length : Int) = p then ((span_Pages.f (wrap64 (p * 16))).bind fun t116 => (potsherdlaw16_SpanAll.j0 k b t113 (t116 != p))) else (potsherdlaw16_SpanAll.j0 k b t113 true)) := by
  unfold potsherdlaw16_SpanAll.f; rw [ep]

def row (p : Nat) : List S25 := (List.range p).map fun i : Nat => ⟨(i : Int), 0, 16⟩

instance : DecidableEq S25 := fun a b => decidable_of_iff (a.f0 = b.f0 ∧ a.f1 = b.f1 ∧ a.f2 = b.f2) (by cases a; cases b; simp)

theorem pieces_row : ∀ p : Fin 6, span_Pieces.f 20 0 (wrap64 ((p.val : Int) * 16)) = some (row p.val) := by decide +kernel
theorem pages_row : ∀ p : Fin 6, span_Pages.f (wrap64 ((p.val : Int) * 16)) = some (p.val : Int) := by decide +kernel

theorem ends_yes : ∀ q : Fin 81, ((span_Fits.f (q.val : Int) (wrap64 (80 - (q.val : Int)))).bind fun t119 => (if t119 = true then ((span_Fits.f (q.val : Int) (wrap64 ((wrap64 (80 - (q.val : Int))) + 1))).bind fun t120 => (if t120 = true then (some false) else ((span_Pieces.f 10 (q.val : Int) 0).bind fun t121 => (if (t121.length : Int) = 0 then ((potsherdlaw16_awake.f 10).bind fun t124 => (some t124)) else (some false))))) else (some false))) = some true := by decide +kernel

theorem row_l (p : Nat) : (row p).length = p := by simp [row]
theorem row_at (p : Nat) (i : Int) (h0 : 0 ≤ i) (h1 : i < p) : rd_T25 (row p) i = ⟨i, 0, 16⟩ := by
  unfold rd_T25 row
  rw [List.getD_eq_getElem?_getD, List.getElem?_map, List.getElem?_range (by omega)]
  simp [Int.toNat_of_nonneg h0]

theorem loop_yes (d : Nat) : ∀ (k : Nat) (b : Int) (p : Nat) (i : Int), p ≤ 5 → 0 ≤ i → i ≤ p → (p : Int) - i = d → k = d + 11 →
    potsherdlaw16_SpanAll.l0 k b (row p) p i = some true := by
  induction d with
  | zero =>
    intro k b p i hp h0 h1 hd hk
    subst hk
    obtain ⟨q, hq0, hq1, eq⟩ := umod b 81 (by omega) (by omega)
    simp only [potsherdlaw16_SpanAll.l0]
    rw [if_neg (by omega), eq]
    have := ends_yes ⟨q.toNat, by omega⟩
    simp only [Int.toNat_of_nonneg hq0] at this
    exact this
  | succ d ih =>
    intro k b p i hp h0 h1 hd hk
    obtain ⟨k, rfl⟩ : ∃ m, k = m + 1 := ⟨k - 1, by omega⟩
    simp only [potsherdlaw16_SpanAll.l0]
    rw [if_pos (by omega), if_pos h0, row_l, if_pos (by omega), row_at p i h0 (by omega), if_neg (by simp), w64 (by omega) (by omega)]
    exact ih k b p (i + 1) hp (by omega) (by omega) (by omega) (by omega)

theorem SpanAll : potsherdlaw16_SpanAll.Pure := by
  intro a b _ _
  obtain ⟨p, hp0, hp1, ep⟩ := umod a 6 (by omega) (by omega)
  obtain ⟨n, rfl⟩ : ∃ n : Nat, p = n := ⟨p.toNat, by omega⟩
  refine ⟨n + 30, ?_⟩
  rw [first_half _ a b n ep]
  have e1 := at_rounds (span_Pieces.mono 0 (wrap64 ((n : Int) * 16))) (k' := n + 30) (by omega) (pieces_row ⟨n, by omega⟩)
  rw [e1]
  simp only [Option.bind_some, row_l]
  rw [if_pos trivial, pages_row ⟨n, by omega⟩]
  simp only [Option.bind_some, bne_self_eq_false, potsherdlaw16_SpanAll.j0, row_l]
  rw [if_neg (by simp)]
  have := loop_yes n (n + 11) b n 0 (by omega) (by omega) (by omega) (by omega) rfl
  exact at_rounds (g := fun k => potsherdlaw16_SpanAll.l0 k b (row n) n 0) (fun k => (potsherdlaw16_SpanAll.mono_l k).2 _ _ _ _) (by omega) this
end Go.Proofs.Ytjpecdlagiohfaa.Pure
