/- The law FileMakes, as printed, comes to true at every input within the reach. -/
import Derived.Test.YtkigiehkckjlhaaZMakesPlain
import Derived.Test.YtkigiehkckjlhaaZMakesPMakesx26
namespace Go.Proofs.Ytkigiehkckjlhaa.PureFileMakes
set_option linter.unusedVariables false
open Go.RowKit Go.Proofs.Ytkigiehkckjlhaa.PMakes Go.Proofs.YtkigiehkckjlhaaW.PrintWords
open Go Go.Proofs.Ytkigiehkckjlhaa.Plain Go.Proofs.YtkigiehkckjlhaaW.PrintMore
theorem cell_same {w w' : World} {a : Addr} (h : w'.heap[a.block]? = w.heap[a.block]?) : w'.cell? a = w.cell? a := by unfold World.cell?; rw [h]
/-- A row of numbers that came in, as what is shared. -/
theorem V_came {k : IntKind} {e b : Nat} {w : World} {A : Option Addr} {c : Nat} {xs : List Int} (h : (Kd.int k).C w A xs.length xs) (hc : xs.length ≤ c) : Kd.V (Kd.int k) e w b (fun _ => True) (.slice A xs.length c) xs := by
  refine Kd.V_mk hc (fun W' hW => ⟨h.1, h.2.1, fun hn => ?_⟩)
  obtain ⟨ad, e0, hj⟩ := h.2.2 hn
  refine ⟨ad, e0, fun j p hp => ?_⟩
  obtain ⟨cs, h1, h2, h3⟩ := hj j p hp
  exact ⟨cs, h1, h2, fun i u hu => (cell_same (hW _ trivial (World.block_lt_of_cell? _ _ (h3 i u hu)))).trans (h3 i u hu)⟩
theorem awake_ev : Ev (fun k => potsherdlaw20_awake.f k) true := Ev.of potsherdlaw20_awake.mono (k := 200) (by decide +kernel)
theorem awake_bind : Ev (fun k => (potsherdlaw20_awake.f k).bind fun t => some t) true := awake_ev.bind (Ev.now _)
theorem rdI (l : List Int) (i : Nat) : rd l (i : Int) = l.getD i 0 := by unfold rd; rw [Int.toNat_natCast]
theorem mkBase_at (old : List Int) (keep : Int) (i : Nat) (hi : i < 16) : (mkBase old keep).getD i 0 = if (i : Int) < (old.length : Int) ∧ (i : Int) < keep then old.getD i 0 else 0 := by
  have hk : (mkKeep old keep : Int) = mn (mx keep 0) (old.length : Int) := by unfold mkKeep; rw [Int.toNat_of_nonneg]; unfold mn mx; split <;> split <;> omega
  unfold mkBase
  rw [List.getD_eq_getElem?_getD, List.getElem?_take, if_pos hi]
  have hle : mkKeep old keep ≤ old.length := by have : mn (mx keep 0) (old.length : Int) ≤ old.length := by (unfold mn; split <;> omega)
                                                omega
  by_cases c : i < mkKeep old keep
  · rw [List.getElem?_append_left (by rw [List.length_take]; omega), List.getElem?_take, if_pos c, if_pos]
    · rw [List.getD_eq_getElem?_getD]
    · unfold mn mx at hk; split at hk <;> split at hk <;> omega
  · have e : ¬ ((i : Int) < (old.length : Int) ∧ (i : Int) < keep) := by unfold mn mx at hk; split at hk <;> split at hk <;> omega
    rw [if_neg e, List.getElem?_append_right (by rw [List.length_take]; omega), List.getElem?_replicate, if_pos (by rw [List.length_take]; omega)]; rfl
theorem mkAt_at (old : List Int) (keep frm : Int) (data : List Int) (i : Nat) : ∀ n, n ≤ 16 → (mkAt old keep frm data n).getD i 0 = if i < n ∧ 0 ≤ mkIdx frm data i ∧ mkIdx frm data i < data.length then rd data (mkIdx frm data i) else (mkBase old keep).getD i 0
  | 0, _ => by rw [if_neg (by omega)]; rfl
  | n + 1, hn => by
    have ih := mkAt_at old keep frm data i n (by omega)
    simp only [mkAt]
    by_cases c : 0 ≤ mkIdx frm data n ∧ mkIdx frm data n < data.length
    · rw [if_pos c, List.getD_eq_getElem?_getD, List.getElem?_set]
      by_cases e : n = i
      · subst e
        rw [if_pos rfl, if_pos (by rw [mkAt_len]; omega), if_pos ⟨by omega, c⟩]; rfl
      · rw [if_neg e, ← List.getD_eq_getElem?_getD, ih]
        by_cases d : i < n
        · by_cases d2 : 0 ≤ mkIdx frm data i ∧ mkIdx frm data i < data.length
          · rw [if_pos ⟨d, d2⟩, if_pos ⟨by omega, d2⟩]
          · rw [if_neg (fun x => d2 x.2), if_neg (fun x => d2 x.2)]
        · rw [if_neg (fun x => d x.1), if_neg (fun x => by have := x.1; omega)]
    · rw [if_neg c, ih]
      by_cases e : n = i
      · subst e
        rw [if_neg (fun x => c x.2), if_neg (fun x => c x.2)]
      · by_cases d : i < n
        · by_cases d2 : 0 ≤ mkIdx frm data i ∧ mkIdx frm data i < data.length
          · rw [if_pos ⟨d, d2⟩, if_pos ⟨by omega, d2⟩]
          · rw [if_neg (fun x => d2 x.2), if_neg (fun x => d2 x.2)]
        · rw [if_neg (fun x => d x.1), if_neg (fun x => by have := x.1; omega)]
theorem fm_step {N : Option Bool} {x dv w : Int} {P1 P2 P3 P4 P5 : Prop} [Decidable P1] [Decidable P2] [Decidable P3] [Decidable P4] [Decidable P5] (h5 : P1 ∧ P2 ∧ P3 ∧ P4 → P5) (hx : x = if P1 ∧ P2 ∧ P3 ∧ P4 then dv else w) :
    (if P1 then (if P2 then (if P3 then (if P4 then (if P5 then (if x = dv then N else some false) else none) else (if x = w then N else some false)) else (if x = w then N else some false)) else (if x = w then N else some false)) else (if x = w then N else some false)) = N := by
  by_cases c1 : P1
  · by_cases c2 : P2
    · by_cases c3 : P3
      · by_cases c4 : P4
        · rw [if_pos ⟨c1, c2, c3, c4⟩] at hx
          rw [if_pos c1, if_pos c2, if_pos c3, if_pos c4, if_pos (h5 ⟨c1, c2, c3, c4⟩), if_pos hx]
        · rw [if_neg (fun h => c4 h.2.2.2)] at hx
          rw [if_pos c1, if_pos c2, if_pos c3, if_neg c4, if_pos hx]
      · rw [if_neg (fun h => c3 h.2.2.1)] at hx
        rw [if_pos c1, if_pos c2, if_neg c3, if_pos hx]
    · rw [if_neg (fun h => c2 h.2.1)] at hx
      rw [if_pos c1, if_neg c2, if_pos hx]
  · rw [if_neg (fun h => c1 h.1)] at hx
    rw [if_neg c1, if_pos hx]
theorem FileMakes (old : List Int) (a0 a1 a2 keep frm : Int) (data : List Int) (hf : -9223372036854775808 ≤ frm ∧ frm ≤ 9223372036854775807) :
    ∃ k, potsherdlaw20_FileMakes.f k old a0 a1 a2 keep frm data = some true := by
  obtain ⟨K, h⟩ : Ev (fun k => potsherdlaw20_FileMakes.f k old a0 a1 a2 keep frm data) true := by
    unfold potsherdlaw20_FileMakes.f
    by_cases c1 : (old.length : Int) > 100
    · simp only [if_pos c1]; exact awake_bind
    simp only [if_neg c1]
    have hl : Ev (fun k => potsherdlaw20_light.f k [⟨a0, a1, a2, keep, frm, data⟩]) (!decide ((data.length : Int) > 200)) := by
      unfold potsherdlaw20_light.f
      by_cases c2 : (data.length : Int) > 200
      · refine Ev.step (f := fun _ => some _) (fun k => ?_) (Ev.now _)
        simp only [potsherdlaw20_light.l0, List.length_singleton]
        rw [if_pos (by decide), if_pos (by decide), if_pos (by decide), if_neg (by decide)]
        rw [if_pos (show ((rd_T60 [(⟨a0, a1, a2, keep, frm, data⟩ : S60)] 0).f5.length : Int) > 200 from c2), decide_eq_true c2]; rfl
      · refine Ev.step (f := fun k => potsherdlaw20_light.l0 k [⟨a0, a1, a2, keep, frm, data⟩] 1 1) (fun k => ?_) (Ev.step (f := fun _ => some true) (fun k => ?_) ?_)
        · simp only [potsherdlaw20_light.l0, List.length_singleton]
          rw [if_pos (by decide), if_pos (by decide), if_pos (by decide), if_neg (by decide)]
          rw [if_neg (show ¬ ((rd_T60 [(⟨a0, a1, a2, keep, frm, data⟩ : S60)] 0).f5.length : Int) > 200 from c2), show wrap64 (0 + 1) = 1 from w64 (by decide) (by decide)]; rfl
        · simp only [potsherdlaw20_light.l0]; rw [if_neg (by decide)]
        · rw [decide_eq_false c2]; exact Ev.now _
    refine hl.bind ?_
    by_cases c2 : (data.length : Int) > 200
    · rw [decide_eq_true c2]; exact awake_bind
    rw [decide_eq_false c2]
    simp only [Bool.not_false, if_true, file_Make.f, Option.bind_some]
    have hlen := mkAt_len old keep frm data 16
    have key : ∀ i : Nat, i < 16 → rd (mkAt old keep frm data 16) (i : Int) = if 0 ≤ (i : Int) - frm ∧ (i : Int) - frm < (data.length : Int) then rd data ((i : Int) - frm) else if (i : Int) < (old.length : Int) ∧ (i : Int) < keep then rd old (i : Int) else 0 := by
      intro i hi
      rw [rdI, mkAt_at old keep frm data i 16 (Nat.le_refl _), mkBase_at old keep i hi, rdI]
      have hx : mkIdx frm data i = (i : Int) - mx frm (-(data.length : Int)) := by unfold mkIdx; rw [w64] <;> (unfold mx; split <;> omega)
      by_cases c3 : frm < -(data.length : Int)
      · have hm : mkIdx frm data i = (i : Int) + data.length := by rw [hx]; unfold mx; rw [if_pos c3]; omega
        rw [if_neg (fun x => by have := x.2.2; rw [hm] at this; omega), if_neg (show ¬ (0 ≤ (i : Int) - frm ∧ (i : Int) - frm < (data.length : Int)) from by omega)]
      · have hm : mkIdx frm data i = (i : Int) - frm := by rw [hx]; unfold mx; rw [if_neg c3]
        rw [hm]
        by_cases c4 : 0 ≤ (i : Int) - frm ∧ (i : Int) - frm < (data.length : Int)
        · rw [if_pos ⟨hi, c4⟩, if_pos c4]
        · rw [if_neg (fun x => c4 x.2), if_neg c4]
    generalize mkAt old keep frm data 16 = b at hlen key
    simp only [if_pos (show (b.length : Int) = 16 from by omega)]
    refine Ev_fold (g := fun k (s : Unit) i => potsherdlaw20_FileMakes.l0 k old b (b.length : Int) i a0 a1 a2 keep frm data) 16 (fun _ => ()) true ?_ ?_
    · refine Ev.step (fun k => by simp only [potsherdlaw20_FileMakes.l0]; rw [if_neg (by omega)]) awake_bind
    · intro i hi r hr
      have hk := key i hi
      refine Ev.step (fun k => ?_) hr
      have e1 : wrap64 ((i : Int) + 1) = (i : Int) + 1 := w64 (by omega) (by omega)
      simp only [potsherdlaw20_FileMakes.l0]
      rw [if_pos (by omega), if_pos (by omega), if_pos (by omega), e1]
      generalize rd b (i : Int) = x at hk ⊢
      have e2 : frm > -1000 → frm < 1000 → wrap64 ((i : Int) - frm) = (i : Int) - frm := fun _ _ => w64 (by omega) (by omega)
      have hT : ∀ w : Int, x = (if 0 ≤ (i : Int) - frm ∧ (i : Int) - frm < (data.length : Int) then rd data ((i : Int) - frm) else w) →
          ((frm > -1000 ∧ frm < 1000 ∧ (i : Int) ≥ frm ∧ wrap64 ((i : Int) - frm) < (data.length : Int)) → 0 ≤ wrap64 ((i : Int) - frm)) ∧
          x = (if (frm > -1000 ∧ frm < 1000 ∧ (i : Int) ≥ frm ∧ wrap64 ((i : Int) - frm) < (data.length : Int)) then rd data (wrap64 ((i : Int) - frm)) else w) := by
        intro w hw
        refine ⟨fun h => by rw [e2 h.1 h.2.1]; omega, ?_⟩
        rw [hw]
        by_cases c5 : frm > -1000 ∧ frm < 1000
        · rw [e2 c5.1 c5.2]
          by_cases c6 : 0 ≤ (i : Int) - frm ∧ (i : Int) - frm < (data.length : Int)
          · rw [if_pos c6, if_pos ⟨c5.1, c5.2, by omega, c6.2⟩]
          · rw [if_neg c6, if_neg (fun h => c6 ⟨by omega, h.2.2.2⟩)]
        · rw [if_neg (by omega), if_neg (fun h => c5 ⟨h.1, h.2.1⟩)]
      by_cases a1 : (i : Int) < (old.length : Int)
      · rw [if_pos a1]
        by_cases a2 : (i : Int) < keep
        · rw [if_pos a2]
          obtain ⟨g1, g2⟩ := hT (rd old (i : Int)) (by rw [hk, if_pos (show (i : Int) < (old.length : Int) ∧ (i : Int) < keep from ⟨a1, a2⟩)])
          exact fm_step g1 g2
        · rw [if_neg a2]
          obtain ⟨g1, g2⟩ := hT 0 (by rw [hk, if_neg (fun h : (i : Int) < (old.length : Int) ∧ (i : Int) < keep => a2 h.2)])
          exact fm_step g1 g2
      · rw [if_neg a1]
        obtain ⟨g1, g2⟩ := hT 0 (by rw [hk, if_neg (fun h : (i : Int) < (old.length : Int) ∧ (i : Int) < keep => a1 h.1)])
        exact fm_step g1 g2
  exact ⟨K, h K (Nat.le_refl _)⟩
end Go.Proofs.Ytkigiehkckjlhaa.PureFileMakes
