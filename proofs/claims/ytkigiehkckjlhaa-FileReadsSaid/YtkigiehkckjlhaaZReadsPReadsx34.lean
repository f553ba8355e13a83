/- The Go functions that these laws reach, each as a Lean function with the same answers (a law itself where it answers true), and the proof that the code comes to them; conditions: those of each theorem. Laid by a program of this session over the print. -/
import Derived.Test.YtkigiehkckjlhaaZReadsPReadsShort
import Derived.Test.YtkigiehkckjlhaaZReadsPReadsx0
namespace Go.Proofs.Ytkigiehkckjlhaa.PReads
open Go.RowKit Go.Proofs.YtkigiehkckjlhaaW.PrintWords Go.Proofs.YtkigiehkckjlhaaW.PrintLast Go.Proofs.YtkigiehkckjlhaaW.PrintMore
attribute [local go_sem] max2_int min2_int max_two min_two max_three min_three max_four min_four   -- for this text's walks alone
set_option linter.unusedVariables false
set_option linter.unusedSimpArgs false
def potsherdlaw20_light.l0 : Nat → List (S60) → Int → Int → Option (Bool)
  | 0, _, _, _ => none
  | k + 1, x5, x6, x7 => if x7 < x6 then (if 0 ≤ x7 then (if x7 < (x5.length : Int) then (if x7 ≥ 30 then (none) else (if (((rW x5 x7).f5).length : Int) > 200 then (none) else (potsherdlaw20_light.l0 k x5 x6 (wrap64 (x7 + 1))))) else (none)) else (none)) else (some true)
def potsherdlaw20_light.f (k : Nat) (l0 : List (S60)) : Option (Bool) := potsherdlaw20_light.l0 k l0 (l0.length : Int) 0
theorem potsherdlaw20_light.mono_l : ∀ k, (∀ y0 y1 y2, LeO (potsherdlaw20_light.l0 k y0 y1 y2) (potsherdlaw20_light.l0 (k + 1) y0 y1 y2))
  | 0 => fun _ _ _ r h => by simp [potsherdlaw20_light.l0] at h
  | k + 1 => by
    have ih0 := potsherdlaw20_light.mono_l k
    · intro y0 y1 y2
      unfold potsherdlaw20_light.l0
      repeat' with_reducible first | apply ih0 | exact LeO.refl _ | exact LeO.none _ | refine LeO.ite ?_ ?_ | refine LeO.bind ?_ (fun _ => ?_)
theorem potsherdlaw20_light.mono : ∀ a0 k, LeO (potsherdlaw20_light.f k a0) (potsherdlaw20_light.f (k + 1) a0) := by
  intro a0 k
  have ih0 := potsherdlaw20_light.mono_l k
  unfold potsherdlaw20_light.f
  repeat' with_reducible first | apply ih0 | exact LeO.refl _ | exact LeO.none _ | refine LeO.ite ?_ ?_ | refine LeO.bind ?_ (fun _ => ?_)
set_option maxHeartbeats 8000000 in
set_option maxRecDepth 100000 in
theorem potsherdlaw20_light.calls (k : Nat) (A0 : Option Addr) (c0 : Nat) (l0 : List (S60)) (r : Bool) (w : World) (hr0 : Kd.C k60 w A0 l0.length l0) (hc0 : l0.length ≤ c0) (h : potsherdlaw20_light.f k l0 = some r) :
    Calls Try.prog 35 #[.slice A0 l0.length c0] w fun e w' => e = .returned (.bool r) ∧ Below w.heap.size w w' := by
  have hu60 := Try.underlying60
  have HR0 := kA hr0
  have HC0 := kA hc0
  clear hr0 hc0
  have HB := kA (Below.refl w.heap.size w)
  have H : (potsherdlaw20_light.l0 k l0 (l0.length : Int) 0) = some r := h
  clear h
  have H' := kA H
  clear H
  go_enter Try.func35, Try.ntmps35
  go_wp2
  go_loopg [7] k (fun kq v7 w' => ∃ (x7_1 : Int), v7 = .int .i64 x7_1 ∧ Aside0 (potsherdlaw20_light.l0 kq l0 (l0.length : Int) x7_1 = some r) ∧ Aside0 (kq ≤ k) ∧ Aside0 (Below w.heap.size w w'))
  case atStart => exact ⟨(0), sI, H', ⟨Nat.le_refl _⟩, ⟨by repeat (first | (with_reducible first | exact HB.out | apply below_alloc | apply pw_below_drewN | apply below_drew1) | exact HB.out)⟩⟩
  case round =>
    clear H'
    obtain ⟨x7_1, rfl, HA, HK1, HB⟩ := hrel
    cases gk with
    | zero => exact absurd HA.out (by simp [potsherdlaw20_light.l0])
    | succ k1 =>
      have H := HA.out
      clear HA
      simp only [potsherdlaw20_light.l0] at H
      by_cases c2 : x7_1 < (l0.length : Int)
      · rw [if_pos c2] at H
        have c2b0 := qT c2
        clear c2
        by_cases c3 : 0 ≤ x7_1
        · rw [if_pos c3] at H
          have c3b0 := qT c3
          clear c3
          by_cases c4 : x7_1 < (l0.length : Int)
          · rw [if_pos c4] at H
            have c4b0 := qT c4
            clear c4
            by_cases c5 : x7_1 ≥ 30
            · rw [if_pos c5] at H
              exact absurd H (by simp)
            · rw [if_neg c5] at H
              have c5b0 : decide (30 ≤ x7_1) = false := qF c5
              clear c5
              by_cases c6 : (((rW l0 x7_1).f5).length : Int) > 200
              · rw [if_pos c6] at H
                exact absurd H (by simp)
              · rw [if_neg c6] at H
                have c6b0 : decide (200 < (((rW l0 x7_1).f5).length : Int)) = false := qF c6
                have c6b1 : decide (200 < ((rW l0 x7_1).f5).length) = false := qF (by omega)
                clear c6
                have H' := kA H
                clear H
                have p490 : 0 ≤ (x7_1 : Int) := dT
                have q490 : x7_1 < (l0.length : Int) := dT
                obtain ⟨ad490, A490_5, c490_5, e490, hx490_0, hx490_1, hx490_2, hx490_3, hx490_4, hx490_5, hl490_5, hi490_5⟩ := at_T60 HR0.out x7_1 p490 q490
                cases e490
                replace hx490_0 := xC HB hx490_0
                replace hx490_1 := xC HB hx490_1
                replace hx490_2 := xC HB hx490_2
                replace hx490_3 := xC HB hx490_3
                replace hx490_4 := xC HB hx490_4
                replace hx490_5 := xC HB hx490_5
                have HR490_5 := kA hi490_5
                have HC490_5 := kA hl490_5
                clear hi490_5 hl490_5
                replace p490 := eq_true p490
                replace q490 := eq_true q490
                go_wp2_with (first | ((with_reducible refine gate_dst (N := 4) rfl ?_); (try (refine gate_guard (by rfl) ?_; dsimp only)); refine bxE 60 (cs := #[.int .i64 0, .int .i64 0, .int .i64 0, .int .i64 0, .int .i64 0, .slice none 0 0]) ?_; intro gb491 hg w7 hbox hb; have BK491 := kA hbox; have GW491 := kA ((by rw [hg]; exact (below_size (by repeat (first | (with_reducible first | exact HB.out | apply below_alloc | apply pw_below_drewN | apply below_drew1) | exact HB.out))) : w.heap.size ≤ gb491)); have GE491 := kA ((by rw [hg]; exact (below_size (by repeat (first | (with_reducible first | exact HB.out | apply below_alloc | apply pw_below_drewN | apply below_drew1) | exact HB.out))) : w.heap.size ≤ gb491)); replace HB := kA (below_step (by repeat (first | (with_reducible first | exact HB.out | apply below_alloc | apply pw_below_drewN | apply below_drew1) | exact HB.out)) hb); clear hb hbox hg; have hcz8_0 : w7.cell? ⟨gb491, 0, none⟩ = some (.int .i64 0) := (blk_cell BK491.out 0).trans rfl; have hcz8_1 : w7.cell? ⟨gb491, 1, none⟩ = some (.int .i64 0) := (blk_cell BK491.out 1).trans rfl; have hcz8_2 : w7.cell? ⟨gb491, 2, none⟩ = some (.int .i64 0) := (blk_cell BK491.out 2).trans rfl; have hcz8_3 : w7.cell? ⟨gb491, 3, none⟩ = some (.int .i64 0) := (blk_cell BK491.out 3).trans rfl; have hcz8_4 : w7.cell? ⟨gb491, 4, none⟩ = some (.int .i64 0) := (blk_cell BK491.out 4).trans rfl; have hcz8_5 : w7.cell? ⟨gb491, 5, none⟩ = some (.slice none 0 0) := (blk_cell BK491.out 5).trans rfl; have hfz8_0 := blk_frozen BK491.out 0; have hfz8_1 := blk_frozen BK491.out 1; have hfz8_2 := blk_frozen BK491.out 2; have hfz8_3 := blk_frozen BK491.out 3; have hfz8_4 := blk_frozen BK491.out 4; have hfz8_5 := blk_frozen BK491.out 5))
                go_roundg k1
                case measure => have := HK1.out; omega
                case rel => exact ⟨(wrap64 (x7_1 + 1)), sI, H', ⟨oK HK1⟩, ⟨by repeat (first | (with_reducible first | exact HB.out | apply below_alloc | apply pw_below_drewN | apply below_drew1 | refine below_set ?_ GE491.out) | exact HB.out)⟩⟩
          · rw [if_neg c4] at H
            exact absurd H (by simp)
        · rw [if_neg c3] at H
          exact absurd H (by simp)
      · rw [if_neg c2] at H
        have c2b0 := qF c2
        clear c2
        obtain rfl := qI H
        go_wp2
        go_ret
        exact ⟨rT, by repeat (first | (with_reducible first | exact HB.out | apply below_alloc | apply pw_below_drewN | apply below_drew1) | exact HB.out)⟩
def span_Pages.f (a0 : Int) : Option (Int) := some ((((mn (mx a0 0) 80) + 16) - 1) / 16)
set_option maxHeartbeats 8000000 in
set_option maxRecDepth 100000 in
theorem span_Pages.calls (a0 : Int) (r : Int) (w : World) (h : span_Pages.f a0 = some r) :
    Calls Try.prog 62 #[.int .i64 a0] w fun e w' => e = .returned (.int .i64 r) ∧ Below w.heap.size w w' := by
  have HB := kA (Below.refl w.heap.size w)
  have H : (some ((((mn (mx a0 0) 80) + 16) - 1) / 16)) = some r := h
  clear h
  obtain ⟨ji2, hji2⟩ : ∃ j_ : Int, (mx a0 0) = j_ := ⟨_, rfl⟩
  replace H : (some ((((mn (ji2) 80) + 16) - 1) / 16)) = some r := by first | (rw [hji2] at H; exact H) | (simp only [hji2] at H ⊢; exact H)
  (try (have hji2l : 0 ≤ ji2 := by (rw [← hji2]; unfold mx; (repeat' split) <;> omega)))
  (try (have hji2m : 0 ≤ ji2 := by omega))
  have hji2_ : (if a0 < 0 then 0 else a0) = ji2 := hji2
  obtain ⟨ji3, hji3⟩ : ∃ j_ : Int, (mn (ji2) 80) = j_ := ⟨_, rfl⟩
  replace H : (some ((((ji3) + 16) - 1) / 16)) = some r := by first | (rw [hji3] at H; exact H) | (simp only [hji3] at H ⊢; exact H)
  have hji3_ : (if 80 < (ji2) then 80 else (ji2)) = ji3 := hji3
  obtain rfl := qI H
  go_enter Try.func62, Try.ntmps62
  go_wp2
  go_ret
  exact ⟨by first | rfl | exact congrArg (fun b_ => Ending.returned (Value.bool b_)) HRET.out | (rw [HRET.out]) | (simp [errW_none, errW_some] <;> rfl) | (simp only [← hji2, ← hji3]; first | rfl | (simp [errW_none, errW_some] <;> rfl)) | (simp [*, errW_none, errW_some] <;> rfl), by repeat (first | (with_reducible first | exact HB.out | apply below_alloc | apply pw_below_drewN | apply below_drew1) | exact HB.out)⟩
end Go.Proofs.Ytkigiehkckjlhaa.PReads
