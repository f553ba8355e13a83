/- The Go functions that these laws reach, each as a Lean function with the same answers (a law itself where it answers true), and the proof that the code comes to them; conditions: those of each theorem. Laid by a program of this session over the print. -/
import Derived.Test.YtkigiehkckjlhaaZReadsPReadsShort
import Derived.Lib.SlBytesConst
import Derived.Deep.RegionHeld3
import Derived.Test.YtkigiehkckjlhaaZReadsPReadsx0
import Derived.Test.YtkigiehkckjlhaaZReadsPReadsx12
import Derived.Test.YtkigiehkckjlhaaZReadsPReadsx18
import Derived.Test.YtkigiehkckjlhaaZReadsPReadsx22
import Derived.Test.YtkigiehkckjlhaaZReadsPReadsx24
import Derived.Test.YtkigiehkckjlhaaZReadsPReadsx28
namespace Go.Proofs.Ytkigiehkckjlhaa.PReads
open Go.RowKit Go.Proofs.YtkigiehkckjlhaaW.PrintWords Go.Proofs.YtkigiehkckjlhaaW.PrintLast Go.Proofs.YtkigiehkckjlhaaW.PrintMore
attribute [local go_sem] max2_int min2_int max_two min_two max_three min_three max_four min_four   -- for this text's walks alone
set_option linter.unusedVariables false
set_option linter.unusedSimpArgs false
open Go.Proofs.YtkigiehkckjlhaaW.PrintWords renaming blk_drewN → bN, blk_drew → bD, blk_alloc → bA, below_set → wS, below_alloc → wA, pw_below_drewN → wN, below_drew1 → wD, blk_below → bB, blk_far → bF, blk_cell → bC, blk_frozen → bZ
open List renaming setIfInBounds_toArray → lT, set_cons_zero → l0_, set_cons_succ → lS
def potsherdref12_Create.f (k : Nat) (l0_0 : List (S28)) (a1 : ByteArray) : Option ((List (S28)) × Int) := (potsherdref12_make1.f k l0_0 a1 1).bind fun bt470 => (some (bt470.1, bt470.2))
theorem potsherdref12_Create.mono : ∀ a0 a1 k, LeO (potsherdref12_Create.f k a0 a1) (potsherdref12_Create.f (k + 1) a0 a1) := by
 intro a0 a1 k
 unfold potsherdref12_Create.f
 repeat' with_reducible first | apply potsherdref12_make1.mono | exact LeO.refl _ | exact LeO.none _ | refine LeO.ite ?_ ?_ | refine LeO.bind ?_ (fun _ => ?_)
set_option maxHeartbeats 8000000 in
set_option maxRecDepth 100000 in
theorem potsherdref12_Create.calls (k : Nat) (A0_0 : Option Addr) (c0_0 : Nat) (l0_0 : List (S28)) (a1 : ByteArray) (r1 : List (S28)) (r2 : Int) (w : World) (hr0_0 : Kd.C k28 w A0_0 l0_0.length l0_0) (hc0_0 : l0_0.length ≤ c0_0) (h : potsherdref12_Create.f k l0_0 a1 = some (r1, r2)) :
 Calls Try.prog 61 #[.agg #[.slice A0_0 l0_0.length c0_0], .string a1] w fun e w' => ∃ v0_ : Value, e = .returned (.tuple #[.agg #[v0_], .int .i64 r2]) ∧ Kd.N k28 28 w' w.heap.size (fun k_ => (w.heap.size ≤ k_)) v0_ r1 ∧ Below w.heap.size w w' := by
 have hu24 := Try.underlying24; have HR0_0 := kA hr0_0; have HC0_0 := kA hc0_0; clear hr0_0 hc0_0; have HB := kA (Below.refl w.heap.size w); have H : ((potsherdref12_make1.f k l0_0 a1 1).bind fun bt470 => (some (bt470.1, bt470.2))) = some (r1, r2) := h; clear h; replace H := qB H; obtain ⟨⟨t470, t473⟩, A30, H⟩ := H; replace H : (some (t470, t473)) = some (r1, r2) := H; have A3 := kA A30; clear A30; simp only [Option.some.injEq, Prod.mk.injEq] at H; obtain ⟨rfl, rfl⟩ := H
 go_enter Try.func61, Try.ntmps61
 go_wp2_with (first | ((with_reducible refine gate_dst (N := 2) rfl ?_); refine bxE 24 (cs := #[.slice A0_0 l0_0.length c0_0]) ?_; intro gb468 hg w4 hbox hb; have BK468 := kA hbox; have GW468 := kG HB hg; have GE468 := kG HB hg; replace HB := kH HB hb; clear hb hbox hg) | ((with_reducible refine gate_dst (N := 4) rfl ?_); refine bxE 24 (cs := #[.slice none 0 0]) ?_; intro gb469 hg w5 hbox hb; have BK469 := kA hbox; have GW469 := kG HB hg; have GE469 := kG HB hg; replace HB := kH HB hb; have NB468_469 := kL BK468 hg; have NB469_468 := kQ BK468 hg; replace BK468 := kB BK468 hb; clear hb hbox hg; have hnb6 := NB468_469.out; have hnc6 := NB469_468.out; obtain ⟨hcz7_0, hfz7_0⟩ := cY0 BK468) | ((with_reducible refine gate_callee (f := 79) rfl ?_); refine goesK (some 8) Try.func79 #[.agg #[.slice A0_0 l0_0.length c0_0], .string a1, .int .i64 1] ?_; (with_reducible refine (potsherdref12_make1.calls k _ _ l0_0 a1 1 t470 t473 _ ?side1 ?side2 A3.out).mono ?_); (case side1 => exact mC HR0_0 HB); (case side2 => exact HC0_0.out); rintro e w8 ⟨v471, rfl, ho0, hb⟩; refine ⟨_, rfl, ?_⟩; have HO472 := kA (Kd.N_lower (Kd.N_mono (ok' := fun k_ => (w.heap.size ≤ k_) ∧ k_ ≠ gb468 ∧ k_ ≠ gb469) ho0 (fun k_ hk_ => ⟨(Nat.le_trans (below_size (mH HB)) hk_), (Kd.freshB (g := gb468) (o := .cells #[.slice A0_0 l0_0.length c0_0] 24 (0, 0)) (mB BK468) k_ hk_), (Kd.freshB (g := gb469) (o := .cells #[.slice none 0 0] 24 (0, 0)) (mB BK469) k_ hk_)⟩)) (below_size (mH HB))); replace BK468 := kB BK468 hb; replace BK469 := kB BK469 hb; replace HB := kH HB hb; (try clear hb); (try clear ho0); obtain ⟨Ao9, co9, eo9⟩ := Kd.N_slice HO472.out; subst eo9; obtain ⟨hcz10_0, hfz10_0⟩ := cY0 BK469))
 refine bodyPost_ret (results_ct rfl _ _ gb469 24 #[.slice Ao9 t470.length co9] (0, 0) _ rfl (pP BK469) Try.underlying24 rfl (by kernel_rfl)) rfl ?_
 exact ⟨_, rT, fN HO472 (hg := fun _ hk => hk.2.2), mH HB⟩
def potsherdlaw20_one.f (k : Nat)  : Option ((List (S28))) := (potsherdref12_First.f).bind fun t475 => ((potsherdref12_Create.f k t475 (⟨#[47, 97]⟩ : ByteArray)).bind fun bt478 => (some bt478.1))
theorem potsherdlaw20_one.mono : ∀ k, LeO (potsherdlaw20_one.f k ) (potsherdlaw20_one.f (k + 1) ) := by
 intro  k
 unfold potsherdlaw20_one.f
 repeat' with_reducible first | apply potsherdref12_Create.mono | exact LeO.refl _ | exact LeO.none _ | refine LeO.ite ?_ ?_ | refine LeO.bind ?_ (fun _ => ?_)
set_option maxHeartbeats 8000000 in
set_option maxRecDepth 100000 in
theorem potsherdlaw20_one.calls (k : Nat)  (r : List (S28)) (w : World) (h : potsherdlaw20_one.f k  = some r) :
 Calls Try.prog 39 #[] w fun e w' => ∃ v0_ : Value, e = .returned (.agg #[v0_]) ∧ Kd.N k28 28 w' w.heap.size (fun k_ => (w.heap.size ≤ k_)) v0_ r ∧ Below w.heap.size w w' := by
 have hu24 := Try.underlying24; have HB := kA (Below.refl w.heap.size w); have H : ((potsherdref12_First.f).bind fun t475 => ((potsherdref12_Create.f k t475 (⟨#[47, 97]⟩ : ByteArray)).bind fun bt478 => (some bt478.1))) = some r := h; clear h; replace H := qB H; obtain ⟨t475, A10, H⟩ := H; have A1 := kA A10; clear A10; replace H := qB H; obtain ⟨⟨t478, t481⟩, A20, H⟩ := H; replace H : (some t478) = some r := H; have A2 := kA A20; clear A20; obtain rfl := qI H
 go_enter Try.func39, Try.ntmps39
 go_wp2_with (first | ((with_reducible refine gate_dst (N := 0) rfl ?_); refine bxE 24 (cs := #[.slice none 0 0]) ?_; intro gb474 hg w3 hbox hb; have BK474 := kA hbox; have GW474 := kG HB hg; have GE474 := kG HB hg; replace HB := kH HB hb; clear hb hbox hg) | ((with_reducible refine gate_callee (f := 31) rfl ?_); refine goesK (some 4) Try.func31 #[] ?_; (with_reducible refine (potsherdref12_First.calls  t475 _ A1.out).mono ?_); rintro e w4 ⟨v476, rfl, ho0, hb⟩; refine ⟨_, rfl, ?_⟩; have HO477 := kA (Kd.N_lower (Kd.N_mono (ok' := fun k_ => (w.heap.size ≤ k_) ∧ k_ ≠ gb474) ho0 (fun k_ hk_ => ⟨(Nat.le_trans (below_size (mH HB)) hk_), (Kd.freshB (g := gb474) (o := .cells #[.slice none 0 0] 24 (0, 0)) (mB BK474) k_ hk_)⟩)) (below_size (mH HB))); replace BK474 := kB BK474 hb; replace HB := kH HB hb; (try clear hb); (try clear ho0); obtain ⟨Ao5, co5, eo5⟩ := Kd.N_slice HO477.out; subst eo5) | ((with_reducible refine gate_callee (f := 61) rfl ?_); refine goesK (some 5) Try.func61 #[.agg #[.slice Ao5 t475.length co5], .string (⟨#[47, 97]⟩ : ByteArray)] ?_; (with_reducible refine (potsherdref12_Create.calls k _ _ t475 (⟨#[47, 97]⟩ : ByteArray) t478 t481 _ ?side1 ?side2 A2.out).mono ?_); (case side1 => repeat (first | exact (Kd.N_reads' HO477.out).2.2 | (with_reducible refine Kd.C_alloc ?_ _) | (with_reducible refine Kd.C_drewN ?_ _) | (with_reducible refine Kd.C_drew ?_))); (case side2 => exact (Kd.N_reads' HO477.out).2.1); rintro e w6 ⟨v479, rfl, ho0, hb⟩; refine ⟨_, rfl, ?_⟩; have HO480 := kA (Kd.N_lower (Kd.N_mono (ok' := fun k_ => (w.heap.size ≤ k_) ∧ some k_ ≠ (.slice Ao5 t475.length co5 : Value).ownBlock ∧ k_ ≠ gb474) ho0 (fun k_ hk_ => ⟨(Nat.le_trans (below_size (mH HB)) hk_), (Kd.fresh' (Kd.N_lt (mN HO477)) k_ hk_), (Kd.freshB (g := gb474) (o := .cells #[.slice none 0 0] 24 (0, 0)) (mB BK474) k_ hk_)⟩)) (below_size (mH HB))); replace HO477 := kA (Kd.N_elder' (mN HO477) (Kd.N_base ho0) hb); replace BK474 := kB BK474 hb; replace HB := kH HB hb; (try clear hb); (try clear ho0)) | ((with_reducible refine gate_dst (N := 1) rfl ?_); refine bxE 24 (cs := #[.slice none 0 0]) ?_; intro gb482 hg w7 hbox hb; replace HO477 := kA (Kd.N_below (Kd.N_elderB (mN HO477) gb482 (Nat.le_of_eq hg.symm)) hb); replace HO480 := kA (Kd.N_below (Kd.N_elderB (mN HO480) gb482 (Nat.le_of_eq hg.symm)) hb); have BK482 := kA hbox; have GW482 := kG HB hg; have GE482 := kG HB hg; replace HB := kH HB hb; have NB474_482 := kL BK474 hg; have NB482_474 := kQ BK474 hg; replace BK474 := kB BK474 hb; clear hb hbox hg; obtain ⟨Ao8, co8, eo8⟩ := Kd.N_slice HO480.out; subst eo8; have hnb9 := NB482_474.out; have hnc9 := NB474_482.out; obtain ⟨hcz10_0, hfz10_0⟩ := cY0 BK482; obtain ⟨hcz11_0, hfz11_0⟩ := cY0 BK474))
 refine bodyPost_ret (results_cell_row rfl _ _ gb474 24 #[.slice Ao8 t478.length co8] (0, 0) _ rfl (by (with_reducible repeat (first | refine bN ?_ _ | refine bD ?_ | refine bA ?_ _)); refine blk_put (cs := #[.slice none 0 0]) ?_ 0 _ rfl; (with_reducible repeat (first | refine bN ?_ _ | refine bD ?_ | refine bA ?_ _)); refine bF ?_ NB474_482.out _; (with_reducible repeat (first | refine bN ?_ _ | refine bD ?_ | refine bA ?_ _)); exact BK474.out) Try.underlying24 rfl (by kernel_rfl)) rfl ?_
 exact ⟨_, rT, by (with_reducible repeat (first | apply Kd.N_alloc | apply Kd.N_drewN | apply Kd.N_drew)); exact Kd.N_mono (Kd.N_far (p := ⟨gb474, 0, none⟩) (Kd.N_far (p := ⟨gb482, 0, none⟩) (Kd.N_mono (Kd.N_mono HO480.out (fun k_ hk => (⟨hk, hk.2⟩ : _ ∧ k_ ≠ gb482))) (fun k_ hk => (⟨hk, hk.1.1.2.2⟩ : _ ∧ k_ ≠ gb474))) (fun _ hk => hk.1.2) (.slice Ao8 t478.length co8)) (fun _ hk => hk.2) (.slice Ao8 t478.length co8)) (fun _ hk => hk.1.1.1.1), mH HB⟩
def span_Cut.f (a0 : Int) (a1 : Int) (a2 : Int) : Option (Int) := if a1 < 0 then (some 0) else (if a2 < 0 then (some 0) else (if a0 ≤ a1 then (some 0) else (some (mn a2 (wrap64 (a0 - a1))))))
set_option maxHeartbeats 8000000 in
set_option maxRecDepth 100000 in
theorem span_Cut.calls (a0 : Int) (a1 : Int) (a2 : Int) (r : Int) (w : World) (h : span_Cut.f a0 a1 a2 = some r) :
 Calls Try.prog 70 #[.int .i64 a0, .int .i64 a1, .int .i64 a2] w fun e w' => e = .returned (.int .i64 r) ∧ Below w.heap.size w w' := by
 have HB := kA (Below.refl w.heap.size w); have H : (if a1 < 0 then (some 0) else (if a2 < 0 then (some 0) else (if a0 ≤ a1 then (some 0) else (some (mn a2 (wrap64 (a0 - a1))))))) = some r := h; clear h
 by_cases c4 : a1 < 0
 ·
  rw [if_pos c4] at H; have c4b0 := qT c4; clear c4; obtain rfl := qI H
  go_enter Try.func70, Try.ntmps70
  go_wp2
  go_ret
  exact ⟨rT, mH HB⟩
 ·
  rw [if_neg c4] at H; have c4b0 := qF c4; clear c4
  by_cases c5 : a2 < 0
  ·
   rw [if_pos c5] at H; have c5b0 := qT c5; clear c5; obtain rfl := qI H
   go_enter Try.func70, Try.ntmps70
   go_wp2
   go_ret
   exact ⟨rT, mH HB⟩
  ·
   rw [if_neg c5] at H; have c5b0 := qF c5; clear c5
   by_cases c6 : a0 ≤ a1
   ·
    rw [if_pos c6] at H; have c6b0 := qT c6; clear c6; obtain rfl := qI H
    go_enter Try.func70, Try.ntmps70
    go_wp2
    go_ret
    exact ⟨rT, mH HB⟩
   ·
    rw [if_neg c6] at H; have c6b0 := qF c6; clear c6; obtain ⟨ji7, hji7⟩ : ∃ j_ : Int, (mn a2 (wrap64 (a0 - a1))) = j_ := ⟨_, rfl⟩
    replace H : (some ji7) = some r := by first | (rw [hji7] at H; exact H) | (simp only [hji7] at H ⊢; exact H)
    have hji7_ : (if (wrap64 (a0 - a1)) < a2 then (wrap64 (a0 - a1)) else a2) = ji7 := hji7; obtain rfl := qI H
    go_enter Try.func70, Try.ntmps70
    go_wp2
    go_ret
    exact ⟨by first | rfl | exact congrArg (fun b_ => Ending.returned (Value.bool b_)) HRET.out | (rw [HRET.out]) | (simp [errW_none, errW_some] <;> rfl) | (simp only [← hji7]; first | rfl | (simp [errW_none, errW_some] <;> rfl)) | (simp [*, errW_none, errW_some] <;> rfl), mH HB⟩
def file_Read.j0 : Nat → Int → Int → Int → Bool → List (S28) → Option ((List (S41)) × Int)
 | 0, _, _, _, _, _ => none
 | k + 1, x1, x2, x3, x21, x484000 => if x21 = true then (none) else (if 0 ≤ x1 then (if x1 < (x484000.length : Int) then ((span_Cut.f ((rU x484000 x1).f2) x2 x3).bind fun t486 => ((span_Pieces.f k x2 t486).bind fun t487 => (some (t487, 0)))) else (none)) else (none))
def file_Read.f (k : Nat) (l0_0 : List (S28)) (a1 : Int) (a2 : Int) (a3 : Int) : Option ((List (S41)) × Int) := (file_is.f k l0_0 a1).bind fun t484 => (if t484 = true then (if a2 < 0 then (none) else (file_Read.j0 k a1 a2 a3 (decide (a3 < 0)) l0_0)) else (none))
theorem file_Read.mono_l : ∀ k, (∀ y0 y1 y2 y3 y4, LeO (file_Read.j0 k y0 y1 y2 y3 y4) (file_Read.j0 (k + 1) y0 y1 y2 y3 y4))
 | 0 => fun _ _ _ _ _ r h => by simp [file_Read.j0] at h
 | k + 1 => by
  have ih0 := file_Read.mono_l k
  ·
   intro y0 y1 y2 y3 y4
   unfold file_Read.j0
   repeat' with_reducible first | apply ih0 | apply file_is.mono | apply span_Pieces.mono | exact LeO.refl _ | exact LeO.none _ | refine LeO.ite ?_ ?_ | refine LeO.bind ?_ (fun _ => ?_)
theorem file_Read.mono : ∀ a0 a1 a2 a3 k, LeO (file_Read.f k a0 a1 a2 a3) (file_Read.f (k + 1) a0 a1 a2 a3) := by
 intro a0 a1 a2 a3 k; have ih0 := file_Read.mono_l k
 unfold file_Read.f
 repeat' with_reducible first | apply ih0 | apply file_is.mono | apply span_Pieces.mono | exact LeO.refl _ | exact LeO.none _ | refine LeO.ite ?_ ?_ | refine LeO.bind ?_ (fun _ => ?_)
set_option maxHeartbeats 8000000 in
set_option maxRecDepth 100000 in
theorem file_Read.calls (k : Nat) (A0_0 : Option Addr) (c0_0 : Nat) (l0_0 : List (S28)) (a1 : Int) (a2 : Int) (a3 : Int) (r1 : List (S41)) (r2 : Int) (w : World) (hr0_0 : Kd.C k28 w A0_0 l0_0.length l0_0) (hc0_0 : l0_0.length ≤ c0_0) (h : file_Read.f k l0_0 a1 a2 a3 = some (r1, r2)) :
 Calls Try.prog 54 #[.agg #[.slice A0_0 l0_0.length c0_0], .int .i64 a1, .int .i64 a2, .int .i64 a3] w fun e w' => ∃ v0_ : Value, e = .returned (.tuple #[v0_, .int .i64 r2]) ∧ Kd.R k41 41 w' w.heap.size (fun _ => True) v0_ r1 ∧ Below w.heap.size w w' := by
 have hu24 := Try.underlying24; have HR0_0 := kA hr0_0; have HC0_0 := kA hc0_0; clear hr0_0 hc0_0; have HB := kA (Below.refl w.heap.size w); have H : ((file_is.f k l0_0 a1).bind fun t484 => (if t484 = true then (if a2 < 0 then (none) else (file_Read.j0 k a1 a2 a3 (decide (a3 < 0)) l0_0)) else (none))) = some (r1, r2) := h; clear h; have HC5 := kA H; clear H
 go_enter Try.func54, Try.ntmps54
 go_upto_region 1 with (first | ((with_reducible refine gate_dst (N := 4) rfl ?_); refine bxE 24 (cs := #[.slice A0_0 l0_0.length c0_0]) ?_; intro gb483 hg w6 hbox hb; have BK483 := kA hbox; have GW483 := kG HB hg; have GE483 := kG HB hg; replace HB := kH HB hb; clear hb hbox hg))
 (try simp only [Act.put, lT, l0_, lS])
 go_cut [21] (fun v21 wc => ∃ (kq : Nat) (x21_4 : Bool), v21 = .bool x21_4 ∧ Aside0 (file_Read.j0 kq a1 a2 a3 x21_4 l0_0 = some (r1, r2)) ∧ Aside0 (kq ≤ k) ∧ Aside0 (wc.heap[gb483]? = some (.cells #[(.slice A0_0 l0_0.length c0_0)] 24 (0, 0))) ∧ Aside0 (Below w.heap.size w wc))
 case first =>
  have H := HC5.out; clear HC5; replace H := qB H; obtain ⟨t484, A70, H⟩ := H; have A7 := kA A70; clear A70
  by_cases c8 : t484 = true
  ·
   subst c8
   have H1 : (if a2 < 0 then (none) else (file_Read.j0 k a1 a2 a3 (decide (a3 < 0)) l0_0)) = some (r1, r2) := by rw [if_pos rfl] at H; exact H
   clear H; have H := H1; clear H1
   replace H := nQ H; obtain ⟨c9, H⟩ := H; have c9b0 := qF c9; clear c9
   (first | rw [c9b0] | (simp only [i64_w, i32_w]; rw [c9b0]) | skip)
   have H' := kA H; clear H; obtain ⟨hcz10_0, hfz10_0⟩ := cY0 BK483
   go_wp2_with (first | ((with_reducible refine gate_callee (f := 56) rfl ?_); refine goesK (some 12) Try.func56 #[.agg #[.slice A0_0 l0_0.length c0_0], .int .i64 a1] ?_; (with_reducible refine (file_is.calls k _ _ l0_0 a1 true _ ?side1 ?side2 A7.out).mono ?_); (case side1 => exact mC HR0_0 HB); (case side2 => exact HC0_0.out); rintro e w11 ⟨rfl, hb⟩; refine ⟨_, rfl, ?_⟩; replace BK483 := kB BK483 hb; replace HB := kH HB hb; (try clear hb)))
   go_meet
   case rel => exact ⟨_, (decide (a3 < 0)), sI, H', ⟨by first | omega | exact Nat.le_refl _⟩, ⟨mB BK483⟩, ⟨mH HB⟩⟩
  ·
   replace c8 := Bool.eq_false_iff.mpr c8; subst c8
   have H1 : (none) = some (r1, r2) := by rw [if_neg (show ¬ (false = true) by decide)] at H; exact H
   clear H; have H := H1; clear H1; exact absurd H (by simp)
 case rest =>
  clear HC5
  obtain ⟨kq, x21_4, rfl, HA, HJ4, BK483, HB⟩ := hcut
  cases kq with
  | zero => exact absurd HA.out (by simp [file_Read.j0])
  | succ kj4 =>
   have H := HA.out; clear HA; simp only [file_Read.j0] at H
   by_cases c12 : x21_4 = true
   ·
    subst c12
    have H1 : (none) = some (r1, r2) := by rw [if_pos rfl] at H; exact H
    clear H; have H := H1; clear H1; exact absurd H (by simp)
   ·
    replace c12 := Bool.eq_false_iff.mpr c12; subst c12
    have H1 : (if 0 ≤ a1 then (if a1 < (l0_0.length : Int) then ((span_Cut.f ((rU l0_0 a1).f2) a2 a3).bind fun t486 => ((span_Pieces.f kj4 a2 t486).bind fun t487 => (some (t487, 0)))) else (none)) else (none)) = some (r1, r2) := by rw [if_neg (show ¬ (false = true) by decide)] at H; exact H
    clear H; have H := H1; clear H1
    replace H := nP H; obtain ⟨c13, H⟩ := H; have c13b0 := qT c13; clear c13
    replace H := nP H; obtain ⟨c14, H⟩ := H; have c14b0 := qT c14; clear c14; replace H := qB H; obtain ⟨t486, A150, H⟩ := H; have A15 := kA A150; clear A150; replace H := qB H; obtain ⟨t487, A160, H⟩ := H; have A16 := kA A160; clear A160; simp only [Option.some.injEq, Prod.mk.injEq] at H; obtain ⟨rfl, rfl⟩ := H; obtain ⟨hcz17_0, hfz17_0⟩ := cY0 BK483; have p485 : 0 ≤ (a1 : Int) := dT; have q485 : a1 < (l0_0.length : Int) := dT; obtain ⟨ad485, A485_3, c485_3, A485_4, c485_4, e485, hx485_0, hx485_1, hx485_2, hx485_3, hx485_4, hl485_3, hi485_3, hl485_4, hi485_4⟩ := at_T28 HR0_0.out a1 p485 q485
    cases e485
    replace hx485_0 := xC HB hx485_0; replace hx485_1 := xC HB hx485_1; replace hx485_2 := xC HB hx485_2; replace hx485_3 := xC HB hx485_3; replace hx485_4 := xC HB hx485_4; have HR485_3 := kA hi485_3; have HC485_3 := kA hl485_3; clear hi485_3 hl485_3; have HR485_4 := kA hi485_4; have HC485_4 := kA hl485_4; clear hi485_4 hl485_4; replace p485 := eq_true p485; replace q485 := eq_true q485
    go_wp2_with (first | ((with_reducible refine gate_callee (f := 70) rfl ?_); refine goesK (some 31) Try.func70 #[.int .i64 ((rU l0_0 a1).f2), .int .i64 a2, .int .i64 a3] ?_; (with_reducible refine (span_Cut.calls ((rU l0_0 a1).f2) a2 a3 t486 _ A15.out).mono ?_); rintro e w18 ⟨rfl, hb⟩; refine ⟨_, rfl, ?_⟩; replace BK483 := kB BK483 hb; replace HB := kH HB hb; (try clear hb)) | ((with_reducible refine gate_callee (f := 49) rfl ?_); refine goesK (some 32) Try.func49 #[.int .i64 a2, .int .i64 t486] ?_; (with_reducible refine (span_Pieces.calls kj4 a2 t486 t487 _ A16.out).mono ?_); rintro e w19 ⟨v488, rfl, ho0, hb⟩; refine ⟨_, rfl, ?_⟩; have HO489 := kA (Kd.R_lower ho0 (below_size (mH HB))); replace BK483 := kB BK483 hb; replace HB := kH HB hb; (try clear hb); (try clear ho0)))
    go_ret2
    exact ⟨_, rT, mR HO489, mH HB⟩
theorem lit_C {W : World} {g : Nat} {xs : List Int} {fr : Nat × Nat} (h : W.heap[g]? = some (.cells (xs.map (Value.int .u8)).toArray 5 fr)) (hl : xs.length ≤ 9223372036854775807) : (Kd.int .u8).C W (some ⟨g, 0, none⟩) xs.length xs := by
 refine ⟨rfl, hl, fun _ => ⟨⟨g, 0, none⟩, rfl, fun j p hj => ⟨[.int .u8 p], rfl, rfl, fun i u hu => ?_⟩⟩⟩
 cases i with
 | succ i => cases hu
 | zero =>
  cases hu
  have hjl := (List.getElem?_eq_some_iff.1 hj).1
  show W.cell? ((⟨g, 0, none⟩ : Addr).add (j * 1 + 0)) = _
  rw [Nat.mul_one, Nat.add_zero, show (⟨g, 0, none⟩ : Addr).add j = ⟨g, j, none⟩ from by unfold Addr.add; split <;> simp_all]
  simp only [World.cell?, h]
  simp [hj]
theorem lit_CZ {W : World} {g : Nat} {zz : List Int} {fr : Nat × Nat} (hz : List.replicate 14 (0 : Int) = zz) (h : W.heap[g]? = some (.cells (zz.map (Value.int .u8)).toArray 5 fr)) : (Kd.int .u8).C W (some ⟨g, 0, none⟩) 14 zz := by
 have := lit_C h (by rw [← hz]; decide)
 rwa [show zz.length = 14 from by rw [← hz]; rfl] at this
theorem lit_V (W : World) (xs : List Int) (fr : Nat × Nat) (hl : xs.length ≤ 9223372036854775807) {b : Nat} : Kd.V (Kd.int .u8) 5 (W.alloc (.cells (xs.map (Value.int .u8)).toArray 5 fr)) b (fun _ => True) (.slice (some ⟨W.heap.size, 0, none⟩) xs.length xs.length) xs := by
 refine Kd.V_mk (Nat.le_refl _) (fun W' hW => lit_C (fr := fr) ?_ hl); have hs : (W.alloc (.cells (xs.map (Value.int .u8)).toArray 5 fr)).heap = W.heap.push (.cells (xs.map (Value.int .u8)).toArray 5 fr) := rfl; rw [hW _ trivial (by rw [hs]; simp), hs]; simp
theorem blk_belowF {w w' : World} {g : Nat} {o : Obj} (h : w.heap[g]? = some o) (hb : Below w.heap.size w w') : w'.heap[g]? = some o := (hb.block g (Array.getElem?_eq_some_iff.1 h).1).trans h
def cvO (a b : Nat) (x : Operand) : Op := .convert a b x
attribute [local go_sem] cvO
theorem al1 (W : World) (o : Obj) : (W.alloc o).heap[W.heap.size]? = some o := by show (W.heap.push _)[W.heap.size]? = _; simp
theorem al2 (W : World) (o o' : Obj) : ((W.alloc o).alloc o').heap[W.heap.size]? = some o := by
 show ((W.heap.push o).push o')[W.heap.size]? = _
 rw [Array.getElem?_push, if_neg (by rw [Array.size_push]; omega), Array.getElem?_push_size]
theorem al3 (W : World) (o o' : Obj) : ((W.alloc o).alloc o').heap[W.heap.size + 1]? = some o' := by
 show ((W.heap.push o).push o')[W.heap.size + 1]? = _
 rw [Array.getElem?_push, if_pos (by rw [Array.size_push])]
theorem aw_z {W w' : World} {Z : Array Value} {zz : List Int} {gz : Nat} (hz : List.replicate 14 (0 : Int) = zz) (hZ : Z = (zz.map (Value.int .u8)).toArray) (h : W.heap[gz]? = some (.cells Z 5)) (hb : Below W.heap.size W w') :
 (convert 50 9 (.slice (some ⟨gz, 0, none⟩) 14 14)).run Try.prog w' = .ok (.string (strOfNums zz)) w' :=
 Kd.C_string (P := Try.prog) Try.underlying50 Try.underlying5 Try.underlying9 (lit_CZ (fr := (0, 0)) hz (blk_belowF (hZ ▸ h) hb))
theorem run_conv50 {W : World} {g n c : Nat} {C : Array Value} (hg : W.heap[g]? = some (.cells C 5 (0, 0))) :
 (convert 50 50 (.slice (some ⟨g, 0, none⟩) n c)).run Try.prog W = .ok (.slice (some ⟨g, 0, none⟩) n c) (W.freeze ⟨g, C.size, none⟩ 1) := by
 have hsh : W.shape? g = some (5, C.size) := by unfold World.shape?; rw [hg]
 simp [convert, run_underlying Try.underlying50, run_underlying Try.underlying5, markStringish, hsh]
theorem conv_two (W : World) (o : Obj) {g n c : Nat} {C : Array Value} (hg : g = W.heap.size) :
 (convert 50 50 (.slice (some ⟨g, 0, none⟩) n c)).run Try.prog ((W.alloc (.cells C 5)).alloc o) = .ok (.slice (some ⟨g, 0, none⟩) n c) ((W.alloc (.cells C 5 (C.size, C.size + 1))).alloc o) := by
 subst hg
 have h1 : ((W.alloc (.cells C 5)).alloc o).heap[W.heap.size]? = some (.cells C 5 (0, 0)) := by
  show ((W.heap.push (.cells C 5)).push o)[W.heap.size]? = _
  rw [Array.getElem?_push, if_neg (by rw [Array.size_push]; omega), Array.getElem?_push_size]
 rw [run_conv50 h1]
 congr 1
 unfold World.freeze
 rw [if_neg (by decide)]
 show ({ W.alloc (.cells C 5) with heap := ((W.heap.push (.cells C 5)).push o).modify W.heap.size _ } : World) = { W with heap := (W.heap.push (.cells C 5 (C.size, C.size + 1))).push o }
 show ({ W with heap := _ } : World) = _
 congr 1
 apply Array.ext
 ·
  simp
 ·
  intro i h1 h2; simp only [Array.getElem_modify, Array.getElem_push, Array.size_push]
  by_cases hi : W.heap.size = i
  ·
   subst hi; simp
  ·
   rw [if_neg hi]
   by_cases hlt : i < W.heap.size
   ·
    simp [hlt, Nat.lt_succ_of_lt hlt]
   ·
    simp at h2
    have : i = W.heap.size + 1 := by omega
    subst this; simp
theorem conv_one (W : World) {g n c : Nat} {C : Array Value} (hg : g = W.heap.size) :
 (convert 50 50 (.slice (some ⟨g, 0, none⟩) n c)).run Try.prog (W.alloc (.cells C 5)) = .ok (.slice (some ⟨g, 0, none⟩) n c) (W.alloc (.cells C 5 (C.size, C.size + 1))) := by
 subst hg; exact Lib.run_convert_bytes_const W 50 5 C n c Try.underlying50 Try.underlying5
theorem sa_cell {W W' : World} {g i : Nat} {v : Value} (h : W.cell? ⟨g, i, none⟩ = some v) (hb : Below W.heap.size W W') : W'.cell? ⟨g, i, none⟩ = some v := (hb.cell (World.block_lt_of_cell? _ _ h)).trans h
abbrev SA (W0 : World) (gl b4 : Nat) (A3 : Option Addr) (c3 : Nat) (t3 : List S28) (q : List S60) (Ad : Option Addr) (cd : Nat) (w : World) : Prop :=
 w.cell? ⟨b4, 0, none⟩ = some (.slice A3 t3.length c3) ∧ w.cell? ⟨gl, 7, none⟩ = some (.int .i64 (rW q 1).f1) ∧ w.cell? ⟨gl, 11, none⟩ = some (.slice Ad (rW q 1).f5.length cd) ∧ (convert 50 9 (.slice Ad (rW q 1).f5.length cd)).run Try.prog w = .ok (.string (strOfNums (rW q 1).f5)) w ∧ Aside0 (Below W0.heap.size W0 w)
theorem SA.h {W0 w : World} {gl b4 : Nat} {A3 : Option Addr} {c3 : Nat} {t3 : List S28} {q : List S60} {Ad : Option Addr} {cd : Nat} (h : SA W0 gl b4 A3 c3 t3 q Ad cd w) : Below W0.heap.size W0 w := h.2.2.2.2.out
theorem aw_made : madeCells (Value.int .u8 0).cells (Int.toNat 14 * 1) = ((List.replicate 14 (0 : Int)).map (Value.int .u8)).toArray := by kernel_rfl
theorem aw_info5 : (Try.prog.info? 5).map (fun i => (i.zero, i.size, i.bytes)) = some (some (.int .u8 0), 1, 1) := by kernel_rfl
set_option maxHeartbeats 8000000 in
set_option maxRecDepth 100000 in
theorem awake_walk (k : Nat) (w : World) (h : ((potsherdlaw20_one.f k).bind fun t1 => (file_Write.f k t1 9 1 15 [120, 121, 122]).bind fun b2 => (file_Done.f k b2.1 b2.2.1 [4, 5]).bind fun b3 => (file_Read.f k b3.1 1 0 99).bind fun b4 => (file_Make.f [97, 98, 99] 0 0 0 2 0 []).bind fun m => if b2.2.2 = 0 ∧ b2.2.1.length = 2 ∧ (rW b2.2.1 1).f1 = 1 ∧ (strOfNums (rW b2.2.1 1).f5).toList = [121, 122] ∧ b3.2 = 0 ∧ b4.2 = 0 ∧ b4.1.length = 2 ∧ 2 + (strOfNums (List.replicate 14 0)).size ≤ 9223372036854775807 ∧ (strOfNums m).toList = ((⟨#[97, 98]⟩ : ByteArray) ++ strOfNums (List.replicate 14 0)).toList then dir_May.f k b3.1 else none) = some true) : Calls Try.prog 33 #[] w fun e w' => e = .returned (.bool true) ∧ Below w.heap.size w w' := by
 have hu24 := Try.underlying24; have hu60 := Try.underlying60; have hu50 := Try.underlying50; obtain ⟨t1, h1, i1⟩ := qB h; clear h; obtain ⟨⟨t2, q, r3⟩, h2, i2⟩ := qB i1; clear i1; obtain ⟨⟨t3, r4⟩, h3, i3⟩ := qB i2; clear i2; obtain ⟨⟨p, r5⟩, h4, i4⟩ := qB i3; clear i3; obtain ⟨m, h5, h⟩ := qB i4; clear i4
 dsimp only at h2 h3 h4 h
 by_cases hc : r3 = 0 ∧ q.length = 2 ∧ (rW q 1).f1 = 1 ∧ (strOfNums (rW q 1).f5).toList = [121, 122] ∧ r4 = 0 ∧ r5 = 0 ∧ p.length = 2 ∧ 2 + (strOfNums (List.replicate 14 0)).size ≤ 9223372036854775807 ∧ (strOfNums m).toList = ((⟨#[97, 98]⟩ : ByteArray) ++ strOfNums (List.replicate 14 0)).toList
 case neg => rw [if_neg hc] at h; cases h
 case pos =>
  rw [if_pos hc] at h; obtain ⟨rfl, q2, q3, q4, rfl, rfl, q7, q8, q9⟩ := hc; have H1 := kA h1; have H2 := kA h2; have H3 := kA h3; have H4 := kA h4; have H5 := kA h5; have H6 := kA h; have HQ := kA q2; have HP7 := kA q7; clear h1 h2 h3 h4 h5 h; have HB := kA (Below.refl w.heap.size w); have s4 : ((strOfNums (rW q 1).f5).toList == ([121, 122] : List UInt8)) = true := beq_iff_eq.mpr q4; have s9 : ((strOfNums m).toList == ((⟨#[97, 98]⟩ : ByteArray) ++ strOfNums (List.replicate 14 0)).toList) = true := beq_iff_eq.mpr q9; have s8 := eq_true q8; have s8b : (9223372036854775807 < 2 + (strOfNums (List.replicate 14 0)).size) = False := eq_false (Nat.not_lt.2 q8); have HQ3 := kA q3; clear q2 q3 q4 q7 q8 q9; generalize hzz : List.replicate 14 (0 : Int) = zz at s9 s8 s8b; have HZZ := kA hzz; clear hzz
  go_enter Try.func33, Try.ntmps33
  have hcv : ∀ (W : World), (convert 50 50 (.slice (some ⟨W.heap.size, 0, none⟩) 3 3)).run Try.prog (W.alloc (.cells #[.int .u8 120, .int .u8 121, .int .u8 122] 5)) = .ok (.slice (some ⟨W.heap.size, 0, none⟩) 3 3) (W.alloc (.cells #[.int .u8 120, .int .u8 121, .int .u8 122] 5 (3, 4))) := fun W => Lib.run_convert_bytes_const W 50 5 #[.int .u8 120, .int .u8 121, .int .u8 122] 3 3 Try.underlying50 Try.underlying5
  go_upto_region 2 with (first | (go_at_call 39; refine (potsherdlaw20_one.calls k t1 _ H1.out).mono ?_; rintro e_ w1 ⟨v1, rfl, ho, hb⟩; obtain ⟨A1, c1, e1, l1, g1⟩ := Kd.N_reads ho; subst e1; have C1 := kA g1; have L1 := kA l1; clear ho l1 g1; have m_HB := kA (below_step HB.out hb); clear HB; have HB := m_HB; clear m_HB; clear hb) | (go_at_call 34; (have m_ := kA (Kd.C_alloc C1.out (.cells #[.int .u8 120, .int .u8 121, .int .u8 122] 5 (3, 4)))); have m2_ := kA (wA HB.out (.cells #[.int .u8 120, .int .u8 121, .int .u8 122] 5 (3, 4))); clear C1 HB; have C1 := m_; have HB := m2_; clear m_ m2_; refine (file_Write.calls k A1 c1 t1 9 1 15 (fun _ => True) (some ⟨w1.heap.size, 0, none⟩) 3 [120, 121, 122] t2 q 0 _ C1.out L1.out (lit_V w1 [120, 121, 122] (3, 4) (by decide)) H2.out).mono ?_; rintro e_ w3 ⟨v3, v4, rfl, ho3, ho4, hb⟩; obtain ⟨A2, c2, e3, l2, g2_⟩ := Kd.S_reads ho3; subst e3; have C2 := kA g2_; have L2 := kA l2; obtain ⟨gl, cl, e4, -⟩ := Kd.S_form ho4 (by rw [HQ.out]; decide); subst e4; have CL := kA (Kd.S_reads' ho4).2.2; have LL := kA (Kd.S_reads' ho4).2.1; clear l2 g2_ ho3 ho4 C1; have m_HB := kA (below_step HB.out hb); clear HB; have HB := m_HB; clear m_HB; clear hb) | ((with_reducible refine gate_dst (N := 1) rfl ?_); (try (refine gate_guard (by rfl) ?_; dsimp only)); refine box_event ?hg (N := 1) ?hd (cs := #[.slice none 0 0]) (t := 24) ?hr ?_; (case hd => rfl); (case hg => rfl); (case hr => first | (go_simp; done) | (go_simp; rfl)); intro b1 hg_ w4 hbox hb; have G1 := kA (show w.heap.size ≤ b1 from by rw [hg_]; exact HB.out.size); have B1 := kA hbox; have HX := kA hb; have GX := kA (Nat.le_of_eq hg_.symm); have m_HB := kA (below_step HB.out hb); clear HB; have HB := m_HB; clear m_HB; have hz0 : w4.cell? ⟨b1, 0, none⟩ = some (.slice none 0 0) := (bC B1.out 0).trans rfl; have hf0 := bZ B1.out 0; clear hg_ hbox hb))
  clear hcv; have n0_ := kA (Kd.C_below C2.out (wS (j := 0) (v := .slice A2 t2.length c2) HX.out GX.out)); have n1_ := kA (Kd.C_below CL.out (wS (j := 0) (v := .slice A2 t2.length c2) HX.out GX.out)); have n2_ := kA (show (w4.setCell ⟨b1, 0, none⟩ (.slice A2 t2.length c2)).heap[b1]? = some (.cells #[.slice A2 t2.length c2] 24 (0, 0)) from blk_put (cs := #[.slice none 0 0]) B1.out 0 _ rfl); have n3_ := kA (wS (j := 0) (v := .slice A2 t2.length c2) HB.out G1.out); clear C2 CL B1 HB HX GX hz0 hf0; generalize w4.setCell ⟨b1, 0, none⟩ (.slice A2 t2.length c2) = w5 at n0_ n1_ n2_ n3_ ⊢; have C2 := n0_; have CL := n1_; have B1 := n2_; have HB := n3_; clear n0_ n1_ n2_ n3_; have ht0 : w5.cell? ⟨b1, 0, none⟩ = some (.slice A2 t2.length c2) := (bC B1.out 0).trans rfl
  go_upto_region 3 with (first | ((with_reducible refine gate_dst (N := 19) rfl ?_); (try (refine gate_guard (by rfl) ?_; dsimp only)); refine Kd.R_lit (Kd.int .i64) _ 3 ?hg (N := 19) ?hd (xs := ([4, 5] : List Int)) (inner := [.int .i64 4, .int .i64 5]) (ok := fun _ => True) (okp := fun _ => True) ?hr ?hp (fun _ hk => hk) trivial (Below.refl _ _) (Nat.le_refl _) (by simp) ?_; (case hd => rfl); (case hg => rfl); (case hr => first | (go_simp; done) | (go_simp; rfl)); (case hp => exact (Reps.one (show Kd.M (Kd.int .i64) _ _ _ 4 [.int .i64 4] from rfl) (Reps.one (show Kd.M (Kd.int .i64) _ _ _ 5 [.int .i64 5] from rfl) (Reps.none _ _)))); intro v5 w6 ho hb hg_ hnew_; clear hg_ hnew_; obtain ⟨g5, cs, e5, -⟩ := Kd.R_form ho (by decide); subst e5; have CB := kA (Kd.R_reads' ho).2.2; have LB := kA (Kd.R_reads' ho).2.1; clear ho; have m_C2 := kA (Kd.C_below C2.out hb); have m_CL := kA (Kd.C_below CL.out hb); have m_HB := kA (below_step HB.out hb); clear C2 CL HB; have C2 := m_C2; have CL := m_CL; have HB := m_HB; clear m_C2 m_CL m_HB; clear hb) | (go_at_call 36; refine (file_Done.calls k A2 c2 t2 (some ⟨gl, 0, none⟩) cl q (some ⟨g5, 0, none⟩) cs [4, 5] t3 0 _ C2.out L2.out CL.out LL.out CB.out LB.out H3.out).mono ?_; rintro e_ w7 ⟨v6, rfl, ho, hb⟩; obtain ⟨A3, c3, e6, l3, g3⟩ := Kd.S_reads ho; subst e6; have C3 := kA g3; have L3 := kA l3; clear ho l3 g3 CB C2; have m_CL := kA (Kd.C_below CL.out hb); have m_HB := kA (below_step HB.out hb); clear CL HB; have CL := m_CL; have HB := m_HB; clear m_CL m_HB; clear hb) | ((with_reducible refine gate_dst (N := 4) rfl ?_); (try (refine gate_guard (by rfl) ?_; dsimp only)); refine box_event ?hg (N := 4) ?hd (cs := #[.slice none 0 0]) (t := 24) ?hr ?_; (case hd => rfl); (case hg => rfl); (case hr => first | (go_simp; done) | (go_simp; rfl)); intro b4 hg_ w8 hbox hb; have G4 := kA (show w.heap.size ≤ b4 from by rw [hg_]; exact HB.out.size); have B4 := kA hbox; have HX := kA hb; have GX := kA (Nat.le_of_eq hg_.symm); have m_HB := kA (below_step HB.out hb); clear HB; have HB := m_HB; clear m_HB; have hz0 : w8.cell? ⟨b4, 0, none⟩ = some (.slice none 0 0) := (bC B4.out 0).trans rfl; have hf0 := bZ B4.out 0; clear hg_ hbox hb))
  clear ht0; have n0_ := kA (Kd.C_below C3.out (wS (j := 0) (v := .slice A3 t3.length c3) HX.out GX.out)); have n1_ := kA (Kd.C_below CL.out (wS (j := 0) (v := .slice A3 t3.length c3) HX.out GX.out)); have n2_ := kA (show (w8.setCell ⟨b4, 0, none⟩ (.slice A3 t3.length c3)).heap[b4]? = some (.cells #[.slice A3 t3.length c3] 24 (0, 0)) from blk_put (cs := #[.slice none 0 0]) B4.out 0 _ rfl); have n3_ := kA (wS (j := 0) (v := .slice A3 t3.length c3) HB.out G4.out); clear C3 CL B4 HB HX GX hz0 hf0 B1; generalize w8.setCell ⟨b4, 0, none⟩ (.slice A3 t3.length c3) = w9 at n0_ n1_ n2_ n3_ ⊢; have C3 := n0_; have CL := n1_; have B4 := n2_; have HB := n3_; clear n0_ n1_ n2_ n3_; have ht0 : w9.cell? ⟨b4, 0, none⟩ = some (.slice A3 t3.length c3) := (bC B4.out 0).trans rfl
  go_upto_region 4 with (go_at_call 54; refine (file_Read.calls k A3 c3 t3 1 0 99 p 0 _ C3.out L3.out H4.out).mono ?_; rintro e_ w10 ⟨v8, rfl, ho, hb⟩; obtain ⟨A4, c4, e8⟩ := Kd.R_slice ho; subst e8; clear ho; have m_CL := kA (Kd.C_below CL.out hb); have m_C3 := kA (Kd.C_below C3.out hb); have m_B4 := kA (bB B4.out hb); have m_HB := kA (below_step HB.out hb); clear CL C3 B4 HB; have CL := m_CL; have C3 := m_C3; have B4 := m_B4; have HB := m_HB; clear m_CL m_C3 m_B4 m_HB; clear hb)
  clear ht0; obtain ⟨ad, Ad, cd, e0, -, hx1, -, -, -, hx5, ld, gd⟩ := at_T60 CL.out 1 (by decide) (by rw [HQ.out]; decide)
  cases e0
  simp only [show ((⟨gl, 0, none⟩ : Addr).add ((1 : Int).toNat * 6)).block = gl from rfl, show ((⟨gl, 0, none⟩ : Addr).add ((1 : Int).toNat * 6)).off = 6 from rfl] at hx1 hx5; have HX1 := kA hx1; have HX5 := kA hx5; have HXS := kA gd; clear hx1 hx5 gd ld CL
  have hsa : ∀ w', Below w10.heap.size w10 w' → SA w10 gl b4 A3 c3 t3 q Ad cd w' := fun w' hb =>
   ⟨sa_cell ((bC B4.out 0).trans rfl) hb, sa_cell HX1.out hb, sa_cell HX5.out hb, Kd.C_string (P := Try.prog) Try.underlying50 Try.underlying5 Try.underlying9 (Kd.C_below HXS.out hb), ⟨hb⟩⟩
  have HSA := kA hsa; clear hsa; obtain ⟨ZA, hza⟩ : ∃ Z : Array Value, Z = (zz.map (Value.int .u8)).toArray := ⟨_, rfl⟩; have HZA := kA hza; clear hza
  obtain ⟨ti, hti, htz⟩ : ∃ ti, Try.prog.info? 5 = some ti ∧ (ti.zero, ti.size, ti.bytes) = (some (Value.int IntKind.u8 0), 1, 1) := by
   have h := aw_info5
   cases hq : Try.prog.info? 5 with
   | none => rw [hq] at h; cases h
   | some ti => rw [hq] at h; exact ⟨ti, rfl, qI h⟩
  simp only [Prod.mk.injEq] at htz
  have hmk : ∀ W : World, (Instr.makeSlice 50 (.int .i64 14) (.int .i64 14)).run Try.prog W = .ok (.slice (some ⟨W.heap.size, 0, none⟩) 14 14) (W.alloc (.cells ZA 5)) := fun W => by
   have := run_make W 50 5 ti (.int .u8 0) Try.underlying50 hti htz.1 .i64 .i64 14 14 (by decide) (by decide) (by rw [htz.2.2]; decide) (by decide)
   rw [htz.2.1] at this; exact this.trans (by rw [aw_made, HZZ.out, HZA.out]; rfl)
  clear hti htz; have k2 : ((q.length : Int) == 2) = true := beq_iff_eq.mpr (by have := HQ.out; omega)
  have k7 : ((p.length : Int) == 2) = true := beq_iff_eq.mpr (by have := HP7.out; omega)
  have k3 : ((rW q 1).f1 == 1) = true := beq_iff_eq.mpr HQ3.out; have k5 : (1 < q.length) = True := eq_true (by have := HQ.out; omega)
  have k6 : ((1 : Int) < (q.length : Int)) = True := eq_true (by have := HQ.out; omega)
  obtain ⟨wd, hwd⟩ : ∃ wd : World, w10.drew = wd := ⟨_, rfl⟩; have HWD := kA (show Below w10.heap.size w10 wd from hwd ▸ below_drew (Below.refl _ _))
  have e1 : ∀ (W : World) (g : Nat), g = W.heap.size → (convert 50 50 (.slice (some ⟨g, 0, none⟩) 3 3)).run Try.prog (W.alloc (.cells #[.int .u8 97, .int .u8 98, .int .u8 99] 5)) = .ok (.slice (some ⟨g, 0, none⟩) 3 3) (W.alloc (.cells #[.int .u8 97, .int .u8 98, .int .u8 99] 5 (3, 4))) := fun W g hg => conv_one W hg
  have e2 : ∀ (W : World) (o : Obj) (g : Nat), g = W.heap.size → (convert 50 50 (.slice (some ⟨g, 0, none⟩) 3 3)).run Try.prog ((W.alloc (.cells #[.int .u8 97, .int .u8 98, .int .u8 99] 5)).alloc o) = .ok (.slice (some ⟨g, 0, none⟩) 3 3) ((W.alloc (.cells #[.int .u8 97, .int .u8 98, .int .u8 99] 5 (3, 4))).alloc o) := fun W o g hg => conv_two W o hg
  have z1 : ∀ (W : World) (g : Nat), g = W.heap.size → (convert 50 9 (.slice (some ⟨g, 0, none⟩) 14 14)).run Try.prog (W.alloc (.cells ZA 5)) = .ok (.string (strOfNums zz)) (W.alloc (.cells ZA 5)) := fun W g hg => aw_z HZZ.out HZA.out (by subst hg; show (W.heap.push _)[W.heap.size]? = _; simp) (Below.refl _ _)
  have z2 : ∀ (W : World) (o : Obj) (g : Nat), g = W.heap.size → (convert 50 9 (.slice (some ⟨g, 0, none⟩) 14 14)).run Try.prog ((W.alloc (.cells ZA 5)).alloc o) = .ok (.string (strOfNums zz)) ((W.alloc (.cells ZA 5)).alloc o) := fun W o g hg => aw_z (W := W.alloc (.cells ZA 5)) HZZ.out HZA.out (by subst hg; show (W.heap.push _)[W.heap.size]? = _; simp) (wA (Below.refl _ _) o)
  rw [show Op.convert 50 50 (.tmp 64) = cvO 50 50 (.tmp 64) from rfl, show Op.convert 50 9 (.tmp 67) = cvO 50 9 (.tmp 67) from rfl, show Op.convert 50 9 (.tmp 69) = cvO 50 9 (.tmp 69) from rfl]
  go_region_held3 (SA w10 gl b4 A3 c3 t3 q Ad cd) (first | exact HSA.out _ (below_drew (Below.refl _ _)) | (refine HSA.out _ ?_; (repeat (first | exact HW.out | exact HWD.out | apply wA)); done) | (refine HSA.out _ ?_; (repeat (first | exact HWD.out | apply wA)); done)) (first | (go_at_call 37; refine Calls.mono (file_Make.calls (some ⟨_, 0, none⟩) 3 [97, 98, 99] 0 0 0 2 0 none 0 [] m _ (lit_C (xs := [97, 98, 99]) (fr := (3, 4)) ?lit (by decide)) (Nat.le_refl _) (Kd.C_nil _ _) (Nat.zero_le _) H5.out) ?_; (case lit => first | exact al1 _ _ | exact al2 _ _ _ | exact al3 _ _ _); rintro e_ w13 ⟨v11, rfl, ho, hb⟩; obtain ⟨Am, cm, em, lm, gm⟩ := Kd.R_reads ho; subst em; have HW := kA (below_step (SA.h (by assumption)) hb); (try (have hz13 := aw_z (Z := ZA) (gz := wd.heap.size) HZZ.out HZA.out (by first | exact al1 _ _ | exact al2 _ _ _ | exact al3 _ _ _) hb)); (try (have hz13 := aw_z (Z := ZA) (gz := wd.heap.size + 1) HZZ.out HZA.out (by first | exact al1 _ _ | exact al2 _ _ _ | exact al3 _ _ _) hb)); have hcm := Kd.C_string (P := Try.prog) (c := cm) Try.underlying50 Try.underlying5 Try.underlying9 gm; have hcm2 := fun o => Kd.C_string (P := Try.prog) (c := cm) Try.underlying50 Try.underlying5 Try.underlying9 (Kd.C_alloc gm o); clear ho lm gm hb) | (go_at_call 55; with_reducible refine Calls.mono (dir_May.calls k A3 c3 t3 true _ (Kd.C_below C3.out (SA.h (by assumption))) L3.out H6.out) ?_; rintro e_ w15 ⟨rfl, hb⟩; have HW := kA (below_step (SA.h (by assumption)) hb); clear hb))
  all_goals (go_wp2; go_ret; exact ⟨rfl, below_step HB.out HW.out⟩)
def potsherdlaw20_awake.f (k : Nat)  : Option (Bool) := (potsherdlaw20_one.f k).bind fun t1 => (file_Write.f k t1 9 1 15 [120, 121, 122]).bind fun b2 => (file_Done.f k b2.1 b2.2.1 [4, 5]).bind fun b3 => (file_Read.f k b3.1 1 0 99).bind fun b4 => (file_Make.f [97, 98, 99] 0 0 0 2 0 []).bind fun m => if b2.2.2 = 0 ∧ b2.2.1.length = 2 ∧ (rW b2.2.1 1).f1 = 1 ∧ (strOfNums (rW b2.2.1 1).f5).toList = [121, 122] ∧ b3.2 = 0 ∧ b4.2 = 0 ∧ b4.1.length = 2 ∧ 2 + (strOfNums (List.replicate 14 0)).size ≤ 9223372036854775807 ∧ (strOfNums m).toList = ((⟨#[97, 98]⟩ : ByteArray) ++ strOfNums (List.replicate 14 0)).toList then dir_May.f k b3.1 else none
theorem potsherdlaw20_awake.mono : ∀ k, LeO (potsherdlaw20_awake.f k) (potsherdlaw20_awake.f (k + 1)) := fun k => LeO.bind (potsherdlaw20_one.mono k) (fun _ => LeO.bind (file_Write.mono _ _ _ _ _ k) (fun _ => LeO.bind (file_Done.mono _ _ _ k) (fun _ => LeO.bind (file_Read.mono _ _ _ _ k) (fun _ => LeO.bind (LeO.refl _) (fun _ => LeO.ite (dir_May.mono _ k) (LeO.refl _))))))
theorem potsherdlaw20_awake.only (k : Nat) (r : Bool) (h : potsherdlaw20_awake.f k = some r) : r = true := by
 have h1 : potsherdlaw20_awake.f 200 = some true := by decide +kernel
 have h2 := at_rounds potsherdlaw20_awake.mono (Nat.le_max_left k 200) h; have h3 := at_rounds potsherdlaw20_awake.mono (Nat.le_max_right k 200) h1; rw [h2] at h3; exact qI h3
theorem potsherdlaw20_awake.calls (k : Nat)  (r : Bool) (w : World) (h : potsherdlaw20_awake.f k  = some r) :
 Calls Try.prog 33 #[] w fun e w' => e = .returned (.bool r) ∧ Below w.heap.size w w' := by
 obtain rfl := potsherdlaw20_awake.only k r h; exact awake_walk k w h
end Go.Proofs.Ytkigiehkckjlhaa.PReads
