/- The Go functions that these laws reach, each as a Lean function with the same answers (a law itself where it answers true), and the proof that the code comes to them; conditions: those of each theorem. Laid by a program of this session over the print. -/
import Derived.Test.YtkigiehkckjlhaaZReadsPReadsShort
import Derived.Test.YtkigiehkckjlhaaZReadsPReadsx0
import Derived.Test.YtkigiehkckjlhaaZReadsPReadsx18
import Derived.Test.YtkigiehkckjlhaaZReadsPReadsx22
import Derived.Test.YtkigiehkckjlhaaZReadsPReadsx34
namespace Go.Proofs.Ytkigiehkckjlhaa.PReads
open Go.RowKit Go.Proofs.YtkigiehkckjlhaaW.PrintWords Go.Proofs.YtkigiehkckjlhaaW.PrintLast Go.Proofs.YtkigiehkckjlhaaW.PrintMore
attribute [local go_sem] max2_int min2_int max_two min_two max_three min_three max_four min_four   -- for this text's walks alone
set_option linter.unusedVariables false
set_option linter.unusedSimpArgs false
open Go.Proofs.YtkigiehkckjlhaaW.PrintWords renaming blk_drewN → bN, blk_drew → bD, blk_alloc → bA, below_set → wS, below_alloc → wA, pw_below_drewN → wN, below_drew1 → wD, blk_below → bB, blk_far → bF, blk_cell → bC, blk_frozen → bZ
open List renaming setIfInBounds_toArray → lT, set_cons_zero → l0_, set_cons_succ → lS
mutual
def file_Truncate.j0 : Nat → Int → Int → Bool → List (S28) → Option ((List (S28)) × (List (S60)) × Int)
 | 0, _, _, _, _ => none
 | k + 1, x1, x2, x15, x493000 => if x15 = true then (some (([] : List (S28)), ([] : List (S60)), 1)) else (if x2 > 80 then (some (([] : List (S28)), ([] : List (S60)), 16)) else ((dir_Copy.f k x493000).bind fun t495 => (if 0 ≤ x1 then (if x1 < (t495.length : Int) then (if x2 < ((rU t495 x1).f2) then (if (Int.tmod x2 16) > 0 then (if 0 ≤ (wrap64 (Int.tdiv x2 16)) then (if (wrap64 (Int.tdiv x2 16)) < (((rU t495 x1).f3).length : Int) then (file_Truncate.j1 k x1 x2 ([] : List (S60)) (wrap64 (Int.tdiv x2 16)) (Int.tmod x2 16) ((rd ((rU t495 x1).f3) (wrap64 (Int.tdiv x2 16))) != 0) t495) else (none)) else (none)) else (file_Truncate.j1 k x1 x2 ([] : List (S60)) (wrap64 (Int.tdiv x2 16)) (Int.tmod x2 16) false t495)) else (file_Truncate.j1 k x1 x2 ([] : List (S60)) (wrap64 (Int.tdiv x2 16)) (Int.tmod x2 16) false t495)) else (none)) else (none))))
def file_Truncate.j1 : Nat → Int → Int → List (S60) → Int → Int → Bool → List (S28) → Option ((List (S28)) × (List (S60)) × Int)
 | 0, _, _, _, _, _, _, _ => none
 | k + 1, x1, x2, x11, x12, x13, x58, x499000 => if x58 = true then (if 0 ≤ x1 then (if x1 < (x499000.length : Int) then (if 0 ≤ x12 then (if x12 < (((rU x499000 x1).f3).length : Int) then (file_Truncate.j2 k x1 x2 (([(⟨x1, x12, rd ((rU x499000 x1).f3) x12, x13, 0, ([] : List Int)⟩ : S60)] : List (S60))) x499000) else (none)) else (none)) else (none)) else (none)) else (file_Truncate.j2 k x1 x2 x11 x499000)
def file_Truncate.j2 : Nat → Int → Int → List (S60) → List (S28) → Option ((List (S28)) × (List (S60)) × Int)
 | 0, _, _, _, _ => none
 | k + 1, x1, x2, x11, x499000 => if 0 ≤ x1 then (if x1 < (x499000.length : Int) then ((span_Pages.f x2).bind fun t509 => (file_Truncate.l0 k x1 x11 t509 (x499000.set (x1 : Int).toNat (⟨(rU x499000 x1).f0, (rU x499000 x1).f1, x2, (rU x499000 x1).f3, (rU x499000 x1).f4⟩ : S28)))) else (none)) else (none)
def file_Truncate.l0 : Nat → Int → List (S60) → Int → List (S28) → Option ((List (S28)) × (List (S60)) × Int)
 | 0, _, _, _, _ => none
 | k + 1, x1, x11, x14, x499000 => if x14 < 5 then (if 0 ≤ x1 then (if x1 < (x499000.length : Int) then (if 0 ≤ x14 then (if x14 < (((rU x499000 x1).f3).length : Int) then (file_Truncate.l0 k x1 x11 (wrap64 (x14 + 1)) (x499000.set (x1 : Int).toNat (⟨(rU x499000 x1).f0, (rU x499000 x1).f1, (rU x499000 x1).f2, (((rU x499000 x1).f3).set (x14 : Int).toNat 0), (rU x499000 x1).f4⟩ : S28))) else (none)) else (none)) else (none)) else (none)) else (some (x499000, x11, 0))
end
def file_Truncate.f (k : Nat) (l0_0 : List (S28)) (a1 : Int) (a2 : Int) : Option ((List (S28)) × (List (S60)) × Int) := (file_is.f k l0_0 a1).bind fun t494 => (if t494 = true then (file_Truncate.j0 k a1 a2 (decide (a2 < 0)) l0_0) else (none))
theorem file_Truncate.mono_l : ∀ k, (∀ y0 y1 y2 y3, LeO (file_Truncate.j0 k y0 y1 y2 y3) (file_Truncate.j0 (k + 1) y0 y1 y2 y3)) ∧ (∀ y0 y1 y2 y3 y4 y5 y6, LeO (file_Truncate.j1 k y0 y1 y2 y3 y4 y5 y6) (file_Truncate.j1 (k + 1) y0 y1 y2 y3 y4 y5 y6)) ∧ (∀ y0 y1 y2 y3, LeO (file_Truncate.j2 k y0 y1 y2 y3) (file_Truncate.j2 (k + 1) y0 y1 y2 y3)) ∧ (∀ y0 y1 y2 y3, LeO (file_Truncate.l0 k y0 y1 y2 y3) (file_Truncate.l0 (k + 1) y0 y1 y2 y3))
 | 0 => ⟨fun _ _ _ _ r h => by simp [file_Truncate.j0] at h, fun _ _ _ _ _ _ _ r h => by simp [file_Truncate.j1] at h, fun _ _ _ _ r h => by simp [file_Truncate.j2] at h, fun _ _ _ _ r h => by simp [file_Truncate.l0] at h⟩
 | k + 1 => by
  obtain ⟨ih0, ih1, ih2, ih3⟩ := file_Truncate.mono_l k; refine ⟨?_, ?_, ?_, ?_⟩
  ·
   intro y0 y1 y2 y3
   unfold file_Truncate.j0
   repeat' with_reducible first | apply ih0 | apply ih1 | apply ih2 | apply ih3 | apply dir_Copy.mono | apply file_is.mono | exact LeO.refl _ | exact LeO.none _ | refine LeO.ite ?_ ?_ | refine LeO.bind ?_ (fun _ => ?_)
  ·
   intro y0 y1 y2 y3 y4 y5 y6
   unfold file_Truncate.j1
   repeat' with_reducible first | apply ih0 | apply ih1 | apply ih2 | apply ih3 | apply dir_Copy.mono | apply file_is.mono | exact LeO.refl _ | exact LeO.none _ | refine LeO.ite ?_ ?_ | refine LeO.bind ?_ (fun _ => ?_)
  ·
   intro y0 y1 y2 y3
   unfold file_Truncate.j2
   repeat' with_reducible first | apply ih0 | apply ih1 | apply ih2 | apply ih3 | apply dir_Copy.mono | apply file_is.mono | exact LeO.refl _ | exact LeO.none _ | refine LeO.ite ?_ ?_ | refine LeO.bind ?_ (fun _ => ?_)
  ·
   intro y0 y1 y2 y3
   unfold file_Truncate.l0
   repeat' with_reducible first | apply ih0 | apply ih1 | apply ih2 | apply ih3 | apply dir_Copy.mono | apply file_is.mono | exact LeO.refl _ | exact LeO.none _ | refine LeO.ite ?_ ?_ | refine LeO.bind ?_ (fun _ => ?_)
theorem file_Truncate.mono : ∀ a0 a1 a2 k, LeO (file_Truncate.f k a0 a1 a2) (file_Truncate.f (k + 1) a0 a1 a2) := by
 intro a0 a1 a2 k; obtain ⟨ih0, ih1, ih2, ih3⟩ := file_Truncate.mono_l k
 unfold file_Truncate.f
 repeat' with_reducible first | apply ih0 | apply ih1 | apply ih2 | apply ih3 | apply dir_Copy.mono | apply file_is.mono | exact LeO.refl _ | exact LeO.none _ | refine LeO.ite ?_ ?_ | refine LeO.bind ?_ (fun _ => ?_)
set_option maxHeartbeats 8000000 in
set_option maxRecDepth 100000 in
theorem file_Truncate.calls (k : Nat) (A0_0 : Option Addr) (c0_0 : Nat) (l0_0 : List (S28)) (a1 : Int) (a2 : Int) (r1 : List (S28)) (r2 : List (S60)) (r3 : Int) (w : World) (hr0_0 : Kd.C k28 w A0_0 l0_0.length l0_0) (hc0_0 : l0_0.length ≤ c0_0) (h : file_Truncate.f k l0_0 a1 a2 = some (r1, r2, r3)) :
 Calls Try.prog 40 #[.agg #[.slice A0_0 l0_0.length c0_0], .int .i64 a1, .int .i64 a2] w fun e w' => ∃ v0_ v1_ : Value, e = .returned (.tuple #[.agg #[v0_], v1_, .int .i64 r3]) ∧ Kd.S k28 28 w' w.heap.size (fun _ => True) v0_ r1 ∧ Kd.S k60 60 w' w.heap.size (fun _ => True) v1_ r2 ∧ Below w.heap.size w w' := by
 have hu24 := Try.underlying24; have hu60 := Try.underlying60; have HR0_0 := kA hr0_0; have HC0_0 := kA hc0_0; clear hr0_0 hc0_0; have HB := kA (Below.refl w.heap.size w); have H : ((file_is.f k l0_0 a1).bind fun t494 => (if t494 = true then (file_Truncate.j0 k a1 a2 (decide (a2 < 0)) l0_0) else (none))) = some (r1, r2, r3) := h; clear h; have HC4 := kA H; clear H
 go_enter Try.func40, Try.ntmps40
 go_upto_region 1 with (first | ((with_reducible refine gate_dst (N := 3) rfl ?_); refine bxE 24 (cs := #[.slice A0_0 l0_0.length c0_0]) ?_; intro gb492 hg w5 hbox hb; have BK492 := kA hbox; have GW492 := kG HB hg; have GE492 := kG HB hg; replace HB := kH HB hb; clear hb hbox hg) | ((with_reducible refine gate_dst (N := 6) rfl ?_); refine bxE 24 (cs := #[.slice none 0 0]) ?_; intro gb493 hg w6 hbox hb; have BK493 := kA hbox; have GW493 := kG HB hg; have GE493 := kG HB hg; replace HB := kH HB hb; have NB492_493 := kL BK492 hg; have NB493_492 := kQ BK492 hg; replace BK492 := kB BK492 hb; clear hb hbox hg))
 (try simp only [Act.put, lT, l0_, lS])
 go_cut [15] (fun v15 wc => ∃ (kq : Nat) (x15_3 : Bool), v15 = .bool x15_3 ∧ Aside0 (file_Truncate.j0 kq a1 a2 x15_3 l0_0 = some (r1, r2, r3)) ∧ Aside0 (kq ≤ k) ∧ Aside0 (wc.heap[gb492]? = some (.cells #[(.slice A0_0 l0_0.length c0_0)] 24 (0, 0))) ∧ Aside0 (wc.heap[gb493]? = some (.cells #[(.slice none 0 0)] 24 (0, 0))) ∧ Aside0 (Below w.heap.size w wc))
 case first =>
  have H := HC4.out; clear HC4; replace H := qB H; obtain ⟨t494, A70, H⟩ := H; have A7 := kA A70; clear A70
  by_cases c8 : t494 = true
  ·
   subst c8
   have H1 : (file_Truncate.j0 k a1 a2 (decide (a2 < 0)) l0_0) = some (r1, r2, r3) := by rw [if_pos rfl] at H; exact H
   clear H; have H := H1; clear H1; have H' := kA H; clear H; have hnb9 := NB492_493.out; have hnc9 := NB493_492.out; obtain ⟨hcz10_0, hfz10_0⟩ := cY0 BK492
   go_wp2_with (first | ((with_reducible refine gate_callee (f := 56) rfl ?_); refine goesK (some 18) Try.func56 #[.agg #[.slice A0_0 l0_0.length c0_0], .int .i64 a1] ?_; (with_reducible refine (file_is.calls k _ _ l0_0 a1 true _ ?side1 ?side2 A7.out).mono ?_); (case side1 => exact mC HR0_0 HB); (case side2 => exact HC0_0.out); rintro e w11 ⟨rfl, hb⟩; refine ⟨_, rfl, ?_⟩; replace BK492 := kB BK492 hb; replace BK493 := kB BK493 hb; replace HB := kH HB hb; (try clear hb)))
   go_meet
   case rel => exact ⟨_, (decide (a2 < 0)), sI, H', ⟨by first | omega | exact Nat.le_refl _⟩, ⟨mB BK492⟩, ⟨mB BK493⟩, ⟨mH HB⟩⟩
  ·
   replace c8 := Bool.eq_false_iff.mpr c8; subst c8
   have H1 : (none) = some (r1, r2, r3) := by rw [if_neg (show ¬ (false = true) by decide)] at H; exact H
   clear H; have H := H1; clear H1; exact absurd H (by simp)
 case rest =>
  clear HC4
  obtain ⟨kq, x15_3, rfl, HA, HJ3, BK492, BK493, HB⟩ := hcut
  cases kq with
  | zero => exact absurd HA.out (by simp [file_Truncate.j0])
  | succ kj3 =>
   have H := HA.out; clear HA; simp only [file_Truncate.j0] at H
   by_cases c12 : x15_3 = true
   ·
    subst c12
    have H1 : (some (([] : List (S28)), ([] : List (S60)), 1)) = some (r1, r2, r3) := by rw [if_pos rfl] at H; exact H
    clear H; have H := H1; clear H1; simp only [Option.some.injEq, Prod.mk.injEq] at H; obtain ⟨rfl, rfl, rfl⟩ := H; have hnb13 := NB493_492.out; have hnc13 := NB492_493.out; obtain ⟨hcz14_0, hfz14_0⟩ := cY0 BK493
    go_wp2
    refine bodyPost_ret (results_ctt rfl _ _ gb493 24 #[.slice none 0 0] (0, 0) _ rfl (pP BK493) Try.underlying24 rfl (by kernel_rfl)) rfl ?_
    exact ⟨_, _, rT, by first | exact Kd.S_nil _ _ _ _ _ | exact Kd.N_nil _ _ _ _ _ | exact Kd.V_nil _ _ _ _ _ | exact Kd.Q_nil _ _ _ _ _ | exact Kd.R_nil _ _ _ _ _, by first | exact Kd.S_nil _ _ _ _ _ | exact Kd.N_nil _ _ _ _ _ | exact Kd.V_nil _ _ _ _ _ | exact Kd.Q_nil _ _ _ _ _ | exact Kd.R_nil _ _ _ _ _, mH HB⟩
   ·
    replace c12 := Bool.eq_false_iff.mpr c12; subst c12
    have H1 : (if a2 > 80 then (some (([] : List (S28)), ([] : List (S60)), 16)) else ((dir_Copy.f kj3 l0_0).bind fun t495 => (if 0 ≤ a1 then (if a1 < (t495.length : Int) then (if a2 < ((rU t495 a1).f2) then (if (Int.tmod a2 16) > 0 then (if 0 ≤ (wrap64 (Int.tdiv a2 16)) then (if (wrap64 (Int.tdiv a2 16)) < (((rU t495 a1).f3).length : Int) then (file_Truncate.j1 kj3 a1 a2 ([] : List (S60)) (wrap64 (Int.tdiv a2 16)) (Int.tmod a2 16) ((rd ((rU t495 a1).f3) (wrap64 (Int.tdiv a2 16))) != 0) t495) else (none)) else (none)) else (file_Truncate.j1 kj3 a1 a2 ([] : List (S60)) (wrap64 (Int.tdiv a2 16)) (Int.tmod a2 16) false t495)) else (file_Truncate.j1 kj3 a1 a2 ([] : List (S60)) (wrap64 (Int.tdiv a2 16)) (Int.tmod a2 16) false t495)) else (none)) else (none)))) = some (r1, r2, r3) := by rw [if_neg (show ¬ (false = true) by decide)] at H; exact H
    clear H; have H := H1; clear H1
    by_cases c15 : a2 > 80
    ·
     rw [if_pos c15] at H; have c15b0 : decide (80 < a2) = true := qT c15; clear c15; simp only [Option.some.injEq, Prod.mk.injEq] at H; obtain ⟨rfl, rfl, rfl⟩ := H; have hnb16 := NB493_492.out; have hnc16 := NB492_493.out; obtain ⟨hcz17_0, hfz17_0⟩ := cY0 BK493
     go_wp2
     refine bodyPost_ret (results_ctt rfl _ _ gb493 24 #[.slice none 0 0] (0, 0) _ rfl (pP BK493) Try.underlying24 rfl (by kernel_rfl)) rfl ?_
     exact ⟨_, _, rT, by first | exact Kd.S_nil _ _ _ _ _ | exact Kd.N_nil _ _ _ _ _ | exact Kd.V_nil _ _ _ _ _ | exact Kd.Q_nil _ _ _ _ _ | exact Kd.R_nil _ _ _ _ _, by first | exact Kd.S_nil _ _ _ _ _ | exact Kd.N_nil _ _ _ _ _ | exact Kd.V_nil _ _ _ _ _ | exact Kd.Q_nil _ _ _ _ _ | exact Kd.R_nil _ _ _ _ _, mH HB⟩
    ·
     rw [if_neg c15] at H; have c15b0 : decide (80 < a2) = false := qF c15; clear c15; replace H := qB H; obtain ⟨t495, A180, H⟩ := H; have A18 := kA A180; clear A180
     replace H := nP H; obtain ⟨c19, H⟩ := H; have c19b0 := qT c19; clear c19
     replace H := nP H; obtain ⟨c20, H⟩ := H; have c20b0 := qT c20; clear c20; have HC21 := kA H; clear H; have hnb22 := NB492_493.out; have hnc22 := NB493_492.out; obtain ⟨hcz23_0, hfz23_0⟩ := cY0 BK492
     go_upto_region 9 with (first | ((with_reducible refine gate_callee (f := 57) rfl ?_); refine goesK (some 30) Try.func57 #[.agg #[.slice A0_0 l0_0.length c0_0]] ?_; (with_reducible refine (dir_Copy.calls kj3 _ _ l0_0 t495 _ ?side1 ?side2 A18.out).mono ?_); (case side1 => exact mC HR0_0 HB); (case side2 => exact HC0_0.out); rintro e w24 ⟨v496, rfl, ho0, hb⟩; refine ⟨_, rfl, ?_⟩; have HO497 := kA (Kd.S_lower ho0 (below_size (mH HB))); replace BK492 := kB BK492 hb; replace BK493 := kB BK493 hb; replace HB := kH HB hb; (try clear hb); (try clear ho0)) | ((with_reducible refine gate_dst (N := 9) rfl ?_); refine bxE 24 (cs := #[.slice none 0 0]) ?_; intro gb498 hg w25 hbox hb; replace HO497 := kS HO497 hb; have BK498 := kA hbox; have GW498 := kG HB hg; have GE498 := kG HB hg; replace HB := kH HB hb; have NB492_498 := kL BK492 hg; have NB498_492 := kQ BK492 hg; replace BK492 := kB BK492 hb; have NB493_498 := kL BK493 hg; have NB498_493 := kQ BK493 hg; replace BK493 := kB BK493 hb; clear hb hbox hg; obtain ⟨Ao26, co26, eo26⟩ := Kd.S_slice HO497.out; subst eo26; have hnb27 := NB498_492.out; have hnc27 := NB492_498.out; have hnb28 := NB498_493.out; have hnc28 := NB493_498.out; obtain ⟨hcz29_0, hfz29_0⟩ := cY0 BK498) | ((with_reducible refine gate_store (t := 24) (p := 9) rfl ?_); refine store_event (t := 24) (p := 9) (v := ?vo_w30) (w1 := (w25.setCell ⟨gb498, 0, none⟩ (.slice Ao26 t495.length co26))) ?hg ?ho ?hn ?hr ?_; (case ho => rfl); (case hg => rfl); (case hn => rfl); (case hr => first | (go_simp; done) | (go_simp; rfl)); intro w30 hw; have n0_ : Aside0 (Kd.S k28 28 w30 w.heap.size (fun _ => True) (.slice Ao26 t495.length co26) t495) := ⟨(by rw [hw]; exact (fS ⟨Kd.S_types HO497.out BK498.out (by decide)⟩))⟩; have n1_ : Aside0 (w30.heap[gb492]? = some (.cells #[.slice A0_0 l0_0.length c0_0] 24 (0, 0))) := ⟨(by rw [hw]; exact (mF BK492))⟩; have n2_ : Aside0 (w30.heap[gb493]? = some (.cells #[.slice none 0 0] 24 (0, 0))) := ⟨(by rw [hw]; exact (mF BK493))⟩; have n3_ : Aside0 (w30.heap[gb498]? = some (.cells #[.slice Ao26 t495.length co26] 24 (0, 0))) := ⟨(by rw [hw]; exact (pP BK498))⟩; have n4_ : Aside0 (Below w.heap.size w w30) := ⟨(by rw [hw]; exact (mH HB))⟩; clear hw; clear HO497; clear BK492; clear BK493; clear BK498; clear HB; have HO497 := n0_; have BK492 := n1_; have BK493 := n2_; have BK498 := n3_; have HB := n4_; clear n0_ n1_ n2_ n3_ n4_; obtain ⟨hcz31_0, hfz31_0⟩ := cY0 BK498; have p499 : 0 ≤ (a1 : Int) := dT; have q499 : a1 < (t495.length : Int) := dT; obtain ⟨ad499, A499_3, c499_3, A499_4, c499_4, e499, hx499_0, hx499_1, hx499_2, hx499_3, hx499_4, hl499_3, hi499_3, hl499_4, hi499_4⟩ := at_T28 (Kd.S_reads' HO497.out).2.2 a1 p499 q499; cases e499; obtain ⟨ce499, hce499, hMe499, hcc499⟩ := Kd.S_get HO497.out z28 a1 p499 (by first | exact q499 | exact dT | (have e_ := (Kd.S_reads' HO497.out).1; omega)); obtain ⟨ve499_3, ve499_4, rfl, ge499_3, ge499_4⟩ := k28_openM hMe499; have hv499_3 := hcc499 3 _ rfl; rw [add_field _ _ 3 (by omega)] at hv499_3; replace hv499_3 := qI (hv499_3.symm.trans hx499_3); rw [hv499_3] at ge499_3; have HL499_3 := kA (show Kd.R (Kd.int .i64) 3 _ _ _ _ ((rU t495 a1).f3) from ge499_3); clear hv499_3 ge499_3; have HX499_3 := kA hx499_3; have hv499_4 := hcc499 4 _ rfl; rw [add_field _ _ 4 (by omega)] at hv499_4; replace hv499_4 := qI (hv499_4.symm.trans hx499_4); rw [hv499_4] at ge499_4; have HL499_4 := kA (show Kd.R k78 78 _ _ _ _ ((rU t495 a1).f4) from ge499_4); clear hv499_4 ge499_4; have HX499_4 := kA hx499_4; clear hcc499 hce499; have HR499_3 := kA hi499_3; have HC499_3 := kA hl499_3; clear hi499_3 hl499_3; have HR499_4 := kA hi499_4; have HC499_4 := kA hl499_4; clear hi499_4 hl499_4; replace p499 := eq_true p499; replace q499 := eq_true q499))
     (try simp only [Act.put, lT, l0_, lS])
     go_cut [58] (fun v58 wc => ∃ (kq : Nat) (x58_20 : Bool), v58 = .bool x58_20 ∧ Aside0 (file_Truncate.j1 kq a1 a2 ([] : List (S60)) (wrap64 (Int.tdiv a2 16)) (Int.tmod a2 16) x58_20 t495 = some (r1, r2, r3)) ∧ Aside0 (kq ≤ kj3) ∧ Aside0 (Kd.S k60 60 wc w.heap.size (fun _ => True) (.slice none 0 0) ([] : List (S60))) ∧ Aside0 (Kd.S k28 28 wc w.heap.size (fun _ => True) (.slice (some ad499) t495.length co26) t495) ∧ Aside0 (wc.heap[gb492]? = some (.cells #[(.slice A0_0 l0_0.length c0_0)] 24 (0, 0))) ∧ Aside0 (wc.heap[gb493]? = some (.cells #[(.slice none 0 0)] 24 (0, 0))) ∧ Aside0 (wc.heap[gb498]? = some (.cells #[(.slice (some ad499) t495.length co26)] 24 (0, 0))) ∧ Aside0 (Kd.C (Kd.int .i64) wc A499_3 ((rU t495 a1).f3).length ((rU t495 a1).f3)) ∧ Aside0 (Kd.C k78 wc A499_4 ((rU t495 a1).f4).length ((rU t495 a1).f4)) ∧ Aside0 (Below w.heap.size w wc))
     case first =>
      have H := HC21.out; clear HC21
      by_cases c32 : a2 < ((rU t495 a1).f2)
      ·
       rw [if_pos c32] at H; have c32b0 := qT c32; clear c32
       (first | rw [c32b0] | (simp only [i64_w, i32_w]; rw [c32b0]) | skip)
       by_cases c33 : (Int.tmod a2 16) > 0
       ·
        rw [if_pos c33] at H; have c33b0 : decide (0 < (Int.tmod a2 16)) = true := qT c33; clear c33; obtain ⟨ji34, hji34⟩ : ∃ j_ : Int, (wrap64 (Int.tdiv a2 16)) = j_ := ⟨_, rfl⟩
        replace H : (if 0 ≤ (ji34) then (if (ji34) < (((rU t495 a1).f3).length : Int) then (file_Truncate.j1 kj3 a1 a2 ([] : List (S60)) ji34 (Int.tmod a2 16) ((rd ((rU t495 a1).f3) (ji34)) != 0) t495) else (none)) else (none)) = some (r1, r2, r3) := by first | (rw [hji34] at H; exact H) | (simp only [hji34] at H ⊢; exact H)
        have hji34w : (IntKind.i64.wrap (Int.tdiv a2 16)) = ji34 := (i64_w _).trans hji34
        replace H := nP H; obtain ⟨c35, H⟩ := H; have c35b0 := qT c35; clear c35
        replace H := nP H; obtain ⟨c36, H⟩ := H; have c36b0 := qT c36; clear c36; have H' := kA H; clear H; have p500 : 0 ≤ (a1 : Int) := dT; have q500 : a1 < (t495.length : Int) := dT; obtain ⟨ad500, A500_3, c500_3, A500_4, c500_4, e500, hx500_0, hx500_1, hx500_2, hx500_3, hx500_4, hl500_3, hi500_3, hl500_4, hi500_4⟩ := at_T28 (Kd.S_reads' HO497.out).2.2 a1 p500 q500; obtain rfl : ad499 = ad500 := (by injection e500); obtain ⟨ce500, hce500, hMe500, hcc500⟩ := Kd.S_get HO497.out z28 a1 p500 (by first | exact q500 | exact dT | (have e_ := (Kd.S_reads' HO497.out).1; omega))
        obtain ⟨ve500_3, ve500_4, rfl, ge500_3, ge500_4⟩ := k28_openM hMe500; have hv500_3 := hcc500 3 _ rfl; rw [add_field _ _ 3 (by omega)] at hv500_3; replace hv500_3 := qI (hv500_3.symm.trans hx500_3); rw [hv500_3] at ge500_3; have HL500_3 := kA (show Kd.R (Kd.int .i64) 3 _ _ _ _ ((rU t495 a1).f3) from ge500_3); clear hv500_3 ge500_3; have HX500_3 := kA hx500_3; have hv500_4 := hcc500 4 _ rfl; rw [add_field _ _ 4 (by omega)] at hv500_4; replace hv500_4 := qI (hv500_4.symm.trans hx500_4); rw [hv500_4] at ge500_4; have HL500_4 := kA (show Kd.R k78 78 _ _ _ _ ((rU t495 a1).f4) from ge500_4); clear hv500_4 ge500_4; have HX500_4 := kA hx500_4; clear hcc500 hce500; have HR500_3 := kA hi500_3; have HC500_3 := kA hl500_3; clear hi500_3 hl500_3; have HR500_4 := kA hi500_4; have HC500_4 := kA hl500_4; clear hi500_4 hl500_4; replace p500 := eq_true p500; replace q500 := eq_true q500; have p501 : 0 ≤ (a1 : Int) := dT; have q501 : a1 < (t495.length : Int) := dT; obtain ⟨ad501, A501_3, c501_3, A501_4, c501_4, e501, hx501_0, hx501_1, hx501_2, hx501_3, hx501_4, hl501_3, hi501_3, hl501_4, hi501_4⟩ := at_T28 (Kd.S_reads' HO497.out).2.2 a1 p501 q501; obtain rfl : ad499 = ad501 := (by injection e501); obtain ⟨ce501, hce501, hMe501, hcc501⟩ := Kd.S_get HO497.out z28 a1 p501 (by first | exact q501 | exact dT | (have e_ := (Kd.S_reads' HO497.out).1; omega))
        obtain ⟨ve501_3, ve501_4, rfl, ge501_3, ge501_4⟩ := k28_openM hMe501; have hv501_3 := hcc501 3 _ rfl; rw [add_field _ _ 3 (by omega)] at hv501_3; replace hv501_3 := qI (hv501_3.symm.trans hx501_3); rw [hv501_3] at ge501_3; have HL501_3 := kA (show Kd.R (Kd.int .i64) 3 _ _ _ _ ((rU t495 a1).f3) from ge501_3); clear hv501_3 ge501_3; have HX501_3 := kA hx501_3; have hv501_4 := hcc501 4 _ rfl; rw [add_field _ _ 4 (by omega)] at hv501_4; replace hv501_4 := qI (hv501_4.symm.trans hx501_4); rw [hv501_4] at ge501_4; have HL501_4 := kA (show Kd.R k78 78 _ _ _ _ ((rU t495 a1).f4) from ge501_4); clear hv501_4 ge501_4; have HX501_4 := kA hx501_4; clear hcc501 hce501; have HR501_3 := kA hi501_3; have HC501_3 := kA hl501_3; clear hi501_3 hl501_3; have HR501_4 := kA hi501_4; have HC501_4 := kA hl501_4; clear hi501_4 hl501_4; replace p501 := eq_true p501; replace q501 := eq_true q501; have ea_ := qI (hx500_3.symm.trans hx501_3)
        injection ea_ with ea_ en_ ec_
        subst ea_; subst ec_; clear en_; have ea_ := qI (hx500_4.symm.trans hx501_4)
        injection ea_ with ea_ en_ ec_
        subst ea_; subst ec_; clear en_; have ea_ := qI (hx499_3.symm.trans hx500_3)
        injection ea_ with ea_ en_ ec_
        subst ea_; subst ec_; clear en_; have ea_ := qI (hx499_4.symm.trans hx500_4)
        injection ea_ with ea_ en_ ec_
        subst ea_; subst ec_; clear en_; have p502 : 0 ≤ ((ji34) : Int) := dT; have q502 : (ji34) < (((rU t495 a1).f3).length : Int) := dT; obtain ⟨ad502, e502, hx502_0⟩ := Kd.at_int (by repeat (first | (with_reducible exact HR501_3.out) | (with_reducible refine Kd.C_alloc ?_ _) | (with_reducible refine Kd.C_drewN ?_ _) | (with_reducible refine Kd.C_drew ?_) | exact HR501_3.out)) (ji34) p502 q502
        cases e502
        replace p502 := eq_true p502; replace q502 := eq_true q502
        go_wp2
        subst hji34
        go_meet
        case rel => exact ⟨_, (((rd ((rU t495 a1).f3) (wrap64 (Int.tdiv a2 16))) != 0)), (by first | rfl | (simp; done) | (simp only [← hji34] <;> (first | rfl | simp)) | (simp [*]; done)), H', ⟨by have := HJ3.out; first | omega | exact Nat.le_refl _⟩, ⟨by first | exact Kd.S_nil _ _ _ _ _ | exact Kd.N_nil _ _ _ _ _ | exact Kd.V_nil _ _ _ _ _ | exact Kd.Q_nil _ _ _ _ _ | exact Kd.R_nil _ _ _ _ _⟩, ⟨mS HO497⟩, ⟨mB BK492⟩, ⟨mB BK493⟩, ⟨mB BK498⟩, ⟨by repeat (first | (with_reducible exact HR499_3.out) | (with_reducible refine Kd.C_alloc ?_ _) | (with_reducible refine Kd.C_drewN ?_ _) | (with_reducible refine Kd.C_drew ?_) | exact HR499_3.out)⟩, ⟨by repeat (first | (with_reducible exact HR499_4.out) | (with_reducible refine Kd.C_alloc ?_ _) | (with_reducible refine Kd.C_drewN ?_ _) | (with_reducible refine Kd.C_drew ?_) | exact HR499_4.out)⟩, ⟨mH HB⟩⟩
       ·
        rw [if_neg c33] at H; have c33b0 : decide (0 < (Int.tmod a2 16)) = false := qF c33; clear c33; have H' := kA H; clear H; have p500 : 0 ≤ (a1 : Int) := dT; have q500 : a1 < (t495.length : Int) := dT; obtain ⟨ad500, A500_3, c500_3, A500_4, c500_4, e500, hx500_0, hx500_1, hx500_2, hx500_3, hx500_4, hl500_3, hi500_3, hl500_4, hi500_4⟩ := at_T28 (Kd.S_reads' HO497.out).2.2 a1 p500 q500; obtain rfl : ad499 = ad500 := (by injection e500); obtain ⟨ce500, hce500, hMe500, hcc500⟩ := Kd.S_get HO497.out z28 a1 p500 (by first | exact q500 | exact dT | (have e_ := (Kd.S_reads' HO497.out).1; omega))
        obtain ⟨ve500_3, ve500_4, rfl, ge500_3, ge500_4⟩ := k28_openM hMe500; have hv500_3 := hcc500 3 _ rfl; rw [add_field _ _ 3 (by omega)] at hv500_3; replace hv500_3 := qI (hv500_3.symm.trans hx500_3); rw [hv500_3] at ge500_3; have HL500_3 := kA (show Kd.R (Kd.int .i64) 3 _ _ _ _ ((rU t495 a1).f3) from ge500_3); clear hv500_3 ge500_3; have HX500_3 := kA hx500_3; have hv500_4 := hcc500 4 _ rfl; rw [add_field _ _ 4 (by omega)] at hv500_4; replace hv500_4 := qI (hv500_4.symm.trans hx500_4); rw [hv500_4] at ge500_4; have HL500_4 := kA (show Kd.R k78 78 _ _ _ _ ((rU t495 a1).f4) from ge500_4); clear hv500_4 ge500_4; have HX500_4 := kA hx500_4; clear hcc500 hce500; have HR500_3 := kA hi500_3; have HC500_3 := kA hl500_3; clear hi500_3 hl500_3; have HR500_4 := kA hi500_4; have HC500_4 := kA hl500_4; clear hi500_4 hl500_4; replace p500 := eq_true p500; replace q500 := eq_true q500
        go_wp2
        go_meet
        case rel => exact ⟨_, (false), sI, H', ⟨by have := HJ3.out; first | omega | exact Nat.le_refl _⟩, ⟨by first | exact Kd.S_nil _ _ _ _ _ | exact Kd.N_nil _ _ _ _ _ | exact Kd.V_nil _ _ _ _ _ | exact Kd.Q_nil _ _ _ _ _ | exact Kd.R_nil _ _ _ _ _⟩, ⟨mS HO497⟩, ⟨mB BK492⟩, ⟨mB BK493⟩, ⟨mB BK498⟩, ⟨by repeat (first | (with_reducible exact HR499_3.out) | (with_reducible refine Kd.C_alloc ?_ _) | (with_reducible refine Kd.C_drewN ?_ _) | (with_reducible refine Kd.C_drew ?_) | exact HR499_3.out)⟩, ⟨by repeat (first | (with_reducible exact HR499_4.out) | (with_reducible refine Kd.C_alloc ?_ _) | (with_reducible refine Kd.C_drewN ?_ _) | (with_reducible refine Kd.C_drew ?_) | exact HR499_4.out)⟩, ⟨mH HB⟩⟩
      ·
       rw [if_neg c32] at H; have c32b0 := qF c32; clear c32
       (first | rw [c32b0] | (simp only [i64_w, i32_w]; rw [c32b0]) | skip)
       have H' := kA H; clear H; have p500 : 0 ≤ (a1 : Int) := dT; have q500 : a1 < (t495.length : Int) := dT; obtain ⟨ad500, A500_3, c500_3, A500_4, c500_4, e500, hx500_0, hx500_1, hx500_2, hx500_3, hx500_4, hl500_3, hi500_3, hl500_4, hi500_4⟩ := at_T28 (Kd.S_reads' HO497.out).2.2 a1 p500 q500; obtain rfl : ad499 = ad500 := (by injection e500); obtain ⟨ce500, hce500, hMe500, hcc500⟩ := Kd.S_get HO497.out z28 a1 p500 (by first | exact q500 | exact dT | (have e_ := (Kd.S_reads' HO497.out).1; omega))
       obtain ⟨ve500_3, ve500_4, rfl, ge500_3, ge500_4⟩ := k28_openM hMe500; have hv500_3 := hcc500 3 _ rfl; rw [add_field _ _ 3 (by omega)] at hv500_3; replace hv500_3 := qI (hv500_3.symm.trans hx500_3); rw [hv500_3] at ge500_3; have HL500_3 := kA (show Kd.R (Kd.int .i64) 3 _ _ _ _ ((rU t495 a1).f3) from ge500_3); clear hv500_3 ge500_3; have HX500_3 := kA hx500_3; have hv500_4 := hcc500 4 _ rfl; rw [add_field _ _ 4 (by omega)] at hv500_4; replace hv500_4 := qI (hv500_4.symm.trans hx500_4); rw [hv500_4] at ge500_4; have HL500_4 := kA (show Kd.R k78 78 _ _ _ _ ((rU t495 a1).f4) from ge500_4); clear hv500_4 ge500_4; have HX500_4 := kA hx500_4; clear hcc500 hce500; have HR500_3 := kA hi500_3; have HC500_3 := kA hl500_3; clear hi500_3 hl500_3; have HR500_4 := kA hi500_4; have HC500_4 := kA hl500_4; clear hi500_4 hl500_4; replace p500 := eq_true p500; replace q500 := eq_true q500
       go_wp2
       go_meet
       case rel => exact ⟨_, (false), sI, H', ⟨by have := HJ3.out; first | omega | exact Nat.le_refl _⟩, ⟨by first | exact Kd.S_nil _ _ _ _ _ | exact Kd.N_nil _ _ _ _ _ | exact Kd.V_nil _ _ _ _ _ | exact Kd.Q_nil _ _ _ _ _ | exact Kd.R_nil _ _ _ _ _⟩, ⟨mS HO497⟩, ⟨mB BK492⟩, ⟨mB BK493⟩, ⟨mB BK498⟩, ⟨by repeat (first | (with_reducible exact HR499_3.out) | (with_reducible refine Kd.C_alloc ?_ _) | (with_reducible refine Kd.C_drewN ?_ _) | (with_reducible refine Kd.C_drew ?_) | exact HR499_3.out)⟩, ⟨by repeat (first | (with_reducible exact HR499_4.out) | (with_reducible refine Kd.C_alloc ?_ _) | (with_reducible refine Kd.C_drewN ?_ _) | (with_reducible refine Kd.C_drew ?_) | exact HR499_4.out)⟩, ⟨mH HB⟩⟩
     case rest =>
      clear HC21
      (try clear c12); (try clear c15); (try clear c15b0); (try clear c19); (try clear c19b0); (try clear c20); (try clear c20b0); (try clear hcz23_0); (try clear hcz29_0); (try clear hcz31_0); (try clear hfz23_0); (try clear hfz29_0); (try clear hfz31_0); (try clear hx499_0); (try clear hx499_1); (try clear hx499_2); (try clear hx499_3); (try clear hx499_4); (try clear p499); (try clear q499)
      obtain ⟨kq, x58_20, rfl, HA, HJ20, HO_11, HO_499000, BK492, BK493, BK498, HR499_3, HR499_4, HB⟩ := hcut
      cases kq with
      | zero => exact absurd HA.out (by simp [file_Truncate.j1])
      | succ kj20 =>
       have H := HA.out; clear HA; simp only [file_Truncate.j1] at H; have HC37 := kA H; clear H
       go_upto_if 58 with (fail)
       go_cut [11] (fun v11 wc => ∃ (kq : Nat) (x11_36 : List (S60)), Aside0 (file_Truncate.j2 kq a1 a2 x11_36 t495 = some (r1, r2, r3)) ∧ Aside0 (kq ≤ kj20) ∧ Aside0 (Kd.S k60 60 wc w.heap.size (fun _ => True) v11 x11_36) ∧ Aside0 (Kd.S k28 28 wc w.heap.size (fun _ => True) (.slice (some ad499) t495.length co26) t495) ∧ Aside0 (wc.heap[gb492]? = some (.cells #[(.slice A0_0 l0_0.length c0_0)] 24 (0, 0))) ∧ Aside0 (wc.heap[gb493]? = some (.cells #[(.slice none 0 0)] 24 (0, 0))) ∧ Aside0 (wc.heap[gb498]? = some (.cells #[(.slice (some ad499) t495.length co26)] 24 (0, 0))) ∧ Aside0 (Kd.C (Kd.int .i64) wc A499_3 ((rU t495 a1).f3).length ((rU t495 a1).f3)) ∧ Aside0 (Kd.C k78 wc A499_4 ((rU t495 a1).f4).length ((rU t495 a1).f4)) ∧ Aside0 (Below w.heap.size w wc))
       case first =>
        have H := HC37.out; clear HC37
        by_cases c38 : x58_20 = true
        ·
         subst c38
         have H1 : (if 0 ≤ a1 then (if a1 < (t495.length : Int) then (if 0 ≤ (wrap64 (Int.tdiv a2 16)) then (if (wrap64 (Int.tdiv a2 16)) < (((rU t495 a1).f3).length : Int) then (file_Truncate.j2 kj20 a1 a2 (([(⟨a1, (wrap64 (Int.tdiv a2 16)), rd ((rU t495 a1).f3) (wrap64 (Int.tdiv a2 16)), (Int.tmod a2 16), 0, ([] : List Int)⟩ : S60)] : List (S60))) t495) else (none)) else (none)) else (none)) else (none)) = some (r1, r2, r3) := by rw [if_pos rfl] at H; exact H
         clear H; have H := H1; clear H1
         replace H := nP H; obtain ⟨c39, H⟩ := H; have c39b0 := qT c39; clear c39
         (first | rw [c39b0] | (simp only [i64_w, i32_w]; rw [c39b0]) | skip)
         replace H := nP H; obtain ⟨c40, H⟩ := H; have c40b0 := qT c40; clear c40; obtain ⟨ji41, hji41⟩ : ∃ j_ : Int, (wrap64 (Int.tdiv a2 16)) = j_ := ⟨_, rfl⟩
         replace H : (if 0 ≤ (ji41) then (if (ji41) < (((rU t495 a1).f3).length : Int) then (file_Truncate.j2 kj20 a1 a2 (([(⟨a1, (ji41), rd ((rU t495 a1).f3) (ji41), (Int.tmod a2 16), 0, ([] : List Int)⟩ : S60)] : List (S60))) t495) else (none)) else (none)) = some (r1, r2, r3) := by first | (rw [hji41] at H; exact H) | (simp only [hji41] at H ⊢; exact H)
         have hji41w : (IntKind.i64.wrap (Int.tdiv a2 16)) = ji41 := (i64_w _).trans hji41
         replace H := nP H; obtain ⟨c42, H⟩ := H; have c42b0 := qT c42; clear c42
         replace H := nP H; obtain ⟨c43, H⟩ := H; have c43b0 := qT c43; clear c43; obtain ⟨y505, hy505⟩ : ∃ y_ : List (S60), y_ = (([(⟨a1, (ji41), rd ((rU t495 a1).f3) (ji41), (Int.tmod a2 16), 0, ([] : List Int)⟩ : S60)] : List (S60))) := ⟨_, rfl⟩
         replace H : (file_Truncate.j2 kj20 a1 a2 y505 t495) = some (r1, r2, r3) := rH H hy505
         have Ny505 := kA hy505; clear hy505; have H' := kA H; clear H; have p503 : 0 ≤ (a1 : Int) := dT; have q503 : a1 < (t495.length : Int) := dT; obtain ⟨ad503, A503_3, c503_3, A503_4, c503_4, e503, hx503_0, hx503_1, hx503_2, hx503_3, hx503_4, hl503_3, hi503_3, hl503_4, hi503_4⟩ := at_T28 (Kd.S_reads' HO_499000.out).2.2 a1 p503 q503; obtain rfl : ad499 = ad503 := (by injection e503); obtain ⟨ce503, hce503, hMe503, hcc503⟩ := Kd.S_get HO_499000.out z28 a1 p503 (by first | exact q503 | exact dT | (have e_ := (Kd.S_reads' HO_499000.out).1; omega))
         obtain ⟨ve503_3, ve503_4, rfl, ge503_3, ge503_4⟩ := k28_openM hMe503; have hv503_3 := hcc503 3 _ rfl; rw [add_field _ _ 3 (by omega)] at hv503_3; replace hv503_3 := qI (hv503_3.symm.trans hx503_3); rw [hv503_3] at ge503_3; have HL503_3 := kA (show Kd.R (Kd.int .i64) 3 _ _ _ _ ((rU t495 a1).f3) from ge503_3); clear hv503_3 ge503_3; have HX503_3 := kA hx503_3; have hv503_4 := hcc503 4 _ rfl; rw [add_field _ _ 4 (by omega)] at hv503_4; replace hv503_4 := qI (hv503_4.symm.trans hx503_4); rw [hv503_4] at ge503_4; have HL503_4 := kA (show Kd.R k78 78 _ _ _ _ ((rU t495 a1).f4) from ge503_4); clear hv503_4 ge503_4; have HX503_4 := kA hx503_4; clear hcc503 hce503; have HR503_3 := kA hi503_3; have HC503_3 := kA hl503_3; clear hi503_3 hl503_3; have HR503_4 := kA hi503_4; have HC503_4 := kA hl503_4; clear hi503_4 hl503_4; replace p503 := eq_true p503; replace q503 := eq_true q503; have p504 : 0 ≤ ((ji41) : Int) := dT; have q504 : (ji41) < (((rU t495 a1).f3).length : Int) := dT; obtain ⟨ad504, e504, hx504_0⟩ := Kd.at_int (by repeat (first | (with_reducible exact HR503_3.out) | (with_reducible refine Kd.C_alloc ?_ _) | (with_reducible refine Kd.C_drewN ?_ _) | (with_reducible refine Kd.C_drew ?_) | exact HR503_3.out)) (ji41) p504 q504
         cases e504
         replace p504 := eq_true p504; replace q504 := eq_true q504
         go_wp2_with (first | ((with_reducible refine gate_dst (N := 70) rfl ?_); refine Kd.S_lit k60 _ 60 ?hg (N := 70) ?hd (xs := ([(⟨a1, (ji41), rd ((rU t495 a1).f3) (ji41), (Int.tmod a2 16), 0, ([] : List Int)⟩ : S60)] : List (S60))) (inner := [.int .i64 a1, .int .i64 (ji41), .int .i64 (rd ((rU t495 a1).f3) (ji41)), .int .i64 (Int.tmod a2 16), .int .i64 0, .slice none 0 0]) (ok := fun _ => True) (okp := fun _ => True) ?hr ?hp (fun _ hk => hk) trivial (Below.refl _ _) (Nat.le_refl _) (by simp) ?_; (case hd => rfl); (case hg => rfl); (case hr => first | (go_simp; done) | (go_simp; rfl)); (case hp => exact (Reps.c6 (show Kd.M k60 _ _ _ (⟨a1, (ji41), rd ((rU t495 a1).f3) (ji41), (Int.tmod a2 16), 0, ([] : List Int)⟩ : S60) [.int .i64 a1, .int .i64 (ji41), .int .i64 (rd ((rU t495 a1).f3) (ji41)), .int .i64 (Int.tmod a2 16), .int .i64 0, .slice none 0 0] from (k60_mkM _ _ _ (⟨a1, (ji41), rd ((rU t495 a1).f3) (ji41), (Int.tmod a2 16), 0, ([] : List Int)⟩ : S60) (Kd.R_nil _ _ _ _ _))) (Reps.none _ _))); intro v506 w44 ho45 hb hg_ hnew_; clear hg_ hnew_; (first | rw [← Ny505.out] at ho45 | (simp only [Int.reduceToNat] at ho45; rw [← Ny505.out] at ho45)); replace HO_499000 := kS HO_499000 hb; replace HL503_3 := kR HL503_3 hb; replace HL503_4 := kR HL503_4 hb; have HO507 := kA (Kd.S_lower (Kd.S_new' ho45 (Kd.S_lt (mS HO_11))) (below_size (mH HB))); replace HO_11 := kA (Kd.S_elder' (mS HO_11) (Kd.S_base ho45) hb); replace BK492 := kB BK492 hb; replace BK493 := kB BK493 hb; replace BK498 := kB BK498 hb; replace HR499_3 := kA (Kd.C_below (by repeat (first | (with_reducible exact HR499_3.out) | (with_reducible refine Kd.C_alloc ?_ _) | (with_reducible refine Kd.C_drewN ?_ _) | (with_reducible refine Kd.C_drew ?_) | exact HR499_3.out)) hb); replace HR499_4 := kA (Kd.C_below (by repeat (first | (with_reducible exact HR499_4.out) | (with_reducible refine Kd.C_alloc ?_ _) | (with_reducible refine Kd.C_drewN ?_ _) | (with_reducible refine Kd.C_drew ?_) | exact HR499_4.out)) hb); replace HR503_3 := kA (Kd.C_below (by repeat (first | (with_reducible exact HR503_3.out) | (with_reducible refine Kd.C_alloc ?_ _) | (with_reducible refine Kd.C_drewN ?_ _) | (with_reducible refine Kd.C_drew ?_) | exact HR503_3.out)) hb); replace HX503_3 := kA (pw_cell_below hb HX503_3.out); replace HR503_4 := kA (Kd.C_below (by repeat (first | (with_reducible exact HR503_4.out) | (with_reducible refine Kd.C_alloc ?_ _) | (with_reducible refine Kd.C_drewN ?_ _) | (with_reducible refine Kd.C_drew ?_) | exact HR503_4.out)) hb); replace HX503_4 := kA (pw_cell_below hb HX503_4.out); replace HB := kH HB hb; clear hb ho45))
         subst hji41
         go_meet
         case rel => exact ⟨_, (y505), H', ⟨by have := HJ3.out; have := HJ20.out; first | omega | exact Nat.le_refl _⟩, ⟨by (with_reducible repeat (first | apply Kd.S_alloc | apply Kd.S_drewN | apply Kd.S_drew)); exact Kd.S_mono HO507.out (fun _ hk => trivial)⟩, ⟨mS HO_499000⟩, ⟨mB BK492⟩, ⟨mB BK493⟩, ⟨mB BK498⟩, ⟨by repeat (first | (with_reducible exact HR499_3.out) | (with_reducible refine Kd.C_alloc ?_ _) | (with_reducible refine Kd.C_drewN ?_ _) | (with_reducible refine Kd.C_drew ?_) | exact HR499_3.out)⟩, ⟨by repeat (first | (with_reducible exact HR499_4.out) | (with_reducible refine Kd.C_alloc ?_ _) | (with_reducible refine Kd.C_drewN ?_ _) | (with_reducible refine Kd.C_drew ?_) | exact HR499_4.out)⟩, ⟨mH HB⟩⟩
        ·
         replace c38 := Bool.eq_false_iff.mpr c38; subst c38
         have H1 : (file_Truncate.j2 kj20 a1 a2 ([] : List (S60)) t495) = some (r1, r2, r3) := by rw [if_neg (show ¬ (false = true) by decide)] at H; exact H
         clear H; have H := H1; clear H1; have H' := kA H; clear H
         go_wp2
         go_meet
         case rel => exact ⟨_, (([] : List (S60))), H', ⟨by have := HJ3.out; have := HJ20.out; first | omega | exact Nat.le_refl _⟩, ⟨mS HO_11⟩, ⟨mS HO_499000⟩, ⟨mB BK492⟩, ⟨mB BK493⟩, ⟨mB BK498⟩, ⟨by repeat (first | (with_reducible exact HR499_3.out) | (with_reducible refine Kd.C_alloc ?_ _) | (with_reducible refine Kd.C_drewN ?_ _) | (with_reducible refine Kd.C_drew ?_) | exact HR499_3.out)⟩, ⟨by repeat (first | (with_reducible exact HR499_4.out) | (with_reducible refine Kd.C_alloc ?_ _) | (with_reducible refine Kd.C_drewN ?_ _) | (with_reducible refine Kd.C_drew ?_) | exact HR499_4.out)⟩, ⟨mH HB⟩⟩
       case rest =>
        clear HC37
        (try clear c12); (try clear c15); (try clear c15b0); (try clear c19); (try clear c19b0); (try clear c20); (try clear c20b0); (try clear hcz23_0); (try clear hcz29_0); (try clear hcz31_0); (try clear hfz23_0); (try clear hfz29_0); (try clear hfz31_0); (try clear hx499_0); (try clear hx499_1); (try clear hx499_2); (try clear hx499_3); (try clear hx499_4); (try clear p499); (try clear q499)
        obtain ⟨kq, x11_36, HA, HJ36, HO_11, HO_499000, BK492, BK493, BK498, HR499_3, HR499_4, HB⟩ := hcut
        cases kq with
        | zero => exact absurd HA.out (by simp [file_Truncate.j2])
        | succ kj36 =>
         have H := HA.out; clear HA; simp only [file_Truncate.j2] at H
         replace H := nP H; obtain ⟨c46, H⟩ := H; have c46b0 := qT c46; clear c46
         replace H := nP H; obtain ⟨c47, H⟩ := H; have c47b0 := qT c47; clear c47; obtain ⟨y508, hy508⟩ : ∃ y_ : List (S28), y_ = (t495.set (a1 : Int).toNat (⟨(rU t495 a1).f0, (rU t495 a1).f1, a2, (rU t495 a1).f3, (rU t495 a1).f4⟩ : S28)) := ⟨_, rfl⟩
         replace H : ((span_Pages.f a2).bind fun t509 => (file_Truncate.l0 kj36 a1 x11_36 t509 y508)) = some (r1, r2, r3) := rH H hy508
         have Ny508 := kA hy508; clear hy508; replace H := qB H; obtain ⟨t509, A490, H⟩ := H; have A49 := kA A490; clear A490; have H' := kA H; clear H; have p48 : 0 ≤ (a1 : Int) := dT; have q48 : (a1 : Int) < ((t495.length : Int) : Int) := dT; obtain ⟨go48, co48, eo48, gb48, gl48, cl48, HG48⟩ := Kd.S_form HO_499000.out (by omega)
         (first | cases eo48 | (injection eo48 with ea_ en_ ec_; (first | subst ea_ | (injection ea_ with ea_; subst ea_)); subst ec_; clear en_))
         have GB48 := kA gb48; have GG48 := kA HG48; clear gb48 gl48 HG48
         (first | simp only [add_plain] at hx499_0 | skip)
         (first | simp only [add_plain] at hx499_1 | skip)
         (first | simp only [add_plain] at hx499_2 | skip)
         (first | simp only [add_plain] at hx499_3 | skip)
         (first | simp only [add_plain] at hx499_4 | skip)
         (first | simp only [add_plain] at hx500_0 | skip)
         (first | simp only [add_plain] at hx500_1 | skip)
         (first | simp only [add_plain] at hx500_2 | skip)
         (first | simp only [add_plain] at hx500_3 | skip)
         (first | simp only [add_plain] at hx500_4 | skip)
         (first | simp only [add_plain] at hx501_0 | skip)
         (first | simp only [add_plain] at hx501_1 | skip)
         (first | simp only [add_plain] at hx501_2 | skip)
         (first | simp only [add_plain] at hx501_3 | skip)
         (first | simp only [add_plain] at hx501_4 | skip)
         (first | simp only [add_plain] at hx503_0 | skip)
         (first | simp only [add_plain] at hx503_1 | skip)
         (first | simp only [add_plain] at hx503_2 | skip)
         (first | simp only [add_plain] at hx503_3 | skip)
         (first | simp only [add_plain] at hx503_4 | skip)
         obtain ⟨_, ce48, hcl48, hM48, hcc48, hfr48, _, _⟩ := Kd.S_elem HO_499000.out z28 (a1 : Int) p48 q48; obtain ⟨ve48_3, ve48_4, rfl, ge48_3, ge48_4⟩ := k28_openM hM48; have hx48_0 : wc.cell? ⟨go48, (a1 : Int).toNat * 5, none⟩ = some (.int .i64 ((rU t495 a1).f0)) := hcc48 0 _ rfl; have hx48_1 : wc.cell? ⟨go48, (a1 : Int).toNat * 5 + 1, none⟩ = some (.int .i64 ((rU t495 a1).f1)) := hcc48 1 _ rfl; have hx48_2 : wc.cell? ⟨go48, (a1 : Int).toNat * 5 + 2, none⟩ = some (.int .i64 ((rU t495 a1).f2)) := hcc48 2 _ rfl; have hx48_3 : wc.cell? ⟨go48, (a1 : Int).toNat * 5 + 3, none⟩ = some (ve48_3) := hcc48 3 _ rfl; have hx48_4 : wc.cell? ⟨go48, (a1 : Int).toNat * 5 + 4, none⟩ = some (ve48_4) := hcc48 4 _ rfl; have hf48_0 : wc.frozen? ⟨go48, (a1 : Int).toNat * 5, none⟩ = false := hfr48 0; have hf48_1 : wc.frozen? ⟨go48, (a1 : Int).toNat * 5 + 1, none⟩ = false := hfr48 1; have hf48_2 : wc.frozen? ⟨go48, (a1 : Int).toNat * 5 + 2, none⟩ = false := hfr48 2; have hf48_3 : wc.frozen? ⟨go48, (a1 : Int).toNat * 5 + 3, none⟩ = false := hfr48 3; have hf48_4 : wc.frozen? ⟨go48, (a1 : Int).toNat * 5 + 4, none⟩ = false := hfr48 4; clear hcl48 hcc48 hfr48 hM48; replace p48 := eq_true p48; replace q48 := eq_true q48; have HX50 := kA (show Kd.S k28 28 wc w.heap.size (fun k_ => ((fun _ => True)) k_ ∧ ¬ ((fun _ => False)) k_) (.slice (some ⟨go48, 0, none⟩) t495.length co26) t495 from (by (with_reducible repeat (first | apply Kd.S_alloc | apply Kd.S_drewN | apply Kd.S_drew)); exact Kd.S_mono HO_499000.out (fun k_ hk => ⟨trivial, fun e_ => e_⟩)))
         obtain ⟨oki50, ce50, hcl50, hM50, hcc50, hfr50, hoki50, hH50⟩ := Kd.S_elem HX50.out z28 (a1 : Int) (dT) (by have h_ : (a1 : Int) < ((t495.length : Int) : Int) := dT; first | exact h_ | (have e_ := (Kd.S_reads' HO_499000.out).1; omega) | simpa using h_)
         obtain ⟨ve50_3, ve50_4, rfl, ge50_3, ge50_4⟩ := k28_openM hM50; have HP50 := Kd.S_seg hH50 (dT) (by have h_ : (a1 : Int) < ((t495.length : Int) : Int) := dT; first | exact h_ | (have e_ := (Kd.S_reads' HO_499000.out).1; omega) | simpa using h_) (seg := [.int .i64 a2]) (j := 2) (show 3 ≤ 5 from by decide) (x' := (⟨(rU t495 a1).f0, (rU t495 a1).f1, a2, (rU t495 a1).f3, (rU t495 a1).f4⟩ : S28)) (k28_mkM _ _ _ (⟨(rU t495 a1).f0, (rU t495 a1).f1, a2, (rU t495 a1).f3, (rU t495 a1).f4⟩ : S28) (Kd.R_mono ge50_3 (fun _ h_ => Or.inl h_)) (Kd.R_mono ge50_4 (fun _ h_ => Or.inl h_))) (fun _ hk => hk) (fun k_ hk_ => hk_.elim)
         have hx50_2 := hcc50 2 _ rfl
         (try simp only [show (k28).sz = 5 from rfl, Nat.mul_one, Nat.add_zero] at hx50_2)
         have hf50_2 := hfr50 2
         (try simp only [show (k28).sz = 5 from rfl, Nat.mul_one, Nat.add_zero] at hf50_2)
         clear hcl50 hcc50 hfr50 hM50 hoki50 hH50
         go_wp2_with (first | ((with_reducible refine gate_store (t := 3) (p := 74) rfl ?_); refine store_event (t := 3) (p := 74) (v := ?vo_w51) (w1 := (wc.setCell ⟨go48, (a1 : Int).toNat * 5 + 2, none⟩ (.int .i64 a2))) ?hg ?ho ?hn ?hr ?_; (case ho => rfl); (case hg => rfl); (case hn => rfl); (case hr => first | (go_simp; done) | (go_simp; rfl)); intro w51 hw; have hg : wc.grownBy w51 (some go48) := (by rw [hw]; exact HP50.2); have hp_ : Kd.S k28 28 w51 w.heap.size (fun _ => True) (.slice (some ⟨go48, 0, none⟩) t495.length co26) y508 := (by rw [hw, Ny508.out]; exact HP50.1); clear HP50; replace HO_11 := kA (Kd.S_over' (v := (.slice (some ⟨go48, 0, none⟩) t495.length co26)) (mS HO_11) (Kd.S_typed HO_499000.out) (by decide) hg); replace BK492 := kA (blk_grown (g := gb492) (o := .cells #[.slice A0_0 l0_0.length c0_0] 24 (0, 0)) (mB BK492) hg (Kd.S_ne HO_499000.out BK492.out (by decide))); replace BK493 := kA (blk_grown (g := gb493) (o := .cells #[.slice none 0 0] 24 (0, 0)) (mB BK493) hg (Kd.S_ne HO_499000.out BK493.out (by decide))); replace BK498 := kA (blk_grown (g := gb498) (o := .cells #[.slice (some ⟨go48, 0, none⟩) t495.length co26] 24 (0, 0)) (mB BK498) hg (Kd.S_ne HO_499000.out BK498.out (by decide))); replace HO_499000 := kA (hp_); replace HB := kA ((by rw [hw]; exact wS (HB.out) GB48.out : Below w.heap.size w w51)); clear hg hw hp_) | ((with_reducible refine gate_callee (f := 62) rfl ?_); refine goesK (some 76) Try.func62 #[.int .i64 a2] ?_; (with_reducible refine (span_Pages.calls a2 t509 _ A49.out).mono ?_); rintro e w52 ⟨rfl, hb⟩; refine ⟨_, rfl, ?_⟩; replace HO_11 := kS HO_11 hb; replace HO_499000 := kS HO_499000 hb; replace BK492 := kB BK492 hb; replace BK493 := kB BK493 hb; replace BK498 := kB BK498 hb; replace HB := kH HB hb; (try clear hb); (try clear hk)))
         go_loopg [14] kj36 (fun kq v14 w' => ∃ (x14_4 : Int) (z_ : List S28), v14 = .int .i64 x14_4 ∧ Aside0 (file_Truncate.l0 kq a1 x11_36 x14_4 z_ = some (r1, r2, r3)) ∧ Aside0 (kq ≤ kj36) ∧ Aside0 (Kd.S k60 60 w' w.heap.size (fun _ => True) u11 x11_36) ∧ Aside0 (Kd.S k28 28 w' w.heap.size (fun _ => True) (.slice (some ⟨go48, 0, none⟩) t495.length co26) z_) ∧ Aside0 (w'.heap[gb492]? = some (.cells #[(.slice A0_0 l0_0.length c0_0)] 24 (0, 0))) ∧ Aside0 (w'.heap[gb493]? = some (.cells #[(.slice none 0 0)] 24 (0, 0))) ∧ Aside0 (w'.heap[gb498]? = some (.cells #[(.slice (some ⟨go48, 0, none⟩) t495.length co26)] 24 (0, 0))) ∧ Aside0 (Below w.heap.size w w'))
         case atStart => exact ⟨(t509), y508, sI, H', ⟨Nat.le_refl _⟩, ⟨mS HO_11⟩, ⟨mS HO_499000⟩, ⟨mB BK492⟩, ⟨mB BK493⟩, ⟨mB BK498⟩, ⟨mH HB⟩⟩
         case round =>
          clear H'
          (try clear c12); (try clear c15); (try clear c15b0); (try clear c19); (try clear c19b0); (try clear c20); (try clear c20b0); (try clear c46); (try clear c46b0); (try clear c47); (try clear c47b0); (try clear p48); (try clear q48); (try clear hcz23_0); (try clear hcz29_0); (try clear hcz31_0); (try clear hfz23_0); (try clear hfz29_0); (try clear hfz31_0); (try clear hx48_0); (try clear hx48_1); (try clear hx48_2); (try clear hx48_3); (try clear hx48_4); (try clear hx499_0); (try clear hx499_1); (try clear hx499_2); (try clear hx499_3); (try clear hx499_4); (try clear hx500_0); (try clear hx500_1); (try clear hx500_2); (try clear hx500_3); (try clear hx500_4); (try clear hx501_0); (try clear hx501_1); (try clear hx501_2); (try clear hx501_3); (try clear hx501_4); (try clear hx503_0); (try clear hx503_1); (try clear hx503_2); (try clear hx503_3); (try clear hx503_4); (try clear hx50_2); (try clear p48); (try clear p499); (try clear q48); (try clear q499)
          obtain ⟨x14_4, y508, rfl, HA, HK4, HO_11, HO_499000, BK492, BK493, BK498, HB⟩ := hrel; have hl499000_4 := (Kd.S_reads' HO_499000.out).1; rw [hl499000_4] at HO_499000
          (try simp only [hl499000_4])
          (try simp only [hl499000_4] at BK492)
          (try simp only [hl499000_4] at BK493)
          (try simp only [hl499000_4] at BK498)
          (try simp only [hl499000_4] at HO_11)
          cases gk with
          | zero => exact absurd HA.out (by simp [file_Truncate.l0])
          | succ k4 =>
           have H := HA.out; clear HA; simp only [file_Truncate.l0] at H
           by_cases c53 : x14_4 < 5
           ·
            rw [if_pos c53] at H; have c53b0 := qT c53; clear c53
            replace H := nP H; obtain ⟨c54, H⟩ := H; have c54b0 := qT c54; clear c54
            replace H := nP H; obtain ⟨c55, H⟩ := H; have c55b0 := qT c55; clear c55
            replace H := nP H; obtain ⟨c56, H⟩ := H; have c56b0 := qT c56; clear c56
            replace H := nP H; obtain ⟨c57, H⟩ := H; have c57b0 := qT c57; clear c57; obtain ⟨y511, hy511⟩ : ∃ y_ : List Int, y_ = (((rU y508 a1).f3).set (x14_4 : Int).toNat 0) := ⟨_, rfl⟩
            replace H : (file_Truncate.l0 k4 a1 x11_36 (wrap64 (x14_4 + 1)) (y508.set (a1 : Int).toNat (⟨(rU y508 a1).f0, (rU y508 a1).f1, (rU y508 a1).f2, y511, (rU y508 a1).f4⟩ : S28))) = some (r1, r2, r3) := rH H hy511
            have Ny511 := kA hy511; clear hy511; obtain ⟨y513, hy513⟩ : ∃ y_ : List (S28), y_ = (y508.set (a1 : Int).toNat (⟨(rU y508 a1).f0, (rU y508 a1).f1, (rU y508 a1).f2, y511, (rU y508 a1).f4⟩ : S28)) := ⟨_, rfl⟩
            replace H : (file_Truncate.l0 k4 a1 x11_36 (wrap64 (x14_4 + 1)) y513) = some (r1, r2, r3) := rH H hy513
            have Ny513 := kA hy513; clear hy513; have H' := kA H; clear H; have p510 : 0 ≤ (a1 : Int) := dT; have q510 : a1 < (y508.length : Int) := dT; obtain ⟨ad510, A510_3, c510_3, A510_4, c510_4, e510, hx510_0, hx510_1, hx510_2, hx510_3, hx510_4, hl510_3, hi510_3, hl510_4, hi510_4⟩ := at_T28 (Kd.S_reads' HO_499000.out).2.2 a1 p510 q510; obtain rfl : (⟨go48, 0, none⟩ : Addr) = ad510 := (by injection e510); obtain ⟨ce510, hce510, hMe510, hcc510⟩ := Kd.S_get HO_499000.out z28 a1 p510 (by first | exact q510 | exact dT | (have e_ := (Kd.S_reads' HO_499000.out).1; omega))
            obtain ⟨ve510_3, ve510_4, rfl, ge510_3, ge510_4⟩ := k28_openM hMe510; have hv510_3 := hcc510 3 _ rfl; rw [add_field _ _ 3 (by omega)] at hv510_3; replace hv510_3 := qI (hv510_3.symm.trans hx510_3); rw [hv510_3] at ge510_3; have HL510_3 := kA (show Kd.R (Kd.int .i64) 3 _ _ _ _ ((rU y508 a1).f3) from ge510_3); clear hv510_3 ge510_3; have HX510_3 := kA hx510_3; have hv510_4 := hcc510 4 _ rfl; rw [add_field _ _ 4 (by omega)] at hv510_4; replace hv510_4 := qI (hv510_4.symm.trans hx510_4); rw [hv510_4] at ge510_4; have HL510_4 := kA (show Kd.R k78 78 _ _ _ _ ((rU y508 a1).f4) from ge510_4); clear hv510_4 ge510_4; have HX510_4 := kA hx510_4; clear hcc510 hce510
            (first | simp only [add_plain] at hx510_0 | simp only [add_at] at hx510_0 | simp only [Addr.add, Nat.zero_add] at hx510_0 | skip)
            (first | simp only [add_plain] at hx510_1 | simp only [add_at] at hx510_1 | simp only [Addr.add, Nat.zero_add] at hx510_1 | skip)
            (first | simp only [add_plain] at hx510_2 | simp only [add_at] at hx510_2 | simp only [Addr.add, Nat.zero_add] at hx510_2 | skip)
            (first | simp only [add_plain] at hx510_3 | simp only [add_at] at hx510_3 | simp only [Addr.add, Nat.zero_add] at hx510_3 | skip)
            (first | simp only [add_plain] at hx510_4 | simp only [add_at] at hx510_4 | simp only [Addr.add, Nat.zero_add] at hx510_4 | skip)
            have HR510_3 := kA hi510_3; have HC510_3 := kA hl510_3; clear hi510_3 hl510_3; have HR510_4 := kA hi510_4; have HC510_4 := kA hl510_4; clear hi510_4 hl510_4; replace p510 := eq_true p510; replace q510 := eq_true q510; have p58 : 0 ≤ (x14_4 : Int) := dT; have q58 : (x14_4 : Int) < ((((rU y508 a1).f3).length : Int) : Int) := dT; obtain ⟨go58, co58, eo58, gb58, gl58, cl58, HG58⟩ := Kd.R_form HL510_3.out (by omega)
            (first | cases eo58 | (injection eo58 with ea_ en_ ec_; (first | subst ea_ | (injection ea_ with ea_; subst ea_)); subst ec_; clear en_))
            have GB58 := kA gb58; have GG58 := kA HG58; clear gb58 gl58 HG58; obtain ⟨hx58_0, hf58_0⟩ := Kd.R_celln 0 HL510_3.out (x14_4 : Int) p58 q58; replace p58 := eq_true p58; replace q58 := eq_true q58; have hq59 : (a1 : Int) < (y508.length : Int) := (by have h_ : (a1 : Int) < ((y508.length : Int) : Int) := dT; first | exact h_ | (have e_ := (Kd.S_reads' HO_499000.out).1; omega) | simpa only [List.length_set, List.length_set] using h_)
            obtain ⟨oki59, ce59, hcl59, hM59, hcc59, hok59, hbk59⟩ := Kd.S_borrow HO_499000.out z28 (a1 : Int) (dT) hq59; obtain ⟨ve59_3, ve59_4, rfl, ge59_3, ge59_4⟩ := k28_openM hM59; have hv59 := hcc59 3 _ rfl; rw [add_field _ _ 3 (by omega)] at hv59; replace hv59 := qI (hv59.symm.trans HX510_3.out); subst hv59; clear hcc59 hcl59; replace ge59_3 := (show Kd.R (Kd.int .i64) 3 _ _ _ _ ((rU y508 a1).f3) from ge59_3); have HP59 := Kd.R_putg ge59_3 (x14_4 : Int) 0
            go_wp2_with (first | ((with_reducible refine gate_store (t := 3) (p := 86) rfl ?_); refine store_event (t := 3) (p := 86) (v := ?vo_w60) (w1 := (wr.setCell ⟨go58, (x14_4 : Int).toNat, none⟩ (.int .i64 0))) ?hg ?ho ?hn ?hr ?_; (case ho => rfl); (case hg => rfl); (case hn => rfl); (case hr => first | (go_simp; done) | (go_simp; rfl)); intro w60 hw; have hg : wr.grownBy w60 (some go58) := (by rw [hw]; exact HP59.2); have hz_ : Kd.R (Kd.int .i64) 3 w60 w.heap.size oki59 (.slice (some ⟨go58, 0, none⟩) ((rU y508 a1).f3).length c510_3) y511 := (by rw [hw, Ny511.out]; exact HP59.1); have hp_ : Kd.S k28 28 w60 w.heap.size (fun _ => True) (.slice (some ⟨go48, 0, none⟩) y508.length co26) y513 := (by rw [Ny513.out]; exact hbk59 hg (fun k_ e_ => by injection e_ with e_; subst e_; exact ge59_3.1 _ rfl) (k28_mkM _ _ _ (⟨(rU y508 a1).f0, (rU y508 a1).f1, (rU y508 a1).f2, y511, (rU y508 a1).f4⟩ : S28) hz_ (Kd.R_over' (v := (.slice (some ⟨go58, 0, none⟩) ((rU y508 a1).f3).length c510_3)) ge59_4 (Kd.R_typed ge59_3) (by decide) hg))); have hm_ := Kd.R_mono hz_ hok59; clear HP59 hbk59; replace HO_11 := kA (Kd.S_over' (v := (.slice (some ⟨go58, 0, none⟩) ((rU y508 a1).f3).length c510_3)) (mS HO_11) (Kd.R_typed HL510_3.out) (by decide) hg); replace HO_499000 := kA (hp_); replace BK492 := kA (blk_grown (g := gb492) (o := .cells #[.slice A0_0 l0_0.length c0_0] 24 (0, 0)) (mB BK492) hg (Kd.R_ne HL510_3.out BK492.out (by decide))); replace BK493 := kA (blk_grown (g := gb493) (o := .cells #[.slice none 0 0] 24 (0, 0)) (mB BK493) hg (Kd.R_ne HL510_3.out BK493.out (by decide))); replace BK498 := kA (blk_grown (g := gb498) (o := .cells #[.slice (some ⟨go48, 0, none⟩) y508.length co26] 24 (0, 0)) (mB BK498) hg (Kd.R_ne HL510_3.out BK498.out (by decide))); replace HB := kA ((by rw [hw]; exact wS (HB.out) GB58.out : Below w.heap.size w w60)); have HL514 := kA (hm_); have HC512 := kA ((Kd.R_reads' hm_).2.1); clear HL510_3 HL510_4; clear hg hw hp_ hz_ hm_ hok59))
            (try simp only [← hl499000_4])
            go_roundg k4
            case measure => have := HJ3.out; have := HJ20.out; have := HJ36.out; have := HK4.out; omega
            case rel => exact ⟨(wrap64 (x14_4 + 1)), y513, sI, H', ⟨by have := HJ3.out; have := HJ20.out; have := HJ36.out; have := HK4.out; omega⟩, ⟨by (try simp only [hl499000_4]); (with_reducible repeat (first | apply Kd.S_alloc | apply Kd.S_drewN | apply Kd.S_drew)); exact HO_11.out⟩, ⟨by (try simp only [hl499000_4]); (with_reducible repeat (first | apply Kd.S_alloc | apply Kd.S_drewN | apply Kd.S_drew)); exact HO_499000.out⟩, ⟨by (try simp only [hl499000_4]); (with_reducible repeat (first | refine bN ?_ _ | refine bD ?_ | refine bA ?_ _)); exact BK492.out⟩, ⟨by (try simp only [hl499000_4]); (with_reducible repeat (first | refine bN ?_ _ | refine bD ?_ | refine bA ?_ _)); exact BK493.out⟩, ⟨by (try simp only [hl499000_4]); (with_reducible repeat (first | refine bN ?_ _ | refine bD ?_ | refine bA ?_ _)); exact BK498.out⟩, ⟨mH HB⟩⟩
           ·
            rw [if_neg c53] at H; have c53b0 := qF c53; clear c53; simp only [Option.some.injEq, Prod.mk.injEq] at H; obtain ⟨rfl, rfl, rfl⟩ := H; have hnb61 := NB498_492.out; have hnc61 := NB492_498.out; have hnb62 := NB498_493.out; have hnc62 := NB493_498.out; obtain ⟨hcz63_0, hfz63_0⟩ := cY0 BK498; have hnb64 := NB493_492.out; have hnc64 := NB492_493.out; obtain ⟨hcz65_0, hfz65_0⟩ := cY0 BK493
            go_wp2
            refine bodyPost_ret (results_ctt rfl _ _ gb493 24 #[.slice (some ⟨go48, 0, none⟩) y508.length co26] (0, 0) _ rfl (pP BK493) Try.underlying24 rfl (by kernel_rfl)) rfl ?_
            exact ⟨_, _, rT, fS ⟨Kd.S_types HO_499000.out BK493.out (by decide)⟩, fS ⟨Kd.S_types HO_11.out BK493.out (by decide)⟩, mH HB⟩
end Go.Proofs.Ytkigiehkckjlhaa.PReads
