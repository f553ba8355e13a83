/- The Go functions that these laws reach, each as a Lean function with the same answers (a law itself where it answers true), and the proof that the code comes to them; conditions: those of each theorem. Laid by a program of this session over the print. -/
import Derived.Test.YtkigiehkckjlhaaZReadsPReadsShort
import Derived.Test.YtkigiehkckjlhaaZReadsPReadsx0
import Derived.Maps.OwnSet
import Derived.Maps.OwnOps
import Derived.Maps.Views
import Derived.Test.YtkigiehkckjlhaaZReadsPReadsx5
import Derived.Test.YtkigiehkckjlhaaZReadsPReadsx12
namespace Go.Proofs.Ytkigiehkckjlhaa.PReads
open Go.RowKit Go.Proofs.YtkigiehkckjlhaaW.PrintWords Go.Proofs.YtkigiehkckjlhaaW.PrintLast Go.Proofs.YtkigiehkckjlhaaW.PrintMore
attribute [local go_sem] max2_int min2_int max_two min_two max_three min_three max_four min_four   -- for this text's walks alone
set_option linter.unusedVariables false
set_option linter.unusedSimpArgs false
open Go.Proofs.YtkigiehkckjlhaaW.PrintWords renaming blk_drewN → bN, blk_drew → bD, blk_alloc → bA, below_set → wS, below_alloc → wA, pw_below_drewN → wN, below_drew1 → wD, blk_below → bB, blk_far → bF, blk_cell → bC, blk_frozen → bZ
open List renaming setIfInBounds_toArray → lT, set_cons_zero → l0_, set_cons_succ → lS
mutual
def dir_below.l0 : Nat → List Bool → List Int → List (S28) → Option (List Bool)
 | 0, _, _, _ => none
 | k + 1, x5, x6, x191000 => if (x6.length : Int) > 0 then (if 0 ≤ (wrap64 ((x6.length : Int) - 1)) then (if (wrap64 ((x6.length : Int) - 1)) < (x6.length : Int) then (if (wrap64 ((x6.length : Int) - 1)) ≤ (x6.length : Int) then (if 0 ≤ (rd x6 (wrap64 ((x6.length : Int) - 1))) then (if (rd x6 (wrap64 ((x6.length : Int) - 1))) < (x191000.length : Int) then (dir_below.l1 k x5 (x6.take ((wrap64 ((x6.length : Int) - 1)) : Int).toNat) ((rU x191000 (rd x6 (wrap64 ((x6.length : Int) - 1)))).f4) (((rU x191000 (rd x6 (wrap64 ((x6.length : Int) - 1)))).f4).length : Int) 0 x191000) else (none)) else (none)) else (none)) else (none)) else (none)) else (some x5)
def dir_below.l1 : Nat → List Bool → List Int → List (S78) → Int → Int → List (S28) → Option (List Bool)
 | 0, _, _, _, _, _, _ => none
 | k + 1, x5, x6, x38, x39, x40, x191000 => if x40 < x39 then (if 0 ≤ x40 then (if x40 < (x38.length : Int) then (if 0 ≤ ((rV x38 x40).f1) then (if ((rV x38 x40).f1) < (x5.length : Int) then (if (rdOf false x5 ((rV x38 x40).f1) = true) then (dir_below.l1 k x5 x6 x38 x39 (wrap64 (x40 + 1)) x191000) else (if x6.length < 17592186044416 then (dir_below.l1 k (x5.set (((rV x38 x40).f1) : Int).toNat true) (x6 ++ [(rV x38 x40).f1]) x38 x39 (wrap64 (x40 + 1)) x191000) else (none))) else (none)) else (none)) else (none)) else (none)) else (dir_below.l0 k x5 x6 x191000)
end
def dir_below.f (k : Nat) (l0_0 : List (S28)) (a1 : Int) : Option (List Bool) := if 0 ≤ (l0_0.length : Int) then (if ((l0_0.length : Int) : Int).toNat ≤ 281474976710656 then ((some (List.replicate ((l0_0.length : Int) : Int).toNat false : List Bool)).bind fun y191 => (if 0 ≤ a1 then (if a1 < (y191.length : Int) then (dir_below.l0 k (y191.set (a1 : Int).toNat true) (([a1] : List Int)) l0_0) else (none)) else (none))) else (none)) else (none)
theorem dir_below.mono_l : ∀ k, (∀ y0 y1 y2, LeO (dir_below.l0 k y0 y1 y2) (dir_below.l0 (k + 1) y0 y1 y2)) ∧ (∀ y0 y1 y2 y3 y4 y5, LeO (dir_below.l1 k y0 y1 y2 y3 y4 y5) (dir_below.l1 (k + 1) y0 y1 y2 y3 y4 y5))
 | 0 => ⟨fun _ _ _ r h => by simp [dir_below.l0] at h, fun _ _ _ _ _ _ r h => by simp [dir_below.l1] at h⟩
 | k + 1 => by
  obtain ⟨ih0, ih1⟩ := dir_below.mono_l k; refine ⟨?_, ?_⟩
  ·
   intro y0 y1 y2
   unfold dir_below.l0
   repeat' with_reducible first | apply ih0 | apply ih1 | exact LeO.refl _ | exact LeO.none _ | refine LeO.ite ?_ ?_ | refine LeO.bind ?_ (fun _ => ?_)
  ·
   intro y0 y1 y2 y3 y4 y5
   unfold dir_below.l1
   repeat' with_reducible first | apply ih0 | apply ih1 | exact LeO.refl _ | exact LeO.none _ | refine LeO.ite ?_ ?_ | refine LeO.bind ?_ (fun _ => ?_)
theorem dir_below.mono : ∀ a0 a1 k, LeO (dir_below.f k a0 a1) (dir_below.f (k + 1) a0 a1) := by
 intro a0 a1 k; obtain ⟨ih0, ih1⟩ := dir_below.mono_l k
 unfold dir_below.f
 repeat' with_reducible first | apply ih0 | apply ih1 | exact LeO.refl _ | exact LeO.none _ | refine LeO.ite ?_ ?_ | refine LeO.bind ?_ (fun _ => ?_)
set_option maxHeartbeats 8000000 in
set_option maxRecDepth 100000 in
theorem dir_below.calls (k : Nat) (A0_0 : Option Addr) (c0_0 : Nat) (l0_0 : List (S28)) (a1 : Int) (r : List Bool) (w : World) (hr0_0 : Kd.C k28 w A0_0 l0_0.length l0_0) (hc0_0 : l0_0.length ≤ c0_0) (h : dir_below.f k l0_0 a1 = some r) :
 Calls Try.prog 73 #[.agg #[.slice A0_0 l0_0.length c0_0], .int .i64 a1] w fun e w' => ∃ v0_ : Value, e = .returned (v0_) ∧ Kd.R Kd.bool 4 w' w.heap.size (fun _ => True) v0_ r ∧ Below w.heap.size w w' := by
 have hu24 := Try.underlying24; have hu78 := Try.underlying78; have HR0_0 := kA hr0_0; have HC0_0 := kA hc0_0; clear hr0_0 hc0_0; have HB := kA (Below.refl w.heap.size w); have H : (if 0 ≤ (l0_0.length : Int) then (if ((l0_0.length : Int) : Int).toNat ≤ 281474976710656 then ((some (List.replicate ((l0_0.length : Int) : Int).toNat false : List Bool)).bind fun y191 => (if 0 ≤ a1 then (if a1 < (y191.length : Int) then (dir_below.l0 k (y191.set (a1 : Int).toNat true) (([a1] : List Int)) l0_0) else (none)) else (none))) else (none)) else (none)) = some r := h; clear h
 replace H := nP H; obtain ⟨c3, H⟩ := H; have c3b0 := eq_true c3; have c3b1 := qT c3; clear c3
 replace H := nP H; obtain ⟨c4, H⟩ := H; have c4b0 := eq_true c4; have c4b1 := qT c4; clear c4; obtain ⟨y191, hy191⟩ : ∃ y_ : List Bool, y_ = (List.replicate ((l0_0.length : Int) : Int).toNat false) := ⟨_, rfl⟩
 replace H : (if 0 ≤ a1 then (if a1 < (y191.length : Int) then (dir_below.l0 k (y191.set (a1 : Int).toNat true) (([a1] : List Int)) l0_0) else (none)) else (none)) = some r := rH H hy191
 have Ny191 := kA hy191; clear hy191; obtain ⟨y194, hy194⟩ : ∃ y_ : List Int, y_ = (([a1] : List Int)) := ⟨_, rfl⟩
 replace H : (if 0 ≤ a1 then (if a1 < (y191.length : Int) then (dir_below.l0 k (y191.set (a1 : Int).toNat true) y194 l0_0) else (none)) else (none)) = some r := rH H hy194
 have Ny194 := kA hy194; clear hy194
 replace H := nP H; obtain ⟨c5, H⟩ := H; have c5b0 := qT c5; clear c5
 replace H := nP H; obtain ⟨c6, H⟩ := H; have c6b0 := qT c6; clear c6; obtain ⟨y197, hy197⟩ : ∃ y_ : List Bool, y_ = (y191.set (a1 : Int).toNat true) := ⟨_, rfl⟩
 replace H : (dir_below.l0 k y197 y194 l0_0) = some r := rH H hy197
 have Ny197 := kA hy197; clear hy197; have H' := kA H; clear H
 go_enter Try.func73, Try.ntmps73
 go_wp2_with (first | ((with_reducible refine gate_dst (N := 2) rfl ?_); refine bxE 24 (cs := #[.slice A0_0 l0_0.length c0_0]) ?_; intro gb190 hg w8 hbox hb; have BK190 := kA hbox; have GW190 := kG HB hg; have GE190 := kG HB hg; replace HB := kH HB hb; clear hb hbox hg; obtain ⟨hcz9_0, hfz9_0⟩ := cY0 BK190) | ((with_reducible refine gate_dst (N := 13) rfl ?_); refine Kd.R_make Kd.bool _ 4 rfl (N := 13) rfl 79 _ _ rfl (l0_0.length : Int) rfl rfl Try.underlying79 (.bool false) 1 info4 rfl (by decide) (by omega) false (ok := fun _ => True) (okp := fun _ => True) rfl (fun _ hk => hk) trivial (dT) (Nat.le_trans (Nat.mul_le_mul_right _ (dT : (l0_0.length : Int).toNat ≤ 281474976710656)) (by omega)) (Below.refl _ _) (Nat.le_refl _) ?_; intro v192 w10 ho11 hb hg_ hnew_; clear hg_ hnew_; (first | rw [← Ny191.out] at ho11 | (simp only [Int.reduceToNat] at ho11; rw [← Ny191.out] at ho11)); have HO193 := kA (Kd.R_lower ho11 (below_size (mH HB))); replace BK190 := kB BK190 hb; replace HB := kH HB hb; clear hb ho11) | ((with_reducible refine gate_dst (N := 15) rfl ?_); refine Kd.R_lit (Kd.int .i64) _ 3 ?hg (N := 15) ?hd (xs := ([a1] : List Int)) (inner := [.int .i64 a1]) (ok := fun _ => True) (okp := fun _ => True) ?hr ?hp (fun _ hk => hk) trivial (Below.refl _ _) (Nat.le_refl _) (by simp) ?_; (case hd => rfl); (case hg => rfl); (case hr => first | (go_simp; done) | (go_simp; rfl)); (case hp => exact (Reps.one (show Kd.M (Kd.int .i64) _ _ _ a1 [.int .i64 a1] from rfl) (Reps.none _ _))); intro v195 w12 ho13 hb hg_ hnew_; clear hg_ hnew_; (first | rw [← Ny194.out] at ho13 | (simp only [Int.reduceToNat] at ho13; rw [← Ny194.out] at ho13)); replace HO193 := kR HO193 hb; have HO196 := kA (Kd.R_lower ho13 (below_size (mH HB))); replace BK190 := kB BK190 hb; replace HB := kH HB hb; clear hb ho13; have p7 : 0 ≤ (a1 : Int) := dT; have q7 : (a1 : Int) < ((y191.length : Int) : Int) := dT; obtain ⟨go7, co7, eo7, gb7, gl7, cl7, HG7⟩ := Kd.R_form HO193.out (by omega); (first | cases eo7 | (injection eo7 with ea_ en_ ec_; (first | subst ea_ | (injection ea_ with ea_; subst ea_)); subst ec_; clear en_)); have GB7 := kA gb7; have GG7 := kA HG7; clear gb7 gl7 HG7; obtain ⟨hx7_0, hf7_0⟩ := Kd.R_celln false HO193.out (a1 : Int) p7 q7; replace p7 := eq_true p7; replace q7 := eq_true q7; obtain ⟨hy14_, hz14_⟩ := Kd.R_celln false HO193.out (a1 : Int) (dT) (dT); have HP14 := Kd.R_putg HO193.out (a1 : Int) true) | ((with_reducible refine gate_store (t := 4) (p := 18) rfl ?_); refine store_event (t := 4) (p := 18) (v := ?vo_w15) (w1 := (w12.setCell ⟨go7, (a1 : Int).toNat, none⟩ (.bool true))) ?hg ?ho ?hn ?hr ?_; (case ho => rfl); (case hg => rfl); (case hn => rfl); (case hr => first | (go_simp; done) | (go_simp; rfl)); intro w15 hw; have hg : w12.grownBy w15 (some go7) := (by rw [hw]; exact HP14.2); have hp_ : Kd.R Kd.bool 4 w15 w.heap.size (fun _ => True) (.slice (some ⟨go7, 0, none⟩) y191.length co7) y197 := (by rw [hw, Ny197.out]; exact HP14.1); clear HP14; replace BK190 := kA (blk_grown (g := gb190) (o := .cells #[.slice A0_0 l0_0.length c0_0] 24 (0, 0)) (mB BK190) hg (Kd.R_ne HO193.out BK190.out (by decide))); replace HO196 := kA (Kd.R_over' (v := (.slice (some ⟨go7, 0, none⟩) y191.length co7)) (mR HO196) (Kd.R_typed HO193.out) (by decide) hg); replace HO193 := kA (hp_); replace HB := kA ((by rw [hw]; exact wS (HB.out) GB7.out : Below w.heap.size w w15)); clear hg hw hp_))
 go_loopg [6] k (fun kq v6 w' => ∃ (x5_1 : List Bool) (x6_1 : List Int), Aside0 (dir_below.l0 kq x5_1 x6_1 l0_0 = some r) ∧ Aside0 (kq ≤ k) ∧ Aside0 (Kd.R Kd.bool 4 w' w.heap.size (fun _ => True) (.slice (some ⟨go7, 0, none⟩) y191.length co7) x5_1) ∧ Aside0 (Kd.R (Kd.int .i64) 3 w' w.heap.size (fun _ => True) v6 x6_1) ∧ Aside0 (w'.heap[gb190]? = some (.cells #[(.slice A0_0 l0_0.length c0_0)] 24 (0, 0))) ∧ Aside0 (Below w.heap.size w w'))
 case atStart => exact ⟨(y197), (y194), H', ⟨Nat.le_refl _⟩, ⟨mR HO193⟩, ⟨mR HO196⟩, ⟨mB BK190⟩, ⟨mH HB⟩⟩
 case round =>
  clear H'
  (try clear c3); (try clear c3b0); (try clear c3b1); (try clear c4); (try clear c4b0); (try clear c4b1); (try clear c5); (try clear c5b0); (try clear c6); (try clear c6b0); (try clear p7); (try clear q7); (try clear hcz9_0); (try clear hfz9_0); (try clear hx7_0); (try clear p7); (try clear q7)
  obtain ⟨x5_1, x6_1, HA, HK1, HO_5, HO_6, BK190, HB⟩ := hrel; have hl5_1 := (Kd.R_reads' HO_5.out).1; rw [hl5_1] at HO_5
  (try simp only [hl5_1])
  (try simp only [hl5_1] at BK190)
  (try simp only [hl5_1] at HO_6)
  cases gk with
  | zero => exact absurd HA.out (by simp [dir_below.l0])
  | succ k1 =>
   have H := HA.out; clear HA; simp only [dir_below.l0] at H
   by_cases c16 : (x6_1.length : Int) > 0
   ·
    rw [if_pos c16] at H; have c16b0 : decide (0 < (x6_1.length : Int)) = true := qT c16; have c16b1 : decide (0 < x6_1.length) = true := qT (by omega); clear c16; obtain ⟨ji17, hji17⟩ : ∃ j_ : Int, (wrap64 ((x6_1.length : Int) - 1)) = j_ := ⟨_, rfl⟩
    replace H : (if 0 ≤ (ji17) then (if (ji17) < (x6_1.length : Int) then (if (ji17) ≤ (x6_1.length : Int) then (if 0 ≤ (rd x6_1 (ji17)) then (if (rd x6_1 (ji17)) < (l0_0.length : Int) then (dir_below.l1 k1 x5_1 (x6_1.take ((ji17) : Int).toNat) ((rU l0_0 (rd x6_1 (ji17))).f4) (((rU l0_0 (rd x6_1 (ji17))).f4).length : Int) 0 l0_0) else (none)) else (none)) else (none)) else (none)) else (none)) = some r := by first | (rw [hji17] at H; exact H) | (simp only [hji17] at H ⊢; exact H)
    have hji17w : (IntKind.i64.wrap ((x6_1.length : Int) - 1)) = ji17 := (i64_w _).trans hji17
    replace H := nP H; obtain ⟨c18, H⟩ := H; have c18b0 := qT c18; clear c18
    replace H := nP H; obtain ⟨c19, H⟩ := H; have c19b0 := qT c19; clear c19
    replace H := nP H; obtain ⟨c20, H⟩ := H; have c20b0 := eq_true c20; have c20b1 := qT c20; clear c20; obtain ⟨y199, hy199⟩ : ∃ y_ : List Int, y_ = (x6_1.take ((ji17) : Int).toNat) := ⟨_, rfl⟩
    replace H : (if 0 ≤ (rd x6_1 (ji17)) then (if (rd x6_1 (ji17)) < (l0_0.length : Int) then (dir_below.l1 k1 x5_1 y199 ((rU l0_0 (rd x6_1 (ji17))).f4) (((rU l0_0 (rd x6_1 (ji17))).f4).length : Int) 0 l0_0) else (none)) else (none)) = some r := rH H hy199
    have Ny199 := kA hy199; clear hy199
    replace H := nP H; obtain ⟨c21, H⟩ := H; have c21b0 := qT c21; clear c21
    replace H := nP H; obtain ⟨c22, H⟩ := H; have c22b0 := qT c22; clear c22; have H' := kA H; clear H; obtain ⟨Ao23, co23, eo23⟩ := Kd.R_slice HO_6.out; subst eo23; have p198 : 0 ≤ ((ji17) : Int) := dT; have q198 : (ji17) < (x6_1.length : Int) := dT; obtain ⟨ad198, e198, hx198_0⟩ := Kd.at_int (Kd.R_reads' HO_6.out).2.2 (ji17) p198 q198
    cases e198
    replace p198 := eq_true p198; replace q198 := eq_true q198; have q24 : ((ji17) : Int) ≤ ((x6_1.length : Int) : Int) := dT; obtain ⟨i024, hi024, _, hsz24, _⟩ := info_parts info3; have hcut24 := cut_to (P := Try.prog) 25 3 .i64 Try.underlying25 hi024 (some ad198) x6_1.length co23 (ji17) (dT) q24 (Kd.R_reads' HO_6.out).2.1; have hr24 := Kd.R_take (m := ((ji17) : Int).toNat) HO_6.out (by omega); have hy24 : y199.length = ((ji17) : Int).toNat := (by rw [Ny199.out, List.length_take]; omega)
    rw [← Ny199.out] at hr24; rw [← hy24] at hr24 hcut24; clear hy24 hi024 hsz24 HO_6; have HO201 := kA hr24; clear hr24; replace q24 := eq_true q24; obtain ⟨hcz25_0, hfz25_0⟩ := cY0 BK190; have p202 : 0 ≤ ((rd x6_1 (ji17)) : Int) := dT; have q202 : (rd x6_1 (ji17)) < (l0_0.length : Int) := dT; obtain ⟨ad202, A202_3, c202_3, A202_4, c202_4, e202, hx202_0, hx202_1, hx202_2, hx202_3, hx202_4, hl202_3, hi202_3, hl202_4, hi202_4⟩ := at_T28 HR0_0.out (rd x6_1 (ji17)) p202 q202
    cases e202
    replace hx202_0 := xC HB hx202_0; replace hx202_1 := xC HB hx202_1; replace hx202_2 := xC HB hx202_2; replace hx202_3 := xC HB hx202_3; replace hx202_4 := xC HB hx202_4; have HR202_3 := kA hi202_3; have HC202_3 := kA hl202_3; clear hi202_3 hl202_3; have HR202_4 := kA hi202_4; have HC202_4 := kA hl202_4; clear hi202_4 hl202_4; replace p202 := eq_true p202; replace q202 := eq_true q202
    go_wp2
    go_loopg [6, 40] k1 (fun kq v6 v40 w' => ∃ (x5_2 : List Bool) (x6_2 : List Int) (x40_2 : Int), v40 = .int .i64 x40_2 ∧ Aside0 (dir_below.l1 kq x5_2 x6_2 ((rU l0_0 (rd x6_1 (ji17))).f4) (((rU l0_0 (rd x6_1 (ji17))).f4).length : Int) x40_2 l0_0 = some r) ∧ Aside0 (kq ≤ k1) ∧ Aside0 (Kd.R Kd.bool 4 w' w.heap.size (fun _ => True) (.slice (some ⟨go7, 0, none⟩) x5_1.length co7) x5_2) ∧ Aside0 (Kd.R (Kd.int .i64) 3 w' w.heap.size (fun _ => True) v6 x6_2) ∧ Aside0 (w'.heap[gb190]? = some (.cells #[(.slice (some ad202) l0_0.length c0_0)] 24 (0, 0))) ∧ Aside0 (Below w.heap.size w w'))
    case atStart => exact ⟨(x5_1), (y199), (0), sI, H', ⟨Nat.le_refl _⟩, ⟨by (try simp only [hl5_1]); (with_reducible repeat (first | apply Kd.R_alloc | apply Kd.R_drewN | apply Kd.R_drew)); exact HO_5.out⟩, ⟨by (try simp only [hl5_1]); (with_reducible repeat (first | apply Kd.R_alloc | apply Kd.R_drewN | apply Kd.R_drew)); exact HO201.out⟩, ⟨by (try simp only [hl5_1]); (with_reducible repeat (first | refine bN ?_ _ | refine bD ?_ | refine bA ?_ _)); exact BK190.out⟩, ⟨mH HB⟩⟩
    case round =>
     clear H'
     (try clear c3); (try clear c3b0); (try clear c3b1); (try clear c4); (try clear c4b0); (try clear c4b1); (try clear c5); (try clear c5b0); (try clear c6); (try clear c6b0); (try clear p7); (try clear q7); (try clear c16); (try clear c16b0); (try clear c16b1); (try clear c18); (try clear c18b0); (try clear c19); (try clear c19b0); (try clear c20); (try clear c20b0); (try clear c20b1); (try clear c21); (try clear c21b0); (try clear c22); (try clear c22b0); (try clear q24); (try clear hcz25_0); (try clear hcz9_0); (try clear hfz25_0); (try clear hfz9_0); (try clear hx198_0); (try clear hx202_0); (try clear hx202_1); (try clear hx202_2); (try clear hx202_3); (try clear hx202_4); (try clear hx7_0); (try clear p198); (try clear p202); (try clear p7); (try clear q198); (try clear q202); (try clear q24); (try clear q7)
     obtain ⟨x5_2, x6_2, x40_2, rfl, HA, HK2, HO_5, HO_6, BK190, HB⟩ := hrel; have hl5_2 := (Kd.R_reads' HO_5.out).1; rw [hl5_2] at HO_5
     (try simp only [hl5_2])
     (try simp only [hl5_2] at BK190)
     (try simp only [hl5_2] at HO_6)
     cases gk with
     | zero => exact absurd HA.out (by simp [dir_below.l1])
     | succ k2 =>
      have H := HA.out; clear HA; simp only [dir_below.l1] at H
      by_cases c26 : x40_2 < (((rU l0_0 (rd x6_1 (ji17))).f4).length : Int)
      ·
       rw [if_pos c26] at H; have c26b0 := qT c26; clear c26
       replace H := nP H; obtain ⟨c27, H⟩ := H; have c27b0 := qT c27; clear c27
       replace H := nP H; obtain ⟨c28, H⟩ := H; have c28b0 := qT c28; clear c28
       replace H := nP H; obtain ⟨c29, H⟩ := H; have c29b0 := qT c29; clear c29
       replace H := nP H; obtain ⟨c30, H⟩ := H; have c30b0 := qT c30; clear c30; obtain ⟨bq31, hbq31⟩ : ∃ b_ : Bool, b_ = (rdOf false x5_2 ((rV ((rU l0_0 (rd x6_1 (ji17))).f4) x40_2).f1)) := ⟨_, rfl⟩
       replace H : (if (bq31 = true) then (dir_below.l1 k2 x5_2 x6_2 ((rU l0_0 (rd x6_1 (ji17))).f4) (((rU l0_0 (rd x6_1 (ji17))).f4).length : Int) (wrap64 (x40_2 + 1)) l0_0) else (if x6_2.length < 17592186044416 then (dir_below.l1 k2 (x5_2.set (((rV ((rU l0_0 (rd x6_1 (ji17))).f4) x40_2).f1) : Int).toNat true) (x6_2 ++ [(rV ((rU l0_0 (rd x6_1 (ji17))).f4) x40_2).f1]) ((rU l0_0 (rd x6_1 (ji17))).f4) (((rU l0_0 (rd x6_1 (ji17))).f4).length : Int) (wrap64 (x40_2 + 1)) l0_0) else (none))) = some r := by rw [← hbq31] at H; exact H
       have Nbq31 := kA hbq31; clear hbq31
       by_cases c32 : (bq31 = true)
       ·
        subst c32
        have H1 : (dir_below.l1 k2 x5_2 x6_2 ((rU l0_0 (rd x6_1 (ji17))).f4) (((rU l0_0 (rd x6_1 (ji17))).f4).length : Int) (wrap64 (x40_2 + 1)) l0_0) = some r := by rw [if_pos rfl] at H; exact H
        clear H; have H := H1; clear H1; have H' := kA H; clear H; have p203 : 0 ≤ (x40_2 : Int) := dT; have q203 : x40_2 < (((rU l0_0 (rd x6_1 (ji17))).f4).length : Int) := dT; obtain ⟨ad203, e203, hx203_0, hx203_1⟩ := at_T78 HR202_4.out x40_2 p203 q203
        cases e203
        replace hx203_0 := xC HB hx203_0; replace hx203_1 := xC HB hx203_1; replace p203 := eq_true p203; replace q203 := eq_true q203
        go_wp2_with (first | ((with_reducible refine gate_dst (N := 9) rfl ?_); refine bxE 78 (cs := #[.string (⟨#[]⟩ : ByteArray), .int .i64 0]) ?_; intro gb204 hg w33 hbox hb; replace HO_5 := kR HO_5 hb; replace HO_6 := kR HO_6 hb; have BK204 := kA hbox; have GW204 := kG HB hg; have GE204 := kG HB hg; replace HB := kH HB hb; have NB190_204 := kL BK190 hg; have NB204_190 := kQ BK190 hg; replace BK190 := kB BK190 hb; clear hb hbox hg; have hnb34 := NB204_190.out; have hnc34 := NB190_204.out; obtain ⟨hcz35_0, hfz35_0⟩ := cY0 BK204; obtain ⟨hcz35_1, hfz35_1⟩ := cY1 BK204; have p205 : 0 ≤ (((rV ((rU l0_0 (rd x6_1 (ji17))).f4) x40_2).f1) : Int) := dT; have q205 : ((rV ((rU l0_0 (rd x6_1 (ji17))).f4) x40_2).f1) < (x5_2.length : Int) := dT; obtain ⟨ad205, e205, hx205_0⟩ := Kd.at_bool (Kd.R_reads' HO_5.out).2.2 ((rV ((rU l0_0 (rd x6_1 (ji17))).f4) x40_2).f1) p205 q205; (try rw [← Nbq31.out] at hx205_0); obtain rfl : (⟨go7, 0, none⟩ : Addr) = ad205 := (by injection e205); (first | simp only [add_plain] at hx205_0 | simp only [add_at] at hx205_0 | simp only [Addr.add, Nat.zero_add] at hx205_0 | skip); have hn205_0 : (⟨go7, 0, none⟩ : Addr).block ≠ gb204 := Kd.own_blk (Kd.R_ne HO_5.out BK204.out (by decide)); have hn205_1 : (⟨go7, 0, none⟩ : Addr).block ≠ gb204 := Kd.own_blk (Kd.R_ne HO_5.out BK204.out (by decide)); replace hx205_0 := cF hn205_0 0 (.string ((rV ((rU l0_0 (rd x6_1 (ji17))).f4) x40_2).f0)) hx205_0; replace hx205_0 := cF hn205_1 1 (.int .i64 ((rV ((rU l0_0 (rd x6_1 (ji17))).f4) x40_2).f1)) hx205_0; clear hn205_0; clear hn205_1; replace p205 := eq_true p205; replace q205 := eq_true q205))
        (try simp only [← hl5_2])
        go_roundg k2
        case measure => have := HK1.out; have := HK2.out; omega
        case rel => exact ⟨(x5_2), (x6_2), (wrap64 (x40_2 + 1)), sI, H', ⟨oM HK1 HK2⟩, ⟨by (try simp only [hl5_1]); (try simp only [hl5_2]); (with_reducible repeat (first | apply Kd.R_alloc | apply Kd.R_drewN | apply Kd.R_drew)); exact Kd.R_mono (Kd.R_far (p := ⟨gb204, 1, none⟩) (Kd.R_far (p := ⟨gb204, 0, none⟩) (Kd.R_types HO_5.out BK204.out (by decide)) (fun _ hk => hk.2) (.string ((rV ((rU l0_0 (rd x6_1 (ji17))).f4) x40_2).f0))) (fun _ hk => hk.2) (.int .i64 ((rV ((rU l0_0 (rd x6_1 (ji17))).f4) x40_2).f1))) (fun _ hk => trivial)⟩, ⟨by (try simp only [hl5_1]); (try simp only [hl5_2]); (with_reducible repeat (first | apply Kd.R_alloc | apply Kd.R_drewN | apply Kd.R_drew)); exact Kd.R_mono (Kd.R_far (p := ⟨gb204, 1, none⟩) (Kd.R_far (p := ⟨gb204, 0, none⟩) (Kd.R_types HO_6.out BK204.out (by decide)) (fun _ hk => hk.2) (.string ((rV ((rU l0_0 (rd x6_1 (ji17))).f4) x40_2).f0))) (fun _ hk => hk.2) (.int .i64 ((rV ((rU l0_0 (rd x6_1 (ji17))).f4) x40_2).f1))) (fun _ hk => trivial)⟩, ⟨by (try simp only [hl5_1]); (try simp only [hl5_2]); (with_reducible repeat (first | refine bN ?_ _ | refine bD ?_ | refine bA ?_ _)); refine bF ?_ NB190_204.out _; (with_reducible repeat (first | refine bN ?_ _ | refine bD ?_ | refine bA ?_ _)); refine bF ?_ NB190_204.out _; (with_reducible repeat (first | refine bN ?_ _ | refine bD ?_ | refine bA ?_ _)); exact BK190.out⟩, ⟨mH HB⟩⟩
       ·
        replace c32 := Bool.eq_false_iff.mpr c32; subst c32
        have H1 : (if x6_2.length < 17592186044416 then (dir_below.l1 k2 (x5_2.set (((rV ((rU l0_0 (rd x6_1 (ji17))).f4) x40_2).f1) : Int).toNat true) (x6_2 ++ [(rV ((rU l0_0 (rd x6_1 (ji17))).f4) x40_2).f1]) ((rU l0_0 (rd x6_1 (ji17))).f4) (((rU l0_0 (rd x6_1 (ji17))).f4).length : Int) (wrap64 (x40_2 + 1)) l0_0) else (none)) = some r := by rw [if_neg (show ¬ (false = true) by decide)] at H; exact H
        clear H; have H := H1; clear H1; obtain ⟨y206, hy206⟩ : ∃ y_ : List Bool, y_ = (x5_2.set (((rV ((rU l0_0 (rd x6_1 (ji17))).f4) x40_2).f1) : Int).toNat true) := ⟨_, rfl⟩
        replace H : (if x6_2.length < 17592186044416 then (dir_below.l1 k2 y206 (x6_2 ++ [(rV ((rU l0_0 (rd x6_1 (ji17))).f4) x40_2).f1]) ((rU l0_0 (rd x6_1 (ji17))).f4) (((rU l0_0 (rd x6_1 (ji17))).f4).length : Int) (wrap64 (x40_2 + 1)) l0_0) else (none)) = some r := rH H hy206
        have Ny206 := kA hy206; clear hy206
        replace H := nP H; obtain ⟨c37, H⟩ := H; have LMc37 := kA c37; clear c37; obtain ⟨y207, hy207⟩ : ∃ y_ : List Int, y_ = (x6_2 ++ [(rV ((rU l0_0 (rd x6_1 (ji17))).f4) x40_2).f1]) := ⟨_, rfl⟩
        replace H : (dir_below.l1 k2 y206 y207 ((rU l0_0 (rd x6_1 (ji17))).f4) (((rU l0_0 (rd x6_1 (ji17))).f4).length : Int) (wrap64 (x40_2 + 1)) l0_0) = some r := rH H hy207
        have Ny207 := kA hy207; clear hy207; have H' := kA H; clear H; have p203 : 0 ≤ (x40_2 : Int) := dT; have q203 : x40_2 < (((rU l0_0 (rd x6_1 (ji17))).f4).length : Int) := dT; obtain ⟨ad203, e203, hx203_0, hx203_1⟩ := at_T78 HR202_4.out x40_2 p203 q203
        cases e203
        replace hx203_0 := xC HB hx203_0; replace hx203_1 := xC HB hx203_1; replace p203 := eq_true p203; replace q203 := eq_true q203
        go_wp2_with (first | ((with_reducible refine gate_dst (N := 9) rfl ?_); refine bxE 78 (cs := #[.string (⟨#[]⟩ : ByteArray), .int .i64 0]) ?_; intro gb204 hg w38 hbox hb; replace HO_5 := kR HO_5 hb; replace HO_6 := kR HO_6 hb; have BK204 := kA hbox; have GW204 := kG HB hg; have GE204 := kG HB hg; replace HB := kH HB hb; have NB190_204 := kL BK190 hg; have NB204_190 := kQ BK190 hg; replace BK190 := kB BK190 hb; clear hb hbox hg; have hnb39 := NB204_190.out; have hnc39 := NB190_204.out; obtain ⟨hcz40_0, hfz40_0⟩ := cY0 BK204; obtain ⟨hcz40_1, hfz40_1⟩ := cY1 BK204) | ((with_reducible refine gate_store (t := 78) (p := 9) rfl ?_); refine store_event (t := 78) (p := 9) (v := ?vo_w41) (w1 := ((w38.setCell ⟨gb204, 0, none⟩ (.string ((rV ((rU l0_0 (rd x6_1 (ji17))).f4) x40_2).f0))).setCell ⟨gb204, 1, none⟩ (.int .i64 ((rV ((rU l0_0 (rd x6_1 (ji17))).f4) x40_2).f1)))) ?hg ?ho ?hn ?hr ?_; (case ho => rfl); (case hg => rfl); (case hn => rfl); (case hr => first | (go_simp; done) | (go_simp; rfl)); intro w41 hw; have n0_ : Aside0 (Kd.R Kd.bool 4 w41 w.heap.size (fun _ => True) (.slice (some ⟨go7, 0, none⟩) x5_2.length co7) x5_2) := ⟨(by rw [hw]; exact (fR ⟨Kd.R_types HO_5.out BK204.out (by decide)⟩))⟩; have n1_ : Aside0 (Kd.R (Kd.int .i64) 3 w41 w.heap.size (fun _ => True) u6 x6_2) := ⟨(by rw [hw]; exact (fR ⟨Kd.R_types HO_6.out BK204.out (by decide)⟩))⟩; have n2_ : Aside0 (w41.heap[gb190]? = some (.cells #[.slice (some ad202) l0_0.length c0_0] 24 (0, 0))) := ⟨(by rw [hw]; exact (mF BK190))⟩; have n3_ : Aside0 (w41.heap[gb204]? = some (.cells #[.string ((rV ((rU l0_0 (rd x6_1 (ji17))).f4) x40_2).f0), .int .i64 ((rV ((rU l0_0 (rd x6_1 (ji17))).f4) x40_2).f1)] 78 (0, 0))) := ⟨(by rw [hw]; exact (pP BK204))⟩; have n4_ : Aside0 (Below w.heap.size w w41) := ⟨(by rw [hw]; exact (mH HB))⟩; clear hw; clear HO_5; clear HO_6; clear BK190; clear BK204; clear HB; have HO_5 := n0_; have HO_6 := n1_; have BK190 := n2_; have BK204 := n3_; have HB := n4_; clear n0_ n1_ n2_ n3_ n4_; obtain ⟨hcz42_0, hfz42_0⟩ := cY0 BK204; obtain ⟨hcz42_1, hfz42_1⟩ := cY1 BK204; have p205 : 0 ≤ (((rV ((rU l0_0 (rd x6_1 (ji17))).f4) x40_2).f1) : Int) := dT; have q205 : ((rV ((rU l0_0 (rd x6_1 (ji17))).f4) x40_2).f1) < (x5_2.length : Int) := dT; obtain ⟨ad205, e205, hx205_0⟩ := Kd.at_bool (Kd.R_reads' HO_5.out).2.2 ((rV ((rU l0_0 (rd x6_1 (ji17))).f4) x40_2).f1) p205 q205; (try rw [← Nbq31.out] at hx205_0); obtain rfl : (⟨go7, 0, none⟩ : Addr) = ad205 := (by injection e205); (first | simp only [add_plain] at hx205_0 | simp only [add_at] at hx205_0 | simp only [Addr.add, Nat.zero_add] at hx205_0 | skip); replace p205 := eq_true p205; replace q205 := eq_true q205; have p36 : 0 ≤ (((rV ((rU l0_0 (rd x6_1 (ji17))).f4) x40_2).f1) : Int) := dT; have q36 : (((rV ((rU l0_0 (rd x6_1 (ji17))).f4) x40_2).f1) : Int) < ((x5_2.length : Int) : Int) := dT; obtain ⟨hx36_0, hf36_0⟩ := Kd.R_celln false HO_5.out (((rV ((rU l0_0 (rd x6_1 (ji17))).f4) x40_2).f1) : Int) p36 q36; replace p36 := eq_true p36; replace q36 := eq_true q36; obtain ⟨hy43_, hz43_⟩ := Kd.R_celln false HO_5.out (((rV ((rU l0_0 (rd x6_1 (ji17))).f4) x40_2).f1) : Int) (dT) (dT); have HP43 := Kd.R_putg HO_5.out (((rV ((rU l0_0 (rd x6_1 (ji17))).f4) x40_2).f1) : Int) true) | ((with_reducible refine gate_store (t := 4) (p := 53) rfl ?_); refine store_event (t := 4) (p := 53) (v := ?vo_w44) (w1 := (w41.setCell ⟨go7, (((rV ((rU l0_0 (rd x6_1 (ji17))).f4) x40_2).f1) : Int).toNat, none⟩ (.bool true))) ?hg ?ho ?hn ?hr ?_; (case ho => rfl); (case hg => rfl); (case hn => rfl); (case hr => first | (go_simp; done) | (go_simp; rfl)); intro w44 hw; have hg : w41.grownBy w44 (some go7) := (by rw [hw]; exact HP43.2); have hp_ : Kd.R Kd.bool 4 w44 w.heap.size (fun _ => True) (.slice (some ⟨go7, 0, none⟩) x5_2.length co7) y206 := (by rw [hw, Ny206.out]; exact HP43.1); clear HP43; replace HO_6 := kA (Kd.R_over' (v := (.slice (some ⟨go7, 0, none⟩) x5_2.length co7)) (mR HO_6) (Kd.R_typed HO_5.out) (by decide) hg); replace BK190 := kA (blk_grown (g := gb190) (o := .cells #[.slice (some ad202) l0_0.length c0_0] 24 (0, 0)) (mB BK190) hg (Kd.R_ne HO_5.out BK190.out (by decide))); replace BK204 := kA (blk_grown (g := gb204) (o := .cells #[.string ((rV ((rU l0_0 (rd x6_1 (ji17))).f4) x40_2).f0), .int .i64 ((rV ((rU l0_0 (rd x6_1 (ji17))).f4) x40_2).f1)] 78 (0, 0)) (mB BK204) hg (Kd.R_ne HO_5.out BK204.out (by decide))); replace HO_5 := kA (hp_); replace HB := kA ((by rw [hw]; exact wS (HB.out) GB7.out : Below w.heap.size w w44)); clear hg hw hp_; obtain ⟨hcz45_0, hfz45_0⟩ := cY0 BK204; obtain ⟨hcz45_1, hfz45_1⟩ := cY1 BK204) | ((with_reducible refine gate_builtin (b := .append) (xs := #[.tmp 54, .tmp 57]) rfl ?_); at_builtin; refine Kd.R_append (Kd.int .i64) (w0 := w) w.heap.size rfl (.tmp 54) (.tmp 57) 25 3 (.int .i64 0) 8 rfl Try.underlying25 info3 rfl (by decide) (by omega) u6 x6_2 ((rV ((rU l0_0 (rd x6_1 (ji17))).f4) x40_2).f1) [.int .i64 ((rV ((rU l0_0 (rd x6_1 (ji17))).f4) x40_2).f1)] (fun _ => True) (fun _ => False) rfl rfl ?aP (fun _ hk => hk.elim) ?aF ?aO ?aB ?aS ?aL ?_; (case aP => exact rfl); (case aB => exact (mH HB)); (case aF => exact (fun _ _ => trivial)); (case aO => exact (mR HO_6)); (case aS => exact (below_size (mH HB))); (case aL => have := LMc37.out; omega); intro v208 w46 ho hb hg hat; rw [← Ny207.out] at ho; replace HO_5 := kA (Kd.R_over' (mR HO_5) (Kd.R_typed (mR HO_6)) (by decide) hg); replace BK190 := kA (blk_grown (g := gb190) (o := .cells #[.slice (some ad202) l0_0.length c0_0] 24 (0, 0)) (mB BK190) hg (Kd.R_ne HO_6.out BK190.out (by decide))); replace BK204 := kA (blk_grown (g := gb204) (o := .cells #[.string ((rV ((rU l0_0 (rd x6_1 (ji17))).f4) x40_2).f0), .int .i64 ((rV ((rU l0_0 (rd x6_1 (ji17))).f4) x40_2).f1)] 78 (0, 0)) (mB BK204) hg (Kd.R_ne HO_6.out BK204.out (by decide))); replace HB := kA (hb); have HO209 := kA (ho); clear HO_6; clear ho hb hg hat))
        (try simp only [← hl5_2])
        go_roundg k2
        case measure => have := HK1.out; have := HK2.out; omega
        case rel => exact ⟨(y206), (y207), (wrap64 (x40_2 + 1)), sI, H', ⟨oM HK1 HK2⟩, ⟨by (try simp only [hl5_1]); (try simp only [hl5_2]); (with_reducible repeat (first | apply Kd.R_alloc | apply Kd.R_drewN | apply Kd.R_drew)); exact HO_5.out⟩, ⟨by (try simp only [hl5_1]); (try simp only [hl5_2]); (with_reducible repeat (first | apply Kd.R_alloc | apply Kd.R_drewN | apply Kd.R_drew)); exact HO209.out⟩, ⟨by (try simp only [hl5_1]); (try simp only [hl5_2]); (with_reducible repeat (first | refine bN ?_ _ | refine bD ?_ | refine bA ?_ _)); exact BK190.out⟩, ⟨mH HB⟩⟩
      ·
       rw [if_neg c26] at H; have c26b0 := qF c26; clear c26; have H' := kA H; clear H
       go_wp2
       (try simp only [← hl5_1, ← hl5_2])
       go_roundg k2
       case measure => have := HK1.out; have := HK2.out; omega
       case rel => exact ⟨(x5_2), (x6_2), H', ⟨oM HK1 HK2⟩, ⟨by (try simp only [hl5_1]); (try simp only [hl5_2]); (with_reducible repeat (first | apply Kd.R_alloc | apply Kd.R_drewN | apply Kd.R_drew)); exact HO_5.out⟩, ⟨by (try simp only [hl5_1]); (try simp only [hl5_2]); (with_reducible repeat (first | apply Kd.R_alloc | apply Kd.R_drewN | apply Kd.R_drew)); exact HO_6.out⟩, ⟨by (try simp only [hl5_1]); (try simp only [hl5_2]); (with_reducible repeat (first | refine bN ?_ _ | refine bD ?_ | refine bA ?_ _)); exact BK190.out⟩, ⟨mH HB⟩⟩
   ·
    rw [if_neg c16] at H; have c16b0 : decide (0 < (x6_1.length : Int)) = false := qF c16; have c16b1 : decide (0 < x6_1.length) = false := qF (by omega); clear c16; obtain rfl := qI H; obtain ⟨Ao47, co47, eo47⟩ := Kd.R_slice HO_6.out; subst eo47
    go_wp2
    go_ret
    exact ⟨_, rT, mR HO_5, mH HB⟩
def dir_hangs.f (a0_0 : Int) (a0_1 : Int) (a0_2 : Int) (l0_3 : List Int) (l0_4 : List (S78)) (a1 : Int) (a2 : Int) (a3 : Bool) : Option (Bool) := if a0_0 = 2 then (if a3 = true then (if a1 = 0 then (some true) else (some (a2 == 1))) else (none)) else (if a0_0 = 1 then (some (a0_1 == a2)) else (some (a2 == 0)))
set_option maxHeartbeats 8000000 in
set_option maxRecDepth 100000 in
theorem dir_hangs.calls (a0_0 : Int) (a0_1 : Int) (a0_2 : Int) (A0_3 : Option Addr) (c0_3 : Nat) (l0_3 : List Int) (A0_4 : Option Addr) (c0_4 : Nat) (l0_4 : List (S78)) (a1 : Int) (a2 : Int) (a3 : Bool) (r : Bool) (w : World) (hr0_3 : Kd.C (Kd.int .i64) w A0_3 l0_3.length l0_3) (hc0_3 : l0_3.length ≤ c0_3) (hr0_4 : Kd.C k78 w A0_4 l0_4.length l0_4) (hc0_4 : l0_4.length ≤ c0_4) (h : dir_hangs.f a0_0 a0_1 a0_2 l0_3 l0_4 a1 a2 a3 = some r) :
 Calls Try.prog 74 #[.agg #[.int .i64 a0_0, .int .i64 a0_1, .int .i64 a0_2, .slice A0_3 l0_3.length c0_3, .slice A0_4 l0_4.length c0_4], .int .i64 a1, .int .i64 a2, .bool a3] w fun e w' => e = .returned (.bool r) ∧ Below w.heap.size w w' := by
 have hu28 := Try.underlying28; have HR0_3 := kA hr0_3; have HC0_3 := kA hc0_3; clear hr0_3 hc0_3; have HR0_4 := kA hr0_4; have HC0_4 := kA hc0_4; clear hr0_4 hc0_4; have HB := kA (Below.refl w.heap.size w); have H : (if a0_0 = 2 then (if a3 = true then (if a1 = 0 then (some true) else (some (a2 == 1))) else (none)) else (if a0_0 = 1 then (some (a0_1 == a2)) else (some (a2 == 0)))) = some r := h; clear h
 by_cases c5 : a0_0 = 2
 ·
  rw [if_pos c5] at H; obtain ⟨c5b0, c5b1⟩ := eP c5; clear c5
  by_cases c6 : a3 = true
  ·
   subst c6
   have H1 : (if a1 = 0 then (some true) else (some (a2 == 1))) = some r := by rw [if_pos rfl] at H; exact H
   clear H; have H := H1; clear H1
   by_cases c7 : a1 = 0
   ·
    rw [if_pos c7] at H; obtain ⟨c7b0, c7b1⟩ := eP c7; clear c7; obtain rfl := qI H
    go_enter Try.func74, Try.ntmps74
    go_wp2_with (first | ((with_reducible refine gate_dst (N := 4) rfl ?_); refine bxE 28 (cs := #[.int .i64 a0_0, .int .i64 a0_1, .int .i64 a0_2, .slice A0_3 l0_3.length c0_3, .slice A0_4 l0_4.length c0_4]) ?_; intro gb210 hg w8 hbox hb; have BK210 := kA hbox; have GW210 := kG HB hg; have GE210 := kG HB hg; replace HB := kH HB hb; clear hb hbox hg; obtain ⟨hcz9_0, hfz9_0⟩ := cY0 BK210; obtain ⟨hcz9_1, hfz9_1⟩ := cY1 BK210; obtain ⟨hcz9_2, hfz9_2⟩ := cY2 BK210; obtain ⟨hcz9_3, hfz9_3⟩ := cY3 BK210; obtain ⟨hcz9_4, hfz9_4⟩ := cY4 BK210))
    go_ret
    exact ⟨rT, mH HB⟩
   ·
    rw [if_neg c7] at H; obtain ⟨c7b0, c7b1⟩ := eN c7; obtain rfl := qI H
    go_enter Try.func74, Try.ntmps74
    go_wp2_with (first | ((with_reducible refine gate_dst (N := 4) rfl ?_); refine bxE 28 (cs := #[.int .i64 a0_0, .int .i64 a0_1, .int .i64 a0_2, .slice A0_3 l0_3.length c0_3, .slice A0_4 l0_4.length c0_4]) ?_; intro gb210 hg w10 hbox hb; have BK210 := kA hbox; have GW210 := kG HB hg; have GE210 := kG HB hg; replace HB := kH HB hb; clear hb hbox hg; obtain ⟨hcz11_0, hfz11_0⟩ := cY0 BK210; obtain ⟨hcz11_1, hfz11_1⟩ := cY1 BK210; obtain ⟨hcz11_2, hfz11_2⟩ := cY2 BK210; obtain ⟨hcz11_3, hfz11_3⟩ := cY3 BK210; obtain ⟨hcz11_4, hfz11_4⟩ := cY4 BK210))
    go_ret
    exact ⟨rT, mH HB⟩
  ·
   replace c6 := Bool.eq_false_iff.mpr c6; subst c6
   have H1 : (none) = some r := by rw [if_neg (show ¬ (false = true) by decide)] at H; exact H
   clear H; have H := H1; clear H1; exact absurd H (by simp)
 ·
  rw [if_neg c5] at H; obtain ⟨c5b0, c5b1⟩ := eN c5
  by_cases c12 : a0_0 = 1
  ·
   rw [if_pos c12] at H; obtain ⟨c12b0, c12b1⟩ := eP c12; clear c12; obtain rfl := qI H
   go_enter Try.func74, Try.ntmps74
   go_wp2_with (first | ((with_reducible refine gate_dst (N := 4) rfl ?_); refine bxE 28 (cs := #[.int .i64 a0_0, .int .i64 a0_1, .int .i64 a0_2, .slice A0_3 l0_3.length c0_3, .slice A0_4 l0_4.length c0_4]) ?_; intro gb210 hg w13 hbox hb; have BK210 := kA hbox; have GW210 := kG HB hg; have GE210 := kG HB hg; replace HB := kH HB hb; clear hb hbox hg; obtain ⟨hcz14_0, hfz14_0⟩ := cY0 BK210; obtain ⟨hcz14_1, hfz14_1⟩ := cY1 BK210; obtain ⟨hcz14_2, hfz14_2⟩ := cY2 BK210; obtain ⟨hcz14_3, hfz14_3⟩ := cY3 BK210; obtain ⟨hcz14_4, hfz14_4⟩ := cY4 BK210))
   go_ret
   exact ⟨rT, mH HB⟩
  ·
   rw [if_neg c12] at H; obtain ⟨c12b0, c12b1⟩ := eN c12; obtain rfl := qI H
   go_enter Try.func74, Try.ntmps74
   go_wp2_with (first | ((with_reducible refine gate_dst (N := 4) rfl ?_); refine bxE 28 (cs := #[.int .i64 a0_0, .int .i64 a0_1, .int .i64 a0_2, .slice A0_3 l0_3.length c0_3, .slice A0_4 l0_4.length c0_4]) ?_; intro gb210 hg w15 hbox hb; have BK210 := kA hbox; have GW210 := kG HB hg; have GE210 := kG HB hg; replace HB := kH HB hb; clear hb hbox hg; obtain ⟨hcz16_0, hfz16_0⟩ := cY0 BK210; obtain ⟨hcz16_1, hfz16_1⟩ := cY1 BK210; obtain ⟨hcz16_2, hfz16_2⟩ := cY2 BK210; obtain ⟨hcz16_3, hfz16_3⟩ := cY3 BK210; obtain ⟨hcz16_4, hfz16_4⟩ := cY4 BK210))
   go_ret
   exact ⟨rT, mH HB⟩
def apSeqs : List Int → List Int → Option (Option (List Int))
 | seen, [] => some (some seen)
 | seen, s :: r => if (Lit.int .i64 s).wf = true then (if seen.length < 1000 then (if s ≠ 0 ∧ s ∈ seen then some none else apSeqs (s :: seen) r) else none) else none
def apScan : List Int → List S28 → Option (Option (List Int))
 | seen, [] => some (some seen)
 | seen, n :: r => (apSeqs seen n.f3).bind fun q => (match q with | some seen' => apScan seen' r | none => some none)
def CntIs (D : DataW Unit) (seen : List Int) : Prop :=
 Maps.Tidy D ∧ ∀ p : Int, (Lit.int .i64 p).wf = true → D.atKey (.int .i64 p) (.lit (.int .i64 0)) = .lit (.int .i64 (seen.count p : Int))
def CntOf (w : World) (b : Nat) (seen : List Int) : Prop := ∃ D : DataW Unit, w.ownsMap Try.prog 3 (plainElem Try.prog 3) b seen.length D ∧ CntIs D seen
theorem ap_keyLit (p : Int) : WideAt.IsKeyLit (.int .i64 p) := trivial
theorem ap_key_ne {p q : Int} (h : p ≠ q) : (Lit.int .i64 p) ≠ (Lit.int .i64 q) := fun e => h (by injection e)
theorem CntOf_kept {w w' : World} {b : Nat} {s : List Int} (hM : CntOf w b s) {B : Nat} (hb : Below B w w') (hB : b < B) : CntOf w' b s := by
 obtain ⟨D, ⟨es, clock, hc, F, hs, hD⟩, hI⟩ := hM; exact ⟨D, ⟨es, clock, (hb.block b hB).trans hc, F, hs, hD⟩, hI⟩
theorem CntOf_far {w : World} {b : Nat} {s : List Int} (hM : CntOf w b s) {p : Addr} (hp : b ≠ p.block) (v : Value) : CntOf (w.setCell p v) b s := by
 obtain ⟨D, ⟨es, clock, hc, F, hs, hD⟩, hI⟩ := hM; exact ⟨D, ⟨es, clock, (Below.heap_setCell w p v b hp).trans hc, F, hs, hD⟩, hI⟩
theorem CntOf_lt {w : World} {b : Nat} {s : List Int} (hM : CntOf w b s) : b < w.heap.size := by obtain ⟨D, h1, h2⟩ := hM; exact h1.lt
theorem CntOf_obj {w : World} {b : Nat} {s : List Int} (hM : CntOf w b s) : ∃ es c, w.heap[b]? = some (.map es c) := by
 obtain ⟨D, ⟨es, clock, hc, _⟩, _⟩ := hM; exact ⟨es, clock, hc⟩
theorem CntOf_made (w : World) : CntOf (w.alloc (.map #[] 0)) w.heap.size [] :=
 ⟨.map [], World.ownsMap_made w _ _ _, Maps.tidy_empty, fun p _ => by simp [DataW.atKey]⟩
theorem ap_seen5 {w : World} {g b : Nat} {s : List Int} (h : CntOf w b s) (hne : b ≠ g) (a0 a1 a2 a3 a4 : Value) : CntOf (((((w.setCell ⟨g, 0, none⟩ a0).setCell ⟨g, 1, none⟩ a1).setCell ⟨g, 2, none⟩ a2).setCell ⟨g, 3, none⟩ a3).setCell ⟨g, 4, none⟩ a4) b s :=
 CntOf_far (p := ⟨g, 4, none⟩) (CntOf_far (p := ⟨g, 3, none⟩) (CntOf_far (p := ⟨g, 2, none⟩) (CntOf_far (p := ⟨g, 1, none⟩) (CntOf_far (p := ⟨g, 0, none⟩) h hne _) hne _) hne _) hne _) hne _
section
variable {w : World} {ops : Array Oper} {rest : List Oper} {o : Oper} {a : Act} {Q : Exit → Act → World → Prop} {b : Nat} {seen : List Int}
theorem wp_cnt (hg : o.guard = none) (m x : Operand) (hop : o.op = Op.lookup 76 m x false) (hM : CntOf w b seen) (hm : a.eval m = .map (some b)) (p : Int) (hw : (Lit.int .i64 p).wf = true) (hx : a.eval x = .int .i64 p)
 (hK : ∀ n : Int, n = (seen.count p : Int) → wpList Try.prog ops Q rest (a.put o.dst (.int .i64 n)) w) : wpList Try.prog ops Q (o :: rest) a w := by
 obtain ⟨D, hown, hT, ha⟩ := hM; refine wpList_lookup_own_int w hg m x 76 hop 3 3 .i64 (Maps.int_keyed Try.underlying3) Try.underlying76 Try.underlying3 (by kernel_rfl) b _ D hm hown _ _ hx (Maps.keyOf_int_mk Try.underlying3 hw) ?_; intro c hc _; rw [ha p hw] at hc
 injection hc with hc; injection hc with _ hc
 exact hK c hc.symm
theorem wp_up (hg : o.guard = none) (m x v : Operand) (hop : o.op = Op.mapUpdate 76 m x v) (hM : CntOf w b seen) (hn : seen.length < 1000) (hm : a.eval m = .map (some b)) (p : Int) (hw : (Lit.int .i64 p).wf = true)
 (hx : a.eval x = .int .i64 p) {n : Int} (hnn : n = (seen.count p : Int)) (hv : a.eval v = .int .i64 (wrap64 (n + 1)))
 (hK : ∀ w', CntOf w' b (p :: seen) → w.grownBy w' (some b) → wpList Try.prog ops Q rest (a.put o.dst undef) w') : wpList Try.prog ops Q (o :: rest) a w := by
 obtain ⟨D, hown, hT, ha⟩ := hM; have hcl : seen.count p ≤ seen.length := List.count_le_length
 have hval : wrap64 (n + 1) = (((p :: seen).count p : Nat) : Int) := by rw [List.count_cons_self, hnn]; unfold wrap64; push_cast; omega
 have hcl2 : (p :: seen).count p ≤ 1000 := by rw [List.count_cons_self]; omega
 rw [hval] at hv
 refine wpList_mapUpdate_own w hg m x v 76 hop 3 3 (Maps.int_keyed Try.underlying3) Try.underlying76 _ b _ D hm hown (by unfold maxLen; omega) _ _ _ hx hv (Maps.keyOf_int_mk Try.underlying3 hw) (.lit (.int .i64 (((p :: seen).count p : Nat) : Int))) [] (plainElem_int Try.underlying3 (by
  generalize (p :: seen).count p = z at hcl2
  simp [Lit.wf, IntKind.min, IntKind.max, IntKind.signed, IntKind.bits]; omega)) ?_
 intro w' hown' hgr; refine hK w' ⟨_, hown', hT.put (ap_keyLit _) _, fun r hr => ?_⟩ hgr
 by_cases c : r = p
 ·
  subst c; rw [Maps.atKey_put_same hT.isMap (ap_keyLit _)]
 ·
  rw [Maps.atKey_put_other (ap_key_ne c), ha r hr, List.count_cons_of_ne (Ne.symm c)]
end
theorem ap_gt {m x : Int} {seen : List Int} (h : m = (((x :: seen).count x : Nat) : Int)) (hx : x ∈ seen) : decide (1 < m) = true := by
 have := List.count_pos_iff.2 hx; rw [List.count_cons_self] at h; exact qT (by omega)
theorem ap_ng {m x : Int} {seen : List Int} (h : m = (((x :: seen).count x : Nat) : Int)) (hx : x ∉ seen) : decide (1 < m) = false := by
 have := List.count_eq_zero.2 hx; rw [List.count_cons_self] at h; exact qF (by omega)
set_option maxHeartbeats 8000000 in
set_option maxRecDepth 100000 in
theorem apart_walk (A : Option Addr) (c : Nat) (l : List S28) (r : Bool) (w : World) (hr : Kd.C k28 w A l.length l) (hc : l.length ≤ c) (h : (if l.length = 12 then (apScan [] l).bind fun s => some s.isSome else none) = some r) :
 Calls Try.prog 75 #[.agg #[.slice A l.length c]] w fun e w' => e = .returned (.bool r) ∧ Below w.heap.size w w' := by
 have hu24 := Try.underlying24; have hu28 := Try.underlying28; have HB := kA (Below.refl w.heap.size w)
 by_cases hl : l.length = 12
 case neg => rw [if_neg hl] at h; cases h
 case pos =>
  rw [if_pos hl] at h; have HR := kA (show Kd.C k28 w A 12 l from hl ▸ hr); have HC := kA (show 12 ≤ c from hl ▸ hc); have HL := kA hl; rw [hl]; clear hr hc hl; obtain ⟨ad, _, _, _, _, e0, -⟩ := at_T28 HR.out 0 (by omega) (by omega); subst e0; obtain ⟨s, hs, h⟩ := qB h; obtain rfl := qI h; have HS := kA hs; clear h hs
  have hmk : ∀ W : World, (Instr.makeMap 76 none).run Try.prog W = .ok (.map (some W.heap.size)) (W.alloc (.map #[] 0)) := fun W => run_makeMap 76 W
  go_enter Try.func75, Try.ntmps75
  go_upto_region 2 with ((with_reducible refine gate_dst (N := 1) rfl ?_); (try (refine gate_guard (by rfl) ?_; dsimp only)); refine bxE 24 (cs := #[.slice (some ad) 12 c]) ?_; intro bt hg_ w1 hbox hb; have GT := kA (show w.heap.size ≤ bt from by rw [hg_]; exact HB.out.size); have BT := kA hbox; have m_HB := kA (below_step HB.out hb); clear HB; have HB := m_HB; clear m_HB; have ht0 := cZ0 BT; clear hg_ hbox hb)
  clear hmk ht0; have n0_ := kA (CntOf_made w1); have n1_ := kA (bA BT.out (.map #[] 0)); have n2_ := kA (wA HB.out (.map #[] 0)); have GM := kA HB.out.size; clear BT HB; generalize w1.heap.size = b at GM n0_ ⊢; generalize w1.alloc (.map #[] 0) = w2 at n0_ n1_ n2_ ⊢; have HM := n0_; have BT := n1_; have HB := n2_; clear n0_ n1_ n2_; have ht0 := cZ0 BT
  go_wp2
  clear ht0
  go_loopg [12] 12 (fun gk v12 w' => ∃ (i : Nat) (seen : List Int), v12 = .int .i64 i ∧ i ≤ 12 ∧ 12 - i ≤ gk ∧ Aside0 (w'.heap[bt]? = some (.cells #[.slice (some ad) 12 c] 24 (0, 0))) ∧ Aside0 (CntOf w' b seen) ∧ Aside0 (Below w.heap.size w w') ∧ Aside0 (apScan seen (l.drop i) = some s))
  case atStart => exact ⟨0, [], rfl, by omega, by omega, BT, HM, HB, HS⟩
  case round =>
   clear HM BT HB HS; obtain ⟨i, seen, rfl, hi12, hig, BT, HM, HB, HS⟩ := hrel
   by_cases hlt : i < 12
   case neg =>
    have : i = 12 := by omega
    subst this; have hd := HS.out; clear HS; rw [show l.drop 12 = [] from by rw [List.drop_eq_nil_iff, HL.out]; exact Nat.le_refl _] at hd
    obtain rfl := qI (show some (some seen) = some s from hd); clear hd hlt HM
    go_wp2
    go_ret
    exact ⟨rfl, HB.out⟩
   case pos =>
    have cd1 : decide ((i : Int) < 12) = true := qT (by omega); have cd2 : decide (i < 12) = true := qT (by omega); have hd := HS.out; clear HS; rw [mt_drop (show i < l.length by rw [HL.out]; exact hlt) z28] at hd
    simp only [apScan] at hd; obtain ⟨q, hq, hd⟩ := qB hd; have HQ := kA hq; clear hq; have HD := kA hd; clear hd; obtain ⟨ad', A3, c3, A4, c4, e0, hx0, hx1, hx2, hx3, hx4, l3, g3, -⟩ := at_T28 HR.out i (by omega) (by omega)
    cases e0
    have hrd : rU l (i : Int) = l.getD i z28 := by unfold rU; rw [Int.toNat_natCast]
    rw [hrd] at hx0 hx1 hx2 hx3 hx4 l3 g3; clear hrd; generalize l.getD i z28 = n at hx0 hx1 hx2 hx3 hx4 l3 g3 HQ; have HR3 := kA g3; have HC3 := kA l3; clear g3 l3; replace hx0 := xC HB hx0; replace hx1 := xC HB hx1; replace hx2 := xC HB hx2; replace hx3 := xC HB hx3; replace hx4 := xC HB hx4; simp only [Int.toNat_natCast] at hx0 hx1 hx2 hx3 hx4; have p1 : (0 ≤ (i : Int)) = True := eq_true (by omega); have q1 : ((i : Int) < 12) = True := eq_true (by omega); have HLT := kA hlt; clear hlt
    go_upto_region 5 with ((with_reducible refine gate_dst (N := 5) rfl ?_); (try (refine gate_guard (by rfl) ?_; dsimp only)); refine bxE 28 (cs := #[.int .i64 0, .int .i64 0, .int .i64 0, .slice none 0 0, .slice none 0 0]) ?_; intro bn hg_ w3 hbox hb; have NTN := kA (show bt ≠ bn from by rw [hg_]; exact Nat.ne_of_lt (blk_lt BT.out)); have NMN := kA (show b ≠ bn from by rw [hg_]; exact Nat.ne_of_lt (CntOf_lt HM.out)); have GN := kA (show w.heap.size ≤ bn from by rw [hg_]; exact HB.out.size); have BN := kA hbox; have m_BT := kA (bB BT.out hb); have m_HM := kA (CntOf_kept HM.out hb (CntOf_lt HM.out)); have m_HB := kA (below_step HB.out hb); clear BT HM HB; have BT := m_BT; have HM := m_HM; have HB := m_HB; clear m_BT m_HM m_HB; have hz0 := cZ0 BN; have hf0 := bZ BN.out 0; have hz1 := cZ1 BN; have hf1 := bZ BN.out 1; have hz2 := cZ2 BN; have hf2 := bZ BN.out 2; have hz3 := cZ3 BN; have hf3 := bZ BN.out 3; have hz4 := cZ4 BN; have hf4 := bZ BN.out 4; clear hg_ hbox hb)
    have n0_ := kA (mt_far5 BT.out NTN.out (.int .i64 n.f0) (.int .i64 n.f1) (.int .i64 n.f2) (.slice A3 n.f3.length c3) (.slice A4 n.f4.length c4)); have n1_ := kA (ap_seen5 HM.out NMN.out (.int .i64 n.f0) (.int .i64 n.f1) (.int .i64 n.f2) (.slice A3 n.f3.length c3) (.slice A4 n.f4.length c4)); have n2_ := kA (mt_put5 BN.out (.int .i64 n.f0) (.int .i64 n.f1) (.int .i64 n.f2) (.slice A3 n.f3.length c3) (.slice A4 n.f4.length c4)); have n3_ := kA (mt_bel5 HB.out GN.out (.int .i64 n.f0) (.int .i64 n.f1) (.int .i64 n.f2) (.slice A3 n.f3.length c3) (.slice A4 n.f4.length c4)); clear BT HM BN HB hz0 hf0 hz1 hf1 hz2 hf2 hz3 hf3 hz4 hf4 hx0 hx1 hx2 hx3 hx4 p1 q1; generalize (((((w3.setCell ⟨bn, 0, none⟩ (.int .i64 n.f0)).setCell ⟨bn, 1, none⟩ (.int .i64 n.f1)).setCell ⟨bn, 2, none⟩ (.int .i64 n.f2)).setCell ⟨bn, 3, none⟩ (.slice A3 n.f3.length c3)).setCell ⟨bn, 4, none⟩ (.slice A4 n.f4.length c4)) = w4 at n0_ n1_ n2_ n3_ ⊢; have BT := n0_; have HM := n1_; have BN := n2_; have HB := n3_; clear n0_ n1_ n2_ n3_; have hn3 := cZ3 BN
    go_wp2
    clear hn3; clear GN NTN NMN BN
    go_loopg [19] n.f3.length (fun gk v19 w' => ∃ (j : Nat) (seen' : List Int), v19 = .int .i64 j ∧ j ≤ n.f3.length ∧ n.f3.length - j ≤ gk ∧ Aside0 (w'.heap[bt]? = some (.cells #[.slice (some ad) 12 c] 24 (0, 0))) ∧ Aside0 (CntOf w' b seen') ∧ Aside0 (Below w.heap.size w w') ∧ Aside0 (apSeqs seen' (n.f3.drop j) = some q))
    case atStart => exact ⟨0, seen, rfl, Nat.zero_le _, by omega, BT, HM, HB, HQ⟩
    case round =>
     clear BT HM HB HQ; obtain ⟨j, seen', rfl, hj, hjg, BT, HM, HB, HQ⟩ := hrel
     by_cases hlt : j < n.f3.length
     case pos =>
      have cd1 : decide ((j : Int) < (n.f3.length : Int)) = true := qT (by omega); have cd2 : decide (j < n.f3.length) = true := qT (by omega); have hd := HQ.out; clear HQ; rw [mt_drop hlt 0] at hd; simp only [apSeqs] at hd; obtain ⟨ad3, e3, hy0⟩ := Kd.at_int HR3.out j (by omega) (by omega)
      cases e3
      rw [mt_rd] at hy0; generalize n.f3.getD j 0 = x at hy0 hd
      by_cases cw : (Lit.int .i64 x).wf = true
      case neg => rw [if_neg cw] at hd; cases hd
      case pos =>
       rw [if_pos cw] at hd; have CW := kA cw; clear cw
       by_cases cl : seen'.length < 1000
       case neg => rw [if_neg cl] at hd; cases hd
       case pos =>
        rw [if_pos cl] at hd; have CL := kA cl; clear cl; replace hy0 := xC HB hy0; simp only [Int.toNat_natCast] at hy0; have p2 : (0 ≤ (j : Int)) = True := eq_true (by omega); have q2 : ((j : Int) < (n.f3.length : Int)) = True := eq_true (by omega); have HLT := kA hlt; clear hlt
        by_cases c0 : x = 0
        case pos =>
         subst c0; rw [if_neg (fun h => h.1 rfl)] at hd; have HQ := kA hd; clear hd
         go_wp2_with (first | (at_lookup; (try (refine gate_guard (by rfl) ?_; dsimp only)); refine wp_cnt rfl _ _ rfl HM.out rfl 0 CW.out rfl ?_; intro m hm; have HE := kA hm; clear hm) | (at_mapUpdate; refine wp_up rfl _ _ _ rfl HM.out CL.out rfl 0 CW.out rfl HE.out rfl ?_; intro w8 hM8 hg8; replace BT := kA (blk_map BT.out (CntOf_obj HM.out) hg8); replace HM := kA hM8; replace HB := kA (below_map HB.out hg8 GM.out HB.out.size); clear HE))
         go_roundg (n.f3.length - (j + 1))
         case measure => have := HLT.out; omega
         case rel => exact ⟨j + 1, _, mt_succ j (by have := HLT.out; have := Kd.C_max HR3.out; omega), HLT.out, Nat.le_refl _, BT, HM, HB, HQ⟩
        case neg =>
         have k1 : (x == 0) = false := by simpa using c0
         have k2 : (x != 0) = true := by simpa using c0
         have k3 := qF c0
         by_cases cm : x ∈ seen'
         case pos =>
          rw [if_pos ⟨c0, cm⟩] at hd; have CM := kA cm; clear cm c0; obtain rfl := qI hd; clear hd; obtain rfl := qI (show some none = some s from HD.out)
          go_wp2_with (first | (at_lookup; (try (refine gate_guard (by rfl) ?_; dsimp only)); refine wp_cnt rfl _ _ rfl HM.out rfl x CW.out rfl ?_; intro m hm; have HE := kA hm; clear hm; (try (have cgt := ap_gt HE.out CM.out))) | (at_mapUpdate; refine wp_up rfl _ _ _ rfl HM.out CL.out rfl x CW.out rfl HE.out rfl ?_; intro w8 hM8 hg8; replace BT := kA (blk_map BT.out (CntOf_obj HM.out) hg8); replace HM := kA hM8; replace HB := kA (below_map HB.out hg8 GM.out HB.out.size); clear HE))
          go_ret
          exact ⟨rfl, HB.out⟩
         case neg =>
          rw [if_neg (fun h => cm h.2)] at hd; have CM := kA cm; clear cm c0; have HQ := kA hd; clear hd
          go_wp2_with (first | (at_lookup; (try (refine gate_guard (by rfl) ?_; dsimp only)); refine wp_cnt rfl _ _ rfl HM.out rfl x CW.out rfl ?_; intro m hm; have HE := kA hm; clear hm; (try (have cgt := ap_ng HE.out CM.out))) | (at_mapUpdate; refine wp_up rfl _ _ _ rfl HM.out CL.out rfl x CW.out rfl HE.out rfl ?_; intro w8 hM8 hg8; replace BT := kA (blk_map BT.out (CntOf_obj HM.out) hg8); replace HM := kA hM8; replace HB := kA (below_map HB.out hg8 GM.out HB.out.size); clear HE))
          go_roundg (n.f3.length - (j + 1))
          case measure => have := HLT.out; omega
          case rel => exact ⟨j + 1, _, mt_succ j (by have := HLT.out; have := Kd.C_max HR3.out; omega), HLT.out, Nat.le_refl _, BT, HM, HB, HQ⟩
     case neg =>
      have : j = n.f3.length := by omega
      subst this; have cd1 : decide ((n.f3.length : Int) < (n.f3.length : Int)) = false := qF (by omega); have hd := HQ.out; clear HQ; rw [List.drop_length] at hd; obtain rfl := qI (show some (some seen') = some q from hd); clear hd hlt; have HS := kA (show apScan seen' (l.drop (i + 1)) = some s from HD.out); clear HD
      go_wp2
      go_roundg (12 - (i + 1))
      case measure => have := HLT.out; omega
      case rel => exact ⟨i + 1, seen', by first | rfl | (push_cast; rfl) | exact mt_succ i (oK HLT), HLT.out, Nat.le_refl _, BT, HM, HB, HS⟩
def dir_apart.f (l0_0 : List (S28)) : Option (Bool) := if l0_0.length = 12 then (apScan [] l0_0).bind fun s => some s.isSome else none
theorem dir_apart.calls (A0_0 : Option Addr) (c0_0 : Nat) (l0_0 : List (S28)) (r : Bool) (w : World) (hr0_0 : Kd.C k28 w A0_0 l0_0.length l0_0) (hc0_0 : l0_0.length ≤ c0_0) (h : dir_apart.f l0_0 = some r) :
 Calls Try.prog 75 #[.agg #[.slice A0_0 l0_0.length c0_0]] w fun e w' => e = .returned (.bool r) ∧ Below w.heap.size w w' := by
 unfold dir_apart.f at h
 exact apart_walk A0_0 c0_0 l0_0 r w hr0_0 hc0_0 h
abbrev B20_0 : Array Bool := #[false, false, false, false, false, false]
abbrev B20_1 := B20_0.set! 0 true
abbrev B20_2 := B20_1.set! 2 true
abbrev B20_3 := B20_2.set! 1 true
abbrev B20_4 := B20_3.set! 3 true
abbrev B20_5 := B20_4.set! 4 true
abbrev B20_6 := B20_5.set! 5 true
abbrev B20_7 : Array Bool := #[false, false, false, false, false, false, false, false, false, false, false, false]
abbrev B20_8 := B20_7.set! 1 true
abbrev B20_9 := B20_8.set! 2 true
abbrev B20_10 := B20_9.set! 3 true
abbrev B20_11 := B20_10.set! 4 true
abbrev B20_12 := B20_11.set! 6 true
abbrev B20_13 := B20_12.set! 7 true
abbrev B20_14 := B20_13.set! 8 true
abbrev B20_15 := B20_14.set! 0 true
abbrev B20_16 := B20_15.set! 5 true
abbrev B20_17 := B20_16.set! 9 true
abbrev B20_18 := B20_17.set! 10 true
abbrev B20_19 := B20_18.set! 11 true
mutual
def dir_May.j0 : Nat → Bool → List (S28) → Option (Bool)
 | 0, _, _ => none
 | k + 1, x23, x212000 => if x23 = true then (none) else ((dir_names.f k x212000).bind fun t214 => ((dir_below.f k x212000 0).bind fun t217 => (dir_May.l0 k t214 t217 x212000 (x212000.length : Int) 0 x212000)))
def dir_May.l0 : Nat → List Int → List Bool → List (S28) → Int → Int → List (S28) → Option (Bool)
 | 0, _, _, _, _, _, _ => none
 | k + 1, x3, x4, x29, x30, x31, x212000 => if x31 < x30 then (if 0 ≤ x31 then (if x31 < (x29.length : Int) then (if x31 < (x3.length : Int) then (if x31 < (x4.length : Int) then ((dir_hangs.f ((rU x29 x31).f0) ((rU x29 x31).f1) ((rU x29 x31).f2) ((rU x29 x31).f3) ((rU x29 x31).f4) x31 (rd x3 x31) (rdOf false x4 x31)).bind fun t224 => (if t224 = true then (dir_May.l0 k x3 x4 x29 x30 (wrap64 (x31 + 1)) x212000) else (none))) else (none)) else (none)) else (none)) else (none)) else ((dir_apart.f x212000).bind fun t225 => (some t225))
end
def dir_May.f (k : Nat) (l0_0 : List (S28)) : Option (Bool) := if (l0_0.length : Int) = 12 then ((api_Node_64.f k l0_0).bind fun t212 => (if t212 = true then (none) else (if 0 < (l0_0.length : Int) then (dir_May.j0 k (((rU l0_0 0).f0) != 2) l0_0) else (none)))) else (none)
theorem dir_May.mono_l : ∀ k, (∀ y0 y1, LeO (dir_May.j0 k y0 y1) (dir_May.j0 (k + 1) y0 y1)) ∧ (∀ y0 y1 y2 y3 y4 y5, LeO (dir_May.l0 k y0 y1 y2 y3 y4 y5) (dir_May.l0 (k + 1) y0 y1 y2 y3 y4 y5))
 | 0 => ⟨fun _ _ r h => by simp [dir_May.j0] at h, fun _ _ _ _ _ _ r h => by simp [dir_May.l0] at h⟩
 | k + 1 => by
  obtain ⟨ih0, ih1⟩ := dir_May.mono_l k; refine ⟨?_, ?_⟩
  ·
   intro y0 y1
   unfold dir_May.j0
   repeat' with_reducible first | apply ih0 | apply ih1 | apply api_Node_64.mono | apply dir_below.mono | apply dir_names.mono | exact LeO.refl _ | exact LeO.none _ | refine LeO.ite ?_ ?_ | refine LeO.bind ?_ (fun _ => ?_)
  ·
   intro y0 y1 y2 y3 y4 y5
   unfold dir_May.l0
   repeat' with_reducible first | apply ih0 | apply ih1 | apply api_Node_64.mono | apply dir_below.mono | apply dir_names.mono | exact LeO.refl _ | exact LeO.none _ | refine LeO.ite ?_ ?_ | refine LeO.bind ?_ (fun _ => ?_)
theorem dir_May.mono : ∀ a0 k, LeO (dir_May.f k a0) (dir_May.f (k + 1) a0) := by
 intro a0 k; obtain ⟨ih0, ih1⟩ := dir_May.mono_l k
 unfold dir_May.f
 repeat' with_reducible first | apply ih0 | apply ih1 | apply api_Node_64.mono | apply dir_below.mono | apply dir_names.mono | exact LeO.refl _ | exact LeO.none _ | refine LeO.ite ?_ ?_ | refine LeO.bind ?_ (fun _ => ?_)
def dir_May.T7 : Bool × List (List Nat × List Nat) := (true, [([], []), ([], []), ([], []), ([], []), ([2, 3], [2, 3]), ([4], [4]), ([], []), ([], []), ([6, 7], [6, 7]), ([8], [8]), ([0, 1, 5, 9], [0, 1, 5, 9]), ([10], [10])])
def dir_May.B7 : List Nat := [0, 0, 0, 0, 12, 28, 0, 0, 192, 448, 1023, 2047]
theorem dir_May.tab7 : rtab .any (opsOf Try.f55 7) = dir_May.T7 := by kernel_rfl
theorem dir_May.bits7 : waitsOk dir_May.T7.2 dir_May.B7 = true := by kernel_rfl
set_option maxHeartbeats 8000000 in
set_option maxRecDepth 100000 in
theorem dir_May.calls (k : Nat) (A0_0 : Option Addr) (c0_0 : Nat) (l0_0 : List (S28)) (r : Bool) (w : World) (hr0_0 : Kd.C k28 w A0_0 l0_0.length l0_0) (hc0_0 : l0_0.length ≤ c0_0) (h : dir_May.f k l0_0 = some r) :
 Calls Try.prog 55 #[.agg #[.slice A0_0 l0_0.length c0_0]] w fun e w' => e = .returned (.bool r) ∧ Below w.heap.size w w' := by
 have hu24 := Try.underlying24; have hu28 := Try.underlying28; have HR0_0 := kA hr0_0; have HC0_0 := kA hc0_0; clear hr0_0 hc0_0; have HB := kA (Below.refl w.heap.size w); have H : (if (l0_0.length : Int) = 12 then ((api_Node_64.f k l0_0).bind fun t212 => (if t212 = true then (none) else (if 0 < (l0_0.length : Int) then (dir_May.j0 k (((rU l0_0 0).f0) != 2) l0_0) else (none)))) else (none)) = some r := h; clear h; have HC2 := kA H; clear H
 go_enter Try.func55, Try.ntmps55
 go_upto_region 1 with (first | ((with_reducible refine gate_dst (N := 1) rfl ?_); refine bxE 24 (cs := #[.slice A0_0 l0_0.length c0_0]) ?_; intro gb211 hg w3 hbox hb; have BK211 := kA hbox; have GW211 := kG HB hg; have GE211 := kG HB hg; replace HB := kH HB hb; clear hb hbox hg))
 (try simp only [Act.put, lT, l0_, lS])
 go_cut [23] (fun v23 wc => ∃ (kq : Nat) (x23_1 : Bool), v23 = .bool x23_1 ∧ Aside0 (dir_May.j0 kq x23_1 l0_0 = some r) ∧ Aside0 (kq ≤ k) ∧ Aside0 (wc.heap[gb211]? = some (.cells #[(.slice A0_0 l0_0.length c0_0)] 24 (0, 0))) ∧ Aside0 (Below w.heap.size w wc))
 case first =>
  have H := HC2.out; clear HC2
  replace H := nP H; obtain ⟨c4, H⟩ := H; obtain ⟨c4b0, c4b1⟩ := eP c4; clear c4
  (first | rw [c4b0] | (simp only [i64_w, i32_w]; rw [c4b0]) | skip)
  replace H := qB H; obtain ⟨t212, A50, H⟩ := H; have A5 := kA A50; clear A50
  by_cases c6 : t212 = true
  ·
   subst c6
   have H1 : (none) = some r := by rw [if_pos rfl] at H; exact H
   clear H; have H := H1; clear H1; exact absurd H (by simp)
  ·
   replace c6 := Bool.eq_false_iff.mpr c6; subst c6
   have H1 : (if 0 < (l0_0.length : Int) then (dir_May.j0 k (((rU l0_0 0).f0) != 2) l0_0) else (none)) = some r := by rw [if_neg (show ¬ (false = true) by decide)] at H; exact H
   clear H; have H := H1; clear H1
   replace H := nP H; obtain ⟨c7, H⟩ := H; have c7b0 := qT c7; have c7b1 : decide (0 < l0_0.length) = true := qT (by omega); clear c7; have H' := kA H; clear H; obtain ⟨hcz8_0, hfz8_0⟩ := cY0 BK211
   go_wp2_with (first | (go_at_call 64; (with_reducible refine (api_Node_64.calls k _ _ l0_0 false _ ?side1 ?side2 A5.out).mono ?_); (case side1 => exact mC HR0_0 HB); (case side2 => exact HC0_0.out); rintro e w9 ⟨rfl, hb⟩; replace BK211 := kB BK211 hb; replace HB := kH HB hb; (try clear hb); obtain ⟨hcz10_0, hfz10_0⟩ := cY0 BK211; have p213 : 0 ≤ (0 : Int) := (by omega); have q213 : 0 < (l0_0.length : Int) := dT; obtain ⟨ad213, A213_3, c213_3, A213_4, c213_4, e213, hx213_0, hx213_1, hx213_2, hx213_3, hx213_4, hl213_3, hi213_3, hl213_4, hi213_4⟩ := at_T28 HR0_0.out 0 p213 q213; cases e213; have qi213 : (0 < l0_0.length) = True := eq_true (by omega); (try rw [show ((0 : Int)).toNat = 0 from rfl] at hx213_0); (try rw [show 0 * 5 = 0 from rfl] at hx213_0); (try rw [Addr.add_zero'] at hx213_0); (try rw [show ((0 : Int)).toNat = 0 from rfl] at hx213_1); (try rw [show 0 * 5 = 0 from rfl] at hx213_1); (try rw [Addr.add_zero'] at hx213_1); (try rw [show ((0 : Int)).toNat = 0 from rfl] at hx213_2); (try rw [show 0 * 5 = 0 from rfl] at hx213_2); (try rw [Addr.add_zero'] at hx213_2); (try rw [show ((0 : Int)).toNat = 0 from rfl] at hx213_3); (try rw [show 0 * 5 = 0 from rfl] at hx213_3); (try rw [Addr.add_zero'] at hx213_3); (try rw [show ((0 : Int)).toNat = 0 from rfl] at hx213_4); (try rw [show 0 * 5 = 0 from rfl] at hx213_4); (try rw [Addr.add_zero'] at hx213_4); replace hx213_0 := xC HB hx213_0; replace hx213_1 := xC HB hx213_1; replace hx213_2 := xC HB hx213_2; replace hx213_3 := xC HB hx213_3; replace hx213_4 := xC HB hx213_4; have HR213_3 := kA hi213_3; have HC213_3 := kA hl213_3; clear hi213_3 hl213_3; have HR213_4 := kA hi213_4; have HC213_4 := kA hl213_4; clear hi213_4 hl213_4; replace p213 := eq_true p213; replace q213 := eq_true q213))
   go_meet
   case rel => exact ⟨_, ((((rU l0_0 0).f0) != 2)), sI, H', ⟨by first | omega | exact Nat.le_refl _⟩, ⟨mB BK211⟩, ⟨mH HB⟩⟩
 case rest =>
  clear HC2
  obtain ⟨kq, x23_1, rfl, HA, HJ1, BK211, HB⟩ := hcut
  cases kq with
  | zero => exact absurd HA.out (by simp [dir_May.j0])
  | succ kj1 =>
   have H := HA.out; clear HA; simp only [dir_May.j0] at H
   by_cases c11 : x23_1 = true
   ·
    subst c11
    have H1 : (none) = some r := by rw [if_pos rfl] at H; exact H
    clear H; have H := H1; clear H1; exact absurd H (by simp)
   ·
    replace c11 := Bool.eq_false_iff.mpr c11; subst c11
    have H1 : ((dir_names.f kj1 l0_0).bind fun t214 => ((dir_below.f kj1 l0_0 0).bind fun t217 => (dir_May.l0 kj1 t214 t217 l0_0 (l0_0.length : Int) 0 l0_0))) = some r := by rw [if_neg (show ¬ (false = true) by decide)] at H; exact H
    clear H; have H := H1; clear H1; replace H := qB H; obtain ⟨t214, A120, H⟩ := H; have A12 := kA A120; clear A120; replace H := qB H; obtain ⟨t217, A130, H⟩ := H; have A13 := kA A130; clear A130; have H' := kA H; clear H
    try go_wp2
    replace BK211 := kA (bD BK211.out); replace HB := kA (wD HB.out); refine start_ (n := 6) (S := fun w' => w'.cell? ⟨gb211, 0, none⟩ = some (.slice A0_0 l0_0.length c0_0)) (ds := []) B20_0 (by kernel_rfl) rfl rfl (cZ0 BK211) (fun hHeld => ?_); generalize wc.drew = w14 at BK211 HB hHeld ⊢; refine take_ (i := 0) (N := some 24) (v := ?_) (a' := ?_) B20_1 rfl rfl (by kernel_rfl) (fun _ _ _ h => h) (Or.inl ⟨by rfl, ?_⟩) hHeld ?_ ?_; rotate_left
    ·
     intro w' s0; go_simp; with_reducible rfl
    rotate_left
    ·
     simp only [Act.put, lT, l0_, lS, i64_w, i32_w]; rfl
    refine takeE 2 (some 26) B20_2 (by kernel_rfl) hHeld ?_
    refine one_ (i := 1) (N := some 25) B20_3 rfl rfl (by kernel_rfl) (by decide) (fun K hK => ?_); refine goes_ Try.func72 (by kernel_rfl) rfl #[.agg #[.slice A0_0 l0_0.length c0_0]] (by rfl) rfl rfl (by (try simp only [List.map_toArray, List.map_cons, List.map_nil]); first | done | rfl | (simp only [List.length_drop, List.length_take]; rfl)) ?_
    with_reducible refine (dir_names.calls kj1 _ _ l0_0 t214 _ ?side1 ?side2 A12.out).mono ?_
    (case side1 => exact mC HR0_0 HB)
    (case side2 => exact HC0_0.out)
    rintro e w15 ⟨v215, rfl, ho0, hb⟩; refine ⟨_, rfl, ?_⟩; have HO216 := kA (Kd.R_lower ho0 (below_size (mH HB))); replace BK211 := kB BK211 hb; replace HB := kH HB hb
    (try clear hb); (try clear ho0)
    refine hK.out _ _ (cZ0 BK211) (fun hHeld => ?_); clear hK K; refine norm_ (a' := ?_) ?_ ?_; rotate_left
    ·
     show Act.put _ (some 25) _ = _
     simp only [Act.put, lT, l0_, lS, i64_w, i32_w]; rfl
    refine one_ (i := 3) (N := some 27) B20_4 rfl rfl (by kernel_rfl) (by decide) (fun K hK => ?_); refine goes_ Try.func73 (by kernel_rfl) rfl #[.agg #[.slice A0_0 l0_0.length c0_0], .int .i64 0] (by rfl) rfl rfl (by (try simp only [List.map_toArray, List.map_cons, List.map_nil]); first | done | rfl | (simp only [List.length_drop, List.length_take]; rfl)) ?_
    with_reducible refine (dir_below.calls kj1 _ _ l0_0 0 t217 _ ?side1 ?side2 A13.out).mono ?_
    (case side1 => exact mC HR0_0 HB)
    (case side2 => exact HC0_0.out)
    rintro e w16 ⟨v218, rfl, ho0, hb⟩; refine ⟨_, rfl, ?_⟩; replace HO216 := kR HO216 hb; have HO219 := kA (Kd.R_lower ho0 (below_size (mH HB))); replace BK211 := kB BK211 hb; replace HB := kH HB hb
    (try clear hb); (try clear ho0)
    refine hK.out _ _ (cZ0 BK211) (fun hHeld => ?_); clear hK K; refine norm_ (a' := ?_) ?_ ?_; rotate_left
    ·
     show Act.put _ (some 27) _ = _
     simp only [Act.put, lT, l0_, lS, i64_w, i32_w]; rfl
    refine pureE 4 (some 3) B20_5 (by kernel_rfl) ?_
    refine pureE 5 (some 4) B20_6 (by kernel_rfl) ?_
    refine done_ (by kernel_rfl) ?_; obtain ⟨hcz17_0, hfz17_0⟩ := cY0 BK211
    try go_wp2
    go_loopg [31] kj1 (fun kq v31 w' => ∃ (x31_2 : Int), v31 = .int .i64 x31_2 ∧ Aside0 (dir_May.l0 kq t214 t217 l0_0 (l0_0.length : Int) x31_2 l0_0 = some r) ∧ Aside0 (kq ≤ kj1) ∧ Aside0 (Kd.R (Kd.int .i64) 3 w' w.heap.size (fun _ => True) v215 t214) ∧ Aside0 (Kd.R Kd.bool 4 w' w.heap.size (fun _ => True) v218 t217) ∧ Aside0 (w'.heap[gb211]? = some (.cells #[(.slice A0_0 l0_0.length c0_0)] 24 (0, 0))) ∧ Aside0 (Below w.heap.size w w'))
    case atStart => exact ⟨(0), sI, H', ⟨Nat.le_refl _⟩, ⟨mR HO216⟩, ⟨mR HO219⟩, ⟨mB BK211⟩, ⟨mH HB⟩⟩
    case round =>
     clear H'
     (try clear c11); (try clear hcz17_0); (try clear hfz17_0)
     obtain ⟨x31_2, rfl, HA, HK2, HO_3, HO_4, BK211, HB⟩ := hrel
     cases gk with
     | zero => exact absurd HA.out (by simp [dir_May.l0])
     | succ k2 =>
      have H := HA.out; clear HA; simp only [dir_May.l0] at H
      by_cases c18 : x31_2 < (l0_0.length : Int)
      ·
       rw [if_pos c18] at H; have c18b0 := qT c18; clear c18
       replace H := nP H; obtain ⟨c19, H⟩ := H; have c19b0 := qT c19; clear c19
       replace H := nP H; obtain ⟨c20, H⟩ := H; have c20b0 := qT c20; clear c20
       replace H := nP H; obtain ⟨c21, H⟩ := H; have c21b0 := qT c21; clear c21
       replace H := nP H; obtain ⟨c22, H⟩ := H; have c22b0 := qT c22; clear c22; replace H := qB H; obtain ⟨t224, A230, H⟩ := H; have A23 := kA A230; clear A230
       by_cases c24 : t224 = true
       ·
        subst c24
        have H1 : (dir_May.l0 k2 t214 t217 l0_0 (l0_0.length : Int) (wrap64 (x31_2 + 1)) l0_0) = some r := by rw [if_pos rfl] at H; exact H
        clear H; have H := H1; clear H1; have H' := kA H; clear H; have p220 : 0 ≤ (x31_2 : Int) := dT; have q220 : x31_2 < (l0_0.length : Int) := dT; obtain ⟨ad220, A220_3, c220_3, A220_4, c220_4, e220, hx220_0, hx220_1, hx220_2, hx220_3, hx220_4, hl220_3, hi220_3, hl220_4, hi220_4⟩ := at_T28 HR0_0.out x31_2 p220 q220
        cases e220
        replace hx220_0 := xC HB hx220_0; replace hx220_1 := xC HB hx220_1; replace hx220_2 := xC HB hx220_2; replace hx220_3 := xC HB hx220_3; replace hx220_4 := xC HB hx220_4; have HR220_3 := kA hi220_3; have HC220_3 := kA hl220_3; clear hi220_3 hl220_3; have HR220_4 := kA hi220_4; have HC220_4 := kA hl220_4; clear hi220_4 hl220_4; replace p220 := eq_true p220; replace q220 := eq_true q220
        try go_wp2_with (first | ((with_reducible refine gate_dst (N := 6) rfl ?_); refine bxE 28 (cs := #[.int .i64 0, .int .i64 0, .int .i64 0, .slice none 0 0, .slice none 0 0]) ?_; intro gb221 hg w25 hbox hb; replace HO_3 := kR HO_3 hb; replace HO_4 := kR HO_4 hb; have BK221 := kA hbox; have GW221 := kG HB hg; have GE221 := kG HB hg; replace HB := kH HB hb; have NB211_221 := kL BK211 hg; have NB221_211 := kQ BK211 hg; replace BK211 := kB BK211 hb; clear hb hbox hg; have hnb26 := NB221_211.out; have hnc26 := NB211_221.out; obtain ⟨hcz27_0, hfz27_0⟩ := cY0 BK221; obtain ⟨hcz27_1, hfz27_1⟩ := cY1 BK221; obtain ⟨hcz27_2, hfz27_2⟩ := cY2 BK221; obtain ⟨hcz27_3, hfz27_3⟩ := cY3 BK221; obtain ⟨hcz27_4, hfz27_4⟩ := cY4 BK221))
        obtain ⟨w28, hw_, n_⟩ : ∃ W_, ((((w25.setCell ⟨gb221, 0, none⟩ (.int .i64 ((rU l0_0 x31_2).f0))).setCell ⟨gb221, 1, none⟩ (.int .i64 ((rU l0_0 x31_2).f1))).setCell ⟨gb221, 2, none⟩ (.int .i64 ((rU l0_0 x31_2).f2))).setCell ⟨gb221, 3, none⟩ (.slice A220_3 ((rU l0_0 x31_2).f3).length c220_3)).setCell ⟨gb221, 4, none⟩ (.slice A220_4 ((rU l0_0 x31_2).f4).length c220_4) = W_ ∧ Aside0 (Kd.R (Kd.int .i64) 3 W_ w.heap.size (fun _ => True) v215 t214) ∧ Aside0 (Kd.R Kd.bool 4 W_ w.heap.size (fun _ => True) v218 t217) ∧ Aside0 (W_.heap[gb211]? = some (.cells #[.slice (some ad220) l0_0.length c0_0] 24 (0, 0))) ∧ Aside0 (W_.heap[gb221]? = some (.cells #[.int .i64 ((rU l0_0 x31_2).f0), .int .i64 ((rU l0_0 x31_2).f1), .int .i64 ((rU l0_0 x31_2).f2), .slice A220_3 ((rU l0_0 x31_2).f3).length c220_3, .slice A220_4 ((rU l0_0 x31_2).f4).length c220_4] 28 (0, 0))) ∧ Aside0 (Below w.heap.size w W_) := ⟨_, rfl, ⟨fR ⟨Kd.R_types HO_3.out BK221.out (by decide)⟩⟩, ⟨fR ⟨Kd.R_types HO_4.out BK221.out (by decide)⟩⟩, ⟨mF BK211⟩, ⟨pP BK221⟩, ⟨mH HB⟩⟩
        (try clear HO_3); (try clear HO_4); (try clear BK211); (try clear BK221); (try clear HB); rewrite [hw_]; clear hw_; obtain ⟨HO_3, HO_4, BK211, BK221, HB⟩ := n_; replace HO_3 := kA (Kd.R_drew HO_3.out); replace HO_4 := kA (Kd.R_drew HO_4.out); replace BK211 := kA (bD BK211.out); replace BK221 := kA (bD BK221.out); replace HB := kA (wD HB.out); obtain ⟨Ao30, co30, eo30⟩ := Kd.R_slice HO_3.out
        (first | subst eo30 | (injection eo30 with f1_ f2_ f3_; have f4_ := f1_.symm; have f5_ := f3_.symm; clear f1_ f2_ f3_; subst f4_; subst f5_))
        have p222 : 0 ≤ (x31_2 : Int) := dT; have q222 : x31_2 < (t214.length : Int) := dT; obtain ⟨ad222, e222, hx222_0⟩ := Kd.at_int (Kd.R_reads' HO_3.out).2.2 x31_2 p222 q222
        cases e222
        replace p222 := eq_true p222; replace q222 := eq_true q222; obtain ⟨Ao31, co31, eo31⟩ := Kd.R_slice HO_4.out
        (first | subst eo31 | (injection eo31 with f1_ f2_ f3_; have f4_ := f1_.symm; have f5_ := f3_.symm; clear f1_ f2_ f3_; subst f4_; subst f5_))
        have p223 : 0 ≤ (x31_2 : Int) := dT; have q223 : x31_2 < (t217.length : Int) := dT; obtain ⟨ad223, e223, hx223_0⟩ := Kd.at_bool (Kd.R_reads' HO_4.out).2.2 x31_2 p223 q223
        cases e223
        replace p223 := eq_true p223; replace q223 := eq_true q223; refine start_ (n := 12) (S := fun w' => w'.cell? ⟨gb221, 0, none⟩ = some (.int .i64 ((rU l0_0 x31_2).f0)) ∧ w'.cell? ⟨gb221, 1, none⟩ = some (.int .i64 ((rU l0_0 x31_2).f1)) ∧ w'.cell? ⟨gb221, 2, none⟩ = some (.int .i64 ((rU l0_0 x31_2).f2)) ∧ w'.cell? ⟨gb221, 3, none⟩ = some (.slice A220_3 ((rU l0_0 x31_2).f3).length c220_3) ∧ w'.cell? ⟨gb221, 4, none⟩ = some (.slice A220_4 ((rU l0_0 x31_2).f4).length c220_4) ∧ w'.cell? (ad222.add (x31_2).toNat) = some (.int .i64 (rd t214 x31_2)) ∧ w'.cell? (ad223.add (x31_2).toNat) = some (.bool (rdOf false t217 x31_2))) (ds := []) B20_7 (by kernel_rfl) rfl rfl ⟨cZ0 BK221, cZ1 BK221, cZ2 BK221, cZ3 BK221, cZ4 BK221, hx222_0, hx223_0⟩ (fun hHeld => ?_); refine with_tabW dir_May.tab7 dir_May.bits7 (fun HT_ HW_ => ?_); generalize w28.drew = w29 at HO_3 HO_4 BK211 BK221 HB hx222_0 hx223_0 hHeld ⊢; refine pure_ (i := 1) (N := some 37) (v := ?_) (a' := ?_) B20_8 rfl rfl (any_of HT_.out (by kernel_rfl)) (fun _ _ _ h => h) (Or.inl ⟨by rfl, ?_⟩) ?_ ?_; rotate_left
        ·
         intro w'; go_simp; with_reducible rfl
        rotate_left
        ·
         simp only [Act.put, lT, l0_, lS, i64_w, i32_w]; rfl
        refine pE 2 38 B20_9 HT_ ?_
        refine pE 3 39 B20_10 HT_ ?_
        refine pE 4 40 B20_11 HT_ ?_
        refine pE 6 42 B20_12 HT_ ?_
        refine pE 7 43 B20_13 HT_ ?_
        refine pE 8 44 B20_14 HT_ ?_
        refine tE 0 36 B20_15 HT_ HW_ hHeld ?_
        refine tE 5 41 B20_16 HT_ HW_ hHeld ?_
        refine tE 9 45 B20_17 HT_ HW_ hHeld ?_
        refine one_ (i := 10) (N := some 46) B20_18 rfl rfl (one_of HT_.out (by kernel_rfl)) (by decide) (fun K hK => ?_); refine goes_ Try.func74 (by kernel_rfl) rfl #[.agg #[.int .i64 ((rU l0_0 x31_2).f0), .int .i64 ((rU l0_0 x31_2).f1), .int .i64 ((rU l0_0 x31_2).f2), .slice A220_3 ((rU l0_0 x31_2).f3).length c220_3, .slice A220_4 ((rU l0_0 x31_2).f4).length c220_4], .int .i64 x31_2, .int .i64 (rd t214 x31_2), .bool (rdOf false t217 x31_2)] (by rfl) rfl rfl (by (try simp only [List.map_toArray, List.map_cons, List.map_nil]); first | done | rfl | (simp only [List.length_drop, List.length_take]; rfl)) ?_
        with_reducible refine (dir_hangs.calls ((rU l0_0 x31_2).f0) ((rU l0_0 x31_2).f1) ((rU l0_0 x31_2).f2) _ _ ((rU l0_0 x31_2).f3) _ _ ((rU l0_0 x31_2).f4) x31_2 (rd t214 x31_2) (rdOf false t217 x31_2) true _ ?side1 ?side2 ?side3 ?side4 A23.out).mono ?_
        (case side1 => exact mC HR220_3 HB)
        (case side2 => exact HC220_3.out)
        (case side3 => exact mC HR220_4 HB)
        (case side4 => exact HC220_4.out)
        rintro e w32 ⟨rfl, hb⟩; have HS5_ := (hb.cell (World.block_lt_of_cell? _ _ (hHeld.2.2.2.2.2.1))).trans (hHeld.2.2.2.2.2.1); have HS6_ := (hb.cell (World.block_lt_of_cell? _ _ (hHeld.2.2.2.2.2.2))).trans (hHeld.2.2.2.2.2.2); refine ⟨_, rfl, ?_⟩; replace HO_3 := kR HO_3 hb; replace HO_4 := kR HO_4 hb; replace BK211 := kB BK211 hb; replace BK221 := kB BK221 hb; replace HB := kH HB hb
        (try clear hb); (try clear hk)
        refine hK.out _ _ ⟨cZ0 BK221, cZ1 BK221, cZ2 BK221, cZ3 BK221, cZ4 BK221, HS5_, HS6_⟩ (fun hHeld => ?_); clear hK K; refine norm_ (a' := ?_) ?_ ?_; rotate_left
        ·
         show Act.put _ (some 46) _ = _
         simp only [Act.put, lT, l0_, lS, i64_w, i32_w]; rfl
        refine pE 11 47 B20_19 HT_ ?_
        refine done_ (done_of HT_.out (by kernel_rfl)) ?_
        try go_wp2
        go_roundg k2
        case measure => have := HJ1.out; have := HK2.out; omega
        case rel => exact ⟨(wrap64 (x31_2 + 1)), sI, H', ⟨oM HJ1 HK2⟩, ⟨mR HO_3⟩, ⟨mR HO_4⟩, ⟨mB BK211⟩, ⟨mH HB⟩⟩
       ·
        replace c24 := Bool.eq_false_iff.mpr c24; subst c24
        have H1 : (none) = some r := by rw [if_neg (show ¬ (false = true) by decide)] at H; exact H
        clear H; have H := H1; clear H1; exact absurd H (by simp)
      ·
       rw [if_neg c18] at H; have c18b0 := qF c18; clear c18; replace H := qB H; obtain ⟨t225, A330, H⟩ := H; have A33 := kA A330; clear A330; obtain rfl := qI H; obtain ⟨hcz34_0, hfz34_0⟩ := cY0 BK211
       go_wp2_with (first | ((with_reducible refine gate_callee (f := 75) rfl ?_); refine goesK (some 50) Try.func75 #[.agg #[.slice A0_0 l0_0.length c0_0]] ?_; (with_reducible refine (dir_apart.calls _ _ l0_0 t225 _ ?side1 ?side2 A33.out).mono ?_); (case side1 => exact mC HR0_0 HB); (case side2 => exact HC0_0.out); rintro e w35 ⟨rfl, hb⟩; refine ⟨_, rfl, ?_⟩; replace HO_3 := kR HO_3 hb; replace HO_4 := kR HO_4 hb; replace BK211 := kB BK211 hb; replace HB := kH HB hb; (try clear hb)))
       go_ret
       exact ⟨rT, mH HB⟩
abbrev B21_0 : Array Bool := #[false, false, false, false, false, false, false, false, false, false]
abbrev B21_1 := B21_0.set! 0 true
abbrev B21_2 := B21_1.set! 3 true
abbrev B21_3 := B21_2.set! 1 true
abbrev B21_4 := B21_3.set! 4 true
abbrev B21_5 := B21_4.set! 2 true
abbrev B21_6 := B21_5.set! 6 true
abbrev B21_7 := B21_6.set! 5 true
abbrev B21_8 := B21_7.set! 7 true
abbrev B21_9 := B21_8.set! 8 true
abbrev B21_10 := B21_9.set! 9 true
def file_is.f (k : Nat) (l0_0 : List (S28)) (a1 : Int) : Option (Bool) := (dir_May.f k l0_0).bind fun t227 => (if t227 = true then (if a1 ≥ 0 then (if a1 < (l0_0.length : Int) then (if 0 ≤ a1 then (some (((rU l0_0 a1).f0) == 1)) else (none)) else (none)) else (none)) else (none))
theorem file_is.mono : ∀ a0 a1 k, LeO (file_is.f k a0 a1) (file_is.f (k + 1) a0 a1) := by
 intro a0 a1 k
 unfold file_is.f
 repeat' with_reducible first | apply dir_May.mono | exact LeO.refl _ | exact LeO.none _ | refine LeO.ite ?_ ?_ | refine LeO.bind ?_ (fun _ => ?_)
set_option maxHeartbeats 8000000 in
set_option maxRecDepth 100000 in
theorem file_is.calls (k : Nat) (A0_0 : Option Addr) (c0_0 : Nat) (l0_0 : List (S28)) (a1 : Int) (r : Bool) (w : World) (hr0_0 : Kd.C k28 w A0_0 l0_0.length l0_0) (hc0_0 : l0_0.length ≤ c0_0) (h : file_is.f k l0_0 a1 = some r) :
 Calls Try.prog 56 #[.agg #[.slice A0_0 l0_0.length c0_0], .int .i64 a1] w fun e w' => e = .returned (.bool r) ∧ Below w.heap.size w w' := by
 have hu24 := Try.underlying24; have HR0_0 := kA hr0_0; have HC0_0 := kA hc0_0; clear hr0_0 hc0_0; have HB := kA (Below.refl w.heap.size w); have H : ((dir_May.f k l0_0).bind fun t227 => (if t227 = true then (if a1 ≥ 0 then (if a1 < (l0_0.length : Int) then (if 0 ≤ a1 then (some (((rU l0_0 a1).f0) == 1)) else (none)) else (none)) else (none)) else (none))) = some r := h; clear h; replace H := qB H; obtain ⟨t227, A30, H⟩ := H; have A3 := kA A30; clear A30
 by_cases c4 : t227 = true
 ·
  subst c4
  have H1 : (if a1 ≥ 0 then (if a1 < (l0_0.length : Int) then (if 0 ≤ a1 then (some (((rU l0_0 a1).f0) == 1)) else (none)) else (none)) else (none)) = some r := by rw [if_pos rfl] at H; exact H
  clear H; have H := H1; clear H1
  replace H := nP H; obtain ⟨c5, H⟩ := H; have c5b0 : decide (0 ≤ a1) = true := qT c5; clear c5
  replace H := nP H; obtain ⟨c6, H⟩ := H; have c6b0 := qT c6; clear c6
  replace H := nP H; obtain ⟨c7, H⟩ := H; have c7b0 := qT c7; clear c7; obtain rfl := qI H
  go_enter Try.func56, Try.ntmps56
  go_wp2_with (first | ((with_reducible refine gate_dst (N := 2) rfl ?_); (try (refine gate_guard (by rfl) ?_; dsimp only)); refine bxE 24 (cs := #[.slice A0_0 l0_0.length c0_0]) ?_; intro gb226 hg w8 hbox hb; have BK226 := kA hbox; have GW226 := kG HB hg; have GE226 := kG HB hg; replace HB := kH HB hb; clear hb hbox hg; obtain ⟨hcz9_0, hfz9_0⟩ := cY0 BK226) | ((with_reducible refine gate_callee (f := 55) rfl ?_); refine goesK (some 6) Try.func55 #[.agg #[.slice A0_0 l0_0.length c0_0]] ?_; (with_reducible refine (dir_May.calls k _ _ l0_0 true _ ?side1 ?side2 A3.out).mono ?_); (case side1 => exact mC HR0_0 HB); (case side2 => exact HC0_0.out); rintro e w10 ⟨rfl, hb⟩; refine ⟨_, rfl, ?_⟩; replace BK226 := kB BK226 hb; replace HB := kH HB hb; (try clear hb); obtain ⟨hcz11_0, hfz11_0⟩ := cY0 BK226; have p228 : 0 ≤ (a1 : Int) := dT; have q228 : a1 < (l0_0.length : Int) := dT; obtain ⟨ad228, A228_3, c228_3, A228_4, c228_4, e228, hx228_0, hx228_1, hx228_2, hx228_3, hx228_4, hl228_3, hi228_3, hl228_4, hi228_4⟩ := at_T28 HR0_0.out a1 p228 q228; cases e228; replace hx228_0 := xC HB hx228_0; replace hx228_1 := xC HB hx228_1; replace hx228_2 := xC HB hx228_2; replace hx228_3 := xC HB hx228_3; replace hx228_4 := xC HB hx228_4; have HR228_3 := kA hi228_3; have HC228_3 := kA hl228_3; clear hi228_3 hl228_3; have HR228_4 := kA hi228_4; have HC228_4 := kA hl228_4; clear hi228_4 hl228_4; replace p228 := eq_true p228; replace q228 := eq_true q228))
  go_ret
  exact ⟨rT, mH HB⟩
 ·
  replace c4 := Bool.eq_false_iff.mpr c4; subst c4
  have H1 : (none) = some r := by rw [if_neg (show ¬ (false = true) by decide)] at H; exact H
  clear H; have H := H1; clear H1; exact absurd H (by simp)
def slices_Clone_int_int.f (l0 : List Int) : Option (List Int) := if l0.length < 17592186044416 then some l0 else none
theorem slices_Clone_int_int.calls (A0 : Option Addr) (c0 : Nat) (l0 : List Int) (r : List Int) (w : World) (hr0 : Kd.C (Kd.int .i64) w A0 l0.length l0) (hc0 : l0.length ≤ c0) (h : slices_Clone_int_int.f l0 = some r) :
 Calls Try.prog 83 #[.slice A0 l0.length c0] w fun e w' => ∃ v0_ : Value, e = .returned (v0_) ∧ Kd.R (Kd.int .i64) 3 w' w.heap.size (fun _ => True) v0_ r ∧ Below w.heap.size w w' := by
 unfold slices_Clone_int_int.f at h
 by_cases hlim : l0.length < 17592186044416
 ·
  rw [if_pos hlim] at h; obtain rfl := qI h; clear h
  cases A0 with
  | none =>
   have hl : l0 = [] := by
    cases l0 with
    | nil => rfl
    | cons x xs => obtain ⟨ad, he, _⟩ := hr0.2.2 (by simp); cases he
   subst hl; clear hr0 hlim; have HB := kA (Below.refl w.heap.size w)
   have hnil : ∀ (W : World), (Go.binOp .eql 25 (.slice none 0 c0) (.slice none 0 0)).run Try.prog W = .ok (.bool true) W := fun W => Lib.run_eql_slice_nil W 25 3 none _ _ _ _ Try.underlying25
   go_enter Try.func83, Try.ntmps83
   go_wp2
   go_ret
   exact ⟨_, rfl, Kd.R_nil _ _ _ _ _, HB.out⟩
  | some ad0 =>
   have HR0 := kA hr0; have LMc2 := kA hlim; clear hr0 hlim; have HB := kA (Below.refl w.heap.size w)
   have hnil : ∀ (W : World), (Go.binOp .eql 25 (.slice (some ad0) l0.length c0) (.slice none 0 0)).run Try.prog W = .ok (.bool false) W := fun W => Lib.run_eql_slice_nil W 25 3 (some ad0) _ _ _ _ Try.underlying25
   obtain ⟨y142, hy142⟩ : ∃ y_ : List (Int), y_ = [] := ⟨_, rfl⟩; have Ny142 := kA hy142; clear hy142
   go_enter Try.func83, Try.ntmps83
   go_wp2_with (first | ((with_reducible refine gate_dst (N := 5) rfl ?_); refine Kd.R_lit (Kd.int .i64) _ 3 ?hg (N := 5) ?hd (xs := ([] : List (Int))) (inner := []) (ok := fun _ => True) (okp := fun _ => True) ?hr ?hp (fun _ hk => hk) trivial (Below.refl _ _) (Nat.le_refl _) (by simp) ?_; (case hd => rfl); (case hg => rfl); (case hr => first | (go_simp; done) | (go_simp; rfl)); (case hp => exact (Reps.none _ _)); intro v143 w3 ho4 hb hg_ hnew_; clear hg_ hnew_; (first | rw [← Ny142.out] at ho4 | (simp only [Int.reduceToNat] at ho4; rw [← Ny142.out] at ho4)); have HO144 := kA (Kd.R_lower ho4 (below_size (mH HB))); replace HB := kH HB hb; clear hb ho4) | ((with_reducible refine gate_builtin (b := .append) (xs := #[.tmp 5, .tmp 6]) rfl ?_); at_builtin; refine Kd.R_append_rows (Kd.int .i64) (w0 := w) w.heap.size rfl (.tmp 5) (.tmp 6) 25 3 (.int .i64 0) 8 rfl Try.underlying25 info3 rfl (by decide) (by omega) v143 y142 l0 _ _ _ (fun _ => True) (fun _ => False) rfl rfl ?aO ?aR (fun _ _ h => h) (fun _ h => h.elim) ?aF ?aB ?aS ?aL ?_; (case aR => repeat (first | exact (Kd.C_below HR0.out HB.out) | (with_reducible refine Kd.C_alloc ?_ _) | (with_reducible refine Kd.C_drewN ?_ _) | (with_reducible refine Kd.C_drew ?_))); (case aB => exact (mH HB)); (case aF => exact (fun _ _ => trivial)); (case aO => exact (mR HO144)); (case aS => exact (below_size (mH HB))); (case aL => have := LMc2.out; have hz := Ny142.out; subst hz; simp only [List.length_nil]; omega); intro v146 w5 ho hb hg hat; have hz := Ny142.out; rw [hz, List.nil_append] at ho; clear hz; replace HB := kA (hb); have HO147 := kA (ho); clear HO144; clear ho hb hg hat))
   go_ret
   exact ⟨_, rfl, mR HO147, mH HB⟩
 ·
  rw [if_neg hlim] at h
  cases h
def api_Entry.f (l0 : List (S78)) : Option ((List (S78))) := if l0.length < 5864062014805 then some l0 else none
theorem api_Entry.calls (A0 : Option Addr) (c0 : Nat) (l0 : List (S78)) (r : List (S78)) (w : World) (hr0 : Kd.C k78 w A0 l0.length l0) (hc0 : l0.length ≤ c0) (h : api_Entry.f l0 = some r) :
 Calls Try.prog 84 #[.slice A0 l0.length c0] w fun e w' => ∃ v0_ : Value, e = .returned (v0_) ∧ Kd.R k78 78 w' w.heap.size (fun _ => True) v0_ r ∧ Below w.heap.size w w' := by
 unfold api_Entry.f at h
 by_cases hlim : l0.length < 5864062014805
 ·
  rw [if_pos hlim] at h; obtain rfl := qI h; clear h
  cases A0 with
  | none =>
   have hl : l0 = [] := by
    cases l0 with
    | nil => rfl
    | cons x xs => obtain ⟨ad, he, _⟩ := hr0.2.2 (by simp); cases he
   subst hl; clear hr0 hlim; have HB := kA (Below.refl w.heap.size w)
   have hnil : ∀ (W : World), (Go.binOp .eql 26 (.slice none 0 c0) (.slice none 0 0)).run Try.prog W = .ok (.bool true) W := fun W => Lib.run_eql_slice_nil W 26 78 none _ _ _ _ Try.underlying26
   go_enter Try.func84, Try.ntmps84
   go_wp2
   go_ret
   exact ⟨_, rfl, Kd.R_nil _ _ _ _ _, HB.out⟩
  | some ad0 =>
   have HR0 := kA hr0; have LMc2 := kA hlim; clear hr0 hlim; have HB := kA (Below.refl w.heap.size w)
   have hnil : ∀ (W : World), (Go.binOp .eql 26 (.slice (some ad0) l0.length c0) (.slice none 0 0)).run Try.prog W = .ok (.bool false) W := fun W => Lib.run_eql_slice_nil W 26 78 (some ad0) _ _ _ _ Try.underlying26
   obtain ⟨y142, hy142⟩ : ∃ y_ : List (S78), y_ = [] := ⟨_, rfl⟩; have Ny142 := kA hy142; clear hy142
   go_enter Try.func84, Try.ntmps84
   go_wp2_with (first | ((with_reducible refine gate_dst (N := 5) rfl ?_); refine Kd.R_lit k78 _ 78 ?hg (N := 5) ?hd (xs := ([] : List (S78))) (inner := []) (ok := fun _ => True) (okp := fun _ => True) ?hr ?hp (fun _ hk => hk) trivial (Below.refl _ _) (Nat.le_refl _) (by simp) ?_; (case hd => rfl); (case hg => rfl); (case hr => first | (go_simp; done) | (go_simp; rfl)); (case hp => exact (Reps.none _ _)); intro v143 w3 ho4 hb hg_ hnew_; clear hg_ hnew_; (first | rw [← Ny142.out] at ho4 | (simp only [Int.reduceToNat] at ho4; rw [← Ny142.out] at ho4)); have HO144 := kA (Kd.R_lower ho4 (below_size (mH HB))); replace HB := kH HB hb; clear hb ho4) | ((with_reducible refine gate_builtin (b := .append) (xs := #[.tmp 5, .tmp 6]) rfl ?_); at_builtin; refine Kd.R_append_rows k78 (w0 := w) w.heap.size rfl (.tmp 5) (.tmp 6) 26 78 (.agg #[(.string ⟨#[]⟩), (.int .i64 0)]) 24 rfl Try.underlying26 info78 rfl (by decide) (by omega) v143 y142 l0 _ _ _ (fun _ => True) (fun _ => False) rfl rfl ?aO ?aR (fun _ _ h => h) (fun _ h => h.elim) ?aF ?aB ?aS ?aL ?_; (case aR => repeat (first | exact (Kd.C_below HR0.out HB.out) | (with_reducible refine Kd.C_alloc ?_ _) | (with_reducible refine Kd.C_drewN ?_ _) | (with_reducible refine Kd.C_drew ?_))); (case aB => exact (mH HB)); (case aF => exact (fun _ _ => trivial)); (case aO => exact (mR HO144)); (case aS => exact (below_size (mH HB))); (case aL => have := LMc2.out; have hz := Ny142.out; subst hz; simp only [List.length_nil]; omega); intro v146 w5 ho hb hg hat; have hz := Ny142.out; rw [hz, List.nil_append] at ho; clear hz; replace HB := kA (hb); have HO147 := kA (ho); clear HO144; clear ho hb hg hat))
   go_ret
   exact ⟨_, rfl, mR HO147, mH HB⟩
 ·
  rw [if_neg hlim] at h
  cases h
def node_Copy.f (a0_0 : Int) (a0_1 : Int) (a0_2 : Int) (l0_3 : List Int) (l0_4 : List (S78)) : Option (Int × Int × Int × List Int × (List (S78))) := (slices_Clone_int_int.f l0_3).bind fun t231 => ((api_Entry.f l0_4).bind fun t234 => (some (a0_0, a0_1, a0_2, t231, t234)))
def node_Copy.T1 : Bool × List (List Nat × List Nat) := (true, [([], []), ([0], [0]), ([1], [1]), ([], []), ([3], [3]), ([4, 2], [4]), ([0, 1, 2, 3, 4], []), ([6, 2, 5, 0, 1, 2, 3, 4], [2, 6]), ([0, 1, 2, 3, 4, 5, 6, 7], []), ([8, 5, 7, 0, 1, 2, 3, 4, 5, 6, 7], [5, 8])])
def node_Copy.B1 : List Nat := [0, 1, 3, 0, 8, 31, 31, 127, 255, 511]
theorem node_Copy.tab1 : rtab .any (opsOf Try.f76 1) = node_Copy.T1 := by kernel_rfl
theorem node_Copy.bits1 : waitsOk node_Copy.T1.2 node_Copy.B1 = true := by kernel_rfl
set_option maxHeartbeats 8000000 in
set_option maxRecDepth 100000 in
theorem node_Copy.calls (a0_0 : Int) (a0_1 : Int) (a0_2 : Int) (A0_3 : Option Addr) (c0_3 : Nat) (l0_3 : List Int) (A0_4 : Option Addr) (c0_4 : Nat) (l0_4 : List (S78)) (r1 : Int) (r2 : Int) (r3 : Int) (r4 : List Int) (r5 : List (S78)) (w : World) (hr0_3 : Kd.C (Kd.int .i64) w A0_3 l0_3.length l0_3) (hc0_3 : l0_3.length ≤ c0_3) (hr0_4 : Kd.C k78 w A0_4 l0_4.length l0_4) (hc0_4 : l0_4.length ≤ c0_4) (h : node_Copy.f a0_0 a0_1 a0_2 l0_3 l0_4 = some (r1, r2, r3, r4, r5)) :
 Calls Try.prog 76 #[.agg #[.int .i64 a0_0, .int .i64 a0_1, .int .i64 a0_2, .slice A0_3 l0_3.length c0_3, .slice A0_4 l0_4.length c0_4]] w fun e w' => ∃ v3_ v4_ : Value, e = .returned (.agg #[.int .i64 r1, .int .i64 r2, .int .i64 r3, v3_, v4_]) ∧ Kd.R (Kd.int .i64) 3 w' w.heap.size (fun _ => True) v3_ r4 ∧ Kd.R k78 78 w' w.heap.size (fun _ => True) v4_ r5 ∧ Below w.heap.size w w' := by
 have hu28 := Try.underlying28; have HR0_3 := kA hr0_3; have HC0_3 := kA hc0_3; clear hr0_3 hc0_3; have HR0_4 := kA hr0_4; have HC0_4 := kA hc0_4; clear hr0_4 hc0_4; have HB := kA (Below.refl w.heap.size w); have H : ((slices_Clone_int_int.f l0_3).bind fun t231 => ((api_Entry.f l0_4).bind fun t234 => (some (a0_0, a0_1, a0_2, t231, t234)))) = some (r1, r2, r3, r4, r5) := h; clear h; replace H := qB H; obtain ⟨t231, A20, H⟩ := H; have A2 := kA A20; clear A20; replace H := qB H; obtain ⟨t234, A30, H⟩ := H; have A3 := kA A30; clear A30; simp only [Option.some.injEq, Prod.mk.injEq] at H; obtain ⟨rfl, rfl, rfl, rfl, rfl⟩ := H
 go_enter Try.func76, Try.ntmps76
 try go_wp2_with (first | ((with_reducible refine gate_dst (N := 1) rfl ?_); refine bxE 28 (cs := #[.int .i64 a0_0, .int .i64 a0_1, .int .i64 a0_2, .slice A0_3 l0_3.length c0_3, .slice A0_4 l0_4.length c0_4]) ?_; intro gb229 hg w4 hbox hb; have BK229 := kA hbox; have GW229 := kG HB hg; have GE229 := kG HB hg; replace HB := kH HB hb; clear hb hbox hg) | ((with_reducible refine gate_dst (N := 2) rfl ?_); refine bxE 28 (cs := #[.int .i64 0, .int .i64 0, .int .i64 0, .slice none 0 0, .slice none 0 0]) ?_; intro gb230 hg w5 hbox hb; have BK230 := kA hbox; have GW230 := kG HB hg; have GE230 := kG HB hg; replace HB := kH HB hb; have NB229_230 := kL BK229 hg; have NB230_229 := kQ BK229 hg; replace BK229 := kB BK229 hb; clear hb hbox hg))
 replace BK229 := kA (bD BK229.out); replace BK230 := kA (bD BK230.out); replace HB := kA (wD HB.out); refine start_ (n := 10) (S := fun w' => w'.cell? ⟨gb229, 0, none⟩ = some (.int .i64 a0_0) ∧ w'.cell? ⟨gb229, 1, none⟩ = some (.int .i64 a0_1) ∧ w'.cell? ⟨gb229, 2, none⟩ = some (.int .i64 a0_2) ∧ w'.cell? ⟨gb229, 3, none⟩ = some (.slice A0_3 l0_3.length c0_3) ∧ w'.cell? ⟨gb229, 4, none⟩ = some (.slice A0_4 l0_4.length c0_4)) (ds := [7, 9]) B21_0 (by kernel_rfl) rfl rfl ⟨cZ0 BK229, cZ1 BK229, cZ2 BK229, cZ3 BK229, cZ4 BK229⟩ (fun hHeld => ?_); refine with_tabW node_Copy.tab1 node_Copy.bits1 (fun HT_ HW_ => ?_); generalize w5.drew = w6 at BK229 BK230 HB hHeld ⊢; refine pE 0 3 B21_1 HT_ ?_
 refine pE 3 6 B21_2 HT_ ?_
 refine tE 1 4 B21_3 HT_ HW_ hHeld ?_
 refine tE 4 7 B21_4 HT_ HW_ hHeld ?_
 refine one_ (i := 2) (N := some 5) B21_5 rfl rfl (one_of HT_.out (by kernel_rfl)) (by decide) (fun K hK => ?_); refine goes_ Try.func83 (by kernel_rfl) rfl #[.slice A0_3 l0_3.length c0_3] (by rfl) rfl rfl (by (try simp only [List.map_toArray, List.map_cons, List.map_nil]); first | done | rfl | (simp only [List.length_drop, List.length_take]; rfl)) ?_
 with_reducible refine (slices_Clone_int_int.calls _ _ l0_3 t231 _ ?side1 ?side2 A2.out).mono ?_
 (case side1 => exact mC HR0_3 HB)
 (case side2 => exact HC0_3.out)
 rintro e w7 ⟨v232, rfl, ho0, hb⟩; refine ⟨_, rfl, ?_⟩; have HO233 := kA (Kd.R_lower ho0 (below_size (mH HB))); replace BK229 := kB BK229 hb; replace BK230 := kB BK230 hb; replace HB := kH HB hb
 (try clear hb); (try clear ho0)
 refine hK.out _ _ ⟨cZ0 BK229, cZ1 BK229, cZ2 BK229, cZ3 BK229, cZ4 BK229⟩ (fun hHeld => ?_); clear hK K; refine norm_ (a' := ?_) ?_ ?_; rotate_left
 ·
  show Act.put _ (some 5) _ = _
  simp only [Act.put, lT, l0_, lS, i64_w, i32_w]; rfl
 refine pE 6 9 B21_6 HT_ ?_
 refine one_ (i := 5) (N := some 8) B21_7 rfl rfl (one_of HT_.out (by kernel_rfl)) (by decide) (fun K hK => ?_); refine goes_ Try.func84 (by kernel_rfl) rfl #[.slice A0_4 l0_4.length c0_4] (by rfl) rfl rfl (by (try simp only [List.map_toArray, List.map_cons, List.map_nil]); first | done | rfl | (simp only [List.length_drop, List.length_take]; rfl)) ?_
 with_reducible refine (api_Entry.calls _ _ l0_4 t234 _ ?side1 ?side2 A3.out).mono ?_
 (case side1 => exact mC HR0_4 HB)
 (case side2 => exact HC0_4.out)
 rintro e w8 ⟨v235, rfl, ho0, hb⟩; refine ⟨_, rfl, ?_⟩; replace HO233 := kR HO233 hb; have HO236 := kA (Kd.R_lower ho0 (below_size (mH HB))); replace BK229 := kB BK229 hb; replace BK230 := kB BK230 hb; replace HB := kH HB hb
 (try clear hb); (try clear ho0)
 obtain ⟨Ao9, co9, eo9⟩ := Kd.R_slice HO233.out
 (first | subst eo9 | (injection eo9 with f1_ f2_ f3_; have f4_ := f1_.symm; have f5_ := f3_.symm; clear f1_ f2_ f3_; subst f4_; subst f5_))
 obtain ⟨Ao11, co11, eo11⟩ := Kd.R_slice HO236.out
 (first | subst eo11 | (injection eo11 with f1_ f2_ f3_; have f4_ := f1_.symm; have f5_ := f3_.symm; clear f1_ f2_ f3_; subst f4_; subst f5_))
 refine hK.out _ _ ⟨cZ0 BK229, cZ1 BK229, cZ2 BK229, cZ3 BK229, cZ4 BK229⟩ (fun hHeld => ?_); clear hK K; refine norm_ (a' := ?_) ?_ ?_; rotate_left
 ·
  show Act.put _ (some 8) _ = _
  simp only [Act.put, lT, l0_, lS, i64_w, i32_w]; rfl
 refine last_ (i := 7) (N := none) B21_8 rfl rfl (one_of HT_.out (by kernel_rfl)) (by decide) (fun K hK => ?_); have hs10 := cZ3 BK229; have hfs10 := bZ BK229.out 3; have hns10_1 := NB230_229.out; have hms10_1 := NB229_230.out; refine skip_ (w1 := ?_) (by rfl) rfl ?_ ?_; rotate_left
 ·
  go_simp; rfl
 refine hK.out _ _ ?_; clear hK K; refine pE 8 10 B21_9 HT_ ?_
 refine last_ (i := 9) (N := none) B21_10 rfl rfl (one_of HT_.out (by kernel_rfl)) (by decide) (fun K hK => ?_); have hs12 := cZ4 BK229; have hfs12 := bZ BK229.out 4; have hns12_1 := NB230_229.out; have hms12_1 := NB229_230.out; refine skip_ (w1 := ?_) (by rfl) rfl ?_ ?_; rotate_left
 ·
  go_simp; rfl
 refine hK.out _ _ ?_; clear hK K; refine done_ (done_of HT_.out (by kernel_rfl)) ?_; have hnb13 := NB229_230.out; have hnc13 := NB230_229.out; obtain ⟨hcz14_0, hfz14_0⟩ := cY0 BK229; obtain ⟨hcz14_1, hfz14_1⟩ := cY1 BK229; obtain ⟨hcz14_2, hfz14_2⟩ := cY2 BK229; obtain ⟨hcz14_3, hfz14_3⟩ := cY3 BK229; obtain ⟨hcz14_4, hfz14_4⟩ := cY4 BK229; obtain ⟨hcz15_0, hfz15_0⟩ := cY0 BK230; obtain ⟨hcz15_1, hfz15_1⟩ := cY1 BK230; obtain ⟨hcz15_2, hfz15_2⟩ := cY2 BK230; obtain ⟨hcz15_3, hfz15_3⟩ := cY3 BK230; obtain ⟨hcz15_4, hfz15_4⟩ := cY4 BK230
 try go_wp2
 refine bodyPost_ret (results_cell_row rfl _ _ gb230 28 #[.int .i64 a0_0, .int .i64 a0_1, .int .i64 a0_2, .slice Ao9 t231.length co9, .slice Ao11 t234.length co11] (0, 0) _ rfl (by (with_reducible repeat (first | refine bN ?_ _ | refine bD ?_ | refine bA ?_ _)); refine blk_put (cs := #[.int .i64 a0_0, .int .i64 a0_1, .int .i64 a0_2, .slice Ao9 t231.length co9, .slice none 0 0]) ?_ 4 _ rfl; (with_reducible repeat (first | refine bN ?_ _ | refine bD ?_ | refine bA ?_ _)); refine blk_put (cs := #[.int .i64 a0_0, .int .i64 a0_1, .int .i64 a0_2, .slice none 0 0, .slice none 0 0]) ?_ 3 _ rfl; (with_reducible repeat (first | refine bN ?_ _ | refine bD ?_ | refine bA ?_ _)); refine blk_put (cs := #[.int .i64 a0_0, .int .i64 a0_1, .int .i64 0, .slice none 0 0, .slice none 0 0]) ?_ 2 _ rfl; (with_reducible repeat (first | refine bN ?_ _ | refine bD ?_ | refine bA ?_ _)); refine blk_put (cs := #[.int .i64 a0_0, .int .i64 0, .int .i64 0, .slice none 0 0, .slice none 0 0]) ?_ 1 _ rfl; (with_reducible repeat (first | refine bN ?_ _ | refine bD ?_ | refine bA ?_ _)); refine blk_put (cs := #[.int .i64 0, .int .i64 0, .int .i64 0, .slice none 0 0, .slice none 0 0]) ?_ 0 _ rfl; (with_reducible repeat (first | refine bN ?_ _ | refine bD ?_ | refine bA ?_ _)); refine bF ?_ NB230_229.out _; (with_reducible repeat (first | refine bN ?_ _ | refine bD ?_ | refine bA ?_ _)); refine bF ?_ NB230_229.out _; (with_reducible repeat (first | refine bN ?_ _ | refine bD ?_ | refine bA ?_ _)); exact BK230.out) Try.underlying28 rfl (by kernel_rfl)) rfl ?_
 exact ⟨_, _, rT, by (with_reducible repeat (first | apply Kd.R_alloc | apply Kd.R_drewN | apply Kd.R_drew)); exact Kd.R_mono (Kd.R_far (p := ⟨gb230, 4, none⟩) (Kd.R_far (p := ⟨gb230, 3, none⟩) (Kd.R_far (p := ⟨gb230, 2, none⟩) (Kd.R_far (p := ⟨gb230, 1, none⟩) (Kd.R_far (p := ⟨gb230, 0, none⟩) (Kd.R_far (p := ⟨gb229, 4, none⟩) (Kd.R_far (p := ⟨gb229, 3, none⟩) (Kd.R_types (Kd.R_types HO233.out BK229.out (by decide)) BK230.out (by decide)) (fun _ hk => hk.1.2) (.slice Ao9 t231.length co9)) (fun _ hk => hk.1.2) (.slice Ao11 t234.length co11)) (fun _ hk => hk.2) (.int .i64 a0_0)) (fun _ hk => hk.2) (.int .i64 a0_1)) (fun _ hk => hk.2) (.int .i64 a0_2)) (fun _ hk => hk.2) (.slice Ao9 t231.length co9)) (fun _ hk => hk.2) (.slice Ao11 t234.length co11)) (fun _ hk => trivial), by (with_reducible repeat (first | apply Kd.R_alloc | apply Kd.R_drewN | apply Kd.R_drew)); exact Kd.R_mono (Kd.R_far (p := ⟨gb230, 4, none⟩) (Kd.R_far (p := ⟨gb230, 3, none⟩) (Kd.R_far (p := ⟨gb230, 2, none⟩) (Kd.R_far (p := ⟨gb230, 1, none⟩) (Kd.R_far (p := ⟨gb230, 0, none⟩) (Kd.R_far (p := ⟨gb229, 4, none⟩) (Kd.R_far (p := ⟨gb229, 3, none⟩) (Kd.R_types (Kd.R_types HO236.out BK229.out (by decide)) BK230.out (by decide)) (fun _ hk => hk.1.2) (.slice Ao9 t231.length co9)) (fun _ hk => hk.1.2) (.slice Ao11 t234.length co11)) (fun _ hk => hk.2) (.int .i64 a0_0)) (fun _ hk => hk.2) (.int .i64 a0_1)) (fun _ hk => hk.2) (.int .i64 a0_2)) (fun _ hk => hk.2) (.slice Ao9 t231.length co9)) (fun _ hk => hk.2) (.slice Ao11 t234.length co11)) (fun _ hk => trivial), mH HB⟩
end Go.Proofs.Ytkigiehkckjlhaa.PReads
