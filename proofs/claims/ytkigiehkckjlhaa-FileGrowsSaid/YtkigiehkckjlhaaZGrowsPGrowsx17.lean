/- The Go functions that these laws reach, each as a Lean function with the same answers (a law itself where it answers true), and the proof that the code comes to them; conditions: those of each theorem. Laid by a program of this session over the print. -/
import Derived.Test.YtkigiehkckjlhaaZGrowsPGrowsShort
import Derived.Test.YtkigiehkckjlhaaZGrowsPGrowsx0
namespace Go.Proofs.Ytkigiehkckjlhaa.PGrows
open Go.RowKit Go.Proofs.YtkigiehkckjlhaaW.PrintWords Go.Proofs.YtkigiehkckjlhaaW.PrintLast Go.Proofs.YtkigiehkckjlhaaW.PrintMore
attribute [local go_sem] max2_int min2_int max_two min_two max_three min_three max_four min_four   -- for this text's walks alone
set_option linter.unusedVariables false
set_option linter.unusedSimpArgs false
open Go.Proofs.YtkigiehkckjlhaaW.PrintWords renaming blk_drewN → bN, blk_drew → bD, blk_alloc → bA, below_set → wS, below_alloc → wA, pw_below_drewN → wN, below_drew1 → wD, blk_below → bB, blk_far → bF, blk_cell → bC, blk_frozen → bZ
open List renaming setIfInBounds_toArray → lT, set_cons_zero → l0_, set_cons_succ → lS
mutual
def dir_names.l0 : Nat → List Int → List (S28) → Int → Int → Option (List Int)
 | 0, _, _, _, _ => none
 | k + 1, x3, x13, x14, x15 => if x15 < x14 then (if 0 ≤ x15 then (if x15 < (x13.length : Int) then (dir_names.l1 k x3 x13 x14 x15 ((rd_T28 x13 x15).f4) (((rd_T28 x13 x15).f4).length : Int) 0) else (none)) else (none)) else (some x3)
def dir_names.l1 : Nat → List Int → List (S28) → Int → Int → List (S78) → Int → Int → Option (List Int)
 | 0, _, _, _, _, _, _, _ => none
 | k + 1, x3, x13, x14, x15, x20, x21, x22 => if x22 < x21 then (if 0 ≤ x22 then (if x22 < (x20.length : Int) then (if ((rd_T78 x20 x22).f1) ≥ 0 then (if ((rd_T78 x20 x22).f1) < (x3.length : Int) then (if 0 ≤ ((rd_T78 x20 x22).f1) then (dir_names.l1 k (x3.set (((rd_T78 x20 x22).f1) : Int).toNat (wrap64 ((rd x3 ((rd_T78 x20 x22).f1)) + 1))) x13 x14 x15 x20 x21 (wrap64 (x22 + 1))) else (none)) else (none)) else (none)) else (none)) else (none)) else (dir_names.l0 k x3 x13 x14 (wrap64 (x15 + 1)))
end
def dir_names.f (k : Nat) (l0_0 : List (S28)) : Option (List Int) := if 0 ≤ (l0_0.length : Int) then (if ((l0_0.length : Int) : Int).toNat ≤ 35184372088832 then (dir_names.l0 k (List.replicate ((l0_0.length : Int) : Int).toNat 0) l0_0 (l0_0.length : Int) 0) else (none)) else (none)
theorem dir_names.mono_l : ∀ k, (∀ y0 y1 y2 y3, LeO (dir_names.l0 k y0 y1 y2 y3) (dir_names.l0 (k + 1) y0 y1 y2 y3)) ∧ (∀ y0 y1 y2 y3 y4 y5 y6, LeO (dir_names.l1 k y0 y1 y2 y3 y4 y5 y6) (dir_names.l1 (k + 1) y0 y1 y2 y3 y4 y5 y6))
 | 0 => ⟨fun _ _ _ _ r h => by simp [dir_names.l0] at h, fun _ _ _ _ _ _ _ r h => by simp [dir_names.l1] at h⟩
 | k + 1 => by
  obtain ⟨ih0, ih1⟩ := dir_names.mono_l k; refine ⟨?_, ?_⟩
  ·
   intro y0 y1 y2 y3
   unfold dir_names.l0
   repeat' with_reducible first | apply ih0 | apply ih1 | exact LeO.refl _ | exact LeO.none _ | refine LeO.ite ?_ ?_ | refine LeO.bind ?_ (fun _ => ?_)
  ·
   intro y0 y1 y2 y3 y4 y5 y6
   unfold dir_names.l1
   repeat' with_reducible first | apply ih0 | apply ih1 | exact LeO.refl _ | exact LeO.none _ | refine LeO.ite ?_ ?_ | refine LeO.bind ?_ (fun _ => ?_)
theorem dir_names.mono : ∀ a0 k, LeO (dir_names.f k a0) (dir_names.f (k + 1) a0) := by
 intro a0 k; obtain ⟨ih0, ih1⟩ := dir_names.mono_l k
 unfold dir_names.f
 repeat' with_reducible first | apply ih0 | apply ih1 | exact LeO.refl _ | exact LeO.none _ | refine LeO.ite ?_ ?_ | refine LeO.bind ?_ (fun _ => ?_)
set_option maxHeartbeats 8000000 in
set_option maxRecDepth 100000 in
theorem dir_names.calls (k : Nat) (A0_0 : Option Addr) (c0_0 : Nat) (l0_0 : List (S28)) (r : List Int) (w : World) (hr0_0 : Kd.C k28 w A0_0 l0_0.length l0_0) (hc0_0 : l0_0.length ≤ c0_0) (h : dir_names.f k l0_0 = some r) :
 Calls Try.prog 72 #[.agg #[.slice A0_0 l0_0.length c0_0]] w fun e w' => ∃ v0_ : Value, e = .returned (v0_) ∧ Kd.R (Kd.int .i64) 3 w' w.heap.size (fun _ => True) v0_ r ∧ Below w.heap.size w w' := by
 have hu24 := Try.underlying24; have hu28 := Try.underlying28; have hu78 := Try.underlying78; have HR0_0 := Aside0.mk hr0_0; have HC0_0 := Aside0.mk hc0_0; clear hr0_0 hc0_0; have HB := Aside0.mk (Below.refl w.heap.size w); have H : (if 0 ≤ (l0_0.length : Int) then (if ((l0_0.length : Int) : Int).toNat ≤ 35184372088832 then (dir_names.l0 k (List.replicate ((l0_0.length : Int) : Int).toNat 0) l0_0 (l0_0.length : Int) 0) else (none)) else (none)) = some r := h; clear h
 replace H := nP H; obtain ⟨c2, H⟩ := H; have c2b0 := eq_true c2; have c2b1 := decide_eq_true c2; clear c2
 replace H := nP H; obtain ⟨c3, H⟩ := H; have c3b0 := eq_true c3; have c3b1 := decide_eq_true c3; clear c3; obtain ⟨y177, hy177⟩ : ∃ y_ : List Int, y_ = (List.replicate ((l0_0.length : Int) : Int).toNat 0) := ⟨_, rfl⟩
 replace H : (dir_names.l0 k y177 l0_0 (l0_0.length : Int) 0) = some r := rH H hy177
 have Ny177 := Aside0.mk hy177; clear hy177; have H' := Aside0.mk H; clear H
 go_enter Try.func72, Try.ntmps72
 go_wp2_with (first | ((with_reducible refine gate_dst (N := 1) rfl ?_); (try (refine gate_guard (by rfl) ?_; dsimp only)); refine bxE 24 (cs := #[.slice A0_0 l0_0.length c0_0]) ?_; intro gb176 hg w4 hbox hb; have BK176 := Aside0.mk hbox; have GW176 := kG HB hg; have GE176 := kG HB hg; replace HB := kH HB hb; clear hb hbox hg; obtain ⟨hcz5_0, hfz5_0⟩ := cY0 BK176) | ((with_reducible refine gate_dst (N := 11) rfl ?_); (try (refine gate_guard (by rfl) ?_; dsimp only)); refine Kd.R_make (Kd.int .i64) _ 3 rfl (N := 11) rfl 25 _ _ rfl (l0_0.length : Int) rfl rfl Try.underlying25 (.int .i64 0) 8 info3 rfl (by decide) (by omega) 0 (ok := fun _ => True) (okp := fun _ => True) rfl (fun _ hk => hk) trivial (dT) (Nat.le_trans (Nat.mul_le_mul_right _ (dT : (l0_0.length : Int).toNat ≤ 35184372088832)) (by omega)) (Below.refl _ _) (Nat.le_refl _) ?_; intro v178 w6 ho7 hb hg_ hnew_; clear hg_ hnew_; (first | rw [← Ny177.out] at ho7 | (simp only [Int.reduceToNat] at ho7; rw [← Ny177.out] at ho7)); have HO179 := Aside0.mk (Kd.R_lower ho7 (below_size (mH HB))); replace BK176 := kB BK176 hb; replace HB := kH HB hb; clear hb ho7; obtain ⟨hcz8_0, hfz8_0⟩ := cY0 BK176))
 go_loopg [15] k (fun kq v15 w' => ∃ (x3_1 : List Int) (x15_1 : Int), v15 = .int .i64 x15_1 ∧ Aside0 (dir_names.l0 kq x3_1 l0_0 (l0_0.length : Int) x15_1 = some r) ∧ Aside0 (kq ≤ k) ∧ Aside0 (Kd.R (Kd.int .i64) 3 w' w.heap.size (fun _ => True) v178 x3_1) ∧ Aside0 (w'.heap[gb176]? = some (.cells #[(.slice A0_0 l0_0.length c0_0)] 24 (0, 0))) ∧ Aside0 (Below w.heap.size w w'))
 case atStart => exact ⟨(y177), (0), sI, H', ⟨Nat.le_refl _⟩, ⟨mR HO179⟩, ⟨mB BK176⟩, ⟨mH HB⟩⟩
 case round =>
  clear H'
  (try clear c2); (try clear c2b0); (try clear c2b1); (try clear c3); (try clear c3b0); (try clear c3b1); (try clear hcz5_0); (try clear hcz8_0); (try clear hfz5_0); (try clear hfz8_0)
  obtain ⟨x3_1, x15_1, rfl, HA, HK1, HO_3, BK176, HB⟩ := hrel
  cases gk with
  | zero => exact absurd HA.out (by simp [dir_names.l0])
  | succ k1 =>
   have H := HA.out; clear HA; simp only [dir_names.l0] at H
   by_cases c9 : x15_1 < (l0_0.length : Int)
   ·
    rw [if_pos c9] at H; have c9b0 := decide_eq_true c9; clear c9
    replace H := nP H; obtain ⟨c10, H⟩ := H; have c10b0 := decide_eq_true c10; clear c10
    replace H := nP H; obtain ⟨c11, H⟩ := H; have c11b0 := decide_eq_true c11; clear c11; have H' := Aside0.mk H; clear H; have p180 : 0 ≤ (x15_1 : Int) := dT; have q180 : x15_1 < (l0_0.length : Int) := dT; obtain ⟨ad180, A180_3, c180_3, A180_4, c180_4, e180, hx180_0, hx180_1, hx180_2, hx180_3, hx180_4, hl180_3, hi180_3, hl180_4, hi180_4⟩ := at_T28 HR0_0.out x15_1 p180 q180
    cases e180
    replace hx180_0 := xC HB hx180_0; replace hx180_1 := xC HB hx180_1; replace hx180_2 := xC HB hx180_2; replace hx180_3 := xC HB hx180_3; replace hx180_4 := xC HB hx180_4; have HR180_3 := Aside0.mk hi180_3; have HC180_3 := Aside0.mk hl180_3; clear hi180_3 hl180_3; have HR180_4 := Aside0.mk hi180_4; have HC180_4 := Aside0.mk hl180_4; clear hi180_4 hl180_4; replace p180 := eq_true p180; replace q180 := eq_true q180
    go_wp2_with (first | ((with_reducible refine gate_dst (N := 5) rfl ?_); (try (refine gate_guard (by rfl) ?_; dsimp only)); refine bxE 28 (cs := #[.int .i64 0, .int .i64 0, .int .i64 0, .slice none 0 0, .slice none 0 0]) ?_; intro gb181 hg w12 hbox hb; replace HO_3 := kR HO_3 hb; have BK181 := Aside0.mk hbox; have GW181 := kG HB hg; have GE181 := kG HB hg; replace HB := kH HB hb; have NB176_181 := kL BK176 hg; have NB181_176 := kQ BK176 hg; replace BK176 := kB BK176 hb; clear hb hbox hg; have hnb13 := NB181_176.out; have hnc13 := NB176_181.out; obtain ⟨hcz14_0, hfz14_0⟩ := cY0 BK181; obtain ⟨hcz14_1, hfz14_1⟩ := cY1 BK181; obtain ⟨hcz14_2, hfz14_2⟩ := cY2 BK181; obtain ⟨hcz14_3, hfz14_3⟩ := cY3 BK181; obtain ⟨hcz14_4, hfz14_4⟩ := cY4 BK181))
    go_loopg [22] k1 (fun kq v22 w' => ∃ (x3_2 : List Int) (x22_2 : Int), v22 = .int .i64 x22_2 ∧ Aside0 (dir_names.l1 kq x3_2 l0_0 (l0_0.length : Int) x15_1 ((rd_T28 l0_0 x15_1).f4) (((rd_T28 l0_0 x15_1).f4).length : Int) x22_2 = some r) ∧ Aside0 (kq ≤ k1) ∧ Aside0 (Kd.R (Kd.int .i64) 3 w' w.heap.size (fun _ => True) v178 x3_2) ∧ Aside0 (w'.heap[gb176]? = some (.cells #[(.slice (some ad180) l0_0.length c0_0)] 24 (0, 0))) ∧ Aside0 (w'.heap[gb181]? = some (.cells #[.int .i64 ((rd_T28 l0_0 x15_1).f0), .int .i64 ((rd_T28 l0_0 x15_1).f1), .int .i64 ((rd_T28 l0_0 x15_1).f2), (.slice A180_3 ((rd_T28 l0_0 x15_1).f3).length c180_3), (.slice A180_4 ((rd_T28 l0_0 x15_1).f4).length c180_4)] 28 (0, 0))) ∧ Aside0 (Below w.heap.size w w'))
    case atStart => exact ⟨(x3_1), (0), sI, H', ⟨Nat.le_refl _⟩, ⟨fR ⟨Kd.R_types HO_3.out BK181.out (by decide)⟩⟩, ⟨mF BK176⟩, ⟨pP BK181⟩, ⟨mH HB⟩⟩
    case round =>
     clear H'
     (try clear c2); (try clear c2b0); (try clear c2b1); (try clear c3); (try clear c3b0); (try clear c3b1); (try clear c9); (try clear c9b0); (try clear c10); (try clear c10b0); (try clear c11); (try clear c11b0); (try clear hcz14_0); (try clear hcz14_1); (try clear hcz14_2); (try clear hcz14_3); (try clear hcz14_4); (try clear hcz5_0); (try clear hcz8_0); (try clear hfz14_0); (try clear hfz14_1); (try clear hfz14_2); (try clear hfz14_3); (try clear hfz14_4); (try clear hfz5_0); (try clear hfz8_0); (try clear hx180_0); (try clear hx180_1); (try clear hx180_2); (try clear hx180_3); (try clear hx180_4); (try clear p180); (try clear q180)
     obtain ⟨x3_2, x22_2, rfl, HA, HK2, HO_3, BK176, BK181, HB⟩ := hrel
     cases gk with
     | zero => exact absurd HA.out (by simp [dir_names.l1])
     | succ k2 =>
      have H := HA.out; clear HA; simp only [dir_names.l1] at H
      by_cases c15 : x22_2 < (((rd_T28 l0_0 x15_1).f4).length : Int)
      ·
       rw [if_pos c15] at H; have c15b0 := decide_eq_true c15; clear c15
       replace H := nP H; obtain ⟨c16, H⟩ := H; have c16b0 := decide_eq_true c16; clear c16
       replace H := nP H; obtain ⟨c17, H⟩ := H; have c17b0 := decide_eq_true c17; clear c17
       replace H := nP H; obtain ⟨c18, H⟩ := H; have c18b0 : decide (0 ≤ ((rd_T78 ((rd_T28 l0_0 x15_1).f4) x22_2).f1)) = true := decide_eq_true c18; clear c18
       replace H := nP H; obtain ⟨c19, H⟩ := H; have c19b0 := decide_eq_true c19; clear c19
       replace H := nP H; obtain ⟨c20, H⟩ := H; have c20b0 := decide_eq_true c20; clear c20; obtain ⟨y185, hy185⟩ : ∃ y_ : List Int, y_ = (x3_2.set (((rd_T78 ((rd_T28 l0_0 x15_1).f4) x22_2).f1) : Int).toNat (wrap64 ((rd x3_2 ((rd_T78 ((rd_T28 l0_0 x15_1).f4) x22_2).f1)) + 1))) := ⟨_, rfl⟩
       replace H : (dir_names.l1 k2 y185 l0_0 (l0_0.length : Int) x15_1 ((rd_T28 l0_0 x15_1).f4) (((rd_T28 l0_0 x15_1).f4).length : Int) (wrap64 (x22_2 + 1))) = some r := rH H hy185
       have Ny185 := Aside0.mk hy185; clear hy185; have H' := Aside0.mk H; clear H; have p182 : 0 ≤ (x22_2 : Int) := dT; have q182 : x22_2 < (((rd_T28 l0_0 x15_1).f4).length : Int) := dT; obtain ⟨ad182, e182, hx182_0, hx182_1⟩ := at_T78 HR180_4.out x22_2 p182 q182
       cases e182
       replace hx182_0 := xC HB hx182_0; replace hx182_1 := xC HB hx182_1; replace p182 := eq_true p182; replace q182 := eq_true q182
       go_wp2_with (first | ((with_reducible refine gate_dst (N := 7) rfl ?_); (try (refine gate_guard (by rfl) ?_; dsimp only)); refine bxE 78 (cs := #[.string (⟨#[]⟩ : ByteArray), .int .i64 0]) ?_; intro gb183 hg w22 hbox hb; replace HO_3 := kR HO_3 hb; have BK183 := Aside0.mk hbox; have GW183 := kG HB hg; have GE183 := kG HB hg; replace HB := kH HB hb; have NB176_183 := kL BK176 hg; have NB183_176 := kQ BK176 hg; replace BK176 := kB BK176 hb; have NB181_183 := kL BK181 hg; have NB183_181 := kQ BK181 hg; replace BK181 := kB BK181 hb; clear hb hbox hg; have hnb23 := NB183_176.out; have hnc23 := NB176_183.out; have hnb24 := NB183_181.out; have hnc24 := NB181_183.out; obtain ⟨hcz25_0, hfz25_0⟩ := cY0 BK183; obtain ⟨hcz25_1, hfz25_1⟩ := cY1 BK183) | ((with_reducible refine gate_store (t := 78) (p := 7) rfl ?_); refine store_event (t := 78) (p := 7) (v := ?vo_w26) (w1 := ((w22.setCell ⟨gb183, 0, none⟩ (.string ((rd_T78 ((rd_T28 l0_0 x15_1).f4) x22_2).f0))).setCell ⟨gb183, 1, none⟩ (.int .i64 ((rd_T78 ((rd_T28 l0_0 x15_1).f4) x22_2).f1)))) ?hg ?ho ?hn ?hr ?_; (case ho => rfl); (case hg => rfl); (case hn => rfl); (case hr => first | (go_simp; done) | (go_simp; rfl)); intro w26 hw; have n0_ : Aside0 (Kd.R (Kd.int .i64) 3 w26 w.heap.size (fun _ => True) v178 x3_2) := ⟨(by rw [hw]; exact (fR ⟨Kd.R_types HO_3.out BK183.out (by decide)⟩))⟩; have n1_ : Aside0 (w26.heap[gb176]? = some (.cells #[.slice (some ad180) l0_0.length c0_0] 24 (0, 0))) := ⟨(by rw [hw]; exact (mF BK176))⟩; have n2_ : Aside0 (w26.heap[gb181]? = some (.cells #[.int .i64 ((rd_T28 l0_0 x15_1).f0), .int .i64 ((rd_T28 l0_0 x15_1).f1), .int .i64 ((rd_T28 l0_0 x15_1).f2), .slice A180_3 ((rd_T28 l0_0 x15_1).f3).length c180_3, .slice (some ad182) ((rd_T28 l0_0 x15_1).f4).length c180_4] 28 (0, 0))) := ⟨(by rw [hw]; exact (mF BK181))⟩; have n3_ : Aside0 (w26.heap[gb183]? = some (.cells #[.string ((rd_T78 ((rd_T28 l0_0 x15_1).f4) x22_2).f0), .int .i64 ((rd_T78 ((rd_T28 l0_0 x15_1).f4) x22_2).f1)] 78 (0, 0))) := ⟨(by rw [hw]; exact (pP BK183))⟩; have n4_ : Aside0 (Below w.heap.size w w26) := ⟨(by rw [hw]; exact (mH HB))⟩; clear hw; clear HO_3; clear BK176; clear BK181; clear BK183; clear HB; have HO_3 := n0_; have BK176 := n1_; have BK181 := n2_; have BK183 := n3_; have HB := n4_; clear n0_ n1_ n2_ n3_ n4_; obtain ⟨hcz27_0, hfz27_0⟩ := cY0 BK183; obtain ⟨hcz27_1, hfz27_1⟩ := cY1 BK183; obtain ⟨Ao28, co28, eo28⟩ := Kd.R_slice HO_3.out; subst eo28; have p184 : 0 ≤ (((rd_T78 ((rd_T28 l0_0 x15_1).f4) x22_2).f1) : Int) := dT; have q184 : ((rd_T78 ((rd_T28 l0_0 x15_1).f4) x22_2).f1) < (x3_2.length : Int) := dT; obtain ⟨ad184, e184, hx184_0⟩ := Kd.at_int (Kd.R_reads' HO_3.out).2.2 ((rd_T78 ((rd_T28 l0_0 x15_1).f4) x22_2).f1) p184 q184; cases e184; replace p184 := eq_true p184; replace q184 := eq_true q184; have p21 : 0 ≤ (((rd_T78 ((rd_T28 l0_0 x15_1).f4) x22_2).f1) : Int) := dT; have q21 : (((rd_T78 ((rd_T28 l0_0 x15_1).f4) x22_2).f1) : Int) < ((x3_2.length : Int) : Int) := dT; obtain ⟨go21, co21, eo21, gb21, gl21, cl21, HG21⟩ := Kd.R_form HO_3.out (by omega); (first | cases eo21 | (injection eo21 with ea_ en_ ec_; (first | subst ea_ | (injection ea_ with ea_; subst ea_)); subst ec_; clear en_)); have GB21 := Aside0.mk gb21; have GG21 := Aside0.mk HG21; clear gb21 gl21 HG21; (first | simp only [add_plain] at hx184_0 | skip); obtain ⟨hx21_0, hf21_0⟩ := Kd.R_celln 0 HO_3.out (((rd_T78 ((rd_T28 l0_0 x15_1).f4) x22_2).f1) : Int) p21 q21; replace p21 := eq_true p21; replace q21 := eq_true q21; obtain ⟨hy29_, hz29_⟩ := Kd.R_celln 0 HO_3.out (((rd_T78 ((rd_T28 l0_0 x15_1).f4) x22_2).f1) : Int) (dT) (dT); have HP29 := Kd.R_putg HO_3.out (((rd_T78 ((rd_T28 l0_0 x15_1).f4) x22_2).f1) : Int) (wrap64 ((rd x3_2 ((rd_T78 ((rd_T28 l0_0 x15_1).f4) x22_2).f1)) + 1))) | ((with_reducible refine gate_store (t := 3) (p := 42) rfl ?_); refine store_event (t := 3) (p := 42) (v := ?vo_w30) (w1 := (w26.setCell ⟨go21, (((rd_T78 ((rd_T28 l0_0 x15_1).f4) x22_2).f1) : Int).toNat, none⟩ (.int .i64 (wrap64 ((rd x3_2 ((rd_T78 ((rd_T28 l0_0 x15_1).f4) x22_2).f1)) + 1))))) ?hg ?ho ?hn ?hr ?_; (case ho => rfl); (case hg => rfl); (case hn => rfl); (case hr => first | (go_simp; done) | (go_simp; rfl)); intro w30 hw; have hg : w26.grownBy w30 (some go21) := (by rw [hw]; exact HP29.2); have hp_ : Kd.R (Kd.int .i64) 3 w30 w.heap.size (fun _ => True) (.slice (some ⟨go21, 0, none⟩) x3_2.length co28) y185 := (by rw [hw, Ny185.out]; exact HP29.1); clear HP29; replace BK176 := Aside0.mk (blk_grown (g := gb176) (o := .cells #[.slice (some ad180) l0_0.length c0_0] 24 (0, 0)) (mB BK176) hg (Kd.R_ne HO_3.out BK176.out (by decide))); replace BK181 := Aside0.mk (blk_grown (g := gb181) (o := .cells #[.int .i64 ((rd_T28 l0_0 x15_1).f0), .int .i64 ((rd_T28 l0_0 x15_1).f1), .int .i64 ((rd_T28 l0_0 x15_1).f2), .slice A180_3 ((rd_T28 l0_0 x15_1).f3).length c180_3, .slice (some ad182) ((rd_T28 l0_0 x15_1).f4).length c180_4] 28 (0, 0)) (mB BK181) hg (Kd.R_ne HO_3.out BK181.out (by decide))); replace BK183 := Aside0.mk (blk_grown (g := gb183) (o := .cells #[.string ((rd_T78 ((rd_T28 l0_0 x15_1).f4) x22_2).f0), .int .i64 ((rd_T78 ((rd_T28 l0_0 x15_1).f4) x22_2).f1)] 78 (0, 0)) (mB BK183) hg (Kd.R_ne HO_3.out BK183.out (by decide))); replace HO_3 := Aside0.mk (hp_); replace HB := Aside0.mk ((by rw [hw]; exact wS (HB.out) GB21.out : Below w.heap.size w w30)); clear hg hw hp_))
       go_roundg k2
       case measure => have := HK1.out; have := HK2.out; omega
       case rel => exact ⟨(y185), (wrap64 (x22_2 + 1)), sI, H', ⟨oM HK1 HK2⟩, ⟨mR HO_3⟩, ⟨mB BK176⟩, ⟨mB BK181⟩, ⟨mH HB⟩⟩
      ·
       rw [if_neg c15] at H; have c15b0 := decide_eq_false c15; clear c15; have H' := Aside0.mk H; clear H
       go_wp2
       go_roundg k2
       case measure => have := HK1.out; have := HK2.out; omega
       case rel => exact ⟨(x3_2), (wrap64 (x15_1 + 1)), sI, H', ⟨oM HK1 HK2⟩, ⟨mR HO_3⟩, ⟨mB BK176⟩, ⟨mH HB⟩⟩
   ·
    rw [if_neg c9] at H; have c9b0 := decide_eq_false c9; clear c9; obtain rfl := Option.some.inj H
    go_wp2
    go_ret
    exact ⟨_, rT, mR HO_3, mH HB⟩
mutual
def dir_below.l0 : Nat → List Bool → List Int → List (S28) → Option (List Bool)
 | 0, _, _, _ => none
 | k + 1, x5, x6, x187000 => if (x6.length : Int) > 0 then (if 0 ≤ (wrap64 ((x6.length : Int) - 1)) then (if (wrap64 ((x6.length : Int) - 1)) < (x6.length : Int) then (if (wrap64 ((x6.length : Int) - 1)) ≤ (x6.length : Int) then (if 0 ≤ (rd x6 (wrap64 ((x6.length : Int) - 1))) then (if (rd x6 (wrap64 ((x6.length : Int) - 1))) < (x187000.length : Int) then (dir_below.l1 k x5 (x6.take ((wrap64 ((x6.length : Int) - 1)) : Int).toNat) ((rd_T28 x187000 (rd x6 (wrap64 ((x6.length : Int) - 1)))).f4) (((rd_T28 x187000 (rd x6 (wrap64 ((x6.length : Int) - 1)))).f4).length : Int) 0 x187000) else (none)) else (none)) else (none)) else (none)) else (none)) else (some x5)
def dir_below.l1 : Nat → List Bool → List Int → List (S78) → Int → Int → List (S28) → Option (List Bool)
 | 0, _, _, _, _, _, _ => none
 | k + 1, x5, x6, x38, x39, x40, x187000 => if x40 < x39 then (if 0 ≤ x40 then (if x40 < (x38.length : Int) then (if 0 ≤ ((rd_T78 x38 x40).f1) then (if ((rd_T78 x38 x40).f1) < (x5.length : Int) then (if (rdOf false x5 ((rd_T78 x38 x40).f1) = true) then (dir_below.l1 k x5 x6 x38 x39 (wrap64 (x40 + 1)) x187000) else (if x6.length < 17592186044416 then (dir_below.l1 k (x5.set (((rd_T78 x38 x40).f1) : Int).toNat true) (x6 ++ [(rd_T78 x38 x40).f1]) x38 x39 (wrap64 (x40 + 1)) x187000) else (none))) else (none)) else (none)) else (none)) else (none)) else (dir_below.l0 k x5 x6 x187000)
end
def dir_below.f (k : Nat) (l0_0 : List (S28)) (a1 : Int) : Option (List Bool) := if 0 ≤ (l0_0.length : Int) then (if ((l0_0.length : Int) : Int).toNat ≤ 281474976710656 then ((some (List.replicate ((l0_0.length : Int) : Int).toNat false : List Bool)).bind fun y187 => (if 0 ≤ a1 then (if a1 < (y187.length : Int) then (dir_below.l0 k (y187.set (a1 : Int).toNat true) (([a1] : List Int)) l0_0) else (none)) else (none))) else (none)) else (none)
theorem dir_below.mono_l : ∀ k, (∀ y0 y1 y2, LeO (dir_below.l0 k y0 y1 y2) (dir_below.l0 (k + 1) y0 y1 y2)) ∧ (∀ y0 y1 y2 y3 y4 y5, LeO (dir_below.l1 k y0 y1 y2 y3 y4 y5) (dir_below.l1 (k + 1) y0 y1 y2 y3 y4 y5))
 | 0 => ⟨fun _ _ _ r h => by simp [dir_below.l0] at h, fun _ _ _ _ _ _ r h => by simp [dir_below.l1] at h⟩
 | k + 1 => by
  obtain ⟨ih0, ih1⟩ := dir_below.mono_l k; refine ⟨?_, ?_⟩
  ·
   intro y0 y1 y2
   unfold dir_below.l0
   repeat' with_reducible first | apply ih0 | apply ih1 | exact LeO.refl _ | exact LeO.none _ | refine LeO.ite ?_ ?_ | refine LeO.bind ?_ (fun _ => ?_)
  ·
   intro y0 y1 y2 y3 y4 y5
   unfold dir_below.l1
   repeat' with_reducible first | apply ih0 | apply ih1 | exact LeO.refl _ | exact LeO.none _ | refine LeO.ite ?_ ?_ | refine LeO.bind ?_ (fun _ => ?_)
theorem dir_below.mono : ∀ a0 a1 k, LeO (dir_below.f k a0 a1) (dir_below.f (k + 1) a0 a1) := by
 intro a0 a1 k; obtain ⟨ih0, ih1⟩ := dir_below.mono_l k
 unfold dir_below.f
 repeat' with_reducible first | apply ih0 | apply ih1 | exact LeO.refl _ | exact LeO.none _ | refine LeO.ite ?_ ?_ | refine LeO.bind ?_ (fun _ => ?_)
set_option maxHeartbeats 8000000 in
set_option maxRecDepth 100000 in
theorem dir_below.calls (k : Nat) (A0_0 : Option Addr) (c0_0 : Nat) (l0_0 : List (S28)) (a1 : Int) (r : List Bool) (w : World) (hr0_0 : Kd.C k28 w A0_0 l0_0.length l0_0) (hc0_0 : l0_0.length ≤ c0_0) (h : dir_below.f k l0_0 a1 = some r) :
 Calls Try.prog 73 #[.agg #[.slice A0_0 l0_0.length c0_0], .int .i64 a1] w fun e w' => ∃ v0_ : Value, e = .returned (v0_) ∧ Kd.R Kd.bool 4 w' w.heap.size (fun _ => True) v0_ r ∧ Below w.heap.size w w' := by
 have hu24 := Try.underlying24; have hu78 := Try.underlying78; have HR0_0 := Aside0.mk hr0_0; have HC0_0 := Aside0.mk hc0_0; clear hr0_0 hc0_0; have HB := Aside0.mk (Below.refl w.heap.size w); have H : (if 0 ≤ (l0_0.length : Int) then (if ((l0_0.length : Int) : Int).toNat ≤ 281474976710656 then ((some (List.replicate ((l0_0.length : Int) : Int).toNat false : List Bool)).bind fun y187 => (if 0 ≤ a1 then (if a1 < (y187.length : Int) then (dir_below.l0 k (y187.set (a1 : Int).toNat true) (([a1] : List Int)) l0_0) else (none)) else (none))) else (none)) else (none)) = some r := h; clear h
 replace H := nP H; obtain ⟨c3, H⟩ := H; have c3b0 := eq_true c3; have c3b1 := decide_eq_true c3; clear c3
 replace H := nP H; obtain ⟨c4, H⟩ := H; have c4b0 := eq_true c4; have c4b1 := decide_eq_true c4; clear c4; obtain ⟨y187, hy187⟩ : ∃ y_ : List Bool, y_ = (List.replicate ((l0_0.length : Int) : Int).toNat false) := ⟨_, rfl⟩
 replace H : (if 0 ≤ a1 then (if a1 < (y187.length : Int) then (dir_below.l0 k (y187.set (a1 : Int).toNat true) (([a1] : List Int)) l0_0) else (none)) else (none)) = some r := rH H hy187
 have Ny187 := Aside0.mk hy187; clear hy187; obtain ⟨y190, hy190⟩ : ∃ y_ : List Int, y_ = (([a1] : List Int)) := ⟨_, rfl⟩
 replace H : (if 0 ≤ a1 then (if a1 < (y187.length : Int) then (dir_below.l0 k (y187.set (a1 : Int).toNat true) y190 l0_0) else (none)) else (none)) = some r := rH H hy190
 have Ny190 := Aside0.mk hy190; clear hy190
 replace H := nP H; obtain ⟨c5, H⟩ := H; have c5b0 := decide_eq_true c5; clear c5
 replace H := nP H; obtain ⟨c6, H⟩ := H; have c6b0 := decide_eq_true c6; clear c6; obtain ⟨y193, hy193⟩ : ∃ y_ : List Bool, y_ = (y187.set (a1 : Int).toNat true) := ⟨_, rfl⟩
 replace H : (dir_below.l0 k y193 y190 l0_0) = some r := rH H hy193
 have Ny193 := Aside0.mk hy193; clear hy193; have H' := Aside0.mk H; clear H
 go_enter Try.func73, Try.ntmps73
 go_wp2_with (first | ((with_reducible refine gate_dst (N := 2) rfl ?_); refine bxE 24 (cs := #[.slice A0_0 l0_0.length c0_0]) ?_; intro gb186 hg w8 hbox hb; have BK186 := Aside0.mk hbox; have GW186 := kG HB hg; have GE186 := kG HB hg; replace HB := kH HB hb; clear hb hbox hg; obtain ⟨hcz9_0, hfz9_0⟩ := cY0 BK186) | ((with_reducible refine gate_dst (N := 13) rfl ?_); refine Kd.R_make Kd.bool _ 4 rfl (N := 13) rfl 79 _ _ rfl (l0_0.length : Int) rfl rfl Try.underlying79 (.bool false) 1 info4 rfl (by decide) (by omega) false (ok := fun _ => True) (okp := fun _ => True) rfl (fun _ hk => hk) trivial (dT) (Nat.le_trans (Nat.mul_le_mul_right _ (dT : (l0_0.length : Int).toNat ≤ 281474976710656)) (by omega)) (Below.refl _ _) (Nat.le_refl _) ?_; intro v188 w10 ho11 hb hg_ hnew_; clear hg_ hnew_; (first | rw [← Ny187.out] at ho11 | (simp only [Int.reduceToNat] at ho11; rw [← Ny187.out] at ho11)); have HO189 := Aside0.mk (Kd.R_lower ho11 (below_size (mH HB))); replace BK186 := kB BK186 hb; replace HB := kH HB hb; clear hb ho11) | ((with_reducible refine gate_dst (N := 15) rfl ?_); refine Kd.R_lit (Kd.int .i64) _ 3 ?hg (N := 15) ?hd (xs := ([a1] : List Int)) (inner := [.int .i64 a1]) (ok := fun _ => True) (okp := fun _ => True) ?hr ?hp (fun _ hk => hk) trivial (Below.refl _ _) (Nat.le_refl _) (by simp) ?_; (case hd => rfl); (case hg => rfl); (case hr => first | (go_simp; done) | (go_simp; rfl)); (case hp => exact (Reps.one (show Kd.M (Kd.int .i64) _ _ _ a1 [.int .i64 a1] from rfl) (Reps.none _ _))); intro v191 w12 ho13 hb hg_ hnew_; clear hg_ hnew_; (first | rw [← Ny190.out] at ho13 | (simp only [Int.reduceToNat] at ho13; rw [← Ny190.out] at ho13)); replace HO189 := kR HO189 hb; have HO192 := Aside0.mk (Kd.R_lower ho13 (below_size (mH HB))); replace BK186 := kB BK186 hb; replace HB := kH HB hb; clear hb ho13; have p7 : 0 ≤ (a1 : Int) := dT; have q7 : (a1 : Int) < ((y187.length : Int) : Int) := dT; obtain ⟨go7, co7, eo7, gb7, gl7, cl7, HG7⟩ := Kd.R_form HO189.out (by omega); (first | cases eo7 | (injection eo7 with ea_ en_ ec_; (first | subst ea_ | (injection ea_ with ea_; subst ea_)); subst ec_; clear en_)); have GB7 := Aside0.mk gb7; have GG7 := Aside0.mk HG7; clear gb7 gl7 HG7; obtain ⟨hx7_0, hf7_0⟩ := Kd.R_celln false HO189.out (a1 : Int) p7 q7; replace p7 := eq_true p7; replace q7 := eq_true q7; obtain ⟨hy14_, hz14_⟩ := Kd.R_celln false HO189.out (a1 : Int) (dT) (dT); have HP14 := Kd.R_putg HO189.out (a1 : Int) true) | ((with_reducible refine gate_store (t := 4) (p := 18) rfl ?_); refine store_event (t := 4) (p := 18) (v := ?vo_w15) (w1 := (w12.setCell ⟨go7, (a1 : Int).toNat, none⟩ (.bool true))) ?hg ?ho ?hn ?hr ?_; (case ho => rfl); (case hg => rfl); (case hn => rfl); (case hr => first | (go_simp; done) | (go_simp; rfl)); intro w15 hw; have hg : w12.grownBy w15 (some go7) := (by rw [hw]; exact HP14.2); have hp_ : Kd.R Kd.bool 4 w15 w.heap.size (fun _ => True) (.slice (some ⟨go7, 0, none⟩) y187.length co7) y193 := (by rw [hw, Ny193.out]; exact HP14.1); clear HP14; replace BK186 := Aside0.mk (blk_grown (g := gb186) (o := .cells #[.slice A0_0 l0_0.length c0_0] 24 (0, 0)) (mB BK186) hg (Kd.R_ne HO189.out BK186.out (by decide))); replace HO192 := Aside0.mk (Kd.R_over' (v := (.slice (some ⟨go7, 0, none⟩) y187.length co7)) (mR HO192) (Kd.R_typed HO189.out) (by decide) hg); replace HO189 := Aside0.mk (hp_); replace HB := Aside0.mk ((by rw [hw]; exact wS (HB.out) GB7.out : Below w.heap.size w w15)); clear hg hw hp_))
 go_loopg [6] k (fun kq v6 w' => ∃ (x5_1 : List Bool) (x6_1 : List Int), Aside0 (dir_below.l0 kq x5_1 x6_1 l0_0 = some r) ∧ Aside0 (kq ≤ k) ∧ Aside0 (Kd.R Kd.bool 4 w' w.heap.size (fun _ => True) (.slice (some ⟨go7, 0, none⟩) y187.length co7) x5_1) ∧ Aside0 (Kd.R (Kd.int .i64) 3 w' w.heap.size (fun _ => True) v6 x6_1) ∧ Aside0 (w'.heap[gb186]? = some (.cells #[(.slice A0_0 l0_0.length c0_0)] 24 (0, 0))) ∧ Aside0 (Below w.heap.size w w'))
 case atStart => exact ⟨(y193), (y190), H', ⟨Nat.le_refl _⟩, ⟨mR HO189⟩, ⟨mR HO192⟩, ⟨mB BK186⟩, ⟨mH HB⟩⟩
 case round =>
  clear H'
  (try clear c3); (try clear c3b0); (try clear c3b1); (try clear c4); (try clear c4b0); (try clear c4b1); (try clear c5); (try clear c5b0); (try clear c6); (try clear c6b0); (try clear p7); (try clear q7); (try clear hcz9_0); (try clear hfz9_0); (try clear hx7_0); (try clear p7); (try clear q7)
  obtain ⟨x5_1, x6_1, HA, HK1, HO_5, HO_6, BK186, HB⟩ := hrel; have hl5_1 := (Kd.R_reads' HO_5.out).1; rw [hl5_1] at HO_5
  (try simp only [hl5_1])
  (try simp only [hl5_1] at BK186)
  (try simp only [hl5_1] at HO_6)
  cases gk with
  | zero => exact absurd HA.out (by simp [dir_below.l0])
  | succ k1 =>
   have H := HA.out; clear HA; simp only [dir_below.l0] at H
   by_cases c16 : (x6_1.length : Int) > 0
   ·
    rw [if_pos c16] at H; have c16b0 : decide (0 < (x6_1.length : Int)) = true := decide_eq_true c16; have c16b1 : decide (0 < x6_1.length) = true := decide_eq_true (by omega); clear c16; obtain ⟨ji17, hji17⟩ : ∃ j_ : Int, (wrap64 ((x6_1.length : Int) - 1)) = j_ := ⟨_, rfl⟩
    replace H : (if 0 ≤ (ji17) then (if (ji17) < (x6_1.length : Int) then (if (ji17) ≤ (x6_1.length : Int) then (if 0 ≤ (rd x6_1 (ji17)) then (if (rd x6_1 (ji17)) < (l0_0.length : Int) then (dir_below.l1 k1 x5_1 (x6_1.take ((ji17) : Int).toNat) ((rd_T28 l0_0 (rd x6_1 (ji17))).f4) (((rd_T28 l0_0 (rd x6_1 (ji17))).f4).length : Int) 0 l0_0) else (none)) else (none)) else (none)) else (none)) else (none)) = some r := by first | (rw [hji17] at H; exact H) | (simp only [hji17] at H ⊢; exact H)
    have hji17w : (IntKind.i64.wrap ((x6_1.length : Int) - 1)) = ji17 := (i64_w _).trans hji17
    replace H := nP H; obtain ⟨c18, H⟩ := H; have c18b0 := decide_eq_true c18; clear c18
    replace H := nP H; obtain ⟨c19, H⟩ := H; have c19b0 := decide_eq_true c19; clear c19
    replace H := nP H; obtain ⟨c20, H⟩ := H; have c20b0 := eq_true c20; have c20b1 := decide_eq_true c20; clear c20; obtain ⟨y195, hy195⟩ : ∃ y_ : List Int, y_ = (x6_1.take ((ji17) : Int).toNat) := ⟨_, rfl⟩
    replace H : (if 0 ≤ (rd x6_1 (ji17)) then (if (rd x6_1 (ji17)) < (l0_0.length : Int) then (dir_below.l1 k1 x5_1 y195 ((rd_T28 l0_0 (rd x6_1 (ji17))).f4) (((rd_T28 l0_0 (rd x6_1 (ji17))).f4).length : Int) 0 l0_0) else (none)) else (none)) = some r := rH H hy195
    have Ny195 := Aside0.mk hy195; clear hy195
    replace H := nP H; obtain ⟨c21, H⟩ := H; have c21b0 := decide_eq_true c21; clear c21
    replace H := nP H; obtain ⟨c22, H⟩ := H; have c22b0 := decide_eq_true c22; clear c22; have H' := Aside0.mk H; clear H; obtain ⟨Ao23, co23, eo23⟩ := Kd.R_slice HO_6.out; subst eo23; have p194 : 0 ≤ ((ji17) : Int) := dT; have q194 : (ji17) < (x6_1.length : Int) := dT; obtain ⟨ad194, e194, hx194_0⟩ := Kd.at_int (Kd.R_reads' HO_6.out).2.2 (ji17) p194 q194
    cases e194
    replace p194 := eq_true p194; replace q194 := eq_true q194; have q24 : ((ji17) : Int) ≤ ((x6_1.length : Int) : Int) := dT; obtain ⟨i024, hi024, _, hsz24, _⟩ := info_parts info3; have hcut24 := cut_to (P := Try.prog) 25 3 .i64 Try.underlying25 hi024 (some ad194) x6_1.length co23 (ji17) (dT) q24 (Kd.R_reads' HO_6.out).2.1; have hr24 := Kd.R_take (m := ((ji17) : Int).toNat) HO_6.out (by omega); have hy24 : y195.length = ((ji17) : Int).toNat := (by rw [Ny195.out, List.length_take]; omega)
    rw [← Ny195.out] at hr24; rw [← hy24] at hr24 hcut24; clear hy24 hi024 hsz24 HO_6; have HO197 := Aside0.mk hr24; clear hr24; replace q24 := eq_true q24; obtain ⟨hcz25_0, hfz25_0⟩ := cY0 BK186; have p198 : 0 ≤ ((rd x6_1 (ji17)) : Int) := dT; have q198 : (rd x6_1 (ji17)) < (l0_0.length : Int) := dT; obtain ⟨ad198, A198_3, c198_3, A198_4, c198_4, e198, hx198_0, hx198_1, hx198_2, hx198_3, hx198_4, hl198_3, hi198_3, hl198_4, hi198_4⟩ := at_T28 HR0_0.out (rd x6_1 (ji17)) p198 q198
    cases e198
    replace hx198_0 := xC HB hx198_0; replace hx198_1 := xC HB hx198_1; replace hx198_2 := xC HB hx198_2; replace hx198_3 := xC HB hx198_3; replace hx198_4 := xC HB hx198_4; have HR198_3 := Aside0.mk hi198_3; have HC198_3 := Aside0.mk hl198_3; clear hi198_3 hl198_3; have HR198_4 := Aside0.mk hi198_4; have HC198_4 := Aside0.mk hl198_4; clear hi198_4 hl198_4; replace p198 := eq_true p198; replace q198 := eq_true q198
    go_wp2
    go_loopg [6, 40] k1 (fun kq v6 v40 w' => ∃ (x5_2 : List Bool) (x6_2 : List Int) (x40_2 : Int), v40 = .int .i64 x40_2 ∧ Aside0 (dir_below.l1 kq x5_2 x6_2 ((rd_T28 l0_0 (rd x6_1 (ji17))).f4) (((rd_T28 l0_0 (rd x6_1 (ji17))).f4).length : Int) x40_2 l0_0 = some r) ∧ Aside0 (kq ≤ k1) ∧ Aside0 (Kd.R Kd.bool 4 w' w.heap.size (fun _ => True) (.slice (some ⟨go7, 0, none⟩) x5_1.length co7) x5_2) ∧ Aside0 (Kd.R (Kd.int .i64) 3 w' w.heap.size (fun _ => True) v6 x6_2) ∧ Aside0 (w'.heap[gb186]? = some (.cells #[(.slice (some ad198) l0_0.length c0_0)] 24 (0, 0))) ∧ Aside0 (Below w.heap.size w w'))
    case atStart => exact ⟨(x5_1), (y195), (0), sI, H', ⟨Nat.le_refl _⟩, ⟨by (try simp only [hl5_1]); (with_reducible repeat (first | apply Kd.R_alloc | apply Kd.R_drewN | apply Kd.R_drew)); exact HO_5.out⟩, ⟨by (try simp only [hl5_1]); (with_reducible repeat (first | apply Kd.R_alloc | apply Kd.R_drewN | apply Kd.R_drew)); exact HO197.out⟩, ⟨by (try simp only [hl5_1]); (with_reducible repeat (first | refine bN ?_ _ | refine bD ?_ | refine bA ?_ _)); exact BK186.out⟩, ⟨mH HB⟩⟩
    case round =>
     clear H'
     (try clear c3); (try clear c3b0); (try clear c3b1); (try clear c4); (try clear c4b0); (try clear c4b1); (try clear c5); (try clear c5b0); (try clear c6); (try clear c6b0); (try clear p7); (try clear q7); (try clear c16); (try clear c16b0); (try clear c16b1); (try clear c18); (try clear c18b0); (try clear c19); (try clear c19b0); (try clear c20); (try clear c20b0); (try clear c20b1); (try clear c21); (try clear c21b0); (try clear c22); (try clear c22b0); (try clear q24); (try clear hcz25_0); (try clear hcz9_0); (try clear hfz25_0); (try clear hfz9_0); (try clear hx194_0); (try clear hx198_0); (try clear hx198_1); (try clear hx198_2); (try clear hx198_3); (try clear hx198_4); (try clear hx7_0); (try clear p194); (try clear p198); (try clear p7); (try clear q194); (try clear q198); (try clear q24); (try clear q7)
     obtain ⟨x5_2, x6_2, x40_2, rfl, HA, HK2, HO_5, HO_6, BK186, HB⟩ := hrel; have hl5_2 := (Kd.R_reads' HO_5.out).1; rw [hl5_2] at HO_5
     (try simp only [hl5_2])
     (try simp only [hl5_2] at BK186)
     (try simp only [hl5_2] at HO_6)
     cases gk with
     | zero => exact absurd HA.out (by simp [dir_below.l1])
     | succ k2 =>
      have H := HA.out; clear HA; simp only [dir_below.l1] at H
      by_cases c26 : x40_2 < (((rd_T28 l0_0 (rd x6_1 (ji17))).f4).length : Int)
      ·
       rw [if_pos c26] at H; have c26b0 := decide_eq_true c26; clear c26
       replace H := nP H; obtain ⟨c27, H⟩ := H; have c27b0 := decide_eq_true c27; clear c27
       replace H := nP H; obtain ⟨c28, H⟩ := H; have c28b0 := decide_eq_true c28; clear c28
       replace H := nP H; obtain ⟨c29, H⟩ := H; have c29b0 := decide_eq_true c29; clear c29
       replace H := nP H; obtain ⟨c30, H⟩ := H; have c30b0 := decide_eq_true c30; clear c30; obtain ⟨bq31, hbq31⟩ : ∃ b_ : Bool, b_ = (rdOf false x5_2 ((rd_T78 ((rd_T28 l0_0 (rd x6_1 (ji17))).f4) x40_2).f1)) := ⟨_, rfl⟩
       replace H : (if (bq31 = true) then (dir_below.l1 k2 x5_2 x6_2 ((rd_T28 l0_0 (rd x6_1 (ji17))).f4) (((rd_T28 l0_0 (rd x6_1 (ji17))).f4).length : Int) (wrap64 (x40_2 + 1)) l0_0) else (if x6_2.length < 17592186044416 then (dir_below.l1 k2 (x5_2.set (((rd_T78 ((rd_T28 l0_0 (rd x6_1 (ji17))).f4) x40_2).f1) : Int).toNat true) (x6_2 ++ [(rd_T78 ((rd_T28 l0_0 (rd x6_1 (ji17))).f4) x40_2).f1]) ((rd_T28 l0_0 (rd x6_1 (ji17))).f4) (((rd_T28 l0_0 (rd x6_1 (ji17))).f4).length : Int) (wrap64 (x40_2 + 1)) l0_0) else (none))) = some r := by rw [← hbq31] at H; exact H
       have Nbq31 := Aside0.mk hbq31; clear hbq31
       by_cases c32 : (bq31 = true)
       ·
        subst c32
        have H1 : (dir_below.l1 k2 x5_2 x6_2 ((rd_T28 l0_0 (rd x6_1 (ji17))).f4) (((rd_T28 l0_0 (rd x6_1 (ji17))).f4).length : Int) (wrap64 (x40_2 + 1)) l0_0) = some r := by rw [if_pos rfl] at H; exact H
        clear H; have H := H1; clear H1; have H' := Aside0.mk H; clear H; have p199 : 0 ≤ (x40_2 : Int) := dT; have q199 : x40_2 < (((rd_T28 l0_0 (rd x6_1 (ji17))).f4).length : Int) := dT; obtain ⟨ad199, e199, hx199_0, hx199_1⟩ := at_T78 HR198_4.out x40_2 p199 q199
        cases e199
        replace hx199_0 := xC HB hx199_0; replace hx199_1 := xC HB hx199_1; replace p199 := eq_true p199; replace q199 := eq_true q199
        go_wp2_with (first | ((with_reducible refine gate_dst (N := 9) rfl ?_); refine bxE 78 (cs := #[.string (⟨#[]⟩ : ByteArray), .int .i64 0]) ?_; intro gb200 hg w33 hbox hb; replace HO_5 := kR HO_5 hb; replace HO_6 := kR HO_6 hb; have BK200 := Aside0.mk hbox; have GW200 := kG HB hg; have GE200 := kG HB hg; replace HB := kH HB hb; have NB186_200 := kL BK186 hg; have NB200_186 := kQ BK186 hg; replace BK186 := kB BK186 hb; clear hb hbox hg; have hnb34 := NB200_186.out; have hnc34 := NB186_200.out; obtain ⟨hcz35_0, hfz35_0⟩ := cY0 BK200; obtain ⟨hcz35_1, hfz35_1⟩ := cY1 BK200; have p201 : 0 ≤ (((rd_T78 ((rd_T28 l0_0 (rd x6_1 (ji17))).f4) x40_2).f1) : Int) := dT; have q201 : ((rd_T78 ((rd_T28 l0_0 (rd x6_1 (ji17))).f4) x40_2).f1) < (x5_2.length : Int) := dT; obtain ⟨ad201, e201, hx201_0⟩ := Kd.at_bool (Kd.R_reads' HO_5.out).2.2 ((rd_T78 ((rd_T28 l0_0 (rd x6_1 (ji17))).f4) x40_2).f1) p201 q201; (try rw [← Nbq31.out] at hx201_0); obtain rfl : (⟨go7, 0, none⟩ : Addr) = ad201 := (by injection e201); (first | simp only [add_plain] at hx201_0 | simp only [add_at] at hx201_0 | simp only [Addr.add, Nat.zero_add] at hx201_0 | skip); have hn201_0 : (⟨go7, 0, none⟩ : Addr).block ≠ gb200 := Kd.own_blk (Kd.R_ne HO_5.out BK200.out (by decide)); have hn201_1 : (⟨go7, 0, none⟩ : Addr).block ≠ gb200 := Kd.own_blk (Kd.R_ne HO_5.out BK200.out (by decide)); replace hx201_0 := cF hn201_0 0 (.string ((rd_T78 ((rd_T28 l0_0 (rd x6_1 (ji17))).f4) x40_2).f0)) hx201_0; replace hx201_0 := cF hn201_1 1 (.int .i64 ((rd_T78 ((rd_T28 l0_0 (rd x6_1 (ji17))).f4) x40_2).f1)) hx201_0; clear hn201_0; clear hn201_1; replace p201 := eq_true p201; replace q201 := eq_true q201))
        (try simp only [← hl5_2])
        go_roundg k2
        case measure => have := HK1.out; have := HK2.out; omega
        case rel => exact ⟨(x5_2), (x6_2), (wrap64 (x40_2 + 1)), sI, H', ⟨oM HK1 HK2⟩, ⟨by (try simp only [hl5_1]); (try simp only [hl5_2]); (with_reducible repeat (first | apply Kd.R_alloc | apply Kd.R_drewN | apply Kd.R_drew)); exact Kd.R_mono (Kd.R_far (p := ⟨gb200, 1, none⟩) (Kd.R_far (p := ⟨gb200, 0, none⟩) (Kd.R_types HO_5.out BK200.out (by decide)) (fun _ hk => hk.2) (.string ((rd_T78 ((rd_T28 l0_0 (rd x6_1 (ji17))).f4) x40_2).f0))) (fun _ hk => hk.2) (.int .i64 ((rd_T78 ((rd_T28 l0_0 (rd x6_1 (ji17))).f4) x40_2).f1))) (fun _ hk => trivial)⟩, ⟨by (try simp only [hl5_1]); (try simp only [hl5_2]); (with_reducible repeat (first | apply Kd.R_alloc | apply Kd.R_drewN | apply Kd.R_drew)); exact Kd.R_mono (Kd.R_far (p := ⟨gb200, 1, none⟩) (Kd.R_far (p := ⟨gb200, 0, none⟩) (Kd.R_types HO_6.out BK200.out (by decide)) (fun _ hk => hk.2) (.string ((rd_T78 ((rd_T28 l0_0 (rd x6_1 (ji17))).f4) x40_2).f0))) (fun _ hk => hk.2) (.int .i64 ((rd_T78 ((rd_T28 l0_0 (rd x6_1 (ji17))).f4) x40_2).f1))) (fun _ hk => trivial)⟩, ⟨by (try simp only [hl5_1]); (try simp only [hl5_2]); (with_reducible repeat (first | refine bN ?_ _ | refine bD ?_ | refine bA ?_ _)); refine bF ?_ NB186_200.out _; (with_reducible repeat (first | refine bN ?_ _ | refine bD ?_ | refine bA ?_ _)); refine bF ?_ NB186_200.out _; (with_reducible repeat (first | refine bN ?_ _ | refine bD ?_ | refine bA ?_ _)); exact BK186.out⟩, ⟨mH HB⟩⟩
       ·
        replace c32 := Bool.eq_false_iff.mpr c32; subst c32
        have H1 : (if x6_2.length < 17592186044416 then (dir_below.l1 k2 (x5_2.set (((rd_T78 ((rd_T28 l0_0 (rd x6_1 (ji17))).f4) x40_2).f1) : Int).toNat true) (x6_2 ++ [(rd_T78 ((rd_T28 l0_0 (rd x6_1 (ji17))).f4) x40_2).f1]) ((rd_T28 l0_0 (rd x6_1 (ji17))).f4) (((rd_T28 l0_0 (rd x6_1 (ji17))).f4).length : Int) (wrap64 (x40_2 + 1)) l0_0) else (none)) = some r := by rw [if_neg (show ¬ (false = true) by decide)] at H; exact H
        clear H; have H := H1; clear H1; obtain ⟨y202, hy202⟩ : ∃ y_ : List Bool, y_ = (x5_2.set (((rd_T78 ((rd_T28 l0_0 (rd x6_1 (ji17))).f4) x40_2).f1) : Int).toNat true) := ⟨_, rfl⟩
        replace H : (if x6_2.length < 17592186044416 then (dir_below.l1 k2 y202 (x6_2 ++ [(rd_T78 ((rd_T28 l0_0 (rd x6_1 (ji17))).f4) x40_2).f1]) ((rd_T28 l0_0 (rd x6_1 (ji17))).f4) (((rd_T28 l0_0 (rd x6_1 (ji17))).f4).length : Int) (wrap64 (x40_2 + 1)) l0_0) else (none)) = some r := rH H hy202
        have Ny202 := Aside0.mk hy202; clear hy202
        replace H := nP H; obtain ⟨c37, H⟩ := H; have LMc37 := Aside0.mk c37; clear c37; obtain ⟨y203, hy203⟩ : ∃ y_ : List Int, y_ = (x6_2 ++ [(rd_T78 ((rd_T28 l0_0 (rd x6_1 (ji17))).f4) x40_2).f1]) := ⟨_, rfl⟩
        replace H : (dir_below.l1 k2 y202 y203 ((rd_T28 l0_0 (rd x6_1 (ji17))).f4) (((rd_T28 l0_0 (rd x6_1 (ji17))).f4).length : Int) (wrap64 (x40_2 + 1)) l0_0) = some r := rH H hy203
        have Ny203 := Aside0.mk hy203; clear hy203; have H' := Aside0.mk H; clear H; have p199 : 0 ≤ (x40_2 : Int) := dT; have q199 : x40_2 < (((rd_T28 l0_0 (rd x6_1 (ji17))).f4).length : Int) := dT; obtain ⟨ad199, e199, hx199_0, hx199_1⟩ := at_T78 HR198_4.out x40_2 p199 q199
        cases e199
        replace hx199_0 := xC HB hx199_0; replace hx199_1 := xC HB hx199_1; replace p199 := eq_true p199; replace q199 := eq_true q199
        go_wp2_with (first | ((with_reducible refine gate_dst (N := 9) rfl ?_); refine bxE 78 (cs := #[.string (⟨#[]⟩ : ByteArray), .int .i64 0]) ?_; intro gb200 hg w38 hbox hb; replace HO_5 := kR HO_5 hb; replace HO_6 := kR HO_6 hb; have BK200 := Aside0.mk hbox; have GW200 := kG HB hg; have GE200 := kG HB hg; replace HB := kH HB hb; have NB186_200 := kL BK186 hg; have NB200_186 := kQ BK186 hg; replace BK186 := kB BK186 hb; clear hb hbox hg; have hnb39 := NB200_186.out; have hnc39 := NB186_200.out; obtain ⟨hcz40_0, hfz40_0⟩ := cY0 BK200; obtain ⟨hcz40_1, hfz40_1⟩ := cY1 BK200) | ((with_reducible refine gate_store (t := 78) (p := 9) rfl ?_); refine store_event (t := 78) (p := 9) (v := ?vo_w41) (w1 := ((w38.setCell ⟨gb200, 0, none⟩ (.string ((rd_T78 ((rd_T28 l0_0 (rd x6_1 (ji17))).f4) x40_2).f0))).setCell ⟨gb200, 1, none⟩ (.int .i64 ((rd_T78 ((rd_T28 l0_0 (rd x6_1 (ji17))).f4) x40_2).f1)))) ?hg ?ho ?hn ?hr ?_; (case ho => rfl); (case hg => rfl); (case hn => rfl); (case hr => first | (go_simp; done) | (go_simp; rfl)); intro w41 hw; have n0_ : Aside0 (Kd.R Kd.bool 4 w41 w.heap.size (fun _ => True) (.slice (some ⟨go7, 0, none⟩) x5_2.length co7) x5_2) := ⟨(by rw [hw]; exact (fR ⟨Kd.R_types HO_5.out BK200.out (by decide)⟩))⟩; have n1_ : Aside0 (Kd.R (Kd.int .i64) 3 w41 w.heap.size (fun _ => True) u6 x6_2) := ⟨(by rw [hw]; exact (fR ⟨Kd.R_types HO_6.out BK200.out (by decide)⟩))⟩; have n2_ : Aside0 (w41.heap[gb186]? = some (.cells #[.slice (some ad198) l0_0.length c0_0] 24 (0, 0))) := ⟨(by rw [hw]; exact (mF BK186))⟩; have n3_ : Aside0 (w41.heap[gb200]? = some (.cells #[.string ((rd_T78 ((rd_T28 l0_0 (rd x6_1 (ji17))).f4) x40_2).f0), .int .i64 ((rd_T78 ((rd_T28 l0_0 (rd x6_1 (ji17))).f4) x40_2).f1)] 78 (0, 0))) := ⟨(by rw [hw]; exact (pP BK200))⟩; have n4_ : Aside0 (Below w.heap.size w w41) := ⟨(by rw [hw]; exact (mH HB))⟩; clear hw; clear HO_5; clear HO_6; clear BK186; clear BK200; clear HB; have HO_5 := n0_; have HO_6 := n1_; have BK186 := n2_; have BK200 := n3_; have HB := n4_; clear n0_ n1_ n2_ n3_ n4_; obtain ⟨hcz42_0, hfz42_0⟩ := cY0 BK200; obtain ⟨hcz42_1, hfz42_1⟩ := cY1 BK200; have p201 : 0 ≤ (((rd_T78 ((rd_T28 l0_0 (rd x6_1 (ji17))).f4) x40_2).f1) : Int) := dT; have q201 : ((rd_T78 ((rd_T28 l0_0 (rd x6_1 (ji17))).f4) x40_2).f1) < (x5_2.length : Int) := dT; obtain ⟨ad201, e201, hx201_0⟩ := Kd.at_bool (Kd.R_reads' HO_5.out).2.2 ((rd_T78 ((rd_T28 l0_0 (rd x6_1 (ji17))).f4) x40_2).f1) p201 q201; (try rw [← Nbq31.out] at hx201_0); obtain rfl : (⟨go7, 0, none⟩ : Addr) = ad201 := (by injection e201); (first | simp only [add_plain] at hx201_0 | simp only [add_at] at hx201_0 | simp only [Addr.add, Nat.zero_add] at hx201_0 | skip); replace p201 := eq_true p201; replace q201 := eq_true q201; have p36 : 0 ≤ (((rd_T78 ((rd_T28 l0_0 (rd x6_1 (ji17))).f4) x40_2).f1) : Int) := dT; have q36 : (((rd_T78 ((rd_T28 l0_0 (rd x6_1 (ji17))).f4) x40_2).f1) : Int) < ((x5_2.length : Int) : Int) := dT; obtain ⟨hx36_0, hf36_0⟩ := Kd.R_celln false HO_5.out (((rd_T78 ((rd_T28 l0_0 (rd x6_1 (ji17))).f4) x40_2).f1) : Int) p36 q36; replace p36 := eq_true p36; replace q36 := eq_true q36; obtain ⟨hy43_, hz43_⟩ := Kd.R_celln false HO_5.out (((rd_T78 ((rd_T28 l0_0 (rd x6_1 (ji17))).f4) x40_2).f1) : Int) (dT) (dT); have HP43 := Kd.R_putg HO_5.out (((rd_T78 ((rd_T28 l0_0 (rd x6_1 (ji17))).f4) x40_2).f1) : Int) true) | ((with_reducible refine gate_store (t := 4) (p := 53) rfl ?_); refine store_event (t := 4) (p := 53) (v := ?vo_w44) (w1 := (w41.setCell ⟨go7, (((rd_T78 ((rd_T28 l0_0 (rd x6_1 (ji17))).f4) x40_2).f1) : Int).toNat, none⟩ (.bool true))) ?hg ?ho ?hn ?hr ?_; (case ho => rfl); (case hg => rfl); (case hn => rfl); (case hr => first | (go_simp; done) | (go_simp; rfl)); intro w44 hw; have hg : w41.grownBy w44 (some go7) := (by rw [hw]; exact HP43.2); have hp_ : Kd.R Kd.bool 4 w44 w.heap.size (fun _ => True) (.slice (some ⟨go7, 0, none⟩) x5_2.length co7) y202 := (by rw [hw, Ny202.out]; exact HP43.1); clear HP43; replace HO_6 := Aside0.mk (Kd.R_over' (v := (.slice (some ⟨go7, 0, none⟩) x5_2.length co7)) (mR HO_6) (Kd.R_typed HO_5.out) (by decide) hg); replace BK186 := Aside0.mk (blk_grown (g := gb186) (o := .cells #[.slice (some ad198) l0_0.length c0_0] 24 (0, 0)) (mB BK186) hg (Kd.R_ne HO_5.out BK186.out (by decide))); replace BK200 := Aside0.mk (blk_grown (g := gb200) (o := .cells #[.string ((rd_T78 ((rd_T28 l0_0 (rd x6_1 (ji17))).f4) x40_2).f0), .int .i64 ((rd_T78 ((rd_T28 l0_0 (rd x6_1 (ji17))).f4) x40_2).f1)] 78 (0, 0)) (mB BK200) hg (Kd.R_ne HO_5.out BK200.out (by decide))); replace HO_5 := Aside0.mk (hp_); replace HB := Aside0.mk ((by rw [hw]; exact wS (HB.out) GB7.out : Below w.heap.size w w44)); clear hg hw hp_; obtain ⟨hcz45_0, hfz45_0⟩ := cY0 BK200; obtain ⟨hcz45_1, hfz45_1⟩ := cY1 BK200) | ((with_reducible refine gate_builtin (b := .append) (xs := #[.tmp 54, .tmp 57]) rfl ?_); at_builtin; refine Kd.R_append (Kd.int .i64) (w0 := w) w.heap.size rfl (.tmp 54) (.tmp 57) 25 3 (.int .i64 0) 8 rfl Try.underlying25 info3 rfl (by decide) (by omega) u6 x6_2 ((rd_T78 ((rd_T28 l0_0 (rd x6_1 (ji17))).f4) x40_2).f1) [.int .i64 ((rd_T78 ((rd_T28 l0_0 (rd x6_1 (ji17))).f4) x40_2).f1)] (fun _ => True) (fun _ => False) rfl rfl ?aP (fun _ hk => hk.elim) ?aF ?aO ?aB ?aS ?aL ?_; (case aP => exact rfl); (case aB => exact (mH HB)); (case aF => exact (fun _ _ => trivial)); (case aO => exact (mR HO_6)); (case aS => exact (below_size (mH HB))); (case aL => have := LMc37.out; omega); intro v204 w46 ho hb hg hat; rw [← Ny203.out] at ho; replace HO_5 := Aside0.mk (Kd.R_over' (mR HO_5) (Kd.R_typed (mR HO_6)) (by decide) hg); replace BK186 := Aside0.mk (blk_grown (g := gb186) (o := .cells #[.slice (some ad198) l0_0.length c0_0] 24 (0, 0)) (mB BK186) hg (Kd.R_ne HO_6.out BK186.out (by decide))); replace BK200 := Aside0.mk (blk_grown (g := gb200) (o := .cells #[.string ((rd_T78 ((rd_T28 l0_0 (rd x6_1 (ji17))).f4) x40_2).f0), .int .i64 ((rd_T78 ((rd_T28 l0_0 (rd x6_1 (ji17))).f4) x40_2).f1)] 78 (0, 0)) (mB BK200) hg (Kd.R_ne HO_6.out BK200.out (by decide))); replace HB := Aside0.mk (hb); have HO205 := Aside0.mk (ho); clear HO_6; clear ho hb hg hat))
        (try simp only [← hl5_2])
        go_roundg k2
        case measure => have := HK1.out; have := HK2.out; omega
        case rel => exact ⟨(y202), (y203), (wrap64 (x40_2 + 1)), sI, H', ⟨oM HK1 HK2⟩, ⟨by (try simp only [hl5_1]); (try simp only [hl5_2]); (with_reducible repeat (first | apply Kd.R_alloc | apply Kd.R_drewN | apply Kd.R_drew)); exact HO_5.out⟩, ⟨by (try simp only [hl5_1]); (try simp only [hl5_2]); (with_reducible repeat (first | apply Kd.R_alloc | apply Kd.R_drewN | apply Kd.R_drew)); exact HO205.out⟩, ⟨by (try simp only [hl5_1]); (try simp only [hl5_2]); (with_reducible repeat (first | refine bN ?_ _ | refine bD ?_ | refine bA ?_ _)); exact BK186.out⟩, ⟨mH HB⟩⟩
      ·
       rw [if_neg c26] at H; have c26b0 := decide_eq_false c26; clear c26; have H' := Aside0.mk H; clear H
       go_wp2
       (try simp only [← hl5_1, ← hl5_2])
       go_roundg k2
       case measure => have := HK1.out; have := HK2.out; omega
       case rel => exact ⟨(x5_2), (x6_2), H', ⟨oM HK1 HK2⟩, ⟨by (try simp only [hl5_1]); (try simp only [hl5_2]); (with_reducible repeat (first | apply Kd.R_alloc | apply Kd.R_drewN | apply Kd.R_drew)); exact HO_5.out⟩, ⟨by (try simp only [hl5_1]); (try simp only [hl5_2]); (with_reducible repeat (first | apply Kd.R_alloc | apply Kd.R_drewN | apply Kd.R_drew)); exact HO_6.out⟩, ⟨by (try simp only [hl5_1]); (try simp only [hl5_2]); (with_reducible repeat (first | refine bN ?_ _ | refine bD ?_ | refine bA ?_ _)); exact BK186.out⟩, ⟨mH HB⟩⟩
   ·
    rw [if_neg c16] at H; have c16b0 : decide (0 < (x6_1.length : Int)) = false := decide_eq_false c16; have c16b1 : decide (0 < x6_1.length) = false := decide_eq_false (by omega); clear c16; obtain rfl := Option.some.inj H; obtain ⟨Ao47, co47, eo47⟩ := Kd.R_slice HO_6.out; subst eo47
    go_wp2
    go_ret
    exact ⟨_, rT, mR HO_5, mH HB⟩
def dir_hangs.f (a0_0 : Int) (a0_1 : Int) (a0_2 : Int) (l0_3 : List Int) (l0_4 : List (S78)) (a1 : Int) (a2 : Int) (a3 : Bool) : Option (Bool) := if a0_0 = 2 then (if a3 = true then (if a1 = 0 then (some true) else (some (a2 == 1))) else (none)) else (if a0_0 = 1 then (some (a0_1 == a2)) else (some (a2 == 0)))
set_option maxHeartbeats 8000000 in
set_option maxRecDepth 100000 in
theorem dir_hangs.calls (a0_0 : Int) (a0_1 : Int) (a0_2 : Int) (A0_3 : Option Addr) (c0_3 : Nat) (l0_3 : List Int) (A0_4 : Option Addr) (c0_4 : Nat) (l0_4 : List (S78)) (a1 : Int) (a2 : Int) (a3 : Bool) (r : Bool) (w : World) (hr0_3 : Kd.C (Kd.int .i64) w A0_3 l0_3.length l0_3) (hc0_3 : l0_3.length ≤ c0_3) (hr0_4 : Kd.C k78 w A0_4 l0_4.length l0_4) (hc0_4 : l0_4.length ≤ c0_4) (h : dir_hangs.f a0_0 a0_1 a0_2 l0_3 l0_4 a1 a2 a3 = some r) :
 Calls Try.prog 74 #[.agg #[.int .i64 a0_0, .int .i64 a0_1, .int .i64 a0_2, .slice A0_3 l0_3.length c0_3, .slice A0_4 l0_4.length c0_4], .int .i64 a1, .int .i64 a2, .bool a3] w fun e w' => e = .returned (.bool r) ∧ Below w.heap.size w w' := by
 have hu28 := Try.underlying28; have HR0_3 := Aside0.mk hr0_3; have HC0_3 := Aside0.mk hc0_3; clear hr0_3 hc0_3; have HR0_4 := Aside0.mk hr0_4; have HC0_4 := Aside0.mk hc0_4; clear hr0_4 hc0_4; have HB := Aside0.mk (Below.refl w.heap.size w); have H : (if a0_0 = 2 then (if a3 = true then (if a1 = 0 then (some true) else (some (a2 == 1))) else (none)) else (if a0_0 = 1 then (some (a0_1 == a2)) else (some (a2 == 0)))) = some r := h; clear h
 by_cases c5 : a0_0 = 2
 ·
  rw [if_pos c5] at H; obtain ⟨c5b0, c5b1⟩ := eP c5; clear c5
  by_cases c6 : a3 = true
  ·
   subst c6
   have H1 : (if a1 = 0 then (some true) else (some (a2 == 1))) = some r := by rw [if_pos rfl] at H; exact H
   clear H; have H := H1; clear H1
   by_cases c7 : a1 = 0
   ·
    rw [if_pos c7] at H; obtain ⟨c7b0, c7b1⟩ := eP c7; clear c7; obtain rfl := Option.some.inj H
    go_enter Try.func74, Try.ntmps74
    go_wp2_with (first | ((with_reducible refine gate_dst (N := 4) rfl ?_); refine bxE 28 (cs := #[.int .i64 a0_0, .int .i64 a0_1, .int .i64 a0_2, .slice A0_3 l0_3.length c0_3, .slice A0_4 l0_4.length c0_4]) ?_; intro gb206 hg w8 hbox hb; have BK206 := Aside0.mk hbox; have GW206 := kG HB hg; have GE206 := kG HB hg; replace HB := kH HB hb; clear hb hbox hg; obtain ⟨hcz9_0, hfz9_0⟩ := cY0 BK206; obtain ⟨hcz9_1, hfz9_1⟩ := cY1 BK206; obtain ⟨hcz9_2, hfz9_2⟩ := cY2 BK206; obtain ⟨hcz9_3, hfz9_3⟩ := cY3 BK206; obtain ⟨hcz9_4, hfz9_4⟩ := cY4 BK206))
    go_ret
    exact ⟨rT, mH HB⟩
   ·
    rw [if_neg c7] at H; obtain ⟨c7b0, c7b1⟩ := eN c7; obtain rfl := Option.some.inj H
    go_enter Try.func74, Try.ntmps74
    go_wp2_with (first | ((with_reducible refine gate_dst (N := 4) rfl ?_); refine bxE 28 (cs := #[.int .i64 a0_0, .int .i64 a0_1, .int .i64 a0_2, .slice A0_3 l0_3.length c0_3, .slice A0_4 l0_4.length c0_4]) ?_; intro gb206 hg w10 hbox hb; have BK206 := Aside0.mk hbox; have GW206 := kG HB hg; have GE206 := kG HB hg; replace HB := kH HB hb; clear hb hbox hg; obtain ⟨hcz11_0, hfz11_0⟩ := cY0 BK206; obtain ⟨hcz11_1, hfz11_1⟩ := cY1 BK206; obtain ⟨hcz11_2, hfz11_2⟩ := cY2 BK206; obtain ⟨hcz11_3, hfz11_3⟩ := cY3 BK206; obtain ⟨hcz11_4, hfz11_4⟩ := cY4 BK206))
    go_ret
    exact ⟨rT, mH HB⟩
  ·
   replace c6 := Bool.eq_false_iff.mpr c6; subst c6
   have H1 : (none) = some r := by rw [if_neg (show ¬ (false = true) by decide)] at H; exact H
   clear H; have H := H1; clear H1; exact absurd H (by simp)
 ·
  rw [if_neg c5] at H; obtain ⟨c5b0, c5b1⟩ := eN c5
  by_cases c12 : a0_0 = 1
  ·
   rw [if_pos c12] at H; obtain ⟨c12b0, c12b1⟩ := eP c12; clear c12; obtain rfl := Option.some.inj H
   go_enter Try.func74, Try.ntmps74
   go_wp2_with (first | ((with_reducible refine gate_dst (N := 4) rfl ?_); refine bxE 28 (cs := #[.int .i64 a0_0, .int .i64 a0_1, .int .i64 a0_2, .slice A0_3 l0_3.length c0_3, .slice A0_4 l0_4.length c0_4]) ?_; intro gb206 hg w13 hbox hb; have BK206 := Aside0.mk hbox; have GW206 := kG HB hg; have GE206 := kG HB hg; replace HB := kH HB hb; clear hb hbox hg; obtain ⟨hcz14_0, hfz14_0⟩ := cY0 BK206; obtain ⟨hcz14_1, hfz14_1⟩ := cY1 BK206; obtain ⟨hcz14_2, hfz14_2⟩ := cY2 BK206; obtain ⟨hcz14_3, hfz14_3⟩ := cY3 BK206; obtain ⟨hcz14_4, hfz14_4⟩ := cY4 BK206))
   go_ret
   exact ⟨rT, mH HB⟩
  ·
   rw [if_neg c12] at H; obtain ⟨c12b0, c12b1⟩ := eN c12; obtain rfl := Option.some.inj H
   go_enter Try.func74, Try.ntmps74
   go_wp2_with (first | ((with_reducible refine gate_dst (N := 4) rfl ?_); refine bxE 28 (cs := #[.int .i64 a0_0, .int .i64 a0_1, .int .i64 a0_2, .slice A0_3 l0_3.length c0_3, .slice A0_4 l0_4.length c0_4]) ?_; intro gb206 hg w15 hbox hb; have BK206 := Aside0.mk hbox; have GW206 := kG HB hg; have GE206 := kG HB hg; replace HB := kH HB hb; clear hb hbox hg; obtain ⟨hcz16_0, hfz16_0⟩ := cY0 BK206; obtain ⟨hcz16_1, hfz16_1⟩ := cY1 BK206; obtain ⟨hcz16_2, hfz16_2⟩ := cY2 BK206; obtain ⟨hcz16_3, hfz16_3⟩ := cY3 BK206; obtain ⟨hcz16_4, hfz16_4⟩ := cY4 BK206))
   go_ret
   exact ⟨rT, mH HB⟩
end Go.Proofs.Ytkigiehkckjlhaa.PGrows
