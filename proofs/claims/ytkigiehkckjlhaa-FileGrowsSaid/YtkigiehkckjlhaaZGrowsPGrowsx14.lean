/- The Go functions that these laws reach, each as a Lean function with the same answers (a law itself where it answers true), and the proof that the code comes to them; conditions: those of each theorem. Laid by a program of this session over the print. -/
import Derived.Test.YtkigiehkckjlhaaZGrowsPGrowsShort
import Derived.Test.YtkigiehkckjlhaaZGrowsPGrowsx0
import Derived.Test.YtkigiehkckjlhaaZGrowsPGrowsx9
import Derived.Test.YtkigiehkckjlhaaZGrowsPGrowsx12
namespace Go.Proofs.Ytkigiehkckjlhaa.PGrows
open Go.RowKit Go.Proofs.YtkigiehkckjlhaaW.PrintWords Go.Proofs.YtkigiehkckjlhaaW.PrintLast Go.Proofs.YtkigiehkckjlhaaW.PrintMore
attribute [local go_sem] max2_int min2_int max_two min_two max_three min_three max_four min_four   -- for this text's walks alone
set_option linter.unusedVariables false
set_option linter.unusedSimpArgs false
open Go.Proofs.YtkigiehkckjlhaaW.PrintWords renaming blk_drewN → bN, blk_drew → bD, blk_alloc → bA, below_set → wS, below_alloc → wA, pw_below_drewN → wN, below_drew1 → wD, blk_below → bB, blk_far → bF, blk_cell → bC, blk_frozen → bZ
open List renaming setIfInBounds_toArray → lT, set_cons_zero → l0_, set_cons_succ → lS
mutual
def node_Refs.j0 : Nat → Int → Bool → Int → Int → Int → List Int → List (S78) → Option ((List (S102)))
 | 0, _, _, _, _, _, _, _ => none
 | k + 1, x0, x20, x149000, x149001, x149002, x149003, x149004 => if x20 = true then (some ([] : List (S102))) else (node_Refs.l0 k x0 ([] : List (S102)) x149003 (x149003.length : Int) 0)
def node_Refs.l0 : Nat → Int → List (S102) → List Int → Int → Int → Option ((List (S102)))
 | 0, _, _, _, _, _ => none
 | k + 1, x0, x5, x22, x23, x24 => if x24 < x23 then (if 0 ≤ x24 then (if x24 < (x22.length : Int) then (if (rd x22 x24) = 0 then (node_Refs.l0 k x0 x5 x22 x23 (wrap64 (x24 + 1))) else (if x5.length < 8796093022208 then (node_Refs.l0 k x0 (x5 ++ [(⟨wrap64 ((wrap64 (1 + (wrap64 (x0 * 5)))) + x24), rd x22 x24⟩ : S102)]) x22 x23 (wrap64 (x24 + 1))) else (none))) else (none)) else (none)) else (some x5)
end
def node_Refs.f (k : Nat) (a0 : Int) (a1_0 : Int) (a1_1 : Int) (a1_2 : Int) (l1_3 : List Int) (l1_4 : List (S78)) : Option ((List (S102))) := if a1_0 = 1 then ((node_May.f k a1_0 a1_1 a1_2 l1_3 l1_4).bind fun t149 => (if t149 = true then ((node_within.f a0 11).bind fun t150 => (node_Refs.j0 k a0 (!t150) a1_0 a1_1 a1_2 l1_3 l1_4)) else (node_Refs.j0 k a0 true a1_0 a1_1 a1_2 l1_3 l1_4))) else (node_Refs.j0 k a0 true a1_0 a1_1 a1_2 l1_3 l1_4)
theorem node_Refs.mono_l : ∀ k, (∀ y0 y1 y2 y3 y4 y5 y6, LeO (node_Refs.j0 k y0 y1 y2 y3 y4 y5 y6) (node_Refs.j0 (k + 1) y0 y1 y2 y3 y4 y5 y6)) ∧ (∀ y0 y1 y2 y3 y4, LeO (node_Refs.l0 k y0 y1 y2 y3 y4) (node_Refs.l0 (k + 1) y0 y1 y2 y3 y4))
 | 0 => ⟨fun _ _ _ _ _ _ _ r h => by simp [node_Refs.j0] at h, fun _ _ _ _ _ r h => by simp [node_Refs.l0] at h⟩
 | k + 1 => by
  obtain ⟨ih0, ih1⟩ := node_Refs.mono_l k; refine ⟨?_, ?_⟩
  ·
   intro y0 y1 y2 y3 y4 y5 y6
   unfold node_Refs.j0
   repeat' with_reducible first | apply ih0 | apply ih1 | apply node_May.mono | exact LeO.refl _ | exact LeO.none _ | refine LeO.ite ?_ ?_ | refine LeO.bind ?_ (fun _ => ?_)
  ·
   intro y0 y1 y2 y3 y4
   unfold node_Refs.l0
   repeat' with_reducible first | apply ih0 | apply ih1 | apply node_May.mono | exact LeO.refl _ | exact LeO.none _ | refine LeO.ite ?_ ?_ | refine LeO.bind ?_ (fun _ => ?_)
theorem node_Refs.mono : ∀ a0 a1 a2 a3 a4 a5 k, LeO (node_Refs.f k a0 a1 a2 a3 a4 a5) (node_Refs.f (k + 1) a0 a1 a2 a3 a4 a5) := by
 intro a0 a1 a2 a3 a4 a5 k; obtain ⟨ih0, ih1⟩ := node_Refs.mono_l k
 unfold node_Refs.f
 repeat' with_reducible first | apply ih0 | apply ih1 | apply node_May.mono | exact LeO.refl _ | exact LeO.none _ | refine LeO.ite ?_ ?_ | refine LeO.bind ?_ (fun _ => ?_)
set_option maxHeartbeats 8000000 in
set_option maxRecDepth 100000 in
theorem node_Refs.calls (k : Nat) (a0 : Int) (a1_0 : Int) (a1_1 : Int) (a1_2 : Int) (A1_3 : Option Addr) (c1_3 : Nat) (l1_3 : List Int) (A1_4 : Option Addr) (c1_4 : Nat) (l1_4 : List (S78)) (r : List (S102)) (w : World) (hr1_3 : Kd.C (Kd.int .i64) w A1_3 l1_3.length l1_3) (hc1_3 : l1_3.length ≤ c1_3) (hr1_4 : Kd.C k78 w A1_4 l1_4.length l1_4) (hc1_4 : l1_4.length ≤ c1_4) (h : node_Refs.f k a0 a1_0 a1_1 a1_2 l1_3 l1_4 = some r) :
 Calls Try.prog 66 #[.int .i64 a0, .agg #[.int .i64 a1_0, .int .i64 a1_1, .int .i64 a1_2, .slice A1_3 l1_3.length c1_3, .slice A1_4 l1_4.length c1_4]] w fun e w' => ∃ v0_ : Value, e = .returned (v0_) ∧ Kd.R k102 102 w' w.heap.size (fun _ => True) v0_ r ∧ Below w.heap.size w w' := by
 have hu28 := Try.underlying28; have hu102 := Try.underlying102; have HR1_3 := Aside0.mk hr1_3; have HC1_3 := Aside0.mk hc1_3; clear hr1_3 hc1_3; have HR1_4 := Aside0.mk hr1_4; have HC1_4 := Aside0.mk hc1_4; clear hr1_4 hc1_4; have HB := Aside0.mk (Below.refl w.heap.size w); have H : (if a1_0 = 1 then ((node_May.f k a1_0 a1_1 a1_2 l1_3 l1_4).bind fun t149 => (if t149 = true then ((node_within.f a0 11).bind fun t150 => (node_Refs.j0 k a0 (!t150) a1_0 a1_1 a1_2 l1_3 l1_4)) else (node_Refs.j0 k a0 true a1_0 a1_1 a1_2 l1_3 l1_4))) else (node_Refs.j0 k a0 true a1_0 a1_1 a1_2 l1_3 l1_4)) = some r := h; clear h; have HC3 := Aside0.mk H; clear H
 go_enter Try.func66, Try.ntmps66
 go_upto_region 1 with (first | ((with_reducible refine gate_dst (N := 3) rfl ?_); refine bxE 28 (cs := #[.int .i64 a1_0, .int .i64 a1_1, .int .i64 a1_2, .slice A1_3 l1_3.length c1_3, .slice A1_4 l1_4.length c1_4]) ?_; intro gb148 hg w4 hbox hb; have BK148 := Aside0.mk hbox; have GW148 := kG HB hg; have GE148 := kG HB hg; replace HB := kH HB hb; clear hb hbox hg))
 (try simp only [Act.put, lT, l0_, lS])
 go_cut [20] (fun v20 wc => ∃ (kq : Nat) (x20_2 : Bool), v20 = .bool x20_2 ∧ Aside0 (node_Refs.j0 kq a0 x20_2 a1_0 a1_1 a1_2 l1_3 l1_4 = some r) ∧ Aside0 (kq ≤ k) ∧ Aside0 (wc.heap[gb148]? = some (.cells #[.int .i64 a1_0, .int .i64 a1_1, .int .i64 a1_2, (.slice A1_3 l1_3.length c1_3), (.slice A1_4 l1_4.length c1_4)] 28 (0, 0))) ∧ Aside0 (Below w.heap.size w wc))
 case first =>
  have H := HC3.out; clear HC3
  by_cases c5 : a1_0 = 1
  ·
   rw [if_pos c5] at H; obtain ⟨c5b0, c5b1⟩ := eP c5; clear c5
   (first | rw [c5b0] | (simp only [i64_w, i32_w]; rw [c5b0]) | skip)
   replace H := Option.bind_eq_some_iff.mp H; obtain ⟨t149, A60, H⟩ := H; have A6 := Aside0.mk A60; clear A60
   by_cases c7 : t149 = true
   ·
    subst c7
    have H1 : ((node_within.f a0 11).bind fun t150 => (node_Refs.j0 k a0 (!t150) a1_0 a1_1 a1_2 l1_3 l1_4)) = some r := by rw [if_pos rfl] at H; exact H
    clear H; have H := H1; clear H1; replace H := Option.bind_eq_some_iff.mp H; obtain ⟨t150, A80, H⟩ := H; have A8 := Aside0.mk A80; clear A80; have H' := Aside0.mk H; clear H; obtain ⟨hcz9_0, hfz9_0⟩ := cY0 BK148; obtain ⟨hcz9_1, hfz9_1⟩ := cY1 BK148; obtain ⟨hcz9_2, hfz9_2⟩ := cY2 BK148; obtain ⟨hcz9_3, hfz9_3⟩ := cY3 BK148; obtain ⟨hcz9_4, hfz9_4⟩ := cY4 BK148
    go_wp2_with (first | (go_at_call 48; (with_reducible refine (node_May.calls k a1_0 a1_1 a1_2 _ _ l1_3 _ _ l1_4 true _ ?side1 ?side2 ?side3 ?side4 A6.out).mono ?_); (case side1 => exact mC HR1_3 HB); (case side2 => exact HC1_3.out); (case side3 => exact mC HR1_4 HB); (case side4 => exact HC1_4.out); rintro e w10 ⟨rfl, hb⟩; replace BK148 := kB BK148 hb; replace HB := kH HB hb; (try clear hb)) | (go_at_call 81; (with_reducible refine (node_within.calls a0 11 t150 _ A8.out).mono ?_); rintro e w' ⟨rfl, ⟨nd, rfl⟩⟩))
    go_meet
    case rel => exact ⟨_, (!t150), sI, H', ⟨by first | omega | exact Nat.le_refl _⟩, ⟨mB BK148⟩, ⟨mH HB⟩⟩
   ·
    replace c7 := Bool.eq_false_iff.mpr c7; subst c7
    have H1 : (node_Refs.j0 k a0 true a1_0 a1_1 a1_2 l1_3 l1_4) = some r := by rw [if_neg (show ¬ (false = true) by decide)] at H; exact H
    clear H; have H := H1; clear H1; have H' := Aside0.mk H; clear H; obtain ⟨hcz11_0, hfz11_0⟩ := cY0 BK148; obtain ⟨hcz11_1, hfz11_1⟩ := cY1 BK148; obtain ⟨hcz11_2, hfz11_2⟩ := cY2 BK148; obtain ⟨hcz11_3, hfz11_3⟩ := cY3 BK148; obtain ⟨hcz11_4, hfz11_4⟩ := cY4 BK148
    go_wp2_with (first | (go_at_call 48; (with_reducible refine (node_May.calls k a1_0 a1_1 a1_2 _ _ l1_3 _ _ l1_4 false _ ?side1 ?side2 ?side3 ?side4 A6.out).mono ?_); (case side1 => exact mC HR1_3 HB); (case side2 => exact HC1_3.out); (case side3 => exact mC HR1_4 HB); (case side4 => exact HC1_4.out); rintro e w12 ⟨rfl, hb⟩; replace BK148 := kB BK148 hb; replace HB := kH HB hb; (try clear hb)))
    go_meet
    case rel => exact ⟨_, (true), sI, H', ⟨by first | omega | exact Nat.le_refl _⟩, ⟨mB BK148⟩, ⟨mH HB⟩⟩
  ·
   rw [if_neg c5] at H; obtain ⟨c5b0, c5b1⟩ := eN c5
   (first | rw [c5b0] | (simp only [i64_w, i32_w]; rw [c5b0]) | skip)
   have H' := Aside0.mk H; clear H; obtain ⟨hcz13_0, hfz13_0⟩ := cY0 BK148; obtain ⟨hcz13_1, hfz13_1⟩ := cY1 BK148; obtain ⟨hcz13_2, hfz13_2⟩ := cY2 BK148; obtain ⟨hcz13_3, hfz13_3⟩ := cY3 BK148; obtain ⟨hcz13_4, hfz13_4⟩ := cY4 BK148
   go_wp2
   go_meet
   case rel => exact ⟨_, (true), sI, H', ⟨by first | omega | exact Nat.le_refl _⟩, ⟨mB BK148⟩, ⟨mH HB⟩⟩
 case rest =>
  clear HC3
  obtain ⟨kq, x20_2, rfl, HA, HJ2, BK148, HB⟩ := hcut
  cases kq with
  | zero => exact absurd HA.out (by simp [node_Refs.j0])
  | succ kj2 =>
   have H := HA.out; clear HA; simp only [node_Refs.j0] at H
   by_cases c14 : x20_2 = true
   ·
    subst c14
    have H1 : (some ([] : List (S102))) = some r := by rw [if_pos rfl] at H; exact H
    clear H; have H := H1; clear H1; obtain rfl := Option.some.inj H
    go_wp2
    go_ret
    exact ⟨_, rT, by first | exact Kd.R_nil _ _ _ _ _ | exact Kd.N_nil _ _ _ _ _ | exact Kd.V_nil _ _ _ _ _ | exact Kd.Q_nil _ _ _ _ _ | exact Kd.S_nil _ _ _ _ _, mH HB⟩
   ·
    replace c14 := Bool.eq_false_iff.mpr c14; subst c14
    have H1 : (node_Refs.l0 kj2 a0 ([] : List (S102)) l1_3 (l1_3.length : Int) 0) = some r := by rw [if_neg (show ¬ (false = true) by decide)] at H; exact H
    clear H; have H := H1; clear H1; have H' := Aside0.mk H; clear H; obtain ⟨hcz15_0, hfz15_0⟩ := cY0 BK148; obtain ⟨hcz15_1, hfz15_1⟩ := cY1 BK148; obtain ⟨hcz15_2, hfz15_2⟩ := cY2 BK148; obtain ⟨hcz15_3, hfz15_3⟩ := cY3 BK148; obtain ⟨hcz15_4, hfz15_4⟩ := cY4 BK148
    go_wp2
    go_loopg [5, 24] kj2 (fun kq v5 v24 w' => ∃ (x5_2 : List (S102)) (x24_2 : Int), v24 = .int .i64 x24_2 ∧ Aside0 (node_Refs.l0 kq a0 x5_2 l1_3 (l1_3.length : Int) x24_2 = some r) ∧ Aside0 (kq ≤ kj2) ∧ Aside0 (Kd.R k102 102 w' w.heap.size (fun _ => True) v5 x5_2) ∧ Aside0 (w'.heap[gb148]? = some (.cells #[.int .i64 a1_0, .int .i64 a1_1, .int .i64 a1_2, (.slice A1_3 l1_3.length c1_3), (.slice A1_4 l1_4.length c1_4)] 28 (0, 0))) ∧ Aside0 (Below w.heap.size w w'))
    case atStart => exact ⟨(([] : List (S102))), (0), sI, H', ⟨Nat.le_refl _⟩, ⟨by first | exact Kd.R_nil _ _ _ _ _ | exact Kd.N_nil _ _ _ _ _ | exact Kd.V_nil _ _ _ _ _ | exact Kd.Q_nil _ _ _ _ _ | exact Kd.S_nil _ _ _ _ _⟩, ⟨mB BK148⟩, ⟨mH HB⟩⟩
    case round =>
     clear H'
     (try clear c14); (try clear hcz15_0); (try clear hcz15_1); (try clear hcz15_2); (try clear hcz15_3); (try clear hcz15_4); (try clear hfz15_0); (try clear hfz15_1); (try clear hfz15_2); (try clear hfz15_3); (try clear hfz15_4)
     obtain ⟨x5_2, x24_2, rfl, HA, HK2, HO_5, BK148, HB⟩ := hrel
     cases gk with
     | zero => exact absurd HA.out (by simp [node_Refs.l0])
     | succ k2 =>
      have H := HA.out; clear HA; simp only [node_Refs.l0] at H
      by_cases c16 : x24_2 < (l1_3.length : Int)
      ·
       rw [if_pos c16] at H; have c16b0 := decide_eq_true c16; clear c16
       replace H := nP H; obtain ⟨c17, H⟩ := H; have c17b0 := decide_eq_true c17; clear c17
       replace H := nP H; obtain ⟨c18, H⟩ := H; have c18b0 := decide_eq_true c18; clear c18
       by_cases c19 : (rd l1_3 x24_2) = 0
       ·
        rw [if_pos c19] at H; obtain ⟨c19b0, c19b1⟩ := eP c19; clear c19; have H' := Aside0.mk H; clear H; have p151 : 0 ≤ (x24_2 : Int) := dT; have q151 : x24_2 < (l1_3.length : Int) := dT; obtain ⟨ad151, e151, hx151_0⟩ := Kd.at_int HR1_3.out x24_2 p151 q151
        cases e151
        replace hx151_0 := xC HB hx151_0; replace p151 := eq_true p151; replace q151 := eq_true q151
        go_wp2
        go_roundg k2
        case measure => have := HJ2.out; have := HK2.out; omega
        case rel => exact ⟨(x5_2), (wrap64 (x24_2 + 1)), sI, H', ⟨oM HJ2 HK2⟩, ⟨mR HO_5⟩, ⟨mB BK148⟩, ⟨mH HB⟩⟩
       ·
        rw [if_neg c19] at H; obtain ⟨c19b0, c19b1⟩ := eN c19
        replace H := nP H; obtain ⟨c20, H⟩ := H; have LMc20 := Aside0.mk c20; clear c20; obtain ⟨y152, hy152⟩ : ∃ y_ : List (S102), y_ = (x5_2 ++ [(⟨wrap64 ((wrap64 (1 + (wrap64 (a0 * 5)))) + x24_2), rd l1_3 x24_2⟩ : S102)]) := ⟨_, rfl⟩
        replace H : (node_Refs.l0 k2 a0 y152 l1_3 (l1_3.length : Int) (wrap64 (x24_2 + 1))) = some r := rH H hy152
        have Ny152 := Aside0.mk hy152; clear hy152; have H' := Aside0.mk H; clear H; have p151 : 0 ≤ (x24_2 : Int) := dT; have q151 : x24_2 < (l1_3.length : Int) := dT; obtain ⟨ad151, e151, hx151_0⟩ := Kd.at_int HR1_3.out x24_2 p151 q151
        cases e151
        replace hx151_0 := xC HB hx151_0; replace p151 := eq_true p151; replace q151 := eq_true q151
        go_wp2_with (first | ((with_reducible refine gate_builtin (b := .append) (xs := #[.tmp 31, .tmp 39]) rfl ?_); at_builtin; refine Kd.R_append k102 (w0 := w) w.heap.size rfl (.tmp 31) (.tmp 39) 91 102 (.agg #[(.int .i64 0), (.int .i64 0)]) 16 rfl Try.underlying91 info102 rfl (by decide) (by omega) u5 x5_2 (⟨wrap64 ((wrap64 (1 + (wrap64 (a0 * 5)))) + x24_2), rd l1_3 x24_2⟩ : S102) [.int .i64 (wrap64 ((wrap64 (1 + (wrap64 (a0 * 5)))) + x24_2)), .int .i64 (rd l1_3 x24_2)] (fun _ => True) (fun _ => False) rfl rfl ?aP (fun _ hk => hk.elim) ?aF ?aO ?aB ?aS ?aL ?_; (case aP => exact k102_mkM _ _ _ (⟨wrap64 ((wrap64 (1 + (wrap64 (a0 * 5)))) + x24_2), rd l1_3 x24_2⟩ : S102)); (case aB => exact (mH HB)); (case aF => exact (fun _ _ => trivial)); (case aO => exact (mR HO_5)); (case aS => exact (below_size (mH HB))); (case aL => have := LMc20.out; omega); intro v153 w21 ho hb hg hat; rw [← Ny152.out] at ho; replace BK148 := Aside0.mk (blk_grown (g := gb148) (o := .cells #[.int .i64 a1_0, .int .i64 a1_1, .int .i64 a1_2, .slice (some ad151) l1_3.length c1_3, .slice A1_4 l1_4.length c1_4] 28 (0, 0)) (mB BK148) hg (Kd.R_ne HO_5.out BK148.out (by decide))); replace HB := Aside0.mk (hb); have HO154 := Aside0.mk (ho); clear HO_5; clear ho hb hg hat))
        go_roundg k2
        case measure => have := HJ2.out; have := HK2.out; omega
        case rel => exact ⟨(y152), (wrap64 (x24_2 + 1)), sI, H', ⟨oM HJ2 HK2⟩, ⟨mR HO154⟩, ⟨mB BK148⟩, ⟨mH HB⟩⟩
      ·
       rw [if_neg c16] at H; have c16b0 := decide_eq_false c16; clear c16; obtain rfl := Option.some.inj H
       go_wp2
       go_ret
       exact ⟨_, rT, mR HO_5, mH HB⟩
def node_Pages.f (k : Nat) (a0_0 : Int) (a0_1 : Int) (a0_2 : Int) (l0_3 : List Int) (l0_4 : List (S78)) : Option (Int) := (node_Refs.f k 0 a0_0 a0_1 a0_2 l0_3 l0_4).bind fun t156 => (some (t156.length : Int))
theorem node_Pages.mono : ∀ a0 a1 a2 a3 a4 k, LeO (node_Pages.f k a0 a1 a2 a3 a4) (node_Pages.f (k + 1) a0 a1 a2 a3 a4) := by
 intro a0 a1 a2 a3 a4 k
 unfold node_Pages.f
 repeat' with_reducible first | apply node_Refs.mono | exact LeO.refl _ | exact LeO.none _ | refine LeO.ite ?_ ?_ | refine LeO.bind ?_ (fun _ => ?_)
set_option maxHeartbeats 8000000 in
set_option maxRecDepth 100000 in
theorem node_Pages.calls (k : Nat) (a0_0 : Int) (a0_1 : Int) (a0_2 : Int) (A0_3 : Option Addr) (c0_3 : Nat) (l0_3 : List Int) (A0_4 : Option Addr) (c0_4 : Nat) (l0_4 : List (S78)) (r : Int) (w : World) (hr0_3 : Kd.C (Kd.int .i64) w A0_3 l0_3.length l0_3) (hc0_3 : l0_3.length ≤ c0_3) (hr0_4 : Kd.C k78 w A0_4 l0_4.length l0_4) (hc0_4 : l0_4.length ≤ c0_4) (h : node_Pages.f k a0_0 a0_1 a0_2 l0_3 l0_4 = some r) :
 Calls Try.prog 46 #[.agg #[.int .i64 a0_0, .int .i64 a0_1, .int .i64 a0_2, .slice A0_3 l0_3.length c0_3, .slice A0_4 l0_4.length c0_4]] w fun e w' => e = .returned (.int .i64 r) ∧ Below w.heap.size w w' := by
 have hu28 := Try.underlying28; have HR0_3 := Aside0.mk hr0_3; have HC0_3 := Aside0.mk hc0_3; clear hr0_3 hc0_3; have HR0_4 := Aside0.mk hr0_4; have HC0_4 := Aside0.mk hc0_4; clear hr0_4 hc0_4; have HB := Aside0.mk (Below.refl w.heap.size w); have H : ((node_Refs.f k 0 a0_0 a0_1 a0_2 l0_3 l0_4).bind fun t156 => (some (t156.length : Int))) = some r := h; clear h; replace H := Option.bind_eq_some_iff.mp H; obtain ⟨t156, A20, H⟩ := H; have A2 := Aside0.mk A20; clear A20; obtain rfl := Option.some.inj H
 go_enter Try.func46, Try.ntmps46
 go_wp2_with (first | ((with_reducible refine gate_dst (N := 1) rfl ?_); refine bxE 28 (cs := #[.int .i64 a0_0, .int .i64 a0_1, .int .i64 a0_2, .slice A0_3 l0_3.length c0_3, .slice A0_4 l0_4.length c0_4]) ?_; intro gb155 hg w3 hbox hb; have BK155 := Aside0.mk hbox; have GW155 := kG HB hg; have GE155 := kG HB hg; replace HB := kH HB hb; clear hb hbox hg; obtain ⟨hcz4_0, hfz4_0⟩ := cY0 BK155; obtain ⟨hcz4_1, hfz4_1⟩ := cY1 BK155; obtain ⟨hcz4_2, hfz4_2⟩ := cY2 BK155; obtain ⟨hcz4_3, hfz4_3⟩ := cY3 BK155; obtain ⟨hcz4_4, hfz4_4⟩ := cY4 BK155) | ((with_reducible refine gate_callee (f := 66) rfl ?_); refine goesK (some 4) Try.func66 #[.int .i64 0, .agg #[.int .i64 a0_0, .int .i64 a0_1, .int .i64 a0_2, .slice A0_3 l0_3.length c0_3, .slice A0_4 l0_4.length c0_4]] ?_; (with_reducible refine (node_Refs.calls k 0 a0_0 a0_1 a0_2 _ _ l0_3 _ _ l0_4 t156 _ ?side1 ?side2 ?side3 ?side4 A2.out).mono ?_); (case side1 => exact mC HR0_3 HB); (case side2 => exact HC0_3.out); (case side3 => exact mC HR0_4 HB); (case side4 => exact HC0_4.out); rintro e w5 ⟨v157, rfl, ho0, hb⟩; refine ⟨_, rfl, ?_⟩; have HO158 := Aside0.mk (Kd.R_lower ho0 (below_size (mH HB))); replace BK155 := kB BK155 hb; replace HB := kH HB hb; (try clear hb); (try clear ho0); obtain ⟨Ao6, co6, eo6⟩ := Kd.R_slice HO158.out; subst eo6))
 go_ret
 exact ⟨rT, mH HB⟩
def quota_Used.l0 : Nat → Int → List (S28) → Int → Int → Option (Int)
 | 0, _, _, _, _ => none
 | k + 1, x3, x9, x10, x11 => if x11 < x10 then (if 0 ≤ x11 then (if x11 < (x9.length : Int) then ((node_Pages.f k ((rd_T28 x9 x11).f0) ((rd_T28 x9 x11).f1) ((rd_T28 x9 x11).f2) ((rd_T28 x9 x11).f3) ((rd_T28 x9 x11).f4)).bind fun t163 => (quota_Used.l0 k (wrap64 (x3 + t163)) x9 x10 (wrap64 (x11 + 1)))) else (none)) else (none)) else (some x3)
def quota_Used.f (k : Nat) (l0_0 : List (S28)) : Option (Int) := (quota_off.f k l0_0).bind fun t160 => (if t160 = true then (some 0) else (quota_Used.l0 k 0 l0_0 (l0_0.length : Int) 0))
theorem quota_Used.mono_l : ∀ k, (∀ y0 y1 y2 y3, LeO (quota_Used.l0 k y0 y1 y2 y3) (quota_Used.l0 (k + 1) y0 y1 y2 y3))
 | 0 => fun _ _ _ _ r h => by simp [quota_Used.l0] at h
 | k + 1 => by
  have ih0 := quota_Used.mono_l k
  ·
   intro y0 y1 y2 y3
   unfold quota_Used.l0
   repeat' with_reducible first | apply ih0 | apply node_Pages.mono | apply quota_off.mono | exact LeO.refl _ | exact LeO.none _ | refine LeO.ite ?_ ?_ | refine LeO.bind ?_ (fun _ => ?_)
theorem quota_Used.mono : ∀ a0 k, LeO (quota_Used.f k a0) (quota_Used.f (k + 1) a0) := by
 intro a0 k; have ih0 := quota_Used.mono_l k
 unfold quota_Used.f
 repeat' with_reducible first | apply ih0 | apply node_Pages.mono | apply quota_off.mono | exact LeO.refl _ | exact LeO.none _ | refine LeO.ite ?_ ?_ | refine LeO.bind ?_ (fun _ => ?_)
set_option maxHeartbeats 8000000 in
set_option maxRecDepth 100000 in
theorem quota_Used.calls (k : Nat) (A0_0 : Option Addr) (c0_0 : Nat) (l0_0 : List (S28)) (r : Int) (w : World) (hr0_0 : Kd.C k28 w A0_0 l0_0.length l0_0) (hc0_0 : l0_0.length ≤ c0_0) (h : quota_Used.f k l0_0 = some r) :
 Calls Try.prog 16 #[.agg #[.slice A0_0 l0_0.length c0_0]] w fun e w' => e = .returned (.int .i64 r) ∧ Below w.heap.size w w' := by
 have hu24 := Try.underlying24; have hu28 := Try.underlying28; have HR0_0 := Aside0.mk hr0_0; have HC0_0 := Aside0.mk hc0_0; clear hr0_0 hc0_0; have HB := Aside0.mk (Below.refl w.heap.size w); have H : ((quota_off.f k l0_0).bind fun t160 => (if t160 = true then (some 0) else (quota_Used.l0 k 0 l0_0 (l0_0.length : Int) 0))) = some r := h; clear h; replace H := Option.bind_eq_some_iff.mp H; obtain ⟨t160, A20, H⟩ := H; have A2 := Aside0.mk A20; clear A20
 by_cases c3 : t160 = true
 ·
  subst c3
  have H1 : (some 0) = some r := by rw [if_pos rfl] at H; exact H
  clear H; have H := H1; clear H1; obtain rfl := Option.some.inj H
  go_enter Try.func16, Try.ntmps16
  go_wp2_with (first | ((with_reducible refine gate_dst (N := 1) rfl ?_); refine bxE 24 (cs := #[.slice A0_0 l0_0.length c0_0]) ?_; intro gb159 hg w4 hbox hb; have BK159 := Aside0.mk hbox; have GW159 := kG HB hg; have GE159 := kG HB hg; replace HB := kH HB hb; clear hb hbox hg; obtain ⟨hcz5_0, hfz5_0⟩ := cY0 BK159) | ((with_reducible refine gate_callee (f := 45) rfl ?_); refine goesK (some 7) Try.func45 #[.agg #[.slice A0_0 l0_0.length c0_0]] ?_; (with_reducible refine (quota_off.calls k _ _ l0_0 true _ ?side1 ?side2 A2.out).mono ?_); (case side1 => exact mC HR0_0 HB); (case side2 => exact HC0_0.out); rintro e w6 ⟨rfl, hb⟩; refine ⟨_, rfl, ?_⟩; replace BK159 := kB BK159 hb; replace HB := kH HB hb; (try clear hb)))
  go_ret
  exact ⟨rT, mH HB⟩
 ·
  replace c3 := Bool.eq_false_iff.mpr c3; subst c3
  have H1 : (quota_Used.l0 k 0 l0_0 (l0_0.length : Int) 0) = some r := by rw [if_neg (show ¬ (false = true) by decide)] at H; exact H
  clear H; have H := H1; clear H1; have H' := Aside0.mk H; clear H
  go_enter Try.func16, Try.ntmps16
  go_wp2_with (first | ((with_reducible refine gate_dst (N := 1) rfl ?_); refine bxE 24 (cs := #[.slice A0_0 l0_0.length c0_0]) ?_; intro gb159 hg w7 hbox hb; have BK159 := Aside0.mk hbox; have GW159 := kG HB hg; have GE159 := kG HB hg; replace HB := kH HB hb; clear hb hbox hg; obtain ⟨hcz8_0, hfz8_0⟩ := cY0 BK159) | ((with_reducible refine gate_callee (f := 45) rfl ?_); refine goesK (some 7) Try.func45 #[.agg #[.slice A0_0 l0_0.length c0_0]] ?_; (with_reducible refine (quota_off.calls k _ _ l0_0 false _ ?side1 ?side2 A2.out).mono ?_); (case side1 => exact mC HR0_0 HB); (case side2 => exact HC0_0.out); rintro e w9 ⟨rfl, hb⟩; refine ⟨_, rfl, ?_⟩; replace BK159 := kB BK159 hb; replace HB := kH HB hb; (try clear hb); obtain ⟨hcz10_0, hfz10_0⟩ := cY0 BK159))
  go_loopg [3, 11] k (fun kq v3 v11 w' => ∃ (x3_1 : Int) (x11_1 : Int), v3 = .int .i64 x3_1 ∧ v11 = .int .i64 x11_1 ∧ Aside0 (quota_Used.l0 kq x3_1 l0_0 (l0_0.length : Int) x11_1 = some r) ∧ Aside0 (kq ≤ k) ∧ Aside0 (w'.heap[gb159]? = some (.cells #[(.slice A0_0 l0_0.length c0_0)] 24 (0, 0))) ∧ Aside0 (Below w.heap.size w w'))
  case atStart => exact ⟨(0), (0), sI, sI, H', ⟨Nat.le_refl _⟩, ⟨mB BK159⟩, ⟨mH HB⟩⟩
  case round =>
   clear H'
   (try clear c3); (try clear hcz10_0); (try clear hcz8_0); (try clear hfz10_0); (try clear hfz8_0)
   obtain ⟨x3_1, x11_1, rfl, rfl, HA, HK1, BK159, HB⟩ := hrel
   cases gk with
   | zero => exact absurd HA.out (by simp [quota_Used.l0])
   | succ k1 =>
    have H := HA.out; clear HA; simp only [quota_Used.l0] at H
    by_cases c11 : x11_1 < (l0_0.length : Int)
    ·
     rw [if_pos c11] at H; have c11b0 := decide_eq_true c11; clear c11
     replace H := nP H; obtain ⟨c12, H⟩ := H; have c12b0 := decide_eq_true c12; clear c12
     replace H := nP H; obtain ⟨c13, H⟩ := H; have c13b0 := decide_eq_true c13; clear c13; replace H := Option.bind_eq_some_iff.mp H; obtain ⟨t163, A140, H⟩ := H; have A14 := Aside0.mk A140; clear A140; have H' := Aside0.mk H; clear H; have p161 : 0 ≤ (x11_1 : Int) := dT; have q161 : x11_1 < (l0_0.length : Int) := dT; obtain ⟨ad161, A161_3, c161_3, A161_4, c161_4, e161, hx161_0, hx161_1, hx161_2, hx161_3, hx161_4, hl161_3, hi161_3, hl161_4, hi161_4⟩ := at_T28 HR0_0.out x11_1 p161 q161
     cases e161
     replace hx161_0 := xC HB hx161_0; replace hx161_1 := xC HB hx161_1; replace hx161_2 := xC HB hx161_2; replace hx161_3 := xC HB hx161_3; replace hx161_4 := xC HB hx161_4; have HR161_3 := Aside0.mk hi161_3; have HC161_3 := Aside0.mk hl161_3; clear hi161_3 hl161_3; have HR161_4 := Aside0.mk hi161_4; have HC161_4 := Aside0.mk hl161_4; clear hi161_4 hl161_4; replace p161 := eq_true p161; replace q161 := eq_true q161
     go_wp2_with (first | ((with_reducible refine gate_dst (N := 5) rfl ?_); refine bxE 28 (cs := #[.int .i64 0, .int .i64 0, .int .i64 0, .slice none 0 0, .slice none 0 0]) ?_; intro gb162 hg w15 hbox hb; have BK162 := Aside0.mk hbox; have GW162 := kG HB hg; have GE162 := kG HB hg; replace HB := kH HB hb; have NB159_162 := kL BK159 hg; have NB162_159 := kQ BK159 hg; replace BK159 := kB BK159 hb; clear hb hbox hg; have hnb16 := NB162_159.out; have hnc16 := NB159_162.out; obtain ⟨hcz17_0, hfz17_0⟩ := cY0 BK162; obtain ⟨hcz17_1, hfz17_1⟩ := cY1 BK162; obtain ⟨hcz17_2, hfz17_2⟩ := cY2 BK162; obtain ⟨hcz17_3, hfz17_3⟩ := cY3 BK162; obtain ⟨hcz17_4, hfz17_4⟩ := cY4 BK162) | ((with_reducible refine gate_callee (f := 46) rfl ?_); refine goesK (some 17) Try.func46 #[.agg #[.int .i64 ((rd_T28 l0_0 x11_1).f0), .int .i64 ((rd_T28 l0_0 x11_1).f1), .int .i64 ((rd_T28 l0_0 x11_1).f2), .slice A161_3 ((rd_T28 l0_0 x11_1).f3).length c161_3, .slice A161_4 ((rd_T28 l0_0 x11_1).f4).length c161_4]] ?_; (with_reducible refine (node_Pages.calls k1 ((rd_T28 l0_0 x11_1).f0) ((rd_T28 l0_0 x11_1).f1) ((rd_T28 l0_0 x11_1).f2) _ _ ((rd_T28 l0_0 x11_1).f3) _ _ ((rd_T28 l0_0 x11_1).f4) t163 _ ?side1 ?side2 ?side3 ?side4 A14.out).mono ?_); (case side1 => exact Kd.C_below HR161_3.out (mH HB)); (case side2 => exact HC161_3.out); (case side3 => exact Kd.C_below HR161_4.out (mH HB)); (case side4 => exact HC161_4.out); rintro e w18 ⟨rfl, hb⟩; refine ⟨_, rfl, ?_⟩; replace BK159 := Aside0.mk (bB (mF BK159) hb); replace BK162 := Aside0.mk (bB (g := gb162) (o := .cells #[.int .i64 ((rd_T28 l0_0 x11_1).f0), .int .i64 ((rd_T28 l0_0 x11_1).f1), .int .i64 ((rd_T28 l0_0 x11_1).f2), .slice A161_3 ((rd_T28 l0_0 x11_1).f3).length c161_3, .slice A161_4 ((rd_T28 l0_0 x11_1).f4).length c161_4] 28 (0, 0)) (pP BK162) hb); replace HB := kH HB hb; (try clear hb)))
     go_roundg k1
     case measure => have := HK1.out; omega
     case rel => exact ⟨(wrap64 (x3_1 + t163)), (wrap64 (x11_1 + 1)), sI, sI, H', ⟨oK HK1⟩, ⟨mB BK159⟩, ⟨mH HB⟩⟩
    ·
     rw [if_neg c11] at H; have c11b0 := decide_eq_false c11; clear c11; obtain rfl := Option.some.inj H
     go_wp2
     go_ret
     exact ⟨rT, mH HB⟩
def span_Fits.f (a0 : Int) (a1 : Int) : Option (Bool) := if a0 ≥ 0 then (if a0 ≤ 80 then (if a1 ≥ 0 then (some (decide (a1 ≤ (wrap64 (80 - a0))))) else (some false)) else (some false)) else (some false)
set_option maxHeartbeats 8000000 in
set_option maxRecDepth 100000 in
theorem span_Fits.calls (a0 : Int) (a1 : Int) (r : Bool) (w : World) (h : span_Fits.f a0 a1 = some r) :
 Calls Try.prog 58 #[.int .i64 a0, .int .i64 a1] w fun e w' => e = .returned (.bool r) ∧ Drawn0 w w' := by
 have H : (if a0 ≥ 0 then (if a0 ≤ 80 then (if a1 ≥ 0 then (some (decide (a1 ≤ (wrap64 (80 - a0))))) else (some false)) else (some false)) else (some false)) = some r := h; clear h
 by_cases c3 : a0 ≥ 0
 ·
  rw [if_pos c3] at H; have c3b0 : decide (0 ≤ a0) = true := decide_eq_true c3; clear c3
  by_cases c4 : a0 ≤ 80
  ·
   rw [if_pos c4] at H; have c4b0 := decide_eq_true c4; clear c4
   by_cases c5 : a1 ≥ 0
   ·
    rw [if_pos c5] at H; have c5b0 : decide (0 ≤ a1) = true := decide_eq_true c5; clear c5; obtain rfl := Option.some.inj H
    go_enter Try.func58, Try.ntmps58
    go_wp2
    go_ret
    exact ⟨sI, by repeat (first | exact Drawn0.refl _ | apply Drawn0.step)⟩
   ·
    rw [if_neg c5] at H; have c5b0 : decide (0 ≤ a1) = false := decide_eq_false c5; clear c5; obtain rfl := Option.some.inj H
    go_enter Try.func58, Try.ntmps58
    go_wp2
    go_ret
    exact ⟨sI, by repeat (first | exact Drawn0.refl _ | apply Drawn0.step)⟩
  ·
   rw [if_neg c4] at H; have c4b0 := decide_eq_false c4; clear c4; obtain rfl := Option.some.inj H
   go_enter Try.func58, Try.ntmps58
   go_wp2
   go_ret
   exact ⟨sI, by repeat (first | exact Drawn0.refl _ | apply Drawn0.step)⟩
 ·
  rw [if_neg c3] at H; have c3b0 : decide (0 ≤ a0) = false := decide_eq_false c3; clear c3; obtain rfl := Option.some.inj H
  go_enter Try.func58, Try.ntmps58
  go_wp2
  go_ret
  exact ⟨sI, by repeat (first | exact Drawn0.refl _ | apply Drawn0.step)⟩
def span_Pieces.l0 : Nat → Int → Int → List (S41) → Option ((List (S41)))
 | 0, _, _, _ => none
 | k + 1, x0, x1, x5 => if x1 > 0 then (if x5.length < 5864062014805 then (span_Pieces.l0 k (wrap64 (x0 + (mn x1 (wrap64 (16 - (Int.tmod x0 16)))))) (wrap64 (x1 - (mn x1 (wrap64 (16 - (Int.tmod x0 16)))))) (x5 ++ [(⟨wrap64 (Int.tdiv x0 16), Int.tmod x0 16, mn x1 (wrap64 (16 - (Int.tmod x0 16)))⟩ : S41)])) else (none)) else (some x5)
def span_Pieces.f (k : Nat) (a0 : Int) (a1 : Int) : Option ((List (S41))) := (span_Fits.f a0 a1).bind fun t164 => (if t164 = true then (span_Pieces.l0 k a0 a1 ([] : List (S41))) else (some ([] : List (S41))))
theorem span_Pieces.mono_l : ∀ k, (∀ y0 y1 y2, LeO (span_Pieces.l0 k y0 y1 y2) (span_Pieces.l0 (k + 1) y0 y1 y2))
 | 0 => fun _ _ _ r h => by simp [span_Pieces.l0] at h
 | k + 1 => by
  have ih0 := span_Pieces.mono_l k
  ·
   intro y0 y1 y2
   unfold span_Pieces.l0
   repeat' with_reducible first | apply ih0 | exact LeO.refl _ | exact LeO.none _ | refine LeO.ite ?_ ?_ | refine LeO.bind ?_ (fun _ => ?_)
theorem span_Pieces.mono : ∀ a0 a1 k, LeO (span_Pieces.f k a0 a1) (span_Pieces.f (k + 1) a0 a1) := by
 intro a0 a1 k; have ih0 := span_Pieces.mono_l k
 unfold span_Pieces.f
 repeat' with_reducible first | apply ih0 | exact LeO.refl _ | exact LeO.none _ | refine LeO.ite ?_ ?_ | refine LeO.bind ?_ (fun _ => ?_)
set_option maxHeartbeats 8000000 in
set_option maxRecDepth 100000 in
theorem span_Pieces.calls (k : Nat) (a0 : Int) (a1 : Int) (r : List (S41)) (w : World) (h : span_Pieces.f k a0 a1 = some r) :
 Calls Try.prog 49 #[.int .i64 a0, .int .i64 a1] w fun e w' => ∃ v0_ : Value, e = .returned (v0_) ∧ Kd.R k41 41 w' w.heap.size (fun _ => True) v0_ r ∧ Below w.heap.size w w' := by
 have hu41 := Try.underlying41; have HB := Aside0.mk (Below.refl w.heap.size w); have H : ((span_Fits.f a0 a1).bind fun t164 => (if t164 = true then (span_Pieces.l0 k a0 a1 ([] : List (S41))) else (some ([] : List (S41))))) = some r := h; clear h; replace H := Option.bind_eq_some_iff.mp H; obtain ⟨t164, A30, H⟩ := H; have A3 := Aside0.mk A30; clear A30
 by_cases c4 : t164 = true
 ·
  subst c4
  have H1 : (span_Pieces.l0 k a0 a1 ([] : List (S41))) = some r := by rw [if_pos rfl] at H; exact H
  clear H; have H := H1; clear H1; have H' := Aside0.mk H; clear H
  go_enter Try.func49, Try.ntmps49
  go_wp2_with (first | ((with_reducible refine gate_callee (f := 58) rfl ?_); refine goesK (some 10) Try.func58 #[.int .i64 a0, .int .i64 a1] ?_; (with_reducible refine (span_Fits.calls a0 a1 true _ A3.out).mono ?_); rintro e w' ⟨rfl, ⟨nd, rfl⟩⟩; refine ⟨_, rfl, ?_⟩))
  go_loopg [0, 1, 5] k (fun kq v0 v1 v5 w' => ∃ (x0_1 : Int) (x1_1 : Int) (x5_1 : List (S41)), v0 = .int .i64 x0_1 ∧ v1 = .int .i64 x1_1 ∧ Aside0 (span_Pieces.l0 kq x0_1 x1_1 x5_1 = some r) ∧ Aside0 (kq ≤ k) ∧ Aside0 (Kd.R k41 41 w' w.heap.size (fun _ => True) v5 x5_1) ∧ Aside0 (Below w.heap.size w w'))
  case atStart => exact ⟨(a0), (a1), (([] : List (S41))), sI, sI, H', ⟨Nat.le_refl _⟩, ⟨by first | exact Kd.R_nil _ _ _ _ _ | exact Kd.N_nil _ _ _ _ _ | exact Kd.V_nil _ _ _ _ _ | exact Kd.Q_nil _ _ _ _ _ | exact Kd.S_nil _ _ _ _ _⟩, ⟨mH HB⟩⟩
  case round =>
   clear H'
   (try clear c4)
   obtain ⟨x0_1, x1_1, x5_1, rfl, rfl, HA, HK1, HO_5, HB⟩ := hrel
   cases gk with
   | zero => exact absurd HA.out (by simp [span_Pieces.l0])
   | succ k1 =>
    have H := HA.out; clear HA; simp only [span_Pieces.l0] at H
    by_cases c5 : x1_1 > 0
    ·
     rw [if_pos c5] at H; have c5b0 : decide (0 < x1_1) = true := decide_eq_true c5; clear c5; obtain ⟨ji6, hji6⟩ : ∃ j_ : Int, (mn x1_1 (wrap64 (16 - (Int.tmod x0_1 16)))) = j_ := ⟨_, rfl⟩
     replace H : (if x5_1.length < 5864062014805 then (span_Pieces.l0 k1 (wrap64 (x0_1 + (ji6))) (wrap64 (x1_1 - (ji6))) (x5_1 ++ [(⟨wrap64 (Int.tdiv x0_1 16), Int.tmod x0_1 16, ji6⟩ : S41)])) else (none)) = some r := by first | (rw [hji6] at H; exact H) | (simp only [hji6] at H ⊢; exact H)
     have hji6_ : (if (wrap64 (16 - (Int.tmod x0_1 16))) < x1_1 then (wrap64 (16 - (Int.tmod x0_1 16))) else x1_1) = ji6 := hji6
     replace H := nP H; obtain ⟨c7, H⟩ := H; have LMc7 := Aside0.mk c7; clear c7; obtain ⟨y165, hy165⟩ : ∃ y_ : List (S41), y_ = (x5_1 ++ [(⟨wrap64 (Int.tdiv x0_1 16), Int.tmod x0_1 16, ji6⟩ : S41)]) := ⟨_, rfl⟩
     replace H : (span_Pieces.l0 k1 (wrap64 (x0_1 + (ji6))) (wrap64 (x1_1 - (ji6))) y165) = some r := rH H hy165
     have Ny165 := Aside0.mk hy165; clear hy165; have H' := Aside0.mk H; clear H
     go_wp2_with (first | ((with_reducible refine gate_builtin (b := .append) (xs := #[.tmp 20, .tmp 26]) rfl ?_); at_builtin; refine Kd.R_append k41 (w0 := w) w.heap.size rfl (.tmp 20) (.tmp 26) 38 41 (.agg #[(.int .i64 0), (.int .i64 0), (.int .i64 0)]) 24 rfl Try.underlying38 info41 rfl (by decide) (by omega) u5 x5_1 (⟨wrap64 (Int.tdiv x0_1 16), Int.tmod x0_1 16, ji6⟩ : S41) [.int .i64 (wrap64 (Int.tdiv x0_1 16)), .int .i64 (Int.tmod x0_1 16), .int .i64 ji6] (fun _ => True) (fun _ => False) rfl rfl ?aP (fun _ hk => hk.elim) ?aF ?aO ?aB ?aS ?aL ?_; (case aP => exact k41_mkM _ _ _ (⟨wrap64 (Int.tdiv x0_1 16), Int.tmod x0_1 16, ji6⟩ : S41)); (case aB => exact (mH HB)); (case aF => exact (fun _ _ => trivial)); (case aO => exact (mR HO_5)); (case aS => exact (below_size (mH HB))); (case aL => have := LMc7.out; omega); intro v166 w8 ho hb hg hat; rw [← Ny165.out] at ho; replace HB := Aside0.mk (hb); have HO167 := Aside0.mk (ho); clear HO_5; clear ho hb hg hat))
     go_roundg k1
     case measure => have := HK1.out; omega
     case rel => exact ⟨(wrap64 (x0_1 + (ji6))), (wrap64 (x1_1 - (ji6))), (y165), (by first | rfl | (simp; done) | (simp only [← hji6] <;> (first | rfl | simp)) | (simp [*]; done)), (by first | rfl | (simp; done) | (simp only [← hji6] <;> (first | rfl | simp)) | (simp [*]; done)), H', ⟨oK HK1⟩, ⟨mR HO167⟩, ⟨mH HB⟩⟩
    ·
     rw [if_neg c5] at H; have c5b0 : decide (0 < x1_1) = false := decide_eq_false c5; clear c5; obtain rfl := Option.some.inj H
     go_wp2
     go_ret
     exact ⟨_, rT, mR HO_5, mH HB⟩
 ·
  replace c4 := Bool.eq_false_iff.mpr c4; subst c4
  have H1 : (some ([] : List (S41))) = some r := by rw [if_neg (show ¬ (false = true) by decide)] at H; exact H
  clear H; have H := H1; clear H1; obtain rfl := Option.some.inj H
  go_enter Try.func49, Try.ntmps49
  go_wp2_with (first | ((with_reducible refine gate_callee (f := 58) rfl ?_); refine goesK (some 10) Try.func58 #[.int .i64 a0, .int .i64 a1] ?_; (with_reducible refine (span_Fits.calls a0 a1 false _ A3.out).mono ?_); rintro e w' ⟨rfl, ⟨nd, rfl⟩⟩; refine ⟨_, rfl, ?_⟩))
  go_ret
  exact ⟨_, rT, by first | exact Kd.R_nil _ _ _ _ _ | exact Kd.N_nil _ _ _ _ _ | exact Kd.V_nil _ _ _ _ _ | exact Kd.Q_nil _ _ _ _ _ | exact Kd.S_nil _ _ _ _ _, mH HB⟩
mutual
def quota_More.j0 : Nat → Int → Int → Bool → Int → Int → Int → List Int → List (S78) → Option (Int)
 | 0, _, _, _, _, _, _, _, _ => none
 | k + 1, x1, x2, x17, x169000, x169001, x169002, x169003, x169004 => if x17 = true then (some 0) else ((span_Pieces.f k x1 x2).bind fun t170 => (quota_More.l0 k 0 t170 (t170.length : Int) 0 x169000 x169001 x169002 x169003 x169004))
def quota_More.l0 : Nat → Int → List (S41) → Int → Int → Int → Int → Int → List Int → List (S78) → Option (Int)
 | 0, _, _, _, _, _, _, _, _, _ => none
 | k + 1, x7, x20, x21, x22, x169000, x169001, x169002, x169003, x169004 => if x22 < x21 then (if 0 ≤ x22 then (if x22 < (x20.length : Int) then (if 0 ≤ ((rd_T41 x20 x22).f0) then (if ((rd_T41 x20 x22).f0) < (x169003.length : Int) then (if (rd x169003 ((rd_T41 x20 x22).f0)) = 0 then (quota_More.l0 k (wrap64 (x7 + 1)) x20 x21 (wrap64 (x22 + 1)) x169000 x169001 x169002 x169003 x169004) else (quota_More.l0 k x7 x20 x21 (wrap64 (x22 + 1)) x169000 x169001 x169002 x169003 x169004)) else (none)) else (none)) else (none)) else (none)) else (some x7)
end
def quota_More.f (k : Nat) (a0_0 : Int) (a0_1 : Int) (a0_2 : Int) (l0_3 : List Int) (l0_4 : List (S78)) (a1 : Int) (a2 : Int) : Option (Int) := if a0_0 = 1 then ((node_May.f k a0_0 a0_1 a0_2 l0_3 l0_4).bind fun t169 => (quota_More.j0 k a1 a2 (!t169) a0_0 a0_1 a0_2 l0_3 l0_4)) else (quota_More.j0 k a1 a2 true a0_0 a0_1 a0_2 l0_3 l0_4)
theorem quota_More.mono_l : ∀ k, (∀ y0 y1 y2 y3 y4 y5 y6 y7, LeO (quota_More.j0 k y0 y1 y2 y3 y4 y5 y6 y7) (quota_More.j0 (k + 1) y0 y1 y2 y3 y4 y5 y6 y7)) ∧ (∀ y0 y1 y2 y3 y4 y5 y6 y7 y8, LeO (quota_More.l0 k y0 y1 y2 y3 y4 y5 y6 y7 y8) (quota_More.l0 (k + 1) y0 y1 y2 y3 y4 y5 y6 y7 y8))
 | 0 => ⟨fun _ _ _ _ _ _ _ _ r h => by simp [quota_More.j0] at h, fun _ _ _ _ _ _ _ _ _ r h => by simp [quota_More.l0] at h⟩
 | k + 1 => by
  obtain ⟨ih0, ih1⟩ := quota_More.mono_l k; refine ⟨?_, ?_⟩
  ·
   intro y0 y1 y2 y3 y4 y5 y6 y7
   unfold quota_More.j0
   repeat' with_reducible first | apply ih0 | apply ih1 | apply node_May.mono | apply span_Pieces.mono | exact LeO.refl _ | exact LeO.none _ | refine LeO.ite ?_ ?_ | refine LeO.bind ?_ (fun _ => ?_)
  ·
   intro y0 y1 y2 y3 y4 y5 y6 y7 y8
   unfold quota_More.l0
   repeat' with_reducible first | apply ih0 | apply ih1 | apply node_May.mono | apply span_Pieces.mono | exact LeO.refl _ | exact LeO.none _ | refine LeO.ite ?_ ?_ | refine LeO.bind ?_ (fun _ => ?_)
theorem quota_More.mono : ∀ a0 a1 a2 a3 a4 a5 a6 k, LeO (quota_More.f k a0 a1 a2 a3 a4 a5 a6) (quota_More.f (k + 1) a0 a1 a2 a3 a4 a5 a6) := by
 intro a0 a1 a2 a3 a4 a5 a6 k; obtain ⟨ih0, ih1⟩ := quota_More.mono_l k
 unfold quota_More.f
 repeat' with_reducible first | apply ih0 | apply ih1 | apply node_May.mono | apply span_Pieces.mono | exact LeO.refl _ | exact LeO.none _ | refine LeO.ite ?_ ?_ | refine LeO.bind ?_ (fun _ => ?_)
set_option maxHeartbeats 8000000 in
set_option maxRecDepth 100000 in
theorem quota_More.calls (k : Nat) (a0_0 : Int) (a0_1 : Int) (a0_2 : Int) (A0_3 : Option Addr) (c0_3 : Nat) (l0_3 : List Int) (A0_4 : Option Addr) (c0_4 : Nat) (l0_4 : List (S78)) (a1 : Int) (a2 : Int) (r : Int) (w : World) (hr0_3 : Kd.C (Kd.int .i64) w A0_3 l0_3.length l0_3) (hc0_3 : l0_3.length ≤ c0_3) (hr0_4 : Kd.C k78 w A0_4 l0_4.length l0_4) (hc0_4 : l0_4.length ≤ c0_4) (h : quota_More.f k a0_0 a0_1 a0_2 l0_3 l0_4 a1 a2 = some r) :
 Calls Try.prog 22 #[.agg #[.int .i64 a0_0, .int .i64 a0_1, .int .i64 a0_2, .slice A0_3 l0_3.length c0_3, .slice A0_4 l0_4.length c0_4], .int .i64 a1, .int .i64 a2] w fun e w' => e = .returned (.int .i64 r) ∧ Below w.heap.size w w' := by
 have hu28 := Try.underlying28; have hu41 := Try.underlying41; have HR0_3 := Aside0.mk hr0_3; have HC0_3 := Aside0.mk hc0_3; clear hr0_3 hc0_3; have HR0_4 := Aside0.mk hr0_4; have HC0_4 := Aside0.mk hc0_4; clear hr0_4 hc0_4; have HB := Aside0.mk (Below.refl w.heap.size w); have H : (if a0_0 = 1 then ((node_May.f k a0_0 a0_1 a0_2 l0_3 l0_4).bind fun t169 => (quota_More.j0 k a1 a2 (!t169) a0_0 a0_1 a0_2 l0_3 l0_4)) else (quota_More.j0 k a1 a2 true a0_0 a0_1 a0_2 l0_3 l0_4)) = some r := h; clear h; have HC4 := Aside0.mk H; clear H
 go_enter Try.func22, Try.ntmps22
 go_upto_region 1 with (first | ((with_reducible refine gate_dst (N := 3) rfl ?_); refine bxE 28 (cs := #[.int .i64 a0_0, .int .i64 a0_1, .int .i64 a0_2, .slice A0_3 l0_3.length c0_3, .slice A0_4 l0_4.length c0_4]) ?_; intro gb168 hg w5 hbox hb; have BK168 := Aside0.mk hbox; have GW168 := kG HB hg; have GE168 := kG HB hg; replace HB := kH HB hb; clear hb hbox hg))
 (try simp only [Act.put, lT, l0_, lS])
 go_cut [17] (fun v17 wc => ∃ (kq : Nat) (x17_3 : Bool), v17 = .bool x17_3 ∧ Aside0 (quota_More.j0 kq a1 a2 x17_3 a0_0 a0_1 a0_2 l0_3 l0_4 = some r) ∧ Aside0 (kq ≤ k) ∧ Aside0 (wc.heap[gb168]? = some (.cells #[.int .i64 a0_0, .int .i64 a0_1, .int .i64 a0_2, (.slice A0_3 l0_3.length c0_3), (.slice A0_4 l0_4.length c0_4)] 28 (0, 0))) ∧ Aside0 (Below w.heap.size w wc))
 case first =>
  have H := HC4.out; clear HC4
  by_cases c6 : a0_0 = 1
  ·
   rw [if_pos c6] at H; obtain ⟨c6b0, c6b1⟩ := eP c6; clear c6
   (first | rw [c6b0] | (simp only [i64_w, i32_w]; rw [c6b0]) | skip)
   replace H := Option.bind_eq_some_iff.mp H; obtain ⟨t169, A70, H⟩ := H; have A7 := Aside0.mk A70; clear A70; have H' := Aside0.mk H; clear H; obtain ⟨hcz8_0, hfz8_0⟩ := cY0 BK168; obtain ⟨hcz8_1, hfz8_1⟩ := cY1 BK168; obtain ⟨hcz8_2, hfz8_2⟩ := cY2 BK168; obtain ⟨hcz8_3, hfz8_3⟩ := cY3 BK168; obtain ⟨hcz8_4, hfz8_4⟩ := cY4 BK168
   go_wp2_with (first | (go_at_call 48; (with_reducible refine (node_May.calls k a0_0 a0_1 a0_2 _ _ l0_3 _ _ l0_4 t169 _ ?side1 ?side2 ?side3 ?side4 A7.out).mono ?_); (case side1 => exact mC HR0_3 HB); (case side2 => exact HC0_3.out); (case side3 => exact mC HR0_4 HB); (case side4 => exact HC0_4.out); rintro e w9 ⟨rfl, hb⟩; replace BK168 := kB BK168 hb; replace HB := kH HB hb; (try clear hb)))
   go_meet
   case rel => exact ⟨_, (!t169), sI, H', ⟨by first | omega | exact Nat.le_refl _⟩, ⟨mB BK168⟩, ⟨mH HB⟩⟩
  ·
   rw [if_neg c6] at H; obtain ⟨c6b0, c6b1⟩ := eN c6
   (first | rw [c6b0] | (simp only [i64_w, i32_w]; rw [c6b0]) | skip)
   have H' := Aside0.mk H; clear H; obtain ⟨hcz10_0, hfz10_0⟩ := cY0 BK168; obtain ⟨hcz10_1, hfz10_1⟩ := cY1 BK168; obtain ⟨hcz10_2, hfz10_2⟩ := cY2 BK168; obtain ⟨hcz10_3, hfz10_3⟩ := cY3 BK168; obtain ⟨hcz10_4, hfz10_4⟩ := cY4 BK168
   go_wp2
   go_meet
   case rel => exact ⟨_, (true), sI, H', ⟨by first | omega | exact Nat.le_refl _⟩, ⟨mB BK168⟩, ⟨mH HB⟩⟩
 case rest =>
  clear HC4
  obtain ⟨kq, x17_3, rfl, HA, HJ3, BK168, HB⟩ := hcut
  cases kq with
  | zero => exact absurd HA.out (by simp [quota_More.j0])
  | succ kj3 =>
   have H := HA.out; clear HA; simp only [quota_More.j0] at H
   by_cases c11 : x17_3 = true
   ·
    subst c11
    have H1 : (some 0) = some r := by rw [if_pos rfl] at H; exact H
    clear H; have H := H1; clear H1; obtain rfl := Option.some.inj H
    go_wp2
    go_ret
    exact ⟨rT, mH HB⟩
   ·
    replace c11 := Bool.eq_false_iff.mpr c11; subst c11
    have H1 : ((span_Pieces.f kj3 a1 a2).bind fun t170 => (quota_More.l0 kj3 0 t170 (t170.length : Int) 0 a0_0 a0_1 a0_2 l0_3 l0_4)) = some r := by rw [if_neg (show ¬ (false = true) by decide)] at H; exact H
    clear H; have H := H1; clear H1; replace H := Option.bind_eq_some_iff.mp H; obtain ⟨t170, A120, H⟩ := H; have A12 := Aside0.mk A120; clear A120; have H' := Aside0.mk H; clear H
    go_wp2_with (first | ((with_reducible refine gate_callee (f := 49) rfl ?_); refine goesK (some 20) Try.func49 #[.int .i64 a1, .int .i64 a2] ?_; (with_reducible refine (span_Pieces.calls kj3 a1 a2 t170 _ A12.out).mono ?_); rintro e w13 ⟨v171, rfl, ho0, hb⟩; refine ⟨_, rfl, ?_⟩; have HO172 := Aside0.mk (Kd.R_lower ho0 (below_size (mH HB))); replace BK168 := kB BK168 hb; replace HB := kH HB hb; (try clear hb); (try clear ho0); obtain ⟨Ao14, co14, eo14⟩ := Kd.R_slice HO172.out; subst eo14))
    go_loopg [7, 22] kj3 (fun kq v7 v22 w' => ∃ (x7_2 : Int) (x22_2 : Int), v7 = .int .i64 x7_2 ∧ v22 = .int .i64 x22_2 ∧ Aside0 (quota_More.l0 kq x7_2 t170 (t170.length : Int) x22_2 a0_0 a0_1 a0_2 l0_3 l0_4 = some r) ∧ Aside0 (kq ≤ kj3) ∧ Aside0 (Kd.R k41 41 w' w.heap.size (fun _ => True) (.slice Ao14 t170.length co14) t170) ∧ Aside0 (w'.heap[gb168]? = some (.cells #[.int .i64 a0_0, .int .i64 a0_1, .int .i64 a0_2, (.slice A0_3 l0_3.length c0_3), (.slice A0_4 l0_4.length c0_4)] 28 (0, 0))) ∧ Aside0 (Below w.heap.size w w'))
    case atStart => exact ⟨(0), (0), sI, sI, H', ⟨Nat.le_refl _⟩, ⟨mR HO172⟩, ⟨mB BK168⟩, ⟨mH HB⟩⟩
    case round =>
     clear H'
     (try clear c11)
     obtain ⟨x7_2, x22_2, rfl, rfl, HA, HK2, HO_20, BK168, HB⟩ := hrel
     cases gk with
     | zero => exact absurd HA.out (by simp [quota_More.l0])
     | succ k2 =>
      have H := HA.out; clear HA; simp only [quota_More.l0] at H
      by_cases c15 : x22_2 < (t170.length : Int)
      ·
       rw [if_pos c15] at H; have c15b0 := decide_eq_true c15; clear c15
       replace H := nP H; obtain ⟨c16, H⟩ := H; have c16b0 := decide_eq_true c16; clear c16
       replace H := nP H; obtain ⟨c17, H⟩ := H; have c17b0 := decide_eq_true c17; clear c17
       replace H := nP H; obtain ⟨c18, H⟩ := H; have c18b0 := decide_eq_true c18; clear c18
       replace H := nP H; obtain ⟨c19, H⟩ := H; have c19b0 := decide_eq_true c19; clear c19
       by_cases c20 : (rd l0_3 ((rd_T41 t170 x22_2).f0)) = 0
       ·
        rw [if_pos c20] at H; obtain ⟨c20b0, c20b1⟩ := eP c20; clear c20; have H' := Aside0.mk H; clear H; have p173 : 0 ≤ (x22_2 : Int) := dT; have q173 : x22_2 < (t170.length : Int) := dT; obtain ⟨ad173, e173, hx173_0, hx173_1, hx173_2⟩ := at_T41 (Kd.R_reads' HO_20.out).2.2 x22_2 p173 q173
        cases e173
        replace p173 := eq_true p173; replace q173 := eq_true q173
        go_wp2_with (first | ((with_reducible refine gate_dst (N := 9) rfl ?_); refine bxE 41 (cs := #[.int .i64 0, .int .i64 0, .int .i64 0]) ?_; intro gb174 hg w21 hbox hb; replace HO_20 := Aside0.mk (Kd.R_below (Kd.R_elderB (mR HO_20) gb174 (Nat.le_of_eq hg.symm)) hb); have BK174 := Aside0.mk hbox; have GW174 := kG HB hg; have GE174 := kG HB hg; replace HB := kH HB hb; have NB168_174 := kL BK168 hg; have NB174_168 := kQ BK168 hg; replace BK168 := kB BK168 hb; clear hb hbox hg; have hnb22 := NB174_168.out; have hnc22 := NB168_174.out; obtain ⟨hcz23_0, hfz23_0⟩ := cY0 BK174; obtain ⟨hcz23_1, hfz23_1⟩ := cY1 BK174; obtain ⟨hcz23_2, hfz23_2⟩ := cY2 BK174; obtain ⟨hcz24_0, hfz24_0⟩ := cY0 BK168; obtain ⟨hcz24_1, hfz24_1⟩ := cY1 BK168; obtain ⟨hcz24_2, hfz24_2⟩ := cY2 BK168; obtain ⟨hcz24_3, hfz24_3⟩ := cY3 BK168; obtain ⟨hcz24_4, hfz24_4⟩ := cY4 BK168; have p175 : 0 ≤ (((rd_T41 t170 x22_2).f0) : Int) := dT; have q175 : ((rd_T41 t170 x22_2).f0) < (l0_3.length : Int) := dT; obtain ⟨ad175, e175, hx175_0⟩ := Kd.at_int HR0_3.out ((rd_T41 t170 x22_2).f0) p175 q175; cases e175; have hn175_0 : ad175.block ≠ gb174 := Nat.ne_of_lt (Nat.lt_of_lt_of_le (by have := World.block_lt_of_cell? _ _ hx175_0; first | rwa [add_block] at this | exact this) GW174.out); have hn175_1 : ad175.block ≠ gb174 := Nat.ne_of_lt (Nat.lt_of_lt_of_le (by have := World.block_lt_of_cell? _ _ hx175_0; first | rwa [add_block] at this | exact this) GW174.out); have hn175_2 : ad175.block ≠ gb174 := Nat.ne_of_lt (Nat.lt_of_lt_of_le (by have := World.block_lt_of_cell? _ _ hx175_0; first | rwa [add_block] at this | exact this) GW174.out); replace hx175_0 := xC HB hx175_0; replace hx175_0 := cF hn175_0 0 (.int .i64 ((rd_T41 t170 x22_2).f0)) hx175_0; replace hx175_0 := cF hn175_1 1 (.int .i64 ((rd_T41 t170 x22_2).f1)) hx175_0; replace hx175_0 := cF hn175_2 2 (.int .i64 ((rd_T41 t170 x22_2).f2)) hx175_0; clear hn175_0; clear hn175_1; clear hn175_2; replace p175 := eq_true p175; replace q175 := eq_true q175))
        go_roundg k2
        case measure => have := HJ3.out; have := HK2.out; omega
        case rel => exact ⟨(wrap64 (x7_2 + 1)), (wrap64 (x22_2 + 1)), sI, sI, H', ⟨oM HJ3 HK2⟩, ⟨fR HO_20⟩, ⟨mF BK168⟩, ⟨mH HB⟩⟩
       ·
        rw [if_neg c20] at H; obtain ⟨c20b0, c20b1⟩ := eN c20; have H' := Aside0.mk H; clear H; have p173 : 0 ≤ (x22_2 : Int) := dT; have q173 : x22_2 < (t170.length : Int) := dT; obtain ⟨ad173, e173, hx173_0, hx173_1, hx173_2⟩ := at_T41 (Kd.R_reads' HO_20.out).2.2 x22_2 p173 q173
        cases e173
        replace p173 := eq_true p173; replace q173 := eq_true q173
        go_wp2_with (first | ((with_reducible refine gate_dst (N := 9) rfl ?_); refine bxE 41 (cs := #[.int .i64 0, .int .i64 0, .int .i64 0]) ?_; intro gb174 hg w25 hbox hb; replace HO_20 := Aside0.mk (Kd.R_below (Kd.R_elderB (mR HO_20) gb174 (Nat.le_of_eq hg.symm)) hb); have BK174 := Aside0.mk hbox; have GW174 := kG HB hg; have GE174 := kG HB hg; replace HB := kH HB hb; have NB168_174 := kL BK168 hg; have NB174_168 := kQ BK168 hg; replace BK168 := kB BK168 hb; clear hb hbox hg; have hnb26 := NB174_168.out; have hnc26 := NB168_174.out; obtain ⟨hcz27_0, hfz27_0⟩ := cY0 BK174; obtain ⟨hcz27_1, hfz27_1⟩ := cY1 BK174; obtain ⟨hcz27_2, hfz27_2⟩ := cY2 BK174; obtain ⟨hcz28_0, hfz28_0⟩ := cY0 BK168; obtain ⟨hcz28_1, hfz28_1⟩ := cY1 BK168; obtain ⟨hcz28_2, hfz28_2⟩ := cY2 BK168; obtain ⟨hcz28_3, hfz28_3⟩ := cY3 BK168; obtain ⟨hcz28_4, hfz28_4⟩ := cY4 BK168; have p175 : 0 ≤ (((rd_T41 t170 x22_2).f0) : Int) := dT; have q175 : ((rd_T41 t170 x22_2).f0) < (l0_3.length : Int) := dT; obtain ⟨ad175, e175, hx175_0⟩ := Kd.at_int HR0_3.out ((rd_T41 t170 x22_2).f0) p175 q175; cases e175; have hn175_0 : ad175.block ≠ gb174 := Nat.ne_of_lt (Nat.lt_of_lt_of_le (by have := World.block_lt_of_cell? _ _ hx175_0; first | rwa [add_block] at this | exact this) GW174.out); have hn175_1 : ad175.block ≠ gb174 := Nat.ne_of_lt (Nat.lt_of_lt_of_le (by have := World.block_lt_of_cell? _ _ hx175_0; first | rwa [add_block] at this | exact this) GW174.out); have hn175_2 : ad175.block ≠ gb174 := Nat.ne_of_lt (Nat.lt_of_lt_of_le (by have := World.block_lt_of_cell? _ _ hx175_0; first | rwa [add_block] at this | exact this) GW174.out); replace hx175_0 := xC HB hx175_0; replace hx175_0 := cF hn175_0 0 (.int .i64 ((rd_T41 t170 x22_2).f0)) hx175_0; replace hx175_0 := cF hn175_1 1 (.int .i64 ((rd_T41 t170 x22_2).f1)) hx175_0; replace hx175_0 := cF hn175_2 2 (.int .i64 ((rd_T41 t170 x22_2).f2)) hx175_0; clear hn175_0; clear hn175_1; clear hn175_2; replace p175 := eq_true p175; replace q175 := eq_true q175))
        go_roundg k2
        case measure => have := HJ3.out; have := HK2.out; omega
        case rel => exact ⟨(x7_2), (wrap64 (x22_2 + 1)), sI, sI, H', ⟨oM HJ3 HK2⟩, ⟨fR HO_20⟩, ⟨mF BK168⟩, ⟨mH HB⟩⟩
      ·
       rw [if_neg c15] at H; have c15b0 := decide_eq_false c15; clear c15; obtain rfl := Option.some.inj H
       go_wp2
       go_ret
       exact ⟨rT, mH HB⟩
end Go.Proofs.Ytkigiehkckjlhaa.PGrows
