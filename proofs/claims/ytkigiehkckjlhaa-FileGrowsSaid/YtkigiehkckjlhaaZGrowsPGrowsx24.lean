/- The Go functions that these laws reach, each as a Lean function with the same answers (a law itself where it answers true), and the proof that the code comes to them; conditions: those of each theorem. Laid by a program of this session over the print. -/
import Derived.Test.YtkigiehkckjlhaaZGrowsPGrowsShort
import Derived.Test.YtkigiehkckjlhaaZGrowsPGrowsx0
import Derived.Test.YtkigiehkckjlhaaZGrowsPGrowsx19
import Derived.Test.YtkigiehkckjlhaaZGrowsPGrowsx21
namespace Go.Proofs.Ytkigiehkckjlhaa.PGrows
open Go.RowKit Go.Proofs.YtkigiehkckjlhaaW.PrintWords Go.Proofs.YtkigiehkckjlhaaW.PrintLast Go.Proofs.YtkigiehkckjlhaaW.PrintMore
attribute [local go_sem] max2_int min2_int max_two min_two max_three min_three max_four min_four   -- for this text's walks alone
set_option linter.unusedVariables false
set_option linter.unusedSimpArgs false
open Go.Proofs.YtkigiehkckjlhaaW.PrintWords renaming blk_drewN → bN, blk_drew → bD, blk_alloc → bA, below_set → wS, below_alloc → wA, pw_below_drewN → wN, below_drew1 → wD, blk_below → bB, blk_far → bF, blk_cell → bC, blk_frozen → bZ
open List renaming setIfInBounds_toArray → lT, set_cons_zero → l0_, set_cons_succ → lS
abbrev B24_0 : Array Bool := #[false, false, false, false, false, false, false, false, false, false, false, false, false, false, false]
abbrev B24_1 : Array Bool := B24_0.set! 0 true
abbrev B24_2 : Array Bool := B24_1.set! 2 true
abbrev B24_3 : Array Bool := B24_2.set! 7 true
abbrev B24_4 : Array Bool := B24_3.set! 9 true
abbrev B24_5 : Array Bool := B24_4.set! 10 true
abbrev B24_6 : Array Bool := B24_5.set! 11 true
abbrev B24_7 : Array Bool := B24_6.set! 1 true
abbrev B24_8 : Array Bool := B24_7.set! 3 true
abbrev B24_9 : Array Bool := B24_8.set! 4 true
abbrev B24_10 : Array Bool := B24_9.set! 5 true
abbrev B24_11 : Array Bool := B24_10.set! 6 true
abbrev B24_12 : Array Bool := B24_11.set! 8 true
abbrev B24_13 : Array Bool := B24_12.set! 12 true
abbrev B24_14 : Array Bool := B24_13.set! 13 true
abbrev B24_15 : Array Bool := B24_14.set! 14 true
mutual
def file_Done.j0 : Nat → List (S60) → List Int → Bool → List (S28) → Option ((List (S28)) × Int)
 | 0, _, _, _, _ => none
 | k + 1, x1, x2, x20, x291000 => if x20 = true then (none) else ((dir_Copy.f k x291000).bind fun t293 => (file_Done.l0 k x2 x1 (x1.length : Int) 0 x291000 t293))
def file_Done.l0 : Nat → List Int → List (S60) → Int → Int → List (S28) → List (S28) → Option ((List (S28)) × Int)
 | 0, _, _, _, _, _, _ => none
 | k + 1, x2, x24, x25, x26, x291000, x297000 => if x26 < x25 then (if 0 ≤ x26 then (if x26 < (x24.length : Int) then ((file_is.f k x291000 ((rd_T60 x24 x26).f0)).bind fun t299 => (if t299 = true then (if ((rd_T60 x24 x26).f1) < 0 then (none) else (if ((rd_T60 x24 x26).f1) ≥ 5 then (none) else (if x26 < (x2.length : Int) then (if (rd x2 x26) < 1 then (none) else (file_Done.j2 k x2 x26 x24 x25 x26 (decide ((rd x2 x26) > 1099511627776)) x291000 x297000 ((rd_T60 x24 x26).f0) ((rd_T60 x24 x26).f1) ((rd_T60 x24 x26).f2) ((rd_T60 x24 x26).f3) ((rd_T60 x24 x26).f4) ((rd_T60 x24 x26).f5))) else (none)))) else (none))) else (none)) else (none)) else ((dir_May.f k x297000).bind fun t307 => (if t307 = true then (some (x297000, 0)) else (none)))
def file_Done.j2 : Nat → List Int → Int → List (S60) → Int → Int → Bool → List (S28) → List (S28) → Int → Int → Int → Int → Int → List Int → Option ((List (S28)) × Int)
 | 0, _, _, _, _, _, _, _, _, _, _, _, _, _, _ => none
 | k + 1, x2, x9, x24, x25, x26, x59, x291000, x297000, x299000, x299001, x299002, x299003, x299004, x299005 => if x59 = true then (none) else (if 0 ≤ x299000 then (if x299000 < (x297000.length : Int) then (if 0 ≤ x9 then (if x9 < (x2.length : Int) then (if 0 ≤ x299001 then (if x299001 < (((rd_T28 x297000 x299000).f3).length : Int) then (file_Done.l0 k x2 x24 x25 (wrap64 (x26 + 1)) x291000 (x297000.set (x299000 : Int).toNat (⟨(rd_T28 x297000 x299000).f0, (rd_T28 x297000 x299000).f1, (rd_T28 x297000 x299000).f2, (((rd_T28 x297000 x299000).f3).set (x299001 : Int).toNat (rd x2 x9)), (rd_T28 x297000 x299000).f4⟩ : S28))) else (none)) else (none)) else (none)) else (none)) else (none)) else (none))
end
def file_Done.f (k : Nat) (l0_0 : List (S28)) (l1 : List (S60)) (l2 : List Int) : Option ((List (S28)) × Int) := (dir_May.f k l0_0).bind fun t292 => (if t292 = true then (file_Done.j0 k l1 l2 ((l1.length : Int) != (l2.length : Int)) l0_0) else (none))
theorem file_Done.mono_l : ∀ k, (∀ y0 y1 y2 y3, LeO (file_Done.j0 k y0 y1 y2 y3) (file_Done.j0 (k + 1) y0 y1 y2 y3)) ∧ (∀ y0 y1 y2 y3 y4 y5, LeO (file_Done.l0 k y0 y1 y2 y3 y4 y5) (file_Done.l0 (k + 1) y0 y1 y2 y3 y4 y5)) ∧ (∀ y0 y1 y2 y3 y4 y5 y6 y7 y8 y9 y10 y11 y12 y13, LeO (file_Done.j2 k y0 y1 y2 y3 y4 y5 y6 y7 y8 y9 y10 y11 y12 y13) (file_Done.j2 (k + 1) y0 y1 y2 y3 y4 y5 y6 y7 y8 y9 y10 y11 y12 y13))
 | 0 => ⟨fun _ _ _ _ r h => by simp [file_Done.j0] at h, fun _ _ _ _ _ _ r h => by simp [file_Done.l0] at h, fun _ _ _ _ _ _ _ _ _ _ _ _ _ _ r h => by simp [file_Done.j2] at h⟩
 | k + 1 => by
  obtain ⟨ih0, ih1, ih2⟩ := file_Done.mono_l k; refine ⟨?_, ?_, ?_⟩
  ·
   intro y0 y1 y2 y3
   unfold file_Done.j0
   repeat' with_reducible first | apply ih0 | apply ih1 | apply ih2 | apply dir_Copy.mono | apply dir_May.mono | apply file_is.mono | exact LeO.refl _ | exact LeO.none _ | refine LeO.ite ?_ ?_ | refine LeO.bind ?_ (fun _ => ?_)
  ·
   intro y0 y1 y2 y3 y4 y5
   unfold file_Done.l0
   repeat' with_reducible first | apply ih0 | apply ih1 | apply ih2 | apply dir_Copy.mono | apply dir_May.mono | apply file_is.mono | exact LeO.refl _ | exact LeO.none _ | refine LeO.ite ?_ ?_ | refine LeO.bind ?_ (fun _ => ?_)
  ·
   intro y0 y1 y2 y3 y4 y5 y6 y7 y8 y9 y10 y11 y12 y13
   unfold file_Done.j2
   repeat' with_reducible first | apply ih0 | apply ih1 | apply ih2 | apply dir_Copy.mono | apply dir_May.mono | apply file_is.mono | exact LeO.refl _ | exact LeO.none _ | refine LeO.ite ?_ ?_ | refine LeO.bind ?_ (fun _ => ?_)
theorem file_Done.mono : ∀ a0 a1 a2 k, LeO (file_Done.f k a0 a1 a2) (file_Done.f (k + 1) a0 a1 a2) := by
 intro a0 a1 a2 k; obtain ⟨ih0, ih1, ih2⟩ := file_Done.mono_l k
 unfold file_Done.f
 repeat' with_reducible first | apply ih0 | apply ih1 | apply ih2 | apply dir_Copy.mono | apply dir_May.mono | apply file_is.mono | exact LeO.refl _ | exact LeO.none _ | refine LeO.ite ?_ ?_ | refine LeO.bind ?_ (fun _ => ?_)
def file_Done.T9 : Bool × List (List Nat × List Nat) := (true, [([], []), ([0], [0]), ([], []), ([2], [2]), ([1, 3], [1, 3]), ([4], [4]), ([5], [5]), ([], []), ([7], [7]), ([], []), ([], []), ([9, 10], [9, 10]), ([11], [11]), ([6, 8, 0, 1, 2, 3, 4, 5, 6, 7, 8, 9, 10, 11, 12], [6, 8]), ([13, 12, 0, 1, 2, 3, 4, 5, 6, 7, 8, 9, 10, 11, 12], [12, 13])])
def file_Done.B9 : List Nat := [0, 1, 0, 4, 15, 31, 63, 0, 128, 0, 0, 1536, 3584, 8191, 16383]
theorem file_Done.tab9 : rtab .any (opsOf Try.f36 9) = file_Done.T9 := by kernel_rfl
theorem file_Done.bits9 : waitsOk file_Done.T9.2 file_Done.B9 = true := by kernel_rfl
set_option maxHeartbeats 8000000 in
set_option maxRecDepth 100000 in
theorem file_Done.calls (k : Nat) (A0_0 : Option Addr) (c0_0 : Nat) (l0_0 : List (S28)) (A1 : Option Addr) (c1 : Nat) (l1 : List (S60)) (A2 : Option Addr) (c2 : Nat) (l2 : List Int) (r1 : List (S28)) (r2 : Int) (w : World) (hr0_0 : Kd.C k28 w A0_0 l0_0.length l0_0) (hc0_0 : l0_0.length ≤ c0_0) (hr1 : Kd.C k60 w A1 l1.length l1) (hc1 : l1.length ≤ c1) (hr2 : Kd.C (Kd.int .i64) w A2 l2.length l2) (hc2 : l2.length ≤ c2) (h : file_Done.f k l0_0 l1 l2 = some (r1, r2)) :
 Calls Try.prog 36 #[.agg #[.slice A0_0 l0_0.length c0_0], .slice A1 l1.length c1, .slice A2 l2.length c2] w fun e w' => ∃ v0_ : Value, e = .returned (.tuple #[.agg #[v0_], .int .i64 r2]) ∧ Kd.S k28 28 w' w.heap.size (fun _ => True) v0_ r1 ∧ Below w.heap.size w w' := by
 have hu24 := Try.underlying24; have hu60 := Try.underlying60; have HR0_0 := Aside0.mk hr0_0; have HC0_0 := Aside0.mk hc0_0; clear hr0_0 hc0_0; have HR1 := Aside0.mk hr1; have HC1 := Aside0.mk hc1; clear hr1 hc1; have HR2 := Aside0.mk hr2; have HC2 := Aside0.mk hc2; clear hr2 hc2; have HB := Aside0.mk (Below.refl w.heap.size w); have H : ((dir_May.f k l0_0).bind fun t292 => (if t292 = true then (file_Done.j0 k l1 l2 ((l1.length : Int) != (l2.length : Int)) l0_0) else (none))) = some (r1, r2) := h; clear h; have HC4 := Aside0.mk H; clear H
 go_enter Try.func36, Try.ntmps36
 go_upto_region 1 with (first | ((with_reducible refine gate_dst (N := 3) rfl ?_); (try (refine gate_guard (by rfl) ?_; dsimp only)); refine bxE 24 (cs := #[.slice A0_0 l0_0.length c0_0]) ?_; intro gb290 hg w5 hbox hb; have BK290 := Aside0.mk hbox; have GW290 := kG HB hg; have GE290 := kG HB hg; replace HB := kH HB hb; clear hb hbox hg) | ((with_reducible refine gate_dst (N := 6) rfl ?_); (try (refine gate_guard (by rfl) ?_; dsimp only)); refine bxE 24 (cs := #[.slice none 0 0]) ?_; intro gb291 hg w6 hbox hb; have BK291 := Aside0.mk hbox; have GW291 := kG HB hg; have GE291 := kG HB hg; replace HB := kH HB hb; have NB290_291 := kL BK290 hg; have NB291_290 := kQ BK290 hg; replace BK290 := kB BK290 hb; clear hb hbox hg))
 (try simp only [Act.put, lT, l0_, lS])
 go_cut [20] (fun v20 wc => ∃ (kq : Nat) (x20_3 : Bool), v20 = .bool x20_3 ∧ Aside0 (file_Done.j0 kq l1 l2 x20_3 l0_0 = some (r1, r2)) ∧ Aside0 (kq ≤ k) ∧ Aside0 (wc.heap[gb290]? = some (.cells #[(.slice A0_0 l0_0.length c0_0)] 24 (0, 0))) ∧ Aside0 (wc.heap[gb291]? = some (.cells #[(.slice none 0 0)] 24 (0, 0))) ∧ Aside0 (Below w.heap.size w wc))
 case first =>
  have H := HC4.out; clear HC4; replace H := Option.bind_eq_some_iff.mp H; obtain ⟨t292, A70, H⟩ := H; have A7 := Aside0.mk A70; clear A70
  by_cases c8 : t292 = true
  ·
   subst c8
   have H1 : (file_Done.j0 k l1 l2 ((l1.length : Int) != (l2.length : Int)) l0_0) = some (r1, r2) := by rw [if_pos rfl] at H; exact H
   clear H; have H := H1; clear H1; have H' := Aside0.mk H; clear H; have hnb9 := NB290_291.out; have hnc9 := NB291_290.out; obtain ⟨hcz10_0, hfz10_0⟩ := cY0 BK290
   go_wp2_with (first | ((with_reducible refine gate_callee (f := 55) rfl ?_); refine goesK (some 12) Try.func55 #[.agg #[.slice A0_0 l0_0.length c0_0]] ?_; (with_reducible refine (dir_May.calls k _ _ l0_0 true _ ?side1 ?side2 A7.out).mono ?_); (case side1 => exact mC HR0_0 HB); (case side2 => exact HC0_0.out); rintro e w11 ⟨rfl, hb⟩; refine ⟨_, rfl, ?_⟩; replace BK290 := kB BK290 hb; replace BK291 := kB BK291 hb; replace HB := kH HB hb; (try clear hb)))
   go_meet
   case rel => exact ⟨_, (((l1.length : Int) != (l2.length : Int))), sI, H', ⟨by first | omega | exact Nat.le_refl _⟩, ⟨mB BK290⟩, ⟨mB BK291⟩, ⟨mH HB⟩⟩
  ·
   replace c8 := Bool.eq_false_iff.mpr c8; subst c8
   have H1 : (none) = some (r1, r2) := by rw [if_neg (show ¬ (false = true) by decide)] at H; exact H
   clear H; have H := H1; clear H1; exact absurd H (by simp)
 case rest =>
  clear HC4
  (try clear c1); (try clear c2)
  obtain ⟨kq, x20_3, rfl, HA, HJ3, BK290, BK291, HB⟩ := hcut
  cases kq with
  | zero => exact absurd HA.out (by simp [file_Done.j0])
  | succ kj3 =>
   have H := HA.out; clear HA; simp only [file_Done.j0] at H
   by_cases c12 : x20_3 = true
   ·
    subst c12
    have H1 : (none) = some (r1, r2) := by rw [if_pos rfl] at H; exact H
    clear H; have H := H1; clear H1; exact absurd H (by simp)
   ·
    replace c12 := Bool.eq_false_iff.mpr c12; subst c12
    have H1 : ((dir_Copy.f kj3 l0_0).bind fun t293 => (file_Done.l0 kj3 l2 l1 (l1.length : Int) 0 l0_0 t293)) = some (r1, r2) := by rw [if_neg (show ¬ (false = true) by decide)] at H; exact H
    clear H; have H := H1; clear H1; replace H := Option.bind_eq_some_iff.mp H; obtain ⟨t293, A130, H⟩ := H; have A13 := Aside0.mk A130; clear A130; have H' := Aside0.mk H; clear H; have hnb14 := NB290_291.out; have hnc14 := NB291_290.out; obtain ⟨hcz15_0, hfz15_0⟩ := cY0 BK290
    go_wp2_with (first | ((with_reducible refine gate_callee (f := 57) rfl ?_); refine goesK (some 23) Try.func57 #[.agg #[.slice A0_0 l0_0.length c0_0]] ?_; (with_reducible refine (dir_Copy.calls kj3 _ _ l0_0 t293 _ ?side1 ?side2 A13.out).mono ?_); (case side1 => exact mC HR0_0 HB); (case side2 => exact HC0_0.out); rintro e w16 ⟨v294, rfl, ho0, hb⟩; refine ⟨_, rfl, ?_⟩; have HO295 := Aside0.mk (Kd.S_lower ho0 (below_size (mH HB))); replace BK290 := kB BK290 hb; replace BK291 := kB BK291 hb; replace HB := kH HB hb; (try clear hb); (try clear ho0)) | ((with_reducible refine gate_dst (N := 8) rfl ?_); (try (refine gate_guard (by rfl) ?_; dsimp only)); refine bxE 24 (cs := #[.slice none 0 0]) ?_; intro gb296 hg w17 hbox hb; replace HO295 := kS HO295 hb; have BK296 := Aside0.mk hbox; have GW296 := kG HB hg; have GE296 := kG HB hg; replace HB := kH HB hb; have NB290_296 := kL BK290 hg; have NB296_290 := kQ BK290 hg; replace BK290 := kB BK290 hb; have NB291_296 := kL BK291 hg; have NB296_291 := kQ BK291 hg; replace BK291 := kB BK291 hb; clear hb hbox hg; obtain ⟨Ao18, co18, eo18⟩ := Kd.S_slice HO295.out; subst eo18; have hnb19 := NB296_290.out; have hnc19 := NB290_296.out; have hnb20 := NB296_291.out; have hnc20 := NB291_296.out; obtain ⟨hcz21_0, hfz21_0⟩ := cY0 BK296))
    go_loopg [26] kj3 (fun kq v26 w' => ∃ (x26_2 : Int) (x297000_2 : List (S28)) (u297000 : Value), v26 = .int .i64 x26_2 ∧ Aside0 (file_Done.l0 kq l2 l1 (l1.length : Int) x26_2 l0_0 x297000_2 = some (r1, r2)) ∧ Aside0 (kq ≤ kj3) ∧ Aside0 (Kd.S k28 28 w' w.heap.size (fun _ => True) u297000 x297000_2) ∧ Aside0 (w'.heap[gb290]? = some (.cells #[(.slice A0_0 l0_0.length c0_0)] 24 (0, 0))) ∧ Aside0 (w'.heap[gb291]? = some (.cells #[(.slice none 0 0)] 24 (0, 0))) ∧ Aside0 (w'.heap[gb296]? = some (.cells #[u297000] 24 (0, 0))) ∧ Aside0 (Below w.heap.size w w'))
    case atStart => exact ⟨(0), (t293), (.slice Ao18 t293.length co18), sI, H', ⟨Nat.le_refl _⟩, ⟨fS ⟨Kd.S_types HO295.out BK296.out (by decide)⟩⟩, ⟨mF BK290⟩, ⟨mF BK291⟩, ⟨pP BK296⟩, ⟨mH HB⟩⟩
    case round =>
     clear H'
     (try clear c1); (try clear c2); (try clear c12); (try clear hcz15_0); (try clear hcz21_0); (try clear hfz15_0); (try clear hfz21_0)
     obtain ⟨x26_2, x297000_2, u297000, rfl, HA, HK2, HO_297000, BK290, BK291, BK296, HB⟩ := hrel
     cases gk with
     | zero => exact absurd HA.out (by simp [file_Done.l0])
     | succ k2 =>
      have H := HA.out; clear HA; simp only [file_Done.l0] at H
      by_cases c22 : x26_2 < (l1.length : Int)
      ·
       rw [if_pos c22] at H; have c22b0 := decide_eq_true c22; clear c22
       replace H := nP H; obtain ⟨c23, H⟩ := H; have c23b0 := decide_eq_true c23; clear c23
       replace H := nP H; obtain ⟨c24, H⟩ := H; have c24b0 := decide_eq_true c24; clear c24; have HC25 := Aside0.mk H; clear H; have p297 : 0 ≤ (x26_2 : Int) := dT; have q297 : x26_2 < (l1.length : Int) := dT; obtain ⟨ad297, A297_5, c297_5, e297, hx297_0, hx297_1, hx297_2, hx297_3, hx297_4, hx297_5, hl297_5, hi297_5⟩ := at_T60 HR1.out x26_2 p297 q297
       cases e297
       replace hx297_0 := xC HB hx297_0; replace hx297_1 := xC HB hx297_1; replace hx297_2 := xC HB hx297_2; replace hx297_3 := xC HB hx297_3; replace hx297_4 := xC HB hx297_4; replace hx297_5 := xC HB hx297_5; have HR297_5 := Aside0.mk hi297_5; have HC297_5 := Aside0.mk hl297_5; clear hi297_5 hl297_5; replace p297 := eq_true p297; replace q297 := eq_true q297
       go_upto_region 7 with (first | ((with_reducible refine gate_dst (N := 10) rfl ?_); (try (refine gate_guard (by rfl) ?_; dsimp only)); refine bxE 60 (cs := #[.int .i64 0, .int .i64 0, .int .i64 0, .int .i64 0, .int .i64 0, .slice none 0 0]) ?_; intro gb298 hg w26 hbox hb; replace HO_297000 := kS HO_297000 hb; have BK298 := Aside0.mk hbox; have GW298 := kG HB hg; have GE298 := kG HB hg; replace HB := kH HB hb; have NB290_298 := kL BK290 hg; have NB298_290 := kQ BK290 hg; replace BK290 := kB BK290 hb; have NB291_298 := kL BK291 hg; have NB298_291 := kQ BK291 hg; replace BK291 := kB BK291 hb; have NB296_298 := kL BK296 hg; have NB298_296 := kQ BK296 hg; replace BK296 := kB BK296 hb; clear hb hbox hg; have hnb27 := NB298_290.out; have hnc27 := NB290_298.out; have hnb28 := NB298_291.out; have hnc28 := NB291_298.out; have hnb29 := NB298_296.out; have hnc29 := NB296_298.out; obtain ⟨hcz30_0, hfz30_0⟩ := cY0 BK298; obtain ⟨hcz30_1, hfz30_1⟩ := cY1 BK298; obtain ⟨hcz30_2, hfz30_2⟩ := cY2 BK298; obtain ⟨hcz30_3, hfz30_3⟩ := cY3 BK298; obtain ⟨hcz30_4, hfz30_4⟩ := cY4 BK298; obtain ⟨hcz30_5, hfz30_5⟩ := cY5 BK298))
       (try simp only [Act.put, lT, l0_, lS])
       go_cut [59] (fun v59 wc => ∃ (kq : Nat) (x59_24 : Bool), v59 = .bool x59_24 ∧ Aside0 (file_Done.j2 kq l2 x26_2 l1 (l1.length : Int) x26_2 x59_24 l0_0 x297000_2 ((rd_T60 l1 x26_2).f0) ((rd_T60 l1 x26_2).f1) ((rd_T60 l1 x26_2).f2) ((rd_T60 l1 x26_2).f3) ((rd_T60 l1 x26_2).f4) ((rd_T60 l1 x26_2).f5) = some (r1, r2)) ∧ Aside0 (kq ≤ k2) ∧ Aside0 (Kd.S k28 28 wc w.heap.size (fun _ => True) u297000 x297000_2) ∧ Aside0 (wc.heap[gb290]? = some (.cells #[(.slice A0_0 l0_0.length c0_0)] 24 (0, 0))) ∧ Aside0 (wc.heap[gb291]? = some (.cells #[(.slice none 0 0)] 24 (0, 0))) ∧ Aside0 (wc.heap[gb296]? = some (.cells #[u297000] 24 (0, 0))) ∧ Aside0 (wc.heap[gb298]? = some (.cells #[.int .i64 ((rd_T60 l1 x26_2).f0), .int .i64 ((rd_T60 l1 x26_2).f1), .int .i64 ((rd_T60 l1 x26_2).f2), .int .i64 ((rd_T60 l1 x26_2).f3), .int .i64 ((rd_T60 l1 x26_2).f4), (.slice A297_5 ((rd_T60 l1 x26_2).f5).length c297_5)] 60 (0, 0))) ∧ Aside0 (Below w.heap.size w wc))
       case first =>
        have H := HC25.out; clear HC25; replace H := Option.bind_eq_some_iff.mp H; obtain ⟨t299, A310, H⟩ := H; have A31 := Aside0.mk A310; clear A310
        by_cases c32 : t299 = true
        ·
         subst c32
         have H1 : (if ((rd_T60 l1 x26_2).f1) < 0 then (none) else (if ((rd_T60 l1 x26_2).f1) ≥ 5 then (none) else (if x26_2 < (l2.length : Int) then (if (rd l2 x26_2) < 1 then (none) else (file_Done.j2 k2 l2 x26_2 l1 (l1.length : Int) x26_2 (decide ((rd l2 x26_2) > 1099511627776)) l0_0 x297000_2 ((rd_T60 l1 x26_2).f0) ((rd_T60 l1 x26_2).f1) ((rd_T60 l1 x26_2).f2) ((rd_T60 l1 x26_2).f3) ((rd_T60 l1 x26_2).f4) ((rd_T60 l1 x26_2).f5))) else (none)))) = some (r1, r2) := by rw [if_pos rfl] at H; exact H
         clear H; have H := H1; clear H1
         replace H := nQ H; obtain ⟨c33, H⟩ := H; have c33b0 := decide_eq_false c33; clear c33
         (first | rw [c33b0] | (simp only [i64_w, i32_w]; rw [c33b0]) | skip)
         replace H := nQ H; obtain ⟨c34, H⟩ := H; have c34b0 : decide (5 ≤ ((rd_T60 l1 x26_2).f1)) = false := decide_eq_false c34; clear c34
         replace H := nP H; obtain ⟨c35, H⟩ := H; have c35b0 := decide_eq_true c35; clear c35
         replace H := nQ H; obtain ⟨c36, H⟩ := H; have c36b0 := decide_eq_false c36; clear c36; have H' := Aside0.mk H; clear H; have hnb37 := NB290_291.out; have hnc37 := NB291_290.out; have hnb38 := NB290_296.out; have hnc38 := NB296_290.out; have hnb39 := NB290_298.out; have hnc39 := NB298_290.out; obtain ⟨hcz40_0, hfz40_0⟩ := cY0 BK290; have hnb41 := NB298_291.out; have hnc41 := NB291_298.out; have hnb42 := NB298_296.out; have hnc42 := NB296_298.out; obtain ⟨hcz43_0, hfz43_0⟩ := cY0 BK298; obtain ⟨hcz43_1, hfz43_1⟩ := cY1 BK298; obtain ⟨hcz43_2, hfz43_2⟩ := cY2 BK298; obtain ⟨hcz43_3, hfz43_3⟩ := cY3 BK298; obtain ⟨hcz43_4, hfz43_4⟩ := cY4 BK298; obtain ⟨hcz43_5, hfz43_5⟩ := cY5 BK298
         go_wp2_with (first | ((with_reducible refine gate_callee (f := 56) rfl ?_); refine goesK (some 34) Try.func56 #[.agg #[.slice A0_0 l0_0.length c0_0], .int .i64 ((rd_T60 l1 x26_2).f0)] ?_; (with_reducible refine (file_is.calls k2 _ _ l0_0 ((rd_T60 l1 x26_2).f0) true _ ?side1 ?side2 A31.out).mono ?_); (case side1 => exact Kd.C_below HR0_0.out (mH HB)); (case side2 => exact HC0_0.out); rintro e w44 ⟨rfl, hb⟩; refine ⟨_, rfl, ?_⟩; replace HO_297000 := Aside0.mk (Kd.S_below (by (with_reducible repeat (first | apply Kd.S_alloc | apply Kd.S_drewN | apply Kd.S_drew)); exact (Kd.S_mono (Kd.S_far (p := ⟨gb298, 5, none⟩) (Kd.S_far (p := ⟨gb298, 4, none⟩) (Kd.S_far (p := ⟨gb298, 3, none⟩) (Kd.S_far (p := ⟨gb298, 2, none⟩) (Kd.S_far (p := ⟨gb298, 1, none⟩) (Kd.S_far (p := ⟨gb298, 0, none⟩) (Kd.S_types HO_297000.out BK298.out (by decide)) (fun _ hk => hk.2) (.int .i64 ((rd_T60 l1 x26_2).f0))) (fun _ hk => hk.2) (.int .i64 ((rd_T60 l1 x26_2).f1))) (fun _ hk => hk.2) (.int .i64 ((rd_T60 l1 x26_2).f2))) (fun _ hk => hk.2) (.int .i64 ((rd_T60 l1 x26_2).f3))) (fun _ hk => hk.2) (.int .i64 ((rd_T60 l1 x26_2).f4))) (fun _ hk => hk.2) (.slice A297_5 ((rd_T60 l1 x26_2).f5).length c297_5)) (fun _ h_ => h_.1))) hb); replace BK290 := Aside0.mk (bB (mF BK290) hb); replace BK291 := Aside0.mk (bB (mF BK291) hb); replace BK296 := Aside0.mk (bB (mF BK296) hb); replace BK298 := Aside0.mk (bB (g := gb298) (o := .cells #[.int .i64 ((rd_T60 l1 x26_2).f0), .int .i64 ((rd_T60 l1 x26_2).f1), .int .i64 ((rd_T60 l1 x26_2).f2), .int .i64 ((rd_T60 l1 x26_2).f3), .int .i64 ((rd_T60 l1 x26_2).f4), .slice A297_5 ((rd_T60 l1 x26_2).f5).length c297_5] 60 (0, 0)) (pP BK298) hb); replace HB := kH HB hb; (try clear hb); (try clear hk); obtain ⟨hcz45_0, hfz45_0⟩ := cY0 BK298; obtain ⟨hcz45_1, hfz45_1⟩ := cY1 BK298; obtain ⟨hcz45_2, hfz45_2⟩ := cY2 BK298; obtain ⟨hcz45_3, hfz45_3⟩ := cY3 BK298; obtain ⟨hcz45_4, hfz45_4⟩ := cY4 BK298; obtain ⟨hcz45_5, hfz45_5⟩ := cY5 BK298; have p300 : 0 ≤ (x26_2 : Int) := dT; have q300 : x26_2 < (l2.length : Int) := dT; obtain ⟨ad300, e300, hx300_0⟩ := Kd.at_int HR2.out x26_2 p300 q300; cases e300; replace hx300_0 := xC HB hx300_0; replace p300 := eq_true p300; replace q300 := eq_true q300; have p301 : 0 ≤ (x26_2 : Int) := dT; have q301 : x26_2 < (l2.length : Int) := dT; obtain ⟨ad301, e301, hx301_0⟩ := Kd.at_int HR2.out x26_2 p301 q301; obtain rfl : ad300 = ad301 := (by injection e301); replace hx301_0 := xC HB hx301_0; replace p301 := eq_true p301; replace q301 := eq_true q301))
         go_meet
         case rel => exact ⟨_, (decide ((rd l2 x26_2) > 1099511627776)), sI, H', ⟨by have := HJ3.out; have := HK2.out; first | omega | exact Nat.le_refl _⟩, ⟨mS HO_297000⟩, ⟨mB BK290⟩, ⟨mB BK291⟩, ⟨mB BK296⟩, ⟨mB BK298⟩, ⟨mH HB⟩⟩
        ·
         replace c32 := Bool.eq_false_iff.mpr c32; subst c32
         have H1 : (none) = some (r1, r2) := by rw [if_neg (show ¬ (false = true) by decide)] at H; exact H
         clear H; have H := H1; clear H1; exact absurd H (by simp)
       case rest =>
        clear HC25
        (try clear c1); (try clear c2); (try clear c12); (try clear c22); (try clear c22b0); (try clear c23); (try clear c23b0); (try clear c24); (try clear c24b0); (try clear hcz15_0); (try clear hcz21_0); (try clear hcz30_0); (try clear hcz30_1); (try clear hcz30_2); (try clear hcz30_3); (try clear hcz30_4); (try clear hcz30_5); (try clear hfz15_0); (try clear hfz21_0); (try clear hfz30_0); (try clear hfz30_1); (try clear hfz30_2); (try clear hfz30_3); (try clear hfz30_4); (try clear hfz30_5); (try clear hx297_0); (try clear hx297_1); (try clear hx297_2); (try clear hx297_3); (try clear hx297_4); (try clear hx297_5); (try clear p297); (try clear q297)
        obtain ⟨kq, x59_24, rfl, HA, HJ24, HO_297000, BK290, BK291, BK296, BK298, HB⟩ := hcut
        cases kq with
        | zero => exact absurd HA.out (by simp [file_Done.j2])
        | succ kj24 =>
         have H := HA.out; clear HA; simp only [file_Done.j2] at H
         by_cases c46 : x59_24 = true
         ·
          subst c46
          have H1 : (none) = some (r1, r2) := by rw [if_pos rfl] at H; exact H
          clear H; have H := H1; clear H1; exact absurd H (by simp)
         ·
          replace c46 := Bool.eq_false_iff.mpr c46; subst c46
          have H1 : (if 0 ≤ ((rd_T60 l1 x26_2).f0) then (if ((rd_T60 l1 x26_2).f0) < (x297000_2.length : Int) then (if 0 ≤ x26_2 then (if x26_2 < (l2.length : Int) then (if 0 ≤ ((rd_T60 l1 x26_2).f1) then (if ((rd_T60 l1 x26_2).f1) < (((rd_T28 x297000_2 ((rd_T60 l1 x26_2).f0)).f3).length : Int) then (file_Done.l0 kj24 l2 l1 (l1.length : Int) (wrap64 (x26_2 + 1)) l0_0 (x297000_2.set (((rd_T60 l1 x26_2).f0) : Int).toNat (⟨(rd_T28 x297000_2 ((rd_T60 l1 x26_2).f0)).f0, (rd_T28 x297000_2 ((rd_T60 l1 x26_2).f0)).f1, (rd_T28 x297000_2 ((rd_T60 l1 x26_2).f0)).f2, (((rd_T28 x297000_2 ((rd_T60 l1 x26_2).f0)).f3).set (((rd_T60 l1 x26_2).f1) : Int).toNat (rd l2 x26_2)), (rd_T28 x297000_2 ((rd_T60 l1 x26_2).f0)).f4⟩ : S28))) else (none)) else (none)) else (none)) else (none)) else (none)) else (none)) = some (r1, r2) := by rw [if_neg (show ¬ (false = true) by decide)] at H; exact H
          clear H; have H := H1; clear H1
          replace H := nP H; obtain ⟨c47, H⟩ := H; have c47b0 := decide_eq_true c47; clear c47
          replace H := nP H; obtain ⟨c48, H⟩ := H; have c48b0 := decide_eq_true c48; clear c48
          replace H := nP H; obtain ⟨c49, H⟩ := H; have c49b0 := decide_eq_true c49; clear c49
          replace H := nP H; obtain ⟨c50, H⟩ := H; have c50b0 := decide_eq_true c50; clear c50
          replace H := nP H; obtain ⟨c51, H⟩ := H; have c51b0 := decide_eq_true c51; clear c51
          replace H := nP H; obtain ⟨c52, H⟩ := H; have c52b0 := decide_eq_true c52; clear c52; obtain ⟨y304, hy304⟩ : ∃ y_ : List Int, y_ = (((rd_T28 x297000_2 ((rd_T60 l1 x26_2).f0)).f3).set (((rd_T60 l1 x26_2).f1) : Int).toNat (rd l2 x26_2)) := ⟨_, rfl⟩
          replace H : (file_Done.l0 kj24 l2 l1 (l1.length : Int) (wrap64 (x26_2 + 1)) l0_0 (x297000_2.set (((rd_T60 l1 x26_2).f0) : Int).toNat (⟨(rd_T28 x297000_2 ((rd_T60 l1 x26_2).f0)).f0, (rd_T28 x297000_2 ((rd_T60 l1 x26_2).f0)).f1, (rd_T28 x297000_2 ((rd_T60 l1 x26_2).f0)).f2, y304, (rd_T28 x297000_2 ((rd_T60 l1 x26_2).f0)).f4⟩ : S28))) = some (r1, r2) := rH H hy304
          have Ny304 := Aside0.mk hy304; clear hy304; obtain ⟨y306, hy306⟩ : ∃ y_ : List (S28), y_ = (x297000_2.set (((rd_T60 l1 x26_2).f0) : Int).toNat (⟨(rd_T28 x297000_2 ((rd_T60 l1 x26_2).f0)).f0, (rd_T28 x297000_2 ((rd_T60 l1 x26_2).f0)).f1, (rd_T28 x297000_2 ((rd_T60 l1 x26_2).f0)).f2, y304, (rd_T28 x297000_2 ((rd_T60 l1 x26_2).f0)).f4⟩ : S28)) := ⟨_, rfl⟩
          replace H : (file_Done.l0 kj24 l2 l1 (l1.length : Int) (wrap64 (x26_2 + 1)) l0_0 y306) = some (r1, r2) := rH H hy306
          have Ny306 := Aside0.mk hy306; clear hy306; have H' := Aside0.mk H; clear H
          try go_wp2
          replace HO_297000 := Aside0.mk (Kd.S_drew HO_297000.out); replace BK290 := Aside0.mk (bD BK290.out); replace BK291 := Aside0.mk (bD BK291.out); replace BK296 := Aside0.mk (bD BK296.out); replace BK298 := Aside0.mk (bD BK298.out); replace HB := Aside0.mk (wD HB.out); obtain ⟨Ao55, co55, eo55⟩ := Kd.S_slice HO_297000.out
          (first | subst eo55 | (injection eo55 with f1_ f2_ f3_; have f4_ := f1_.symm; have f5_ := f3_.symm; clear f1_ f2_ f3_; subst f4_; subst f5_))
          have p302 : 0 ≤ (((rd_T60 l1 x26_2).f0) : Int) := dT; have q302 : ((rd_T60 l1 x26_2).f0) < (x297000_2.length : Int) := dT; obtain ⟨ad302, A302_3, c302_3, A302_4, c302_4, e302, hx302_0, hx302_1, hx302_2, hx302_3, hx302_4, hl302_3, hi302_3, hl302_4, hi302_4⟩ := at_T28 (Kd.S_reads' HO_297000.out).2.2 ((rd_T60 l1 x26_2).f0) p302 q302
          cases e302
          obtain ⟨ce302, hce302, hMe302, hcc302⟩ := Kd.S_get HO_297000.out z28 ((rd_T60 l1 x26_2).f0) p302 (by first | exact q302 | exact dT | (have e_ := (Kd.S_reads' HO_297000.out).1; omega))
          obtain ⟨ve302_3, ve302_4, rfl, ge302_3, ge302_4⟩ := k28_openM hMe302; have hv302_3 := hcc302 3 _ rfl; rw [add_field _ _ 3 (by omega)] at hv302_3; replace hv302_3 := Option.some.inj (hv302_3.symm.trans hx302_3); rw [hv302_3] at ge302_3; have HL302_3 := Aside0.mk (show Kd.R (Kd.int .i64) 3 _ _ _ _ ((rd_T28 x297000_2 ((rd_T60 l1 x26_2).f0)).f3) from ge302_3); clear hv302_3 ge302_3; have HX302_3 := Aside0.mk hx302_3; have hv302_4 := hcc302 4 _ rfl; rw [add_field _ _ 4 (by omega)] at hv302_4; replace hv302_4 := Option.some.inj (hv302_4.symm.trans hx302_4); rw [hv302_4] at ge302_4; have HL302_4 := Aside0.mk (show Kd.R k78 78 _ _ _ _ ((rd_T28 x297000_2 ((rd_T60 l1 x26_2).f0)).f4) from ge302_4); clear hv302_4 ge302_4; have HX302_4 := Aside0.mk hx302_4; clear hcc302 hce302; have HR302_3 := Aside0.mk hi302_3; have HC302_3 := Aside0.mk hl302_3; clear hi302_3 hl302_3; have HR302_4 := Aside0.mk hi302_4; have HC302_4 := Aside0.mk hl302_4; clear hi302_4 hl302_4; replace p302 := eq_true p302; replace q302 := eq_true q302; have p303 : 0 ≤ (x26_2 : Int) := dT; have q303 : x26_2 < (l2.length : Int) := dT; obtain ⟨ad303, e303, hx303_0⟩ := Kd.at_int HR2.out x26_2 p303 q303; have hw303_0 := hx303_0
          cases e303
          replace hx303_0 := xC HB hx303_0; replace p303 := eq_true p303; replace q303 := eq_true q303; have p53 : 0 ≤ (((rd_T60 l1 x26_2).f1) : Int) := dT; have q53 : (((rd_T60 l1 x26_2).f1) : Int) < ((((rd_T28 x297000_2 ((rd_T60 l1 x26_2).f0)).f3).length : Int) : Int) := dT; obtain ⟨go53, co53, eo53, gb53, gl53, cl53, HG53⟩ := Kd.R_form HL302_3.out (by omega)
          (first | cases eo53 | (injection eo53 with ea_ en_ ec_; (first | subst ea_ | (injection ea_ with ea_; subst ea_)); subst ec_; clear en_))
          have GB53 := Aside0.mk gb53; have GG53 := Aside0.mk HG53; clear gb53 gl53 HG53; obtain ⟨hx53_0, hf53_0⟩ := Kd.R_celln 0 HL302_3.out (((rd_T60 l1 x26_2).f1) : Int) p53 q53; replace p53 := eq_true p53; replace q53 := eq_true q53; have hq56 : (((rd_T60 l1 x26_2).f0) : Int) < (x297000_2.length : Int) := (by have h_ : (((rd_T60 l1 x26_2).f0) : Int) < ((x297000_2.length : Int) : Int) := dT; first | exact h_ | (have e_ := (Kd.S_reads' HO_297000.out).1; omega) | simpa only [List.length_set, List.length_set] using h_)
          obtain ⟨oki56, ce56, hcl56, hM56, hcc56, hok56, hbk56⟩ := Kd.S_borrow HO_297000.out z28 (((rd_T60 l1 x26_2).f0) : Int) (dT) hq56; obtain ⟨ve56_3, ve56_4, rfl, ge56_3, ge56_4⟩ := k28_openM hM56; have hv56 := hcc56 3 _ rfl; rw [add_field _ _ 3 (by omega)] at hv56; replace hv56 := Option.some.inj (hv56.symm.trans HX302_3.out); subst hv56; clear hcc56 hcl56; replace ge56_3 := (show Kd.R (Kd.int .i64) 3 _ _ _ _ ((rd_T28 x297000_2 ((rd_T60 l1 x26_2).f0)).f3) from ge56_3); have HP56 := Kd.R_putg ge56_3 (((rd_T60 l1 x26_2).f1) : Int) (rd l2 x26_2); rw [← Ny304.out] at HP56; have HS56 := hbk56 HP56.2 (fun k_ e_ => by injection e_ with e_; subst e_; exact ge56_3.1 _ rfl) (x' := (⟨(rd_T28 x297000_2 ((rd_T60 l1 x26_2).f0)).f0, (rd_T28 x297000_2 ((rd_T60 l1 x26_2).f0)).f1, (rd_T28 x297000_2 ((rd_T60 l1 x26_2).f0)).f2, y304, (rd_T28 x297000_2 ((rd_T60 l1 x26_2).f0)).f4⟩ : S28)) (k28_mkM _ _ _ (⟨(rd_T28 x297000_2 ((rd_T60 l1 x26_2).f0)).f0, (rd_T28 x297000_2 ((rd_T60 l1 x26_2).f0)).f1, (rd_T28 x297000_2 ((rd_T60 l1 x26_2).f0)).f2, y304, (rd_T28 x297000_2 ((rd_T60 l1 x26_2).f0)).f4⟩ : S28) HP56.1 (Kd.R_over' (v := (.slice (some ⟨go53, 0, none⟩) ((rd_T28 x297000_2 ((rd_T60 l1 x26_2).f0)).f3).length c302_3)) ge56_4 (Kd.R_typed ge56_3) (by decide) HP56.2))
          rw [← Ny306.out] at HS56; have HQ56 := Aside0.mk HS56; clear HP56 HS56 hbk56 hok56; refine start_ (n := 15) (S := fun w' => w'.cell? ⟨gb296, 0, none⟩ = some (.slice (some ad302) x297000_2.length co55) ∧ w'.cell? ⟨gb298, 0, none⟩ = some (.int .i64 ((rd_T60 l1 x26_2).f0)) ∧ w'.cell? ⟨gb298, 1, none⟩ = some (.int .i64 ((rd_T60 l1 x26_2).f1)) ∧ w'.cell? ⟨gb298, 2, none⟩ = some (.int .i64 ((rd_T60 l1 x26_2).f2)) ∧ w'.cell? ⟨gb298, 3, none⟩ = some (.int .i64 ((rd_T60 l1 x26_2).f3)) ∧ w'.cell? ⟨gb298, 4, none⟩ = some (.int .i64 ((rd_T60 l1 x26_2).f4)) ∧ w'.cell? ⟨gb298, 5, none⟩ = some (.slice A297_5 ((rd_T60 l1 x26_2).f5).length c297_5) ∧ w'.cell? (ad302.add ((((rd_T60 l1 x26_2).f0)).toNat * 5)) = some (.int .i64 ((rd_T28 x297000_2 ((rd_T60 l1 x26_2).f0)).f0)) ∧ w'.cell? ⟨(ad302.add ((((rd_T60 l1 x26_2).f0)).toNat * 5)).block, (ad302.add ((((rd_T60 l1 x26_2).f0)).toNat * 5)).off + 1, none⟩ = some (.int .i64 ((rd_T28 x297000_2 ((rd_T60 l1 x26_2).f0)).f1)) ∧ w'.cell? ⟨(ad302.add ((((rd_T60 l1 x26_2).f0)).toNat * 5)).block, (ad302.add ((((rd_T60 l1 x26_2).f0)).toNat * 5)).off + 2, none⟩ = some (.int .i64 ((rd_T28 x297000_2 ((rd_T60 l1 x26_2).f0)).f2)) ∧ w'.cell? ⟨(ad302.add ((((rd_T60 l1 x26_2).f0)).toNat * 5)).block, (ad302.add ((((rd_T60 l1 x26_2).f0)).toNat * 5)).off + 3, none⟩ = some (.slice (some ⟨go53, 0, none⟩) ((rd_T28 x297000_2 ((rd_T60 l1 x26_2).f0)).f3).length c302_3) ∧ w'.cell? ⟨(ad302.add ((((rd_T60 l1 x26_2).f0)).toNat * 5)).block, (ad302.add ((((rd_T60 l1 x26_2).f0)).toNat * 5)).off + 4, none⟩ = some (.slice A302_4 ((rd_T28 x297000_2 ((rd_T60 l1 x26_2).f0)).f4).length c302_4) ∧ w'.cell? (ad303.add (x26_2).toNat) = some (.int .i64 (rd l2 x26_2))) (ds := [14]) B24_0 (by kernel_rfl) rfl rfl ⟨(bC BK296.out 0).trans rfl, (bC BK298.out 0).trans rfl, (bC BK298.out 1).trans rfl, (bC BK298.out 2).trans rfl, (bC BK298.out 3).trans rfl, (bC BK298.out 4).trans rfl, (bC BK298.out 5).trans rfl, hx302_0, hx302_1, hx302_2, hx302_3, hx302_4, (xC HB hw303_0)⟩ (fun hHeld => ?_); refine with_tabW file_Done.tab9 file_Done.bits9 (fun HT_ HW_ => ?_); generalize wc.drew = w54 at HO_297000 BK290 BK291 BK296 BK298 HB GG53 HL302_3 HL302_4 HQ56 HR302_3 HR302_4 HX302_3 HX302_4 hf53_0 hx302_0 hx302_1 hx302_2 hx302_3 hx302_4 hx303_0 hx53_0 hHeld ⊢; refine pure_ (i := 0) (N := some 61) (v := ?_) (a' := ?_) B24_1 rfl rfl (any_of HT_.out (by kernel_rfl)) (fun _ _ _ h => h) (Or.inl ⟨by rfl, ?_⟩) ?_ ?_; rotate_left
          ·
           intro w'; go_simp; with_reducible rfl
          rotate_left
          ·
           simp only [Act.put, lT, l0_, lS, i64_w, i32_w]; rfl
          refine pureE 2 (some 63) B24_2 (any_of HT_.out (by kernel_rfl)) ?_
          refine pureE 7 (some 68) B24_3 (any_of HT_.out (by kernel_rfl)) ?_
          refine pureE 9 (some 70) B24_4 (any_of HT_.out (by kernel_rfl)) ?_
          refine pureE 10 (some 71) B24_5 (any_of HT_.out (by kernel_rfl)) ?_
          refine pureE 11 (some 72) B24_6 (any_of HT_.out (by kernel_rfl)) ?_
          refine take_ (i := 1) (N := some 62) (v := ?_) (a' := ?_) B24_7 rfl rfl (take_ofW HT_.out HW_.out (by kernel_rfl)) (fun _ _ _ h => h) (Or.inl ⟨by rfl, ?_⟩) hHeld ?_ ?_; rotate_left
          ·
           rintro w' ⟨s0, s1, s2, s3, s4, s5, s6, s7, s8, s9, s10, s11, s12⟩; go_simp; with_reducible rfl
          rotate_left
          ·
           simp only [Act.put, lT, l0_, lS, i64_w, i32_w]; rfl
          refine take_ (i := 3) (N := some 64) (v := ?_) (a' := ?_) B24_8 rfl rfl (take_ofW HT_.out HW_.out (by kernel_rfl)) (fun _ _ _ h => h) (Or.inl ⟨by rfl, ?_⟩) hHeld ?_ ?_; rotate_left
          ·
           rintro w' ⟨s0, s1, s2, s3, s4, s5, s6, s7, s8, s9, s10, s11, s12⟩; go_simp; with_reducible rfl
          rotate_left
          ·
           simp only [Act.put, lT, l0_, lS, i64_w, i32_w]; rfl
          refine pureE 4 (some 65) B24_9 (any_of HT_.out (by kernel_rfl)) ?_
          refine pureE 5 (some 66) B24_10 (any_of HT_.out (by kernel_rfl)) ?_
          refine take_ (i := 6) (N := some 67) (v := ?_) (a' := ?_) B24_11 rfl rfl (take_ofW HT_.out HW_.out (by kernel_rfl)) (fun _ _ _ h => h) (Or.inl ⟨by rfl, ?_⟩) hHeld ?_ ?_; rotate_left
          ·
           rintro w' ⟨s0, s1, s2, s3, s4, s5, s6, s7, s8, s9, s10, s11, s12⟩; go_simp; with_reducible rfl
          rotate_left
          ·
           simp only [Act.put, lT, l0_, lS, i64_w, i32_w]; rfl
          refine take_ (i := 8) (N := some 69) (v := ?_) (a' := ?_) B24_12 rfl rfl (take_ofW HT_.out HW_.out (by kernel_rfl)) (fun _ _ _ h => h) (Or.inl ⟨by rfl, ?_⟩) hHeld ?_ ?_; rotate_left
          ·
           rintro w' ⟨s0, s1, s2, s3, s4, s5, s6, s7, s8, s9, s10, s11, s12⟩; go_simp; with_reducible rfl
          rotate_left
          ·
           simp only [Act.put, lT, l0_, lS, i64_w, i32_w]; rfl
          refine take_ (i := 12) (N := some 73) (v := ?_) (a' := ?_) B24_13 rfl rfl (take_ofW HT_.out HW_.out (by kernel_rfl)) (fun _ _ _ h => h) (Or.inl ⟨by rfl, ?_⟩) hHeld ?_ ?_; rotate_left
          ·
           rintro w' ⟨s0, s1, s2, s3, s4, s5, s6, s7, s8, s9, s10, s11, s12⟩; go_simp; with_reducible rfl
          rotate_left
          ·
           simp only [Act.put, lT, l0_, lS, i64_w, i32_w]; rfl
          refine pureE 13 (some 74) B24_14 (any_of HT_.out (by kernel_rfl)) ?_
          refine last_ (i := 14) (N := none) B24_15 rfl rfl (one_of HT_.out (by kernel_rfl)) (by decide) (fun K hK => ?_); refine skip_ (w1 := ?_) (by rfl) rfl ?_ ?_; rotate_left
          ·
           go_simp; rfl
          refine hK.out _ _ ?_; clear hK K; refine done_ (done_of HT_.out (by kernel_rfl)) ?_
          try go_wp2
          go_roundg kj24
          case measure => have := HJ3.out; have := HK2.out; have := HJ24.out; omega
          case rel => exact ⟨(wrap64 (x26_2 + 1)), (y306), (.slice (some ad302) x297000_2.length co55), sI, H', ⟨by have := HJ3.out; have := HK2.out; have := HJ24.out; omega⟩, ⟨mS HQ56⟩, ⟨by (with_reducible repeat (first | refine bN ?_ _ | refine bD ?_ | refine bA ?_ _)); refine bF ?_ (by have h_ := Kd.R_ne HL302_3.out BK290.out (by decide); intro e_; exact h_ (by rw [e_]; rfl)) _; (with_reducible repeat (first | refine bN ?_ _ | refine bD ?_ | refine bA ?_ _)); exact BK290.out⟩, ⟨by (with_reducible repeat (first | refine bN ?_ _ | refine bD ?_ | refine bA ?_ _)); refine bF ?_ (by have h_ := Kd.R_ne HL302_3.out BK291.out (by decide); intro e_; exact h_ (by rw [e_]; rfl)) _; (with_reducible repeat (first | refine bN ?_ _ | refine bD ?_ | refine bA ?_ _)); exact BK291.out⟩, ⟨by (with_reducible repeat (first | refine bN ?_ _ | refine bD ?_ | refine bA ?_ _)); refine bF ?_ (by have h_ := Kd.R_ne HL302_3.out BK296.out (by decide); intro e_; exact h_ (by rw [e_]; rfl)) _; (with_reducible repeat (first | refine bN ?_ _ | refine bD ?_ | refine bA ?_ _)); exact BK296.out⟩, ⟨mH HB⟩⟩
      ·
       rw [if_neg c22] at H; have c22b0 := decide_eq_false c22; clear c22; replace H := Option.bind_eq_some_iff.mp H; obtain ⟨t307, A580, H⟩ := H; have A58 := Aside0.mk A580; clear A580
       by_cases c59 : t307 = true
       ·
        subst c59
        have H1 : (some (x297000_2, 0)) = some (r1, r2) := by rw [if_pos rfl] at H; exact H
        clear H; have H := H1; clear H1; simp only [Option.some.injEq, Prod.mk.injEq] at H; obtain ⟨rfl, rfl⟩ := H; have hnb60 := NB296_290.out; have hnc60 := NB290_296.out; have hnb61 := NB296_291.out; have hnc61 := NB291_296.out; obtain ⟨hcz62_0, hfz62_0⟩ := cY0 BK296; obtain ⟨Ao63, co63, eo63⟩ := Kd.S_slice HO_297000.out; subst eo63
        go_wp2_with (first | ((with_reducible refine gate_callee (f := 55) rfl ?_); refine goesK (some 77) Try.func55 #[.agg #[.slice Ao63 x297000_2.length co63]] ?_; (with_reducible refine (dir_May.calls k2 _ _ x297000_2 true _ ?side1 ?side2 A58.out).mono ?_); (case side1 => repeat (first | exact (Kd.S_reads' HO_297000.out).2.2 | (with_reducible refine Kd.C_alloc ?_ _) | (with_reducible refine Kd.C_drewN ?_ _) | (with_reducible refine Kd.C_drew ?_))); (case side2 => exact (Kd.S_reads' HO_297000.out).2.1); rintro e w64 ⟨rfl, hb⟩; refine ⟨_, rfl, ?_⟩; replace HO_297000 := kS HO_297000 hb; replace BK290 := kB BK290 hb; replace BK291 := kB BK291 hb; replace BK296 := kB BK296 hb; replace HB := kH HB hb; (try clear hb); (try clear hk); obtain ⟨hcz65_0, hfz65_0⟩ := cY0 BK296; have hnb66 := NB291_290.out; have hnc66 := NB290_291.out; obtain ⟨hcz67_0, hfz67_0⟩ := cY0 BK291))
        refine bodyPost_ret (results_ct rfl _ _ gb291 24 #[.slice Ao63 x297000_2.length co63] (0, 0) _ rfl (pP BK291) Try.underlying24 rfl (by kernel_rfl)) rfl ?_
        exact ⟨_, rT, fS ⟨Kd.S_types HO_297000.out BK291.out (by decide)⟩, mH HB⟩
       ·
        replace c59 := Bool.eq_false_iff.mpr c59; subst c59
        have H1 : (none) = some (r1, r2) := by rw [if_neg (show ¬ (false = true) by decide)] at H; exact H
        clear H; have H := H1; clear H1; exact absurd H (by simp)
end Go.Proofs.Ytkigiehkckjlhaa.PGrows
