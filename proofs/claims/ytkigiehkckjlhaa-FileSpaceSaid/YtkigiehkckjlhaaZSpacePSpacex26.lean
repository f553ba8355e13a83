/- The Go functions that these laws reach, each as a Lean function with the same answers (a law itself where it answers true), and the proof that the code comes to them; conditions: those of each theorem. Laid by a program of this session over the print. -/
import Derived.Test.YtkigiehkckjlhaaZSpacePSpaceShort
import Derived.Test.YtkigiehkckjlhaaZSpacePSpacex0
import Derived.Test.YtkigiehkckjlhaaZSpacePSpacex21
import Derived.Test.YtkigiehkckjlhaaZSpacePSpacex23
namespace Go.Proofs.Ytkigiehkckjlhaa.PSpace
open Go.RowKit Go.Proofs.YtkigiehkckjlhaaW.PrintWords Go.Proofs.YtkigiehkckjlhaaW.PrintLast Go.Proofs.YtkigiehkckjlhaaW.PrintMore
attribute [local go_sem] max2_int min2_int max_two min_two max_three min_three max_four min_four   -- for this text's walks alone
set_option linter.unusedVariables false
set_option linter.unusedSimpArgs false
open Go.Proofs.YtkigiehkckjlhaaW.PrintWords renaming blk_drewN → bN, blk_drew → bD, blk_alloc → bA, below_set → wS, below_alloc → wA, pw_below_drewN → wN, below_drew1 → wD, blk_below → bB, blk_far → bF, blk_cell → bC, blk_frozen → bZ
open List renaming setIfInBounds_toArray → lT, set_cons_zero → l0_, set_cons_succ → lS
abbrev B26_0 : Array Bool := #[false, false, false, false, false, false, false, false, false, false, false, false, false, false, false]
abbrev B26_1 : Array Bool := B26_0.set! 0 true
abbrev B26_2 : Array Bool := B26_1.set! 2 true
abbrev B26_3 : Array Bool := B26_2.set! 7 true
abbrev B26_4 : Array Bool := B26_3.set! 9 true
abbrev B26_5 : Array Bool := B26_4.set! 10 true
abbrev B26_6 : Array Bool := B26_5.set! 11 true
abbrev B26_7 : Array Bool := B26_6.set! 1 true
abbrev B26_8 : Array Bool := B26_7.set! 3 true
abbrev B26_9 : Array Bool := B26_8.set! 4 true
abbrev B26_10 : Array Bool := B26_9.set! 5 true
abbrev B26_11 : Array Bool := B26_10.set! 6 true
abbrev B26_12 : Array Bool := B26_11.set! 8 true
abbrev B26_13 : Array Bool := B26_12.set! 12 true
abbrev B26_14 : Array Bool := B26_13.set! 13 true
abbrev B26_15 : Array Bool := B26_14.set! 14 true
mutual
def file_Done.j0 : Nat → List (S60) → List Int → Bool → List (S28) → Option ((List (S28)) × Int)
 | 0, _, _, _, _ => none
 | k + 1, x1, x2, x20, x315000 => if x20 = true then (none) else ((dir_Copy.f k x315000).bind fun t317 => (file_Done.l0 k x2 x1 (x1.length : Int) 0 x315000 t317))
def file_Done.l0 : Nat → List Int → List (S60) → Int → Int → List (S28) → List (S28) → Option ((List (S28)) × Int)
 | 0, _, _, _, _, _, _ => none
 | k + 1, x2, x24, x25, x26, x315000, x321000 => if x26 < x25 then (if 0 ≤ x26 then (if x26 < (x24.length : Int) then ((file_is.f k x315000 ((rd_T60 x24 x26).f0)).bind fun t323 => (if t323 = true then (if ((rd_T60 x24 x26).f1) < 0 then (none) else (if ((rd_T60 x24 x26).f1) ≥ 5 then (none) else (if x26 < (x2.length : Int) then (if (rd x2 x26) < 1 then (none) else (file_Done.j2 k x2 x26 x24 x25 x26 (decide ((rd x2 x26) > 1099511627776)) x315000 x321000 ((rd_T60 x24 x26).f0) ((rd_T60 x24 x26).f1) ((rd_T60 x24 x26).f2) ((rd_T60 x24 x26).f3) ((rd_T60 x24 x26).f4) ((rd_T60 x24 x26).f5))) else (none)))) else (none))) else (none)) else (none)) else ((dir_May.f k x321000).bind fun t331 => (if t331 = true then (some (x321000, 0)) else (some (([] : List (S28)), 18))))
def file_Done.j2 : Nat → List Int → Int → List (S60) → Int → Int → Bool → List (S28) → List (S28) → Int → Int → Int → Int → Int → List Int → Option ((List (S28)) × Int)
 | 0, _, _, _, _, _, _, _, _, _, _, _, _, _, _ => none
 | k + 1, x2, x9, x24, x25, x26, x59, x315000, x321000, x323000, x323001, x323002, x323003, x323004, x323005 => if x59 = true then (none) else (if 0 ≤ x323000 then (if x323000 < (x321000.length : Int) then (if 0 ≤ x9 then (if x9 < (x2.length : Int) then (if 0 ≤ x323001 then (if x323001 < (((rd_T28 x321000 x323000).f3).length : Int) then (file_Done.l0 k x2 x24 x25 (wrap64 (x26 + 1)) x315000 (x321000.set (x323000 : Int).toNat (⟨(rd_T28 x321000 x323000).f0, (rd_T28 x321000 x323000).f1, (rd_T28 x321000 x323000).f2, (((rd_T28 x321000 x323000).f3).set (x323001 : Int).toNat (rd x2 x9)), (rd_T28 x321000 x323000).f4⟩ : S28))) else (none)) else (none)) else (none)) else (none)) else (none)) else (none))
end
def file_Done.f (k : Nat) (l0_0 : List (S28)) (l1 : List (S60)) (l2 : List Int) : Option ((List (S28)) × Int) := (dir_May.f k l0_0).bind fun t316 => (if t316 = true then (file_Done.j0 k l1 l2 ((l1.length : Int) != (l2.length : Int)) l0_0) else (none))
theorem file_Done.mono_l : ∀ k, (∀ y0 y1 y2 y3, LeO (file_Done.j0 k y0 y1 y2 y3) (file_Done.j0 (k + 1) y0 y1 y2 y3)) ∧ (∀ y0 y1 y2 y3 y4 y5, LeO (file_Done.l0 k y0 y1 y2 y3 y4 y5) (file_Done.l0 (k + 1) y0 y1 y2 y3 y4 y5)) ∧ (∀ y0 y1 y2 y3 y4 y5 y6 y7 y8 y9 y10 y11 y12 y13, LeO (file_Done.j2 k y0 y1 y2 y3 y4 y5 y6 y7 y8 y9 y10 y11 y12 y13) (file_Done.j2 (k + 1) y0 y1 y2 y3 y4 y5 y6 y7 y8 y9 y10 y11 y12 y13))
 | 0 => ⟨fun _ _ _ _ r h => by simp [file_Done.j0] at h, fun _ _ _ _ _ _ r h => by simp [file_Done.l0] at h, fun _ _ _ _ _ _ _ _ _ _ _ _ _ _ r h => by simp [file_Done.j2] at h⟩
 | k + 1 => by
  obtain ⟨ih0, ih1, ih2⟩ := file_Done.mono_l k; refine ⟨?_, ?_, ?_⟩
  ·
   intro y0 y1 y2 y3
   unfold file_Done.j0
   repeat' with_reducible first | apply ih0 | apply ih1 | apply ih2 | apply dir_Copy.mono | apply dir_May.mono | apply file_is.mono | exact LeO.refl _ | exact LeO.none _ | refine LeO.ite ?_ ?_ | refine LeO.bind ?_ (fun _ => ?_)
  ·
   intro y0 y1 y2 y3 y4 y5
   unfold file_Done.l0
   repeat' with_reducible first | apply ih0 | apply ih1 | apply ih2 | apply dir_Copy.mono | apply dir_May.mono | apply file_is.mono | exact LeO.refl _ | exact LeO.none _ | refine LeO.ite ?_ ?_ | refine LeO.bind ?_ (fun _ => ?_)
  ·
   intro y0 y1 y2 y3 y4 y5 y6 y7 y8 y9 y10 y11 y12 y13
   unfold file_Done.j2
   repeat' with_reducible first | apply ih0 | apply ih1 | apply ih2 | apply dir_Copy.mono | apply dir_May.mono | apply file_is.mono | exact LeO.refl _ | exact LeO.none _ | refine LeO.ite ?_ ?_ | refine LeO.bind ?_ (fun _ => ?_)
theorem file_Done.mono : ∀ a0 a1 a2 k, LeO (file_Done.f k a0 a1 a2) (file_Done.f (k + 1) a0 a1 a2) := by
 intro a0 a1 a2 k; obtain ⟨ih0, ih1, ih2⟩ := file_Done.mono_l k
 unfold file_Done.f
 repeat' with_reducible first | apply ih0 | apply ih1 | apply ih2 | apply dir_Copy.mono | apply dir_May.mono | apply file_is.mono | exact LeO.refl _ | exact LeO.none _ | refine LeO.ite ?_ ?_ | refine LeO.bind ?_ (fun _ => ?_)
def file_Done.T9 : Bool × List (List Nat × List Nat) := (true, [([], []), ([0], [0]), ([], []), ([2], [2]), ([1, 3], [1, 3]), ([4], [4]), ([5], [5]), ([], []), ([7], [7]), ([], []), ([], []), ([9, 10], [9, 10]), ([11], [11]), ([6, 8, 0, 1, 2, 3, 4, 5, 6, 7, 8, 9, 10, 11, 12], [6, 8]), ([13, 12, 0, 1, 2, 3, 4, 5, 6, 7, 8, 9, 10, 11, 12], [12, 13])])
def file_Done.B9 : List Nat := [0, 1, 0, 4, 15, 31, 63, 0, 128, 0, 0, 1536, 3584, 8191, 16383]
theorem file_Done.tab9 : rtab .any (opsOf Try.f36 9) = file_Done.T9 := by kernel_rfl
theorem file_Done.bits9 : waitsOk file_Done.T9.2 file_Done.B9 = true := by kernel_rfl
set_option maxHeartbeats 8000000 in
set_option maxRecDepth 100000 in
theorem file_Done.calls (k : Nat) (A0_0 : Option Addr) (c0_0 : Nat) (l0_0 : List (S28)) (A1 : Option Addr) (c1 : Nat) (l1 : List (S60)) (A2 : Option Addr) (c2 : Nat) (l2 : List Int) (r1 : List (S28)) (r2 : Int) (w : World) (hr0_0 : Kd.C k28 w A0_0 l0_0.length l0_0) (hc0_0 : l0_0.length ≤ c0_0) (hr1 : Kd.C k60 w A1 l1.length l1) (hc1 : l1.length ≤ c1) (hr2 : Kd.C (Kd.int .i64) w A2 l2.length l2) (hc2 : l2.length ≤ c2) (h : file_Done.f k l0_0 l1 l2 = some (r1, r2)) :
 Calls Try.prog 36 #[.agg #[.slice A0_0 l0_0.length c0_0], .slice A1 l1.length c1, .slice A2 l2.length c2] w fun e w' => ∃ v0_ : Value, e = .returned (.tuple #[.agg #[v0_], .int .i64 r2]) ∧ Kd.S k28 28 w' w.heap.size (fun _ => True) v0_ r1 ∧ Below w.heap.size w w' := by
 have hu24 := Try.underlying24; have hu60 := Try.underlying60; have HR0_0 := Aside0.mk hr0_0; have HC0_0 := Aside0.mk hc0_0; clear hr0_0 hc0_0; have HR1 := Aside0.mk hr1; have HC1 := Aside0.mk hc1; clear hr1 hc1; have HR2 := Aside0.mk hr2; have HC2 := Aside0.mk hc2; clear hr2 hc2; have HB := Aside0.mk (Below.refl w.heap.size w); have H : ((dir_May.f k l0_0).bind fun t316 => (if t316 = true then (file_Done.j0 k l1 l2 ((l1.length : Int) != (l2.length : Int)) l0_0) else (none))) = some (r1, r2) := h; clear h; have HC4 := Aside0.mk H; clear H
 go_enter Try.func36, Try.ntmps36
 go_upto_region 1 with (first | ((with_reducible refine gate_dst (N := 3) rfl ?_); (try (refine gate_guard (by rfl) ?_; dsimp only)); refine bxE 24 (cs := #[.slice A0_0 l0_0.length c0_0]) ?_; intro gb314 hg w5 hbox hb; have BK314 := Aside0.mk hbox; have GW314 := kG HB hg; have GE314 := kG HB hg; replace HB := kH HB hb; clear hb hbox hg) | ((with_reducible refine gate_dst (N := 6) rfl ?_); (try (refine gate_guard (by rfl) ?_; dsimp only)); refine bxE 24 (cs := #[.slice none 0 0]) ?_; intro gb315 hg w6 hbox hb; have BK315 := Aside0.mk hbox; have GW315 := kG HB hg; have GE315 := kG HB hg; replace HB := kH HB hb; have NB314_315 := kL BK314 hg; have NB315_314 := kQ BK314 hg; replace BK314 := kB BK314 hb; clear hb hbox hg))
 (try simp only [Act.put, lT, l0_, lS])
 go_cut [20] (fun v20 wc => ∃ (kq : Nat) (x20_3 : Bool), v20 = .bool x20_3 ∧ Aside0 (file_Done.j0 kq l1 l2 x20_3 l0_0 = some (r1, r2)) ∧ Aside0 (kq ≤ k) ∧ Aside0 (wc.heap[gb314]? = some (.cells #[(.slice A0_0 l0_0.length c0_0)] 24 (0, 0))) ∧ Aside0 (wc.heap[gb315]? = some (.cells #[(.slice none 0 0)] 24 (0, 0))) ∧ Aside0 (Below w.heap.size w wc))
 case first =>
  have H := HC4.out; clear HC4; replace H := Option.bind_eq_some_iff.mp H; obtain ⟨t316, A70, H⟩ := H; have A7 := Aside0.mk A70; clear A70
  by_cases c8 : t316 = true
  ·
   subst c8
   have H1 : (file_Done.j0 k l1 l2 ((l1.length : Int) != (l2.length : Int)) l0_0) = some (r1, r2) := by rw [if_pos rfl] at H; exact H
   clear H; have H := H1; clear H1; have H' := Aside0.mk H; clear H; have hnb9 := NB314_315.out; have hnc9 := NB315_314.out; obtain ⟨hcz10_0, hfz10_0⟩ := cY0 BK314
   go_wp2_with (first | ((with_reducible refine gate_callee (f := 55) rfl ?_); refine goesK (some 12) Try.func55 #[.agg #[.slice A0_0 l0_0.length c0_0]] ?_; (with_reducible refine (dir_May.calls k _ _ l0_0 true _ ?side1 ?side2 A7.out).mono ?_); (case side1 => exact mC HR0_0 HB); (case side2 => exact HC0_0.out); rintro e w11 ⟨rfl, hb⟩; refine ⟨_, rfl, ?_⟩; replace BK314 := kB BK314 hb; replace BK315 := kB BK315 hb; replace HB := kH HB hb; (try clear hb)))
   go_meet
   case rel => exact ⟨_, (((l1.length : Int) != (l2.length : Int))), sI, H', ⟨by first | omega | exact Nat.le_refl _⟩, ⟨mB BK314⟩, ⟨mB BK315⟩, ⟨mH HB⟩⟩
  ·
   replace c8 := Bool.eq_false_iff.mpr c8; subst c8
   have H1 : (none) = some (r1, r2) := by rw [if_neg (show ¬ (false = true) by decide)] at H; exact H
   clear H; have H := H1; clear H1; exact absurd H (by simp)
 case rest =>
  clear HC4
  (try clear c1); (try clear c2)
  obtain ⟨kq, x20_3, rfl, HA, HJ3, BK314, BK315, HB⟩ := hcut
  cases kq with
  | zero => exact absurd HA.out (by simp [file_Done.j0])
  | succ kj3 =>
   have H := HA.out; clear HA; simp only [file_Done.j0] at H
   by_cases c12 : x20_3 = true
   ·
    subst c12
    have H1 : (none) = some (r1, r2) := by rw [if_pos rfl] at H; exact H
    clear H; have H := H1; clear H1; exact absurd H (by simp)
   ·
    replace c12 := Bool.eq_false_iff.mpr c12; subst c12
    have H1 : ((dir_Copy.f kj3 l0_0).bind fun t317 => (file_Done.l0 kj3 l2 l1 (l1.length : Int) 0 l0_0 t317)) = some (r1, r2) := by rw [if_neg (show ¬ (false = true) by decide)] at H; exact H
    clear H; have H := H1; clear H1; replace H := Option.bind_eq_some_iff.mp H; obtain ⟨t317, A130, H⟩ := H; have A13 := Aside0.mk A130; clear A130; have H' := Aside0.mk H; clear H; have hnb14 := NB314_315.out; have hnc14 := NB315_314.out; obtain ⟨hcz15_0, hfz15_0⟩ := cY0 BK314
    go_wp2_with (first | ((with_reducible refine gate_callee (f := 57) rfl ?_); refine goesK (some 23) Try.func57 #[.agg #[.slice A0_0 l0_0.length c0_0]] ?_; (with_reducible refine (dir_Copy.calls kj3 _ _ l0_0 t317 _ ?side1 ?side2 A13.out).mono ?_); (case side1 => exact mC HR0_0 HB); (case side2 => exact HC0_0.out); rintro e w16 ⟨v318, rfl, ho0, hb⟩; refine ⟨_, rfl, ?_⟩; have HO319 := Aside0.mk (Kd.S_lower ho0 (below_size (mH HB))); replace BK314 := kB BK314 hb; replace BK315 := kB BK315 hb; replace HB := kH HB hb; (try clear hb); (try clear ho0)) | ((with_reducible refine gate_dst (N := 8) rfl ?_); (try (refine gate_guard (by rfl) ?_; dsimp only)); refine bxE 24 (cs := #[.slice none 0 0]) ?_; intro gb320 hg w17 hbox hb; replace HO319 := kS HO319 hb; have BK320 := Aside0.mk hbox; have GW320 := kG HB hg; have GE320 := kG HB hg; replace HB := kH HB hb; have NB314_320 := kL BK314 hg; have NB320_314 := kQ BK314 hg; replace BK314 := kB BK314 hb; have NB315_320 := kL BK315 hg; have NB320_315 := kQ BK315 hg; replace BK315 := kB BK315 hb; clear hb hbox hg; obtain ⟨Ao18, co18, eo18⟩ := Kd.S_slice HO319.out; subst eo18; have hnb19 := NB320_314.out; have hnc19 := NB314_320.out; have hnb20 := NB320_315.out; have hnc20 := NB315_320.out; obtain ⟨hcz21_0, hfz21_0⟩ := cY0 BK320))
    go_loopg [26] kj3 (fun kq v26 w' => ∃ (x26_2 : Int) (x321000_2 : List (S28)) (u321000 : Value), v26 = .int .i64 x26_2 ∧ Aside0 (file_Done.l0 kq l2 l1 (l1.length : Int) x26_2 l0_0 x321000_2 = some (r1, r2)) ∧ Aside0 (kq ≤ kj3) ∧ Aside0 (Kd.S k28 28 w' w.heap.size (fun _ => True) u321000 x321000_2) ∧ Aside0 (w'.heap[gb314]? = some (.cells #[(.slice A0_0 l0_0.length c0_0)] 24 (0, 0))) ∧ Aside0 (w'.heap[gb315]? = some (.cells #[(.slice none 0 0)] 24 (0, 0))) ∧ Aside0 (w'.heap[gb320]? = some (.cells #[u321000] 24 (0, 0))) ∧ Aside0 (Below w.heap.size w w'))
    case atStart => exact ⟨(0), (t317), (.slice Ao18 t317.length co18), sI, H', ⟨Nat.le_refl _⟩, ⟨fS ⟨Kd.S_types HO319.out BK320.out (by decide)⟩⟩, ⟨mF BK314⟩, ⟨mF BK315⟩, ⟨pP BK320⟩, ⟨mH HB⟩⟩
    case round =>
     clear H'
     (try clear c1); (try clear c2); (try clear c12); (try clear hcz15_0); (try clear hcz21_0); (try clear hfz15_0); (try clear hfz21_0)
     obtain ⟨x26_2, x321000_2, u321000, rfl, HA, HK2, HO_321000, BK314, BK315, BK320, HB⟩ := hrel
     cases gk with
     | zero => exact absurd HA.out (by simp [file_Done.l0])
     | succ k2 =>
      have H := HA.out; clear HA; simp only [file_Done.l0] at H
      by_cases c22 : x26_2 < (l1.length : Int)
      ·
       rw [if_pos c22] at H; have c22b0 := decide_eq_true c22; clear c22
       replace H := nP H; obtain ⟨c23, H⟩ := H; have c23b0 := decide_eq_true c23; clear c23
       replace H := nP H; obtain ⟨c24, H⟩ := H; have c24b0 := decide_eq_true c24; clear c24; have HC25 := Aside0.mk H; clear H; have p321 : 0 ≤ (x26_2 : Int) := dT; have q321 : x26_2 < (l1.length : Int) := dT; obtain ⟨ad321, A321_5, c321_5, e321, hx321_0, hx321_1, hx321_2, hx321_3, hx321_4, hx321_5, hl321_5, hi321_5⟩ := at_T60 HR1.out x26_2 p321 q321
       cases e321
       replace hx321_0 := xC HB hx321_0; replace hx321_1 := xC HB hx321_1; replace hx321_2 := xC HB hx321_2; replace hx321_3 := xC HB hx321_3; replace hx321_4 := xC HB hx321_4; replace hx321_5 := xC HB hx321_5; have HR321_5 := Aside0.mk hi321_5; have HC321_5 := Aside0.mk hl321_5; clear hi321_5 hl321_5; replace p321 := eq_true p321; replace q321 := eq_true q321
       go_upto_region 7 with (first | ((with_reducible refine gate_dst (N := 10) rfl ?_); (try (refine gate_guard (by rfl) ?_; dsimp only)); refine bxE 60 (cs := #[.int .i64 0, .int .i64 0, .int .i64 0, .int .i64 0, .int .i64 0, .slice none 0 0]) ?_; intro gb322 hg w26 hbox hb; replace HO_321000 := kS HO_321000 hb; have BK322 := Aside0.mk hbox; have GW322 := kG HB hg; have GE322 := kG HB hg; replace HB := kH HB hb; have NB314_322 := kL BK314 hg; have NB322_314 := kQ BK314 hg; replace BK314 := kB BK314 hb; have NB315_322 := kL BK315 hg; have NB322_315 := kQ BK315 hg; replace BK315 := kB BK315 hb; have NB320_322 := kL BK320 hg; have NB322_320 := kQ BK320 hg; replace BK320 := kB BK320 hb; clear hb hbox hg; have hnb27 := NB322_314.out; have hnc27 := NB314_322.out; have hnb28 := NB322_315.out; have hnc28 := NB315_322.out; have hnb29 := NB322_320.out; have hnc29 := NB320_322.out; obtain ⟨hcz30_0, hfz30_0⟩ := cY0 BK322; obtain ⟨hcz30_1, hfz30_1⟩ := cY1 BK322; obtain ⟨hcz30_2, hfz30_2⟩ := cY2 BK322; obtain ⟨hcz30_3, hfz30_3⟩ := cY3 BK322; obtain ⟨hcz30_4, hfz30_4⟩ := cY4 BK322; obtain ⟨hcz30_5, hfz30_5⟩ := cY5 BK322))
       (try simp only [Act.put, lT, l0_, lS])
       go_cut [59] (fun v59 wc => ∃ (kq : Nat) (x59_24 : Bool), v59 = .bool x59_24 ∧ Aside0 (file_Done.j2 kq l2 x26_2 l1 (l1.length : Int) x26_2 x59_24 l0_0 x321000_2 ((rd_T60 l1 x26_2).f0) ((rd_T60 l1 x26_2).f1) ((rd_T60 l1 x26_2).f2) ((rd_T60 l1 x26_2).f3) ((rd_T60 l1 x26_2).f4) ((rd_T60 l1 x26_2).f5) = some (r1, r2)) ∧ Aside0 (kq ≤ k2) ∧ Aside0 (Kd.S k28 28 wc w.heap.size (fun _ => True) u321000 x321000_2) ∧ Aside0 (wc.heap[gb314]? = some (.cells #[(.slice A0_0 l0_0.length c0_0)] 24 (0, 0))) ∧ Aside0 (wc.heap[gb315]? = some (.cells #[(.slice none 0 0)] 24 (0, 0))) ∧ Aside0 (wc.heap[gb320]? = some (.cells #[u321000] 24 (0, 0))) ∧ Aside0 (wc.heap[gb322]? = some (.cells #[.int .i64 ((rd_T60 l1 x26_2).f0), .int .i64 ((rd_T60 l1 x26_2).f1), .int .i64 ((rd_T60 l1 x26_2).f2), .int .i64 ((rd_T60 l1 x26_2).f3), .int .i64 ((rd_T60 l1 x26_2).f4), (.slice A321_5 ((rd_T60 l1 x26_2).f5).length c321_5)] 60 (0, 0))) ∧ Aside0 (Below w.heap.size w wc))
       case first =>
        have H := HC25.out; clear HC25; replace H := Option.bind_eq_some_iff.mp H; obtain ⟨t323, A310, H⟩ := H; have A31 := Aside0.mk A310; clear A310
        by_cases c32 : t323 = true
        ·
         subst c32
         have H1 : (if ((rd_T60 l1 x26_2).f1) < 0 then (none) else (if ((rd_T60 l1 x26_2).f1) ≥ 5 then (none) else (if x26_2 < (l2.length : Int) then (if (rd l2 x26_2) < 1 then (none) else (file_Done.j2 k2 l2 x26_2 l1 (l1.length : Int) x26_2 (decide ((rd l2 x26_2) > 1099511627776)) l0_0 x321000_2 ((rd_T60 l1 x26_2).f0) ((rd_T60 l1 x26_2).f1) ((rd_T60 l1 x26_2).f2) ((rd_T60 l1 x26_2).f3) ((rd_T60 l1 x26_2).f4) ((rd_T60 l1 x26_2).f5))) else (none)))) = some (r1, r2) := by rw [if_pos rfl] at H; exact H
         clear H; have H := H1; clear H1
         replace H := nQ H; obtain ⟨c33, H⟩ := H; have c33b0 := decide_eq_false c33; clear c33
         (first | rw [c33b0] | (simp only [i64_w, i32_w]; rw [c33b0]) | skip)
         replace H := nQ H; obtain ⟨c34, H⟩ := H; have c34b0 : decide (5 ≤ ((rd_T60 l1 x26_2).f1)) = false := decide_eq_false c34; clear c34
         replace H := nP H; obtain ⟨c35, H⟩ := H; have c35b0 := decide_eq_true c35; clear c35
         replace H := nQ H; obtain ⟨c36, H⟩ := H; have c36b0 := decide_eq_false c36; clear c36; have H' := Aside0.mk H; clear H; have hnb37 := NB314_315.out; have hnc37 := NB315_314.out; have hnb38 := NB314_320.out; have hnc38 := NB320_314.out; have hnb39 := NB314_322.out; have hnc39 := NB322_314.out; obtain ⟨hcz40_0, hfz40_0⟩ := cY0 BK314; have hnb41 := NB322_315.out; have hnc41 := NB315_322.out; have hnb42 := NB322_320.out; have hnc42 := NB320_322.out; obtain ⟨hcz43_0, hfz43_0⟩ := cY0 BK322; obtain ⟨hcz43_1, hfz43_1⟩ := cY1 BK322; obtain ⟨hcz43_2, hfz43_2⟩ := cY2 BK322; obtain ⟨hcz43_3, hfz43_3⟩ := cY3 BK322; obtain ⟨hcz43_4, hfz43_4⟩ := cY4 BK322; obtain ⟨hcz43_5, hfz43_5⟩ := cY5 BK322
         go_wp2_with (first | ((with_reducible refine gate_callee (f := 56) rfl ?_); refine goesK (some 34) Try.func56 #[.agg #[.slice A0_0 l0_0.length c0_0], .int .i64 ((rd_T60 l1 x26_2).f0)] ?_; (with_reducible refine (file_is.calls k2 _ _ l0_0 ((rd_T60 l1 x26_2).f0) true _ ?side1 ?side2 A31.out).mono ?_); (case side1 => exact Kd.C_below HR0_0.out (mH HB)); (case side2 => exact HC0_0.out); rintro e w44 ⟨rfl, hb⟩; refine ⟨_, rfl, ?_⟩; replace HO_321000 := Aside0.mk (Kd.S_below (by (with_reducible repeat (first | apply Kd.S_alloc | apply Kd.S_drewN | apply Kd.S_drew)); exact (Kd.S_mono (Kd.S_far (p := ⟨gb322, 5, none⟩) (Kd.S_far (p := ⟨gb322, 4, none⟩) (Kd.S_far (p := ⟨gb322, 3, none⟩) (Kd.S_far (p := ⟨gb322, 2, none⟩) (Kd.S_far (p := ⟨gb322, 1, none⟩) (Kd.S_far (p := ⟨gb322, 0, none⟩) (Kd.S_types HO_321000.out BK322.out (by decide)) (fun _ hk => hk.2) (.int .i64 ((rd_T60 l1 x26_2).f0))) (fun _ hk => hk.2) (.int .i64 ((rd_T60 l1 x26_2).f1))) (fun _ hk => hk.2) (.int .i64 ((rd_T60 l1 x26_2).f2))) (fun _ hk => hk.2) (.int .i64 ((rd_T60 l1 x26_2).f3))) (fun _ hk => hk.2) (.int .i64 ((rd_T60 l1 x26_2).f4))) (fun _ hk => hk.2) (.slice A321_5 ((rd_T60 l1 x26_2).f5).length c321_5)) (fun _ h_ => h_.1))) hb); replace BK314 := Aside0.mk (bB (mF BK314) hb); replace BK315 := Aside0.mk (bB (mF BK315) hb); replace BK320 := Aside0.mk (bB (mF BK320) hb); replace BK322 := Aside0.mk (bB (g := gb322) (o := .cells #[.int .i64 ((rd_T60 l1 x26_2).f0), .int .i64 ((rd_T60 l1 x26_2).f1), .int .i64 ((rd_T60 l1 x26_2).f2), .int .i64 ((rd_T60 l1 x26_2).f3), .int .i64 ((rd_T60 l1 x26_2).f4), .slice A321_5 ((rd_T60 l1 x26_2).f5).length c321_5] 60 (0, 0)) (pP BK322) hb); replace HB := kH HB hb; (try clear hb); (try clear hk); obtain ⟨hcz45_0, hfz45_0⟩ := cY0 BK322; obtain ⟨hcz45_1, hfz45_1⟩ := cY1 BK322; obtain ⟨hcz45_2, hfz45_2⟩ := cY2 BK322; obtain ⟨hcz45_3, hfz45_3⟩ := cY3 BK322; obtain ⟨hcz45_4, hfz45_4⟩ := cY4 BK322; obtain ⟨hcz45_5, hfz45_5⟩ := cY5 BK322; have p324 : 0 ≤ (x26_2 : Int) := dT; have q324 : x26_2 < (l2.length : Int) := dT; obtain ⟨ad324, e324, hx324_0⟩ := Kd.at_int HR2.out x26_2 p324 q324; cases e324; replace hx324_0 := xC HB hx324_0; replace p324 := eq_true p324; replace q324 := eq_true q324; have p325 : 0 ≤ (x26_2 : Int) := dT; have q325 : x26_2 < (l2.length : Int) := dT; obtain ⟨ad325, e325, hx325_0⟩ := Kd.at_int HR2.out x26_2 p325 q325; obtain rfl : ad324 = ad325 := (by injection e325); replace hx325_0 := xC HB hx325_0; replace p325 := eq_true p325; replace q325 := eq_true q325))
         go_meet
         case rel => exact ⟨_, (decide ((rd l2 x26_2) > 1099511627776)), sI, H', ⟨by have := HJ3.out; have := HK2.out; first | omega | exact Nat.le_refl _⟩, ⟨mS HO_321000⟩, ⟨mB BK314⟩, ⟨mB BK315⟩, ⟨mB BK320⟩, ⟨mB BK322⟩, ⟨mH HB⟩⟩
        ·
         replace c32 := Bool.eq_false_iff.mpr c32; subst c32
         have H1 : (none) = some (r1, r2) := by rw [if_neg (show ¬ (false = true) by decide)] at H; exact H
         clear H; have H := H1; clear H1; exact absurd H (by simp)
       case rest =>
        clear HC25
        (try clear c1); (try clear c2); (try clear c12); (try clear c22); (try clear c22b0); (try clear c23); (try clear c23b0); (try clear c24); (try clear c24b0); (try clear hcz15_0); (try clear hcz21_0); (try clear hcz30_0); (try clear hcz30_1); (try clear hcz30_2); (try clear hcz30_3); (try clear hcz30_4); (try clear hcz30_5); (try clear hfz15_0); (try clear hfz21_0); (try clear hfz30_0); (try clear hfz30_1); (try clear hfz30_2); (try clear hfz30_3); (try clear hfz30_4); (try clear hfz30_5); (try clear hx321_0); (try clear hx321_1); (try clear hx321_2); (try clear hx321_3); (try clear hx321_4); (try clear hx321_5); (try clear p321); (try clear q321)
        obtain ⟨kq, x59_24, rfl, HA, HJ24, HO_321000, BK314, BK315, BK320, BK322, HB⟩ := hcut
        cases kq with
        | zero => exact absurd HA.out (by simp [file_Done.j2])
        | succ kj24 =>
         have H := HA.out; clear HA; simp only [file_Done.j2] at H
         by_cases c46 : x59_24 = true
         ·
          subst c46
          have H1 : (none) = some (r1, r2) := by rw [if_pos rfl] at H; exact H
          clear H; have H := H1; clear H1; exact absurd H (by simp)
         ·
          replace c46 := Bool.eq_false_iff.mpr c46; subst c46
          have H1 : (if 0 ≤ ((rd_T60 l1 x26_2).f0) then (if ((rd_T60 l1 x26_2).f0) < (x321000_2.length : Int) then (if 0 ≤ x26_2 then (if x26_2 < (l2.length : Int) then (if 0 ≤ ((rd_T60 l1 x26_2).f1) then (if ((rd_T60 l1 x26_2).f1) < (((rd_T28 x321000_2 ((rd_T60 l1 x26_2).f0)).f3).length : Int) then (file_Done.l0 kj24 l2 l1 (l1.length : Int) (wrap64 (x26_2 + 1)) l0_0 (x321000_2.set (((rd_T60 l1 x26_2).f0) : Int).toNat (⟨(rd_T28 x321000_2 ((rd_T60 l1 x26_2).f0)).f0, (rd_T28 x321000_2 ((rd_T60 l1 x26_2).f0)).f1, (rd_T28 x321000_2 ((rd_T60 l1 x26_2).f0)).f2, (((rd_T28 x321000_2 ((rd_T60 l1 x26_2).f0)).f3).set (((rd_T60 l1 x26_2).f1) : Int).toNat (rd l2 x26_2)), (rd_T28 x321000_2 ((rd_T60 l1 x26_2).f0)).f4⟩ : S28))) else (none)) else (none)) else (none)) else (none)) else (none)) else (none)) = some (r1, r2) := by rw [if_neg (show ¬ (false = true) by decide)] at H; exact H
          clear H; have H := H1; clear H1
          replace H := nP H; obtain ⟨c47, H⟩ := H; have c47b0 := decide_eq_true c47; clear c47
          replace H := nP H; obtain ⟨c48, H⟩ := H; have c48b0 := decide_eq_true c48; clear c48
          replace H := nP H; obtain ⟨c49, H⟩ := H; have c49b0 := decide_eq_true c49; clear c49
          replace H := nP H; obtain ⟨c50, H⟩ := H; have c50b0 := decide_eq_true c50; clear c50
          replace H := nP H; obtain ⟨c51, H⟩ := H; have c51b0 := decide_eq_true c51; clear c51
          replace H := nP H; obtain ⟨c52, H⟩ := H; have c52b0 := decide_eq_true c52; clear c52; obtain ⟨y328, hy328⟩ : ∃ y_ : List Int, y_ = (((rd_T28 x321000_2 ((rd_T60 l1 x26_2).f0)).f3).set (((rd_T60 l1 x26_2).f1) : Int).toNat (rd l2 x26_2)) := ⟨_, rfl⟩
          replace H : (file_Done.l0 kj24 l2 l1 (l1.length : Int) (wrap64 (x26_2 + 1)) l0_0 (x321000_2.set (((rd_T60 l1 x26_2).f0) : Int).toNat (⟨(rd_T28 x321000_2 ((rd_T60 l1 x26_2).f0)).f0, (rd_T28 x321000_2 ((rd_T60 l1 x26_2).f0)).f1, (rd_T28 x321000_2 ((rd_T60 l1 x26_2).f0)).f2, y328, (rd_T28 x321000_2 ((rd_T60 l1 x26_2).f0)).f4⟩ : S28))) = some (r1, r2) := rH H hy328
          have Ny328 := Aside0.mk hy328; clear hy328; obtain ⟨y330, hy330⟩ : ∃ y_ : List (S28), y_ = (x321000_2.set (((rd_T60 l1 x26_2).f0) : Int).toNat (⟨(rd_T28 x321000_2 ((rd_T60 l1 x26_2).f0)).f0, (rd_T28 x321000_2 ((rd_T60 l1 x26_2).f0)).f1, (rd_T28 x321000_2 ((rd_T60 l1 x26_2).f0)).f2, y328, (rd_T28 x321000_2 ((rd_T60 l1 x26_2).f0)).f4⟩ : S28)) := ⟨_, rfl⟩
          replace H : (file_Done.l0 kj24 l2 l1 (l1.length : Int) (wrap64 (x26_2 + 1)) l0_0 y330) = some (r1, r2) := rH H hy330
          have Ny330 := Aside0.mk hy330; clear hy330; have H' := Aside0.mk H; clear H
          try go_wp2
          replace HO_321000 := Aside0.mk (Kd.S_drew HO_321000.out); replace BK314 := Aside0.mk (bD BK314.out); replace BK315 := Aside0.mk (bD BK315.out); replace BK320 := Aside0.mk (bD BK320.out); replace BK322 := Aside0.mk (bD BK322.out); replace HB := Aside0.mk (wD HB.out); obtain ⟨Ao55, co55, eo55⟩ := Kd.S_slice HO_321000.out
          (first | subst eo55 | (injection eo55 with f1_ f2_ f3_; have f4_ := f1_.symm; have f5_ := f3_.symm; clear f1_ f2_ f3_; subst f4_; subst f5_))
          have p326 : 0 ≤ (((rd_T60 l1 x26_2).f0) : Int) := dT; have q326 : ((rd_T60 l1 x26_2).f0) < (x321000_2.length : Int) := dT; obtain ⟨ad326, A326_3, c326_3, A326_4, c326_4, e326, hx326_0, hx326_1, hx326_2, hx326_3, hx326_4, hl326_3, hi326_3, hl326_4, hi326_4⟩ := at_T28 (Kd.S_reads' HO_321000.out).2.2 ((rd_T60 l1 x26_2).f0) p326 q326
          cases e326
          obtain ⟨ce326, hce326, hMe326, hcc326⟩ := Kd.S_get HO_321000.out z28 ((rd_T60 l1 x26_2).f0) p326 (by first | exact q326 | exact dT | (have e_ := (Kd.S_reads' HO_321000.out).1; omega))
          obtain ⟨ve326_3, ve326_4, rfl, ge326_3, ge326_4⟩ := k28_openM hMe326; have hv326_3 := hcc326 3 _ rfl; rw [add_field _ _ 3 (by omega)] at hv326_3; replace hv326_3 := Option.some.inj (hv326_3.symm.trans hx326_3); rw [hv326_3] at ge326_3; have HL326_3 := Aside0.mk (show Kd.R (Kd.int .i64) 3 _ _ _ _ ((rd_T28 x321000_2 ((rd_T60 l1 x26_2).f0)).f3) from ge326_3); clear hv326_3 ge326_3; have HX326_3 := Aside0.mk hx326_3; have hv326_4 := hcc326 4 _ rfl; rw [add_field _ _ 4 (by omega)] at hv326_4; replace hv326_4 := Option.some.inj (hv326_4.symm.trans hx326_4); rw [hv326_4] at ge326_4; have HL326_4 := Aside0.mk (show Kd.R k78 78 _ _ _ _ ((rd_T28 x321000_2 ((rd_T60 l1 x26_2).f0)).f4) from ge326_4); clear hv326_4 ge326_4; have HX326_4 := Aside0.mk hx326_4; clear hcc326 hce326; have HR326_3 := Aside0.mk hi326_3; have HC326_3 := Aside0.mk hl326_3; clear hi326_3 hl326_3; have HR326_4 := Aside0.mk hi326_4; have HC326_4 := Aside0.mk hl326_4; clear hi326_4 hl326_4; replace p326 := eq_true p326; replace q326 := eq_true q326; have p327 : 0 ≤ (x26_2 : Int) := dT; have q327 : x26_2 < (l2.length : Int) := dT; obtain ⟨ad327, e327, hx327_0⟩ := Kd.at_int HR2.out x26_2 p327 q327; have hw327_0 := hx327_0
          cases e327
          replace hx327_0 := xC HB hx327_0; replace p327 := eq_true p327; replace q327 := eq_true q327; have p53 : 0 ≤ (((rd_T60 l1 x26_2).f1) : Int) := dT; have q53 : (((rd_T60 l1 x26_2).f1) : Int) < ((((rd_T28 x321000_2 ((rd_T60 l1 x26_2).f0)).f3).length : Int) : Int) := dT; obtain ⟨go53, co53, eo53, gb53, gl53, cl53, HG53⟩ := Kd.R_form HL326_3.out (by omega)
          (first | cases eo53 | (injection eo53 with ea_ en_ ec_; (first | subst ea_ | (injection ea_ with ea_; subst ea_)); subst ec_; clear en_))
          have GB53 := Aside0.mk gb53; have GG53 := Aside0.mk HG53; clear gb53 gl53 HG53; obtain ⟨hx53_0, hf53_0⟩ := Kd.R_celln 0 HL326_3.out (((rd_T60 l1 x26_2).f1) : Int) p53 q53; replace p53 := eq_true p53; replace q53 := eq_true q53; have hq56 : (((rd_T60 l1 x26_2).f0) : Int) < (x321000_2.length : Int) := (by have h_ : (((rd_T60 l1 x26_2).f0) : Int) < ((x321000_2.length : Int) : Int) := dT; first | exact h_ | (have e_ := (Kd.S_reads' HO_321000.out).1; omega) | simpa only [List.length_set, List.length_set] using h_)
          obtain ⟨oki56, ce56, hcl56, hM56, hcc56, hok56, hbk56⟩ := Kd.S_borrow HO_321000.out z28 (((rd_T60 l1 x26_2).f0) : Int) (dT) hq56; obtain ⟨ve56_3, ve56_4, rfl, ge56_3, ge56_4⟩ := k28_openM hM56; have hv56 := hcc56 3 _ rfl; rw [add_field _ _ 3 (by omega)] at hv56; replace hv56 := Option.some.inj (hv56.symm.trans HX326_3.out); subst hv56; clear hcc56 hcl56; replace ge56_3 := (show Kd.R (Kd.int .i64) 3 _ _ _ _ ((rd_T28 x321000_2 ((rd_T60 l1 x26_2).f0)).f3) from ge56_3); have HP56 := Kd.R_putg ge56_3 (((rd_T60 l1 x26_2).f1) : Int) (rd l2 x26_2); rw [← Ny328.out] at HP56; have HS56 := hbk56 HP56.2 (fun k_ e_ => by injection e_ with e_; subst e_; exact ge56_3.1 _ rfl) (x' := (⟨(rd_T28 x321000_2 ((rd_T60 l1 x26_2).f0)).f0, (rd_T28 x321000_2 ((rd_T60 l1 x26_2).f0)).f1, (rd_T28 x321000_2 ((rd_T60 l1 x26_2).f0)).f2, y328, (rd_T28 x321000_2 ((rd_T60 l1 x26_2).f0)).f4⟩ : S28)) (k28_mkM _ _ _ (⟨(rd_T28 x321000_2 ((rd_T60 l1 x26_2).f0)).f0, (rd_T28 x321000_2 ((rd_T60 l1 x26_2).f0)).f1, (rd_T28 x321000_2 ((rd_T60 l1 x26_2).f0)).f2, y328, (rd_T28 x321000_2 ((rd_T60 l1 x26_2).f0)).f4⟩ : S28) HP56.1 (Kd.R_over' (v := (.slice (some ⟨go53, 0, none⟩) ((rd_T28 x321000_2 ((rd_T60 l1 x26_2).f0)).f3).length c326_3)) ge56_4 (Kd.R_typed ge56_3) (by decide) HP56.2))
          rw [← Ny330.out] at HS56; have HQ56 := Aside0.mk HS56; clear HP56 HS56 hbk56 hok56; refine start_ (n := 15) (S := fun w' => w'.cell? ⟨gb320, 0, none⟩ = some (.slice (some ad326) x321000_2.length co55) ∧ w'.cell? ⟨gb322, 0, none⟩ = some (.int .i64 ((rd_T60 l1 x26_2).f0)) ∧ w'.cell? ⟨gb322, 1, none⟩ = some (.int .i64 ((rd_T60 l1 x26_2).f1)) ∧ w'.cell? ⟨gb322, 2, none⟩ = some (.int .i64 ((rd_T60 l1 x26_2).f2)) ∧ w'.cell? ⟨gb322, 3, none⟩ = some (.int .i64 ((rd_T60 l1 x26_2).f3)) ∧ w'.cell? ⟨gb322, 4, none⟩ = some (.int .i64 ((rd_T60 l1 x26_2).f4)) ∧ w'.cell? ⟨gb322, 5, none⟩ = some (.slice A321_5 ((rd_T60 l1 x26_2).f5).length c321_5) ∧ w'.cell? (ad326.add ((((rd_T60 l1 x26_2).f0)).toNat * 5)) = some (.int .i64 ((rd_T28 x321000_2 ((rd_T60 l1 x26_2).f0)).f0)) ∧ w'.cell? ⟨(ad326.add ((((rd_T60 l1 x26_2).f0)).toNat * 5)).block, (ad326.add ((((rd_T60 l1 x26_2).f0)).toNat * 5)).off + 1, none⟩ = some (.int .i64 ((rd_T28 x321000_2 ((rd_T60 l1 x26_2).f0)).f1)) ∧ w'.cell? ⟨(ad326.add ((((rd_T60 l1 x26_2).f0)).toNat * 5)).block, (ad326.add ((((rd_T60 l1 x26_2).f0)).toNat * 5)).off + 2, none⟩ = some (.int .i64 ((rd_T28 x321000_2 ((rd_T60 l1 x26_2).f0)).f2)) ∧ w'.cell? ⟨(ad326.add ((((rd_T60 l1 x26_2).f0)).toNat * 5)).block, (ad326.add ((((rd_T60 l1 x26_2).f0)).toNat * 5)).off + 3, none⟩ = some (.slice (some ⟨go53, 0, none⟩) ((rd_T28 x321000_2 ((rd_T60 l1 x26_2).f0)).f3).length c326_3) ∧ w'.cell? ⟨(ad326.add ((((rd_T60 l1 x26_2).f0)).toNat * 5)).block, (ad326.add ((((rd_T60 l1 x26_2).f0)).toNat * 5)).off + 4, none⟩ = some (.slice A326_4 ((rd_T28 x321000_2 ((rd_T60 l1 x26_2).f0)).f4).length c326_4) ∧ w'.cell? (ad327.add (x26_2).toNat) = some (.int .i64 (rd l2 x26_2))) (ds := [14]) B26_0 (by kernel_rfl) rfl rfl ⟨(bC BK320.out 0).trans rfl, (bC BK322.out 0).trans rfl, (bC BK322.out 1).trans rfl, (bC BK322.out 2).trans rfl, (bC BK322.out 3).trans rfl, (bC BK322.out 4).trans rfl, (bC BK322.out 5).trans rfl, hx326_0, hx326_1, hx326_2, hx326_3, hx326_4, (xC HB hw327_0)⟩ (fun hHeld => ?_); refine with_tabW file_Done.tab9 file_Done.bits9 (fun HT_ HW_ => ?_); generalize wc.drew = w54 at HO_321000 BK314 BK315 BK320 BK322 HB GG53 HL326_3 HL326_4 HQ56 HR326_3 HR326_4 HX326_3 HX326_4 hf53_0 hx326_0 hx326_1 hx326_2 hx326_3 hx326_4 hx327_0 hx53_0 hHeld ⊢; refine pure_ (i := 0) (N := some 61) (v := ?_) (a' := ?_) B26_1 rfl rfl (any_of HT_.out (by kernel_rfl)) (fun _ _ _ h => h) (Or.inl ⟨by rfl, ?_⟩) ?_ ?_; rotate_left
          ·
           intro w'; go_simp; with_reducible rfl
          rotate_left
          ·
           simp only [Act.put, lT, l0_, lS, i64_w, i32_w]; rfl
          refine pureE 2 (some 63) B26_2 (any_of HT_.out (by kernel_rfl)) ?_
          refine pureE 7 (some 68) B26_3 (any_of HT_.out (by kernel_rfl)) ?_
          refine pureE 9 (some 70) B26_4 (any_of HT_.out (by kernel_rfl)) ?_
          refine pureE 10 (some 71) B26_5 (any_of HT_.out (by kernel_rfl)) ?_
          refine pureE 11 (some 72) B26_6 (any_of HT_.out (by kernel_rfl)) ?_
          refine take_ (i := 1) (N := some 62) (v := ?_) (a' := ?_) B26_7 rfl rfl (take_ofW HT_.out HW_.out (by kernel_rfl)) (fun _ _ _ h => h) (Or.inl ⟨by rfl, ?_⟩) hHeld ?_ ?_; rotate_left
          ·
           rintro w' ⟨s0, s1, s2, s3, s4, s5, s6, s7, s8, s9, s10, s11, s12⟩; go_simp; with_reducible rfl
          rotate_left
          ·
           simp only [Act.put, lT, l0_, lS, i64_w, i32_w]; rfl
          refine take_ (i := 3) (N := some 64) (v := ?_) (a' := ?_) B26_8 rfl rfl (take_ofW HT_.out HW_.out (by kernel_rfl)) (fun _ _ _ h => h) (Or.inl ⟨by rfl, ?_⟩) hHeld ?_ ?_; rotate_left
          ·
           rintro w' ⟨s0, s1, s2, s3, s4, s5, s6, s7, s8, s9, s10, s11, s12⟩; go_simp; with_reducible rfl
          rotate_left
          ·
           simp only [Act.put, lT, l0_, lS, i64_w, i32_w]; rfl
          refine pureE 4 (some 65) B26_9 (any_of HT_.out (by kernel_rfl)) ?_
          refine pureE 5 (some 66) B26_10 (any_of HT_.out (by kernel_rfl)) ?_
          refine take_ (i := 6) (N := some 67) (v := ?_) (a' := ?_) B26_11 rfl rfl (take_ofW HT_.out HW_.out (by kernel_rfl)) (fun _ _ _ h => h) (Or.inl ⟨by rfl, ?_⟩) hHeld ?_ ?_; rotate_left
          ·
           rintro w' ⟨s0, s1, s2, s3, s4, s5, s6, s7, s8, s9, s10, s11, s12⟩; go_simp; with_reducible rfl
          rotate_left
          ·
           simp only [Act.put, lT, l0_, lS, i64_w, i32_w]; rfl
          refine take_ (i := 8) (N := some 69) (v := ?_) (a' := ?_) B26_12 rfl rfl (take_ofW HT_.out HW_.out (by kernel_rfl)) (fun _ _ _ h => h) (Or.inl ⟨by rfl, ?_⟩) hHeld ?_ ?_; rotate_left
          ·
           rintro w' ⟨s0, s1, s2, s3, s4, s5, s6, s7, s8, s9, s10, s11, s12⟩; go_simp; with_reducible rfl
          rotate_left
          ·
           simp only [Act.put, lT, l0_, lS, i64_w, i32_w]; rfl
          refine take_ (i := 12) (N := some 73) (v := ?_) (a' := ?_) B26_13 rfl rfl (take_ofW HT_.out HW_.out (by kernel_rfl)) (fun _ _ _ h => h) (Or.inl ⟨by rfl, ?_⟩) hHeld ?_ ?_; rotate_left
          ·
           rintro w' ⟨s0, s1, s2, s3, s4, s5, s6, s7, s8, s9, s10, s11, s12⟩; go_simp; with_reducible rfl
          rotate_left
          ·
           simp only [Act.put, lT, l0_, lS, i64_w, i32_w]; rfl
          refine pureE 13 (some 74) B26_14 (any_of HT_.out (by kernel_rfl)) ?_
          refine last_ (i := 14) (N := none) B26_15 rfl rfl (one_of HT_.out (by kernel_rfl)) (by decide) (fun K hK => ?_); refine skip_ (w1 := ?_) (by rfl) rfl ?_ ?_; rotate_left
          ·
           go_simp; rfl
          refine hK.out _ _ ?_; clear hK K; refine done_ (done_of HT_.out (by kernel_rfl)) ?_
          try go_wp2
          go_roundg kj24
          case measure => have := HJ3.out; have := HK2.out; have := HJ24.out; omega
          case rel => exact ⟨(wrap64 (x26_2 + 1)), (y330), (.slice (some ad326) x321000_2.length co55), sI, H', ⟨by have := HJ3.out; have := HK2.out; have := HJ24.out; omega⟩, ⟨mS HQ56⟩, ⟨by (with_reducible repeat (first | refine bN ?_ _ | refine bD ?_ | refine bA ?_ _)); refine bF ?_ (by have h_ := Kd.R_ne HL326_3.out BK314.out (by decide); intro e_; exact h_ (by rw [e_]; rfl)) _; (with_reducible repeat (first | refine bN ?_ _ | refine bD ?_ | refine bA ?_ _)); exact BK314.out⟩, ⟨by (with_reducible repeat (first | refine bN ?_ _ | refine bD ?_ | refine bA ?_ _)); refine bF ?_ (by have h_ := Kd.R_ne HL326_3.out BK315.out (by decide); intro e_; exact h_ (by rw [e_]; rfl)) _; (with_reducible repeat (first | refine bN ?_ _ | refine bD ?_ | refine bA ?_ _)); exact BK315.out⟩, ⟨by (with_reducible repeat (first | refine bN ?_ _ | refine bD ?_ | refine bA ?_ _)); refine bF ?_ (by have h_ := Kd.R_ne HL326_3.out BK320.out (by decide); intro e_; exact h_ (by rw [e_]; rfl)) _; (with_reducible repeat (first | refine bN ?_ _ | refine bD ?_ | refine bA ?_ _)); exact BK320.out⟩, ⟨mH HB⟩⟩
      ·
       rw [if_neg c22] at H; have c22b0 := decide_eq_false c22; clear c22; replace H := Option.bind_eq_some_iff.mp H; obtain ⟨t331, A580, H⟩ := H; have A58 := Aside0.mk A580; clear A580
       by_cases c59 : t331 = true
       ·
        subst c59
        have H1 : (some (x321000_2, 0)) = some (r1, r2) := by rw [if_pos rfl] at H; exact H
        clear H; have H := H1; clear H1; simp only [Option.some.injEq, Prod.mk.injEq] at H; obtain ⟨rfl, rfl⟩ := H; have hnb60 := NB320_314.out; have hnc60 := NB314_320.out; have hnb61 := NB320_315.out; have hnc61 := NB315_320.out; obtain ⟨hcz62_0, hfz62_0⟩ := cY0 BK320; obtain ⟨Ao63, co63, eo63⟩ := Kd.S_slice HO_321000.out; subst eo63
        go_wp2_with (first | ((with_reducible refine gate_callee (f := 55) rfl ?_); refine goesK (some 77) Try.func55 #[.agg #[.slice Ao63 x321000_2.length co63]] ?_; (with_reducible refine (dir_May.calls k2 _ _ x321000_2 true _ ?side1 ?side2 A58.out).mono ?_); (case side1 => repeat (first | exact (Kd.S_reads' HO_321000.out).2.2 | (with_reducible refine Kd.C_alloc ?_ _) | (with_reducible refine Kd.C_drewN ?_ _) | (with_reducible refine Kd.C_drew ?_))); (case side2 => exact (Kd.S_reads' HO_321000.out).2.1); rintro e w64 ⟨rfl, hb⟩; refine ⟨_, rfl, ?_⟩; replace HO_321000 := kS HO_321000 hb; replace BK314 := kB BK314 hb; replace BK315 := kB BK315 hb; replace BK320 := kB BK320 hb; replace HB := kH HB hb; (try clear hb); (try clear hk); obtain ⟨hcz65_0, hfz65_0⟩ := cY0 BK320; have hnb66 := NB315_314.out; have hnc66 := NB314_315.out; obtain ⟨hcz67_0, hfz67_0⟩ := cY0 BK315))
        refine bodyPost_ret (results_ct rfl _ _ gb315 24 #[.slice Ao63 x321000_2.length co63] (0, 0) _ rfl (pP BK315) Try.underlying24 rfl (by kernel_rfl)) rfl ?_
        exact ⟨_, rT, fS ⟨Kd.S_types HO_321000.out BK315.out (by decide)⟩, mH HB⟩
       ·
        replace c59 := Bool.eq_false_iff.mpr c59; subst c59
        have H1 : (some (([] : List (S28)), 18)) = some (r1, r2) := by rw [if_neg (show ¬ (false = true) by decide)] at H; exact H
        clear H; have H := H1; clear H1; simp only [Option.some.injEq, Prod.mk.injEq] at H; obtain ⟨rfl, rfl⟩ := H; have hnb68 := NB320_314.out; have hnc68 := NB314_320.out; have hnb69 := NB320_315.out; have hnc69 := NB315_320.out; obtain ⟨hcz70_0, hfz70_0⟩ := cY0 BK320; obtain ⟨Ao71, co71, eo71⟩ := Kd.S_slice HO_321000.out; subst eo71
        go_wp2_with (first | ((with_reducible refine gate_callee (f := 55) rfl ?_); refine goesK (some 77) Try.func55 #[.agg #[.slice Ao71 x321000_2.length co71]] ?_; (with_reducible refine (dir_May.calls k2 _ _ x321000_2 false _ ?side1 ?side2 A58.out).mono ?_); (case side1 => repeat (first | exact (Kd.S_reads' HO_321000.out).2.2 | (with_reducible refine Kd.C_alloc ?_ _) | (with_reducible refine Kd.C_drewN ?_ _) | (with_reducible refine Kd.C_drew ?_))); (case side2 => exact (Kd.S_reads' HO_321000.out).2.1); rintro e w72 ⟨rfl, hb⟩; refine ⟨_, rfl, ?_⟩; replace HO_321000 := kS HO_321000 hb; replace BK314 := kB BK314 hb; replace BK315 := kB BK315 hb; replace BK320 := kB BK320 hb; replace HB := kH HB hb; (try clear hb); (try clear hk); have hnb73 := NB315_314.out; have hnc73 := NB314_315.out; obtain ⟨hcz74_0, hfz74_0⟩ := cY0 BK315))
        refine bodyPost_ret (results_ct rfl _ _ gb315 24 #[.slice none 0 0] (0, 0) _ rfl (pP BK315) Try.underlying24 rfl (by kernel_rfl)) rfl ?_
        exact ⟨_, rT, by first | exact Kd.S_nil _ _ _ _ _ | exact Kd.N_nil _ _ _ _ _ | exact Kd.V_nil _ _ _ _ _ | exact Kd.Q_nil _ _ _ _ _ | exact Kd.R_nil _ _ _ _ _, mH HB⟩
end Go.Proofs.Ytkigiehkckjlhaa.PSpace
