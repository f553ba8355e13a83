/- The Go functions that these laws reach, each as a Lean function with the same answers (a law itself where it answers true), and the proof that the code comes to them; conditions: those of each theorem. Laid by a program of this session over the print. -/
import Derived.Test.YtkigiehkckjlhaaZDonePDoneShort
import Derived.Test.YtkigiehkckjlhaaZDonePDonex0
import Derived.Test.YtkigiehkckjlhaaZDonePDonex20
import Derived.Test.YtkigiehkckjlhaaZDonePDonex24
import Derived.Test.YtkigiehkckjlhaaZDonePDonex6
import Derived.Test.YtkigiehkckjlhaaZDonePDonex2
namespace Go.Proofs.Ytkigiehkckjlhaa.PDone
open Go.RowKit Go.Proofs.YtkigiehkckjlhaaW.PrintWords Go.Proofs.YtkigiehkckjlhaaW.PrintLast Go.Proofs.YtkigiehkckjlhaaW.PrintMore
attribute [local go_sem] max2_int min2_int max_two min_two max_three min_three max_four min_four   -- for this text's walks alone
set_option linter.unusedVariables false
set_option linter.unusedSimpArgs false
open Go.Proofs.YtkigiehkckjlhaaW.PrintWords renaming blk_drewN → bN, blk_drew → bD, blk_alloc → bA, below_set → wS, below_alloc → wA, pw_below_drewN → wN, below_drew1 → wD, blk_below → bB, blk_far → bF, blk_cell → bC, blk_frozen → bZ
open List renaming setIfInBounds_toArray → lT, set_cons_zero → l0_, set_cons_succ → lS
abbrev B26_0 : Array Bool := #[false, false, false, false, false, false, false, false, false, false, false, false, false, false, false]
abbrev B26_1 := B26_0.set! 0 true
abbrev B26_2 := B26_1.set! 2 true
abbrev B26_3 := B26_2.set! 7 true
abbrev B26_4 := B26_3.set! 9 true
abbrev B26_5 := B26_4.set! 10 true
abbrev B26_6 := B26_5.set! 11 true
abbrev B26_7 := B26_6.set! 1 true
abbrev B26_8 := B26_7.set! 3 true
abbrev B26_9 := B26_8.set! 4 true
abbrev B26_10 := B26_9.set! 5 true
abbrev B26_11 := B26_10.set! 6 true
abbrev B26_12 := B26_11.set! 8 true
abbrev B26_13 := B26_12.set! 12 true
abbrev B26_14 := B26_13.set! 13 true
abbrev B26_15 := B26_14.set! 14 true
mutual
def file_Done.j0 : Nat → List (S60) → List Int → Bool → List (S28) → Option ((List (S28)) × Int)
 | 0, _, _, _, _ => none
 | k + 1, x1, x2, x20, x316000 => if x20 = true then (some (([] : List (S28)), 1)) else ((dir_Copy.f k x316000).bind fun t318 => (file_Done.l0 k x2 x1 (x1.length : Int) 0 x316000 t318))
def file_Done.l0 : Nat → List Int → List (S60) → Int → Int → List (S28) → List (S28) → Option ((List (S28)) × Int)
 | 0, _, _, _, _, _, _ => none
 | k + 1, x2, x24, x25, x26, x316000, x322000 => if x26 < x25 then (if 0 ≤ x26 then (if x26 < (x24.length : Int) then ((file_is.f k x316000 ((rd_T60 x24 x26).f0)).bind fun t324 => (if t324 = true then (if ((rd_T60 x24 x26).f1) < 0 then (none) else (if ((rd_T60 x24 x26).f1) ≥ 5 then (none) else (if x26 < (x2.length : Int) then (if (rd x2 x26) < 1 then (none) else (file_Done.j2 k x2 x26 x24 x25 x26 (decide ((rd x2 x26) > 1099511627776)) x316000 x322000 ((rd_T60 x24 x26).f0) ((rd_T60 x24 x26).f1) ((rd_T60 x24 x26).f2) ((rd_T60 x24 x26).f3) ((rd_T60 x24 x26).f4) ((rd_T60 x24 x26).f5))) else (none)))) else (none))) else (none)) else (none)) else ((dir_May.f k x322000).bind fun t332 => (if t332 = true then (some (x322000, 0)) else (none)))
def file_Done.j2 : Nat → List Int → Int → List (S60) → Int → Int → Bool → List (S28) → List (S28) → Int → Int → Int → Int → Int → List Int → Option ((List (S28)) × Int)
 | 0, _, _, _, _, _, _, _, _, _, _, _, _, _, _ => none
 | k + 1, x2, x9, x24, x25, x26, x59, x316000, x322000, x324000, x324001, x324002, x324003, x324004, x324005 => if x59 = true then (none) else (if 0 ≤ x324000 then (if x324000 < (x322000.length : Int) then (if 0 ≤ x9 then (if x9 < (x2.length : Int) then (if 0 ≤ x324001 then (if x324001 < (((rd_T28 x322000 x324000).f3).length : Int) then (file_Done.l0 k x2 x24 x25 (wrap64 (x26 + 1)) x316000 (x322000.set (x324000 : Int).toNat (⟨(rd_T28 x322000 x324000).f0, (rd_T28 x322000 x324000).f1, (rd_T28 x322000 x324000).f2, (((rd_T28 x322000 x324000).f3).set (x324001 : Int).toNat (rd x2 x9)), (rd_T28 x322000 x324000).f4⟩ : S28))) else (none)) else (none)) else (none)) else (none)) else (none)) else (none))
end
def file_Done.f (k : Nat) (l0_0 : List (S28)) (l1 : List (S60)) (l2 : List Int) : Option ((List (S28)) × Int) := (dir_May.f k l0_0).bind fun t317 => (if t317 = true then (file_Done.j0 k l1 l2 ((l1.length : Int) != (l2.length : Int)) l0_0) else (none))
theorem file_Done.mono_l : ∀ k, (∀ y0 y1 y2 y3, LeO (file_Done.j0 k y0 y1 y2 y3) (file_Done.j0 (k + 1) y0 y1 y2 y3)) ∧ (∀ y0 y1 y2 y3 y4 y5, LeO (file_Done.l0 k y0 y1 y2 y3 y4 y5) (file_Done.l0 (k + 1) y0 y1 y2 y3 y4 y5)) ∧ (∀ y0 y1 y2 y3 y4 y5 y6 y7 y8 y9 y10 y11 y12 y13, LeO (file_Done.j2 k y0 y1 y2 y3 y4 y5 y6 y7 y8 y9 y10 y11 y12 y13) (file_Done.j2 (k + 1) y0 y1 y2 y3 y4 y5 y6 y7 y8 y9 y10 y11 y12 y13))
 | 0 => ⟨fun _ _ _ _ r h => by simp [file_Done.j0] at h, fun _ _ _ _ _ _ r h => by simp [file_Done.l0] at h, fun _ _ _ _ _ _ _ _ _ _ _ _ _ _ r h => by simp [file_Done.j2] at h⟩
 | k + 1 => by
  obtain ⟨ih0, ih1, ih2⟩ := file_Done.mono_l k; refine ⟨?_, ?_, ?_⟩
  ·
   intro y0 y1 y2 y3
   unfold file_Done.j0
   repeat' with_reducible first | apply ih0 | apply ih1 | apply ih2 | apply dir_Copy.mono | apply dir_May.mono | apply file_is.mono | exact LeO.refl _ | exact LeO.none _ | refine LeO.ite ?_ ?_ | refine LeO.bind ?_ (fun _ => ?_)
  ·
   intro y0 y1 y2 y3 y4 y5
   unfold file_Done.l0
   repeat' with_reducible first | apply ih0 | apply ih1 | apply ih2 | apply dir_Copy.mono | apply dir_May.mono | apply file_is.mono | exact LeO.refl _ | exact LeO.none _ | refine LeO.ite ?_ ?_ | refine LeO.bind ?_ (fun _ => ?_)
  ·
   intro y0 y1 y2 y3 y4 y5 y6 y7 y8 y9 y10 y11 y12 y13
   unfold file_Done.j2
   repeat' with_reducible first | apply ih0 | apply ih1 | apply ih2 | apply dir_Copy.mono | apply dir_May.mono | apply file_is.mono | exact LeO.refl _ | exact LeO.none _ | refine LeO.ite ?_ ?_ | refine LeO.bind ?_ (fun _ => ?_)
theorem file_Done.mono : ∀ a0 a1 a2 k, LeO (file_Done.f k a0 a1 a2) (file_Done.f (k + 1) a0 a1 a2) := by
 intro a0 a1 a2 k; obtain ⟨ih0, ih1, ih2⟩ := file_Done.mono_l k
 unfold file_Done.f
 repeat' with_reducible first | apply ih0 | apply ih1 | apply ih2 | apply dir_Copy.mono | apply dir_May.mono | apply file_is.mono | exact LeO.refl _ | exact LeO.none _ | refine LeO.ite ?_ ?_ | refine LeO.bind ?_ (fun _ => ?_)
def file_Done.T9 : Bool × List (List Nat × List Nat) := (true, [([], []), ([0], [0]), ([], []), ([2], [2]), ([1, 3], [1, 3]), ([4], [4]), ([5], [5]), ([], []), ([7], [7]), ([], []), ([], []), ([9, 10], [9, 10]), ([11], [11]), ([6, 8, 0, 1, 2, 3, 4, 5, 6, 7, 8, 9, 10, 11, 12], [6, 8]), ([13, 12, 0, 1, 2, 3, 4, 5, 6, 7, 8, 9, 10, 11, 12], [12, 13])])
def file_Done.B9 : List Nat := [0, 1, 0, 4, 15, 31, 63, 0, 128, 0, 0, 1536, 3584, 8191, 16383]
theorem file_Done.tab9 : rtab .any (opsOf Try.f36 9) = file_Done.T9 := by kernel_rfl
theorem file_Done.bits9 : waitsOk file_Done.T9.2 file_Done.B9 = true := by kernel_rfl
set_option maxHeartbeats 8000000 in
set_option maxRecDepth 100000 in
theorem file_Done.calls (k : Nat) (A0_0 : Option Addr) (c0_0 : Nat) (l0_0 : List (S28)) (A1 : Option Addr) (c1 : Nat) (l1 : List (S60)) (A2 : Option Addr) (c2 : Nat) (l2 : List Int) (r1 : List (S28)) (r2 : Int) (w : World) (hr0_0 : Kd.C k28 w A0_0 l0_0.length l0_0) (hc0_0 : l0_0.length ≤ c0_0) (hr1 : Kd.C k60 w A1 l1.length l1) (hc1 : l1.length ≤ c1) (hr2 : Kd.C (Kd.int .i64) w A2 l2.length l2) (hc2 : l2.length ≤ c2) (h : file_Done.f k l0_0 l1 l2 = some (r1, r2)) :
 Calls Try.prog 36 #[.agg #[.slice A0_0 l0_0.length c0_0], .slice A1 l1.length c1, .slice A2 l2.length c2] w fun e w' => ∃ v0_ : Value, e = .returned (.tuple #[.agg #[v0_], .int .i64 r2]) ∧ Kd.S k28 28 w' w.heap.size (fun _ => True) v0_ r1 ∧ Below w.heap.size w w' := by
 have hu24 := Try.underlying24; have hu60 := Try.underlying60; have HR0_0 := Aside0.mk hr0_0; have HC0_0 := Aside0.mk hc0_0; clear hr0_0 hc0_0; have HR1 := Aside0.mk hr1; have HC1 := Aside0.mk hc1; clear hr1 hc1; have HR2 := Aside0.mk hr2; have HC2 := Aside0.mk hc2; clear hr2 hc2; have HB := Aside0.mk (Below.refl w.heap.size w); have H : ((dir_May.f k l0_0).bind fun t317 => (if t317 = true then (file_Done.j0 k l1 l2 ((l1.length : Int) != (l2.length : Int)) l0_0) else (none))) = some (r1, r2) := h; clear h; have HC4 := Aside0.mk H; clear H
 go_enter Try.func36, Try.ntmps36
 go_upto_region 1 with (first | ((with_reducible refine gate_dst (N := 3) rfl ?_); (try (refine gate_guard (by rfl) ?_; dsimp only)); refine bxE 24 (cs := #[.slice A0_0 l0_0.length c0_0]) ?_; intro gb315 hg w5 hbox hb; have BK315 := Aside0.mk hbox; have GW315 := kG HB hg; have GE315 := kG HB hg; replace HB := kH HB hb; clear hb hbox hg) | ((with_reducible refine gate_dst (N := 6) rfl ?_); (try (refine gate_guard (by rfl) ?_; dsimp only)); refine bxE 24 (cs := #[.slice none 0 0]) ?_; intro gb316 hg w6 hbox hb; have BK316 := Aside0.mk hbox; have GW316 := kG HB hg; have GE316 := kG HB hg; replace HB := kH HB hb; have NB315_316 := kL BK315 hg; have NB316_315 := kQ BK315 hg; replace BK315 := kB BK315 hb; clear hb hbox hg))
 (try simp only [Act.put, lT, l0_, lS])
 go_cut [20] (fun v20 wc => ∃ (kq : Nat) (x20_3 : Bool), v20 = .bool x20_3 ∧ Aside0 (file_Done.j0 kq l1 l2 x20_3 l0_0 = some (r1, r2)) ∧ Aside0 (kq ≤ k) ∧ Aside0 (wc.heap[gb315]? = some (.cells #[(.slice A0_0 l0_0.length c0_0)] 24 (0, 0))) ∧ Aside0 (wc.heap[gb316]? = some (.cells #[(.slice none 0 0)] 24 (0, 0))) ∧ Aside0 (Below w.heap.size w wc))
 case first =>
  have H := HC4.out; clear HC4; replace H := Option.bind_eq_some_iff.mp H; obtain ⟨t317, A70, H⟩ := H; have A7 := Aside0.mk A70; clear A70
  by_cases c8 : t317 = true
  ·
   subst c8
   have H1 : (file_Done.j0 k l1 l2 ((l1.length : Int) != (l2.length : Int)) l0_0) = some (r1, r2) := by rw [if_pos rfl] at H; exact H
   clear H; have H := H1; clear H1; have H' := Aside0.mk H; clear H; have hnb9 := NB315_316.out; have hnc9 := NB316_315.out; obtain ⟨hcz10_0, hfz10_0⟩ := cY0 BK315
   go_wp2_with (first | ((with_reducible refine gate_callee (f := 55) rfl ?_); refine goesK (some 12) Try.func55 #[.agg #[.slice A0_0 l0_0.length c0_0]] ?_; (with_reducible refine (dir_May.calls k _ _ l0_0 true _ ?side1 ?side2 A7.out).mono ?_); (case side1 => exact mC HR0_0 HB); (case side2 => exact HC0_0.out); rintro e w11 ⟨rfl, hb⟩; refine ⟨_, rfl, ?_⟩; replace BK315 := kB BK315 hb; replace BK316 := kB BK316 hb; replace HB := kH HB hb; (try clear hb)))
   go_meet
   case rel => exact ⟨_, (((l1.length : Int) != (l2.length : Int))), sI, H', ⟨by first | omega | exact Nat.le_refl _⟩, ⟨mB BK315⟩, ⟨mB BK316⟩, ⟨mH HB⟩⟩
  ·
   replace c8 := Bool.eq_false_iff.mpr c8; subst c8
   have H1 : (none) = some (r1, r2) := by rw [if_neg (show ¬ (false = true) by decide)] at H; exact H
   clear H; have H := H1; clear H1; exact absurd H (by simp)
 case rest =>
  clear HC4
  (try clear c1); (try clear c2)
  obtain ⟨kq, x20_3, rfl, HA, HJ3, BK315, BK316, HB⟩ := hcut
  cases kq with
  | zero => exact absurd HA.out (by simp [file_Done.j0])
  | succ kj3 =>
   have H := HA.out; clear HA; simp only [file_Done.j0] at H
   by_cases c12 : x20_3 = true
   ·
    subst c12
    have H1 : (some (([] : List (S28)), 1)) = some (r1, r2) := by rw [if_pos rfl] at H; exact H
    clear H; have H := H1; clear H1; simp only [Option.some.injEq, Prod.mk.injEq] at H; obtain ⟨rfl, rfl⟩ := H; have hnb13 := NB316_315.out; have hnc13 := NB315_316.out; obtain ⟨hcz14_0, hfz14_0⟩ := cY0 BK316
    go_wp2
    refine bodyPost_ret (results_ct rfl _ _ gb316 24 #[.slice none 0 0] (0, 0) _ rfl (pP BK316) Try.underlying24 rfl (by kernel_rfl)) rfl ?_
    exact ⟨_, rT, by first | exact Kd.S_nil _ _ _ _ _ | exact Kd.N_nil _ _ _ _ _ | exact Kd.V_nil _ _ _ _ _ | exact Kd.Q_nil _ _ _ _ _ | exact Kd.R_nil _ _ _ _ _, mH HB⟩
   ·
    replace c12 := Bool.eq_false_iff.mpr c12; subst c12
    have H1 : ((dir_Copy.f kj3 l0_0).bind fun t318 => (file_Done.l0 kj3 l2 l1 (l1.length : Int) 0 l0_0 t318)) = some (r1, r2) := by rw [if_neg (show ¬ (false = true) by decide)] at H; exact H
    clear H; have H := H1; clear H1; replace H := Option.bind_eq_some_iff.mp H; obtain ⟨t318, A150, H⟩ := H; have A15 := Aside0.mk A150; clear A150; have H' := Aside0.mk H; clear H; have hnb16 := NB315_316.out; have hnc16 := NB316_315.out; obtain ⟨hcz17_0, hfz17_0⟩ := cY0 BK315
    go_wp2_with (first | ((with_reducible refine gate_callee (f := 57) rfl ?_); refine goesK (some 23) Try.func57 #[.agg #[.slice A0_0 l0_0.length c0_0]] ?_; (with_reducible refine (dir_Copy.calls kj3 _ _ l0_0 t318 _ ?side1 ?side2 A15.out).mono ?_); (case side1 => exact mC HR0_0 HB); (case side2 => exact HC0_0.out); rintro e w18 ⟨v319, rfl, ho0, hb⟩; refine ⟨_, rfl, ?_⟩; have HO320 := Aside0.mk (Kd.S_lower ho0 (below_size (mH HB))); replace BK315 := kB BK315 hb; replace BK316 := kB BK316 hb; replace HB := kH HB hb; (try clear hb); (try clear ho0)) | ((with_reducible refine gate_dst (N := 8) rfl ?_); (try (refine gate_guard (by rfl) ?_; dsimp only)); refine bxE 24 (cs := #[.slice none 0 0]) ?_; intro gb321 hg w19 hbox hb; replace HO320 := kS HO320 hb; have BK321 := Aside0.mk hbox; have GW321 := kG HB hg; have GE321 := kG HB hg; replace HB := kH HB hb; have NB315_321 := kL BK315 hg; have NB321_315 := kQ BK315 hg; replace BK315 := kB BK315 hb; have NB316_321 := kL BK316 hg; have NB321_316 := kQ BK316 hg; replace BK316 := kB BK316 hb; clear hb hbox hg; obtain ⟨Ao20, co20, eo20⟩ := Kd.S_slice HO320.out; subst eo20; have hnb21 := NB321_315.out; have hnc21 := NB315_321.out; have hnb22 := NB321_316.out; have hnc22 := NB316_321.out; obtain ⟨hcz23_0, hfz23_0⟩ := cY0 BK321))
    go_loopg [26] kj3 (fun kq v26 w' => ∃ (x26_2 : Int) (x322000_2 : List (S28)) (u322000 : Value), v26 = .int .i64 x26_2 ∧ Aside0 (file_Done.l0 kq l2 l1 (l1.length : Int) x26_2 l0_0 x322000_2 = some (r1, r2)) ∧ Aside0 (kq ≤ kj3) ∧ Aside0 (Kd.S k28 28 w' w.heap.size (fun _ => True) u322000 x322000_2) ∧ Aside0 (w'.heap[gb315]? = some (.cells #[(.slice A0_0 l0_0.length c0_0)] 24 (0, 0))) ∧ Aside0 (w'.heap[gb316]? = some (.cells #[(.slice none 0 0)] 24 (0, 0))) ∧ Aside0 (w'.heap[gb321]? = some (.cells #[u322000] 24 (0, 0))) ∧ Aside0 (Below w.heap.size w w'))
    case atStart => exact ⟨(0), (t318), (.slice Ao20 t318.length co20), sI, H', ⟨Nat.le_refl _⟩, ⟨fS ⟨Kd.S_types HO320.out BK321.out (by decide)⟩⟩, ⟨mF BK315⟩, ⟨mF BK316⟩, ⟨pP BK321⟩, ⟨mH HB⟩⟩
    case round =>
     clear H'
     (try clear c1); (try clear c2); (try clear c12); (try clear hcz17_0); (try clear hcz23_0); (try clear hfz17_0); (try clear hfz23_0)
     obtain ⟨x26_2, x322000_2, u322000, rfl, HA, HK2, HO_322000, BK315, BK316, BK321, HB⟩ := hrel
     cases gk with
     | zero => exact absurd HA.out (by simp [file_Done.l0])
     | succ k2 =>
      have H := HA.out; clear HA; simp only [file_Done.l0] at H
      by_cases c24 : x26_2 < (l1.length : Int)
      ·
       rw [if_pos c24] at H; have c24b0 := decide_eq_true c24; clear c24
       replace H := nP H; obtain ⟨c25, H⟩ := H; have c25b0 := decide_eq_true c25; clear c25
       replace H := nP H; obtain ⟨c26, H⟩ := H; have c26b0 := decide_eq_true c26; clear c26; have HC27 := Aside0.mk H; clear H; have p322 : 0 ≤ (x26_2 : Int) := dT; have q322 : x26_2 < (l1.length : Int) := dT; obtain ⟨ad322, A322_5, c322_5, e322, hx322_0, hx322_1, hx322_2, hx322_3, hx322_4, hx322_5, hl322_5, hi322_5⟩ := at_T60 HR1.out x26_2 p322 q322
       cases e322
       replace hx322_0 := xC HB hx322_0; replace hx322_1 := xC HB hx322_1; replace hx322_2 := xC HB hx322_2; replace hx322_3 := xC HB hx322_3; replace hx322_4 := xC HB hx322_4; replace hx322_5 := xC HB hx322_5; have HR322_5 := Aside0.mk hi322_5; have HC322_5 := Aside0.mk hl322_5; clear hi322_5 hl322_5; replace p322 := eq_true p322; replace q322 := eq_true q322
       go_upto_region 7 with (first | ((with_reducible refine gate_dst (N := 10) rfl ?_); (try (refine gate_guard (by rfl) ?_; dsimp only)); refine bxE 60 (cs := #[.int .i64 0, .int .i64 0, .int .i64 0, .int .i64 0, .int .i64 0, .slice none 0 0]) ?_; intro gb323 hg w28 hbox hb; replace HO_322000 := kS HO_322000 hb; have BK323 := Aside0.mk hbox; have GW323 := kG HB hg; have GE323 := kG HB hg; replace HB := kH HB hb; have NB315_323 := kL BK315 hg; have NB323_315 := kQ BK315 hg; replace BK315 := kB BK315 hb; have NB316_323 := kL BK316 hg; have NB323_316 := kQ BK316 hg; replace BK316 := kB BK316 hb; have NB321_323 := kL BK321 hg; have NB323_321 := kQ BK321 hg; replace BK321 := kB BK321 hb; clear hb hbox hg; have hnb29 := NB323_315.out; have hnc29 := NB315_323.out; have hnb30 := NB323_316.out; have hnc30 := NB316_323.out; have hnb31 := NB323_321.out; have hnc31 := NB321_323.out; obtain ⟨hcz32_0, hfz32_0⟩ := cY0 BK323; obtain ⟨hcz32_1, hfz32_1⟩ := cY1 BK323; obtain ⟨hcz32_2, hfz32_2⟩ := cY2 BK323; obtain ⟨hcz32_3, hfz32_3⟩ := cY3 BK323; obtain ⟨hcz32_4, hfz32_4⟩ := cY4 BK323; obtain ⟨hcz32_5, hfz32_5⟩ := cY5 BK323))
       (try simp only [Act.put, lT, l0_, lS])
       go_cut [59] (fun v59 wc => ∃ (kq : Nat) (x59_26 : Bool), v59 = .bool x59_26 ∧ Aside0 (file_Done.j2 kq l2 x26_2 l1 (l1.length : Int) x26_2 x59_26 l0_0 x322000_2 ((rd_T60 l1 x26_2).f0) ((rd_T60 l1 x26_2).f1) ((rd_T60 l1 x26_2).f2) ((rd_T60 l1 x26_2).f3) ((rd_T60 l1 x26_2).f4) ((rd_T60 l1 x26_2).f5) = some (r1, r2)) ∧ Aside0 (kq ≤ k2) ∧ Aside0 (Kd.S k28 28 wc w.heap.size (fun _ => True) u322000 x322000_2) ∧ Aside0 (wc.heap[gb315]? = some (.cells #[(.slice A0_0 l0_0.length c0_0)] 24 (0, 0))) ∧ Aside0 (wc.heap[gb316]? = some (.cells #[(.slice none 0 0)] 24 (0, 0))) ∧ Aside0 (wc.heap[gb321]? = some (.cells #[u322000] 24 (0, 0))) ∧ Aside0 (wc.heap[gb323]? = some (.cells #[.int .i64 ((rd_T60 l1 x26_2).f0), .int .i64 ((rd_T60 l1 x26_2).f1), .int .i64 ((rd_T60 l1 x26_2).f2), .int .i64 ((rd_T60 l1 x26_2).f3), .int .i64 ((rd_T60 l1 x26_2).f4), (.slice A322_5 ((rd_T60 l1 x26_2).f5).length c322_5)] 60 (0, 0))) ∧ Aside0 (Below w.heap.size w wc))
       case first =>
        have H := HC27.out; clear HC27; replace H := Option.bind_eq_some_iff.mp H; obtain ⟨t324, A330, H⟩ := H; have A33 := Aside0.mk A330; clear A330
        by_cases c34 : t324 = true
        ·
         subst c34
         have H1 : (if ((rd_T60 l1 x26_2).f1) < 0 then (none) else (if ((rd_T60 l1 x26_2).f1) ≥ 5 then (none) else (if x26_2 < (l2.length : Int) then (if (rd l2 x26_2) < 1 then (none) else (file_Done.j2 k2 l2 x26_2 l1 (l1.length : Int) x26_2 (decide ((rd l2 x26_2) > 1099511627776)) l0_0 x322000_2 ((rd_T60 l1 x26_2).f0) ((rd_T60 l1 x26_2).f1) ((rd_T60 l1 x26_2).f2) ((rd_T60 l1 x26_2).f3) ((rd_T60 l1 x26_2).f4) ((rd_T60 l1 x26_2).f5))) else (none)))) = some (r1, r2) := by rw [if_pos rfl] at H; exact H
         clear H; have H := H1; clear H1
         replace H := nQ H; obtain ⟨c35, H⟩ := H; have c35b0 := decide_eq_false c35; clear c35
         (first | rw [c35b0] | (simp only [i64_w, i32_w]; rw [c35b0]) | skip)
         replace H := nQ H; obtain ⟨c36, H⟩ := H; have c36b0 : decide (5 ≤ ((rd_T60 l1 x26_2).f1)) = false := decide_eq_false c36; clear c36
         replace H := nP H; obtain ⟨c37, H⟩ := H; have c37b0 := decide_eq_true c37; clear c37
         replace H := nQ H; obtain ⟨c38, H⟩ := H; have c38b0 := decide_eq_false c38; clear c38; have H' := Aside0.mk H; clear H; have hnb39 := NB315_316.out; have hnc39 := NB316_315.out; have hnb40 := NB315_321.out; have hnc40 := NB321_315.out; have hnb41 := NB315_323.out; have hnc41 := NB323_315.out; obtain ⟨hcz42_0, hfz42_0⟩ := cY0 BK315; have hnb43 := NB323_316.out; have hnc43 := NB316_323.out; have hnb44 := NB323_321.out; have hnc44 := NB321_323.out; obtain ⟨hcz45_0, hfz45_0⟩ := cY0 BK323; obtain ⟨hcz45_1, hfz45_1⟩ := cY1 BK323; obtain ⟨hcz45_2, hfz45_2⟩ := cY2 BK323; obtain ⟨hcz45_3, hfz45_3⟩ := cY3 BK323; obtain ⟨hcz45_4, hfz45_4⟩ := cY4 BK323; obtain ⟨hcz45_5, hfz45_5⟩ := cY5 BK323
         go_wp2_with (first | ((with_reducible refine gate_callee (f := 56) rfl ?_); refine goesK (some 34) Try.func56 #[.agg #[.slice A0_0 l0_0.length c0_0], .int .i64 ((rd_T60 l1 x26_2).f0)] ?_; (with_reducible refine (file_is.calls k2 _ _ l0_0 ((rd_T60 l1 x26_2).f0) true _ ?side1 ?side2 A33.out).mono ?_); (case side1 => exact Kd.C_below HR0_0.out (mH HB)); (case side2 => exact HC0_0.out); rintro e w46 ⟨rfl, hb⟩; refine ⟨_, rfl, ?_⟩; replace HO_322000 := Aside0.mk (Kd.S_below (by (with_reducible repeat (first | apply Kd.S_alloc | apply Kd.S_drewN | apply Kd.S_drew)); exact (Kd.S_mono (Kd.S_far (p := ⟨gb323, 5, none⟩) (Kd.S_far (p := ⟨gb323, 4, none⟩) (Kd.S_far (p := ⟨gb323, 3, none⟩) (Kd.S_far (p := ⟨gb323, 2, none⟩) (Kd.S_far (p := ⟨gb323, 1, none⟩) (Kd.S_far (p := ⟨gb323, 0, none⟩) (Kd.S_types HO_322000.out BK323.out (by decide)) (fun _ hk => hk.2) (.int .i64 ((rd_T60 l1 x26_2).f0))) (fun _ hk => hk.2) (.int .i64 ((rd_T60 l1 x26_2).f1))) (fun _ hk => hk.2) (.int .i64 ((rd_T60 l1 x26_2).f2))) (fun _ hk => hk.2) (.int .i64 ((rd_T60 l1 x26_2).f3))) (fun _ hk => hk.2) (.int .i64 ((rd_T60 l1 x26_2).f4))) (fun _ hk => hk.2) (.slice A322_5 ((rd_T60 l1 x26_2).f5).length c322_5)) (fun _ h_ => h_.1))) hb); replace BK315 := Aside0.mk (bB (mF BK315) hb); replace BK316 := Aside0.mk (bB (mF BK316) hb); replace BK321 := Aside0.mk (bB (mF BK321) hb); replace BK323 := Aside0.mk (bB (g := gb323) (o := .cells #[.int .i64 ((rd_T60 l1 x26_2).f0), .int .i64 ((rd_T60 l1 x26_2).f1), .int .i64 ((rd_T60 l1 x26_2).f2), .int .i64 ((rd_T60 l1 x26_2).f3), .int .i64 ((rd_T60 l1 x26_2).f4), .slice A322_5 ((rd_T60 l1 x26_2).f5).length c322_5] 60 (0, 0)) (pP BK323) hb); replace HB := kH HB hb; (try clear hb); (try clear hk); obtain ⟨hcz47_0, hfz47_0⟩ := cY0 BK323; obtain ⟨hcz47_1, hfz47_1⟩ := cY1 BK323; obtain ⟨hcz47_2, hfz47_2⟩ := cY2 BK323; obtain ⟨hcz47_3, hfz47_3⟩ := cY3 BK323; obtain ⟨hcz47_4, hfz47_4⟩ := cY4 BK323; obtain ⟨hcz47_5, hfz47_5⟩ := cY5 BK323; have p325 : 0 ≤ (x26_2 : Int) := dT; have q325 : x26_2 < (l2.length : Int) := dT; obtain ⟨ad325, e325, hx325_0⟩ := Kd.at_int HR2.out x26_2 p325 q325; cases e325; replace hx325_0 := xC HB hx325_0; replace p325 := eq_true p325; replace q325 := eq_true q325; have p326 : 0 ≤ (x26_2 : Int) := dT; have q326 : x26_2 < (l2.length : Int) := dT; obtain ⟨ad326, e326, hx326_0⟩ := Kd.at_int HR2.out x26_2 p326 q326; obtain rfl : ad325 = ad326 := (by injection e326); replace hx326_0 := xC HB hx326_0; replace p326 := eq_true p326; replace q326 := eq_true q326))
         go_meet
         case rel => exact ⟨_, (decide ((rd l2 x26_2) > 1099511627776)), sI, H', ⟨by have := HJ3.out; have := HK2.out; first | omega | exact Nat.le_refl _⟩, ⟨mS HO_322000⟩, ⟨mB BK315⟩, ⟨mB BK316⟩, ⟨mB BK321⟩, ⟨mB BK323⟩, ⟨mH HB⟩⟩
        ·
         replace c34 := Bool.eq_false_iff.mpr c34; subst c34
         have H1 : (none) = some (r1, r2) := by rw [if_neg (show ¬ (false = true) by decide)] at H; exact H
         clear H; have H := H1; clear H1; exact absurd H (by simp)
       case rest =>
        clear HC27
        (try clear c1); (try clear c2); (try clear c12); (try clear c24); (try clear c24b0); (try clear c25); (try clear c25b0); (try clear c26); (try clear c26b0); (try clear hcz17_0); (try clear hcz23_0); (try clear hcz32_0); (try clear hcz32_1); (try clear hcz32_2); (try clear hcz32_3); (try clear hcz32_4); (try clear hcz32_5); (try clear hfz17_0); (try clear hfz23_0); (try clear hfz32_0); (try clear hfz32_1); (try clear hfz32_2); (try clear hfz32_3); (try clear hfz32_4); (try clear hfz32_5); (try clear hx322_0); (try clear hx322_1); (try clear hx322_2); (try clear hx322_3); (try clear hx322_4); (try clear hx322_5); (try clear p322); (try clear q322)
        obtain ⟨kq, x59_26, rfl, HA, HJ26, HO_322000, BK315, BK316, BK321, BK323, HB⟩ := hcut
        cases kq with
        | zero => exact absurd HA.out (by simp [file_Done.j2])
        | succ kj26 =>
         have H := HA.out; clear HA; simp only [file_Done.j2] at H
         by_cases c48 : x59_26 = true
         ·
          subst c48
          have H1 : (none) = some (r1, r2) := by rw [if_pos rfl] at H; exact H
          clear H; have H := H1; clear H1; exact absurd H (by simp)
         ·
          replace c48 := Bool.eq_false_iff.mpr c48; subst c48
          have H1 : (if 0 ≤ ((rd_T60 l1 x26_2).f0) then (if ((rd_T60 l1 x26_2).f0) < (x322000_2.length : Int) then (if 0 ≤ x26_2 then (if x26_2 < (l2.length : Int) then (if 0 ≤ ((rd_T60 l1 x26_2).f1) then (if ((rd_T60 l1 x26_2).f1) < (((rd_T28 x322000_2 ((rd_T60 l1 x26_2).f0)).f3).length : Int) then (file_Done.l0 kj26 l2 l1 (l1.length : Int) (wrap64 (x26_2 + 1)) l0_0 (x322000_2.set (((rd_T60 l1 x26_2).f0) : Int).toNat (⟨(rd_T28 x322000_2 ((rd_T60 l1 x26_2).f0)).f0, (rd_T28 x322000_2 ((rd_T60 l1 x26_2).f0)).f1, (rd_T28 x322000_2 ((rd_T60 l1 x26_2).f0)).f2, (((rd_T28 x322000_2 ((rd_T60 l1 x26_2).f0)).f3).set (((rd_T60 l1 x26_2).f1) : Int).toNat (rd l2 x26_2)), (rd_T28 x322000_2 ((rd_T60 l1 x26_2).f0)).f4⟩ : S28))) else (none)) else (none)) else (none)) else (none)) else (none)) else (none)) = some (r1, r2) := by rw [if_neg (show ¬ (false = true) by decide)] at H; exact H
          clear H; have H := H1; clear H1
          replace H := nP H; obtain ⟨c49, H⟩ := H; have c49b0 := decide_eq_true c49; clear c49
          replace H := nP H; obtain ⟨c50, H⟩ := H; have c50b0 := decide_eq_true c50; clear c50
          replace H := nP H; obtain ⟨c51, H⟩ := H; have c51b0 := decide_eq_true c51; clear c51
          replace H := nP H; obtain ⟨c52, H⟩ := H; have c52b0 := decide_eq_true c52; clear c52
          replace H := nP H; obtain ⟨c53, H⟩ := H; have c53b0 := decide_eq_true c53; clear c53
          replace H := nP H; obtain ⟨c54, H⟩ := H; have c54b0 := decide_eq_true c54; clear c54; obtain ⟨y329, hy329⟩ : ∃ y_ : List Int, y_ = (((rd_T28 x322000_2 ((rd_T60 l1 x26_2).f0)).f3).set (((rd_T60 l1 x26_2).f1) : Int).toNat (rd l2 x26_2)) := ⟨_, rfl⟩
          replace H : (file_Done.l0 kj26 l2 l1 (l1.length : Int) (wrap64 (x26_2 + 1)) l0_0 (x322000_2.set (((rd_T60 l1 x26_2).f0) : Int).toNat (⟨(rd_T28 x322000_2 ((rd_T60 l1 x26_2).f0)).f0, (rd_T28 x322000_2 ((rd_T60 l1 x26_2).f0)).f1, (rd_T28 x322000_2 ((rd_T60 l1 x26_2).f0)).f2, y329, (rd_T28 x322000_2 ((rd_T60 l1 x26_2).f0)).f4⟩ : S28))) = some (r1, r2) := rH H hy329
          have Ny329 := Aside0.mk hy329; clear hy329; obtain ⟨y331, hy331⟩ : ∃ y_ : List (S28), y_ = (x322000_2.set (((rd_T60 l1 x26_2).f0) : Int).toNat (⟨(rd_T28 x322000_2 ((rd_T60 l1 x26_2).f0)).f0, (rd_T28 x322000_2 ((rd_T60 l1 x26_2).f0)).f1, (rd_T28 x322000_2 ((rd_T60 l1 x26_2).f0)).f2, y329, (rd_T28 x322000_2 ((rd_T60 l1 x26_2).f0)).f4⟩ : S28)) := ⟨_, rfl⟩
          replace H : (file_Done.l0 kj26 l2 l1 (l1.length : Int) (wrap64 (x26_2 + 1)) l0_0 y331) = some (r1, r2) := rH H hy331
          have Ny331 := Aside0.mk hy331; clear hy331; have H' := Aside0.mk H; clear H
          try go_wp2
          replace HO_322000 := Aside0.mk (Kd.S_drew HO_322000.out); replace BK315 := Aside0.mk (bD BK315.out); replace BK316 := Aside0.mk (bD BK316.out); replace BK321 := Aside0.mk (bD BK321.out); replace BK323 := Aside0.mk (bD BK323.out); replace HB := Aside0.mk (wD HB.out); obtain ⟨Ao57, co57, eo57⟩ := Kd.S_slice HO_322000.out
          (first | subst eo57 | (injection eo57 with f1_ f2_ f3_; have f4_ := f1_.symm; have f5_ := f3_.symm; clear f1_ f2_ f3_; subst f4_; subst f5_))
          have p327 : 0 ≤ (((rd_T60 l1 x26_2).f0) : Int) := dT; have q327 : ((rd_T60 l1 x26_2).f0) < (x322000_2.length : Int) := dT; obtain ⟨ad327, A327_3, c327_3, A327_4, c327_4, e327, hx327_0, hx327_1, hx327_2, hx327_3, hx327_4, hl327_3, hi327_3, hl327_4, hi327_4⟩ := at_T28 (Kd.S_reads' HO_322000.out).2.2 ((rd_T60 l1 x26_2).f0) p327 q327
          cases e327
          obtain ⟨ce327, hce327, hMe327, hcc327⟩ := Kd.S_get HO_322000.out z28 ((rd_T60 l1 x26_2).f0) p327 (by first | exact q327 | exact dT | (have e_ := (Kd.S_reads' HO_322000.out).1; omega))
          obtain ⟨ve327_3, ve327_4, rfl, ge327_3, ge327_4⟩ := k28_openM hMe327; have hv327_3 := hcc327 3 _ rfl; rw [add_field _ _ 3 (by omega)] at hv327_3; replace hv327_3 := Option.some.inj (hv327_3.symm.trans hx327_3); rw [hv327_3] at ge327_3; have HL327_3 := Aside0.mk (show Kd.R (Kd.int .i64) 3 _ _ _ _ ((rd_T28 x322000_2 ((rd_T60 l1 x26_2).f0)).f3) from ge327_3); clear hv327_3 ge327_3; have HX327_3 := Aside0.mk hx327_3; have hv327_4 := hcc327 4 _ rfl; rw [add_field _ _ 4 (by omega)] at hv327_4; replace hv327_4 := Option.some.inj (hv327_4.symm.trans hx327_4); rw [hv327_4] at ge327_4; have HL327_4 := Aside0.mk (show Kd.R k78 78 _ _ _ _ ((rd_T28 x322000_2 ((rd_T60 l1 x26_2).f0)).f4) from ge327_4); clear hv327_4 ge327_4; have HX327_4 := Aside0.mk hx327_4; clear hcc327 hce327; have HR327_3 := Aside0.mk hi327_3; have HC327_3 := Aside0.mk hl327_3; clear hi327_3 hl327_3; have HR327_4 := Aside0.mk hi327_4; have HC327_4 := Aside0.mk hl327_4; clear hi327_4 hl327_4; replace p327 := eq_true p327; replace q327 := eq_true q327; have p328 : 0 ≤ (x26_2 : Int) := dT; have q328 : x26_2 < (l2.length : Int) := dT; obtain ⟨ad328, e328, hx328_0⟩ := Kd.at_int HR2.out x26_2 p328 q328; have hw328_0 := hx328_0
          cases e328
          replace hx328_0 := xC HB hx328_0; replace p328 := eq_true p328; replace q328 := eq_true q328; have p55 : 0 ≤ (((rd_T60 l1 x26_2).f1) : Int) := dT; have q55 : (((rd_T60 l1 x26_2).f1) : Int) < ((((rd_T28 x322000_2 ((rd_T60 l1 x26_2).f0)).f3).length : Int) : Int) := dT; obtain ⟨go55, co55, eo55, gb55, gl55, cl55, HG55⟩ := Kd.R_form HL327_3.out (by omega)
          (first | cases eo55 | (injection eo55 with ea_ en_ ec_; (first | subst ea_ | (injection ea_ with ea_; subst ea_)); subst ec_; clear en_))
          have GB55 := Aside0.mk gb55; have GG55 := Aside0.mk HG55; clear gb55 gl55 HG55; obtain ⟨hx55_0, hf55_0⟩ := Kd.R_celln 0 HL327_3.out (((rd_T60 l1 x26_2).f1) : Int) p55 q55; replace p55 := eq_true p55; replace q55 := eq_true q55; have hq58 : (((rd_T60 l1 x26_2).f0) : Int) < (x322000_2.length : Int) := (by have h_ : (((rd_T60 l1 x26_2).f0) : Int) < ((x322000_2.length : Int) : Int) := dT; first | exact h_ | (have e_ := (Kd.S_reads' HO_322000.out).1; omega) | simpa only [List.length_set, List.length_set] using h_)
          obtain ⟨oki58, ce58, hcl58, hM58, hcc58, hok58, hbk58⟩ := Kd.S_borrow HO_322000.out z28 (((rd_T60 l1 x26_2).f0) : Int) (dT) hq58; obtain ⟨ve58_3, ve58_4, rfl, ge58_3, ge58_4⟩ := k28_openM hM58; have hv58 := hcc58 3 _ rfl; rw [add_field _ _ 3 (by omega)] at hv58; replace hv58 := Option.some.inj (hv58.symm.trans HX327_3.out); subst hv58; clear hcc58 hcl58; replace ge58_3 := (show Kd.R (Kd.int .i64) 3 _ _ _ _ ((rd_T28 x322000_2 ((rd_T60 l1 x26_2).f0)).f3) from ge58_3); have HP58 := Kd.R_putg ge58_3 (((rd_T60 l1 x26_2).f1) : Int) (rd l2 x26_2); rw [← Ny329.out] at HP58; have HS58 := hbk58 HP58.2 (fun k_ e_ => by injection e_ with e_; subst e_; exact ge58_3.1 _ rfl) (x' := (⟨(rd_T28 x322000_2 ((rd_T60 l1 x26_2).f0)).f0, (rd_T28 x322000_2 ((rd_T60 l1 x26_2).f0)).f1, (rd_T28 x322000_2 ((rd_T60 l1 x26_2).f0)).f2, y329, (rd_T28 x322000_2 ((rd_T60 l1 x26_2).f0)).f4⟩ : S28)) (k28_mkM _ _ _ (⟨(rd_T28 x322000_2 ((rd_T60 l1 x26_2).f0)).f0, (rd_T28 x322000_2 ((rd_T60 l1 x26_2).f0)).f1, (rd_T28 x322000_2 ((rd_T60 l1 x26_2).f0)).f2, y329, (rd_T28 x322000_2 ((rd_T60 l1 x26_2).f0)).f4⟩ : S28) HP58.1 (Kd.R_over' (v := (.slice (some ⟨go55, 0, none⟩) ((rd_T28 x322000_2 ((rd_T60 l1 x26_2).f0)).f3).length c327_3)) ge58_4 (Kd.R_typed ge58_3) (by decide) HP58.2))
          rw [← Ny331.out] at HS58; have HQ58 := Aside0.mk HS58; clear HP58 HS58 hbk58 hok58; refine start_ (n := 15) (S := fun w' => w'.cell? ⟨gb321, 0, none⟩ = some (.slice (some ad327) x322000_2.length co57) ∧ w'.cell? ⟨gb323, 0, none⟩ = some (.int .i64 ((rd_T60 l1 x26_2).f0)) ∧ w'.cell? ⟨gb323, 1, none⟩ = some (.int .i64 ((rd_T60 l1 x26_2).f1)) ∧ w'.cell? ⟨gb323, 2, none⟩ = some (.int .i64 ((rd_T60 l1 x26_2).f2)) ∧ w'.cell? ⟨gb323, 3, none⟩ = some (.int .i64 ((rd_T60 l1 x26_2).f3)) ∧ w'.cell? ⟨gb323, 4, none⟩ = some (.int .i64 ((rd_T60 l1 x26_2).f4)) ∧ w'.cell? ⟨gb323, 5, none⟩ = some (.slice A322_5 ((rd_T60 l1 x26_2).f5).length c322_5) ∧ w'.cell? (ad327.add ((((rd_T60 l1 x26_2).f0)).toNat * 5)) = some (.int .i64 ((rd_T28 x322000_2 ((rd_T60 l1 x26_2).f0)).f0)) ∧ w'.cell? ⟨(ad327.add ((((rd_T60 l1 x26_2).f0)).toNat * 5)).block, (ad327.add ((((rd_T60 l1 x26_2).f0)).toNat * 5)).off + 1, none⟩ = some (.int .i64 ((rd_T28 x322000_2 ((rd_T60 l1 x26_2).f0)).f1)) ∧ w'.cell? ⟨(ad327.add ((((rd_T60 l1 x26_2).f0)).toNat * 5)).block, (ad327.add ((((rd_T60 l1 x26_2).f0)).toNat * 5)).off + 2, none⟩ = some (.int .i64 ((rd_T28 x322000_2 ((rd_T60 l1 x26_2).f0)).f2)) ∧ w'.cell? ⟨(ad327.add ((((rd_T60 l1 x26_2).f0)).toNat * 5)).block, (ad327.add ((((rd_T60 l1 x26_2).f0)).toNat * 5)).off + 3, none⟩ = some (.slice (some ⟨go55, 0, none⟩) ((rd_T28 x322000_2 ((rd_T60 l1 x26_2).f0)).f3).length c327_3) ∧ w'.cell? ⟨(ad327.add ((((rd_T60 l1 x26_2).f0)).toNat * 5)).block, (ad327.add ((((rd_T60 l1 x26_2).f0)).toNat * 5)).off + 4, none⟩ = some (.slice A327_4 ((rd_T28 x322000_2 ((rd_T60 l1 x26_2).f0)).f4).length c327_4) ∧ w'.cell? (ad328.add (x26_2).toNat) = some (.int .i64 (rd l2 x26_2))) (ds := [14]) B26_0 (by kernel_rfl) rfl rfl ⟨cZ0 BK321, cZ0 BK323, cZ1 BK323, cZ2 BK323, cZ3 BK323, cZ4 BK323, cZ5 BK323, hx327_0, hx327_1, hx327_2, hx327_3, hx327_4, (xC HB hw328_0)⟩ (fun hHeld => ?_); refine with_tabW file_Done.tab9 file_Done.bits9 (fun HT_ HW_ => ?_); generalize wc.drew = w56 at HO_322000 BK315 BK316 BK321 BK323 HB GG55 HL327_3 HL327_4 HQ58 HR327_3 HR327_4 HX327_3 HX327_4 hf55_0 hx327_0 hx327_1 hx327_2 hx327_3 hx327_4 hx328_0 hx55_0 hHeld ⊢; refine pure_ (i := 0) (N := some 61) (v := ?_) (a' := ?_) B26_1 rfl rfl (any_of HT_.out (by kernel_rfl)) (fun _ _ _ h => h) (Or.inl ⟨by rfl, ?_⟩) ?_ ?_; rotate_left
          ·
           intro w'; go_simp; with_reducible rfl
          rotate_left
          ·
           simp only [Act.put, lT, l0_, lS, i64_w, i32_w]; rfl
          refine pE 2 63 B26_2 HT_ ?_
          refine pE 7 68 B26_3 HT_ ?_
          refine pE 9 70 B26_4 HT_ ?_
          refine pE 10 71 B26_5 HT_ ?_
          refine pE 11 72 B26_6 HT_ ?_
          refine tE 1 62 B26_7 HT_ HW_ hHeld ?_
          refine tE 3 64 B26_8 HT_ HW_ hHeld ?_
          refine pE 4 65 B26_9 HT_ ?_
          refine pE 5 66 B26_10 HT_ ?_
          refine tE 6 67 B26_11 HT_ HW_ hHeld ?_
          refine tE 8 69 B26_12 HT_ HW_ hHeld ?_
          refine tE 12 73 B26_13 HT_ HW_ hHeld ?_
          refine pE 13 74 B26_14 HT_ ?_
          refine last_ (i := 14) (N := none) B26_15 rfl rfl (one_of HT_.out (by kernel_rfl)) (by decide) (fun K hK => ?_); refine skip_ (w1 := ?_) (by rfl) rfl ?_ ?_; rotate_left
          ·
           go_simp; rfl
          refine hK.out _ _ ?_; clear hK K; refine done_ (done_of HT_.out (by kernel_rfl)) ?_
          try go_wp2
          go_roundg kj26
          case measure => have := HJ3.out; have := HK2.out; have := HJ26.out; omega
          case rel => exact ⟨(wrap64 (x26_2 + 1)), (y331), (.slice (some ad327) x322000_2.length co57), sI, H', ⟨by have := HJ3.out; have := HK2.out; have := HJ26.out; omega⟩, ⟨mS HQ58⟩, ⟨by (with_reducible repeat (first | refine bN ?_ _ | refine bD ?_ | refine bA ?_ _)); refine bF ?_ (by have h_ := Kd.R_ne HL327_3.out BK315.out (by decide); intro e_; exact h_ (by rw [e_]; rfl)) _; (with_reducible repeat (first | refine bN ?_ _ | refine bD ?_ | refine bA ?_ _)); exact BK315.out⟩, ⟨by (with_reducible repeat (first | refine bN ?_ _ | refine bD ?_ | refine bA ?_ _)); refine bF ?_ (by have h_ := Kd.R_ne HL327_3.out BK316.out (by decide); intro e_; exact h_ (by rw [e_]; rfl)) _; (with_reducible repeat (first | refine bN ?_ _ | refine bD ?_ | refine bA ?_ _)); exact BK316.out⟩, ⟨by (with_reducible repeat (first | refine bN ?_ _ | refine bD ?_ | refine bA ?_ _)); refine bF ?_ (by have h_ := Kd.R_ne HL327_3.out BK321.out (by decide); intro e_; exact h_ (by rw [e_]; rfl)) _; (with_reducible repeat (first | refine bN ?_ _ | refine bD ?_ | refine bA ?_ _)); exact BK321.out⟩, ⟨mH HB⟩⟩
      ·
       rw [if_neg c24] at H; have c24b0 := decide_eq_false c24; clear c24; replace H := Option.bind_eq_some_iff.mp H; obtain ⟨t332, A600, H⟩ := H; have A60 := Aside0.mk A600; clear A600
       by_cases c61 : t332 = true
       ·
        subst c61
        have H1 : (some (x322000_2, 0)) = some (r1, r2) := by rw [if_pos rfl] at H; exact H
        clear H; have H := H1; clear H1; simp only [Option.some.injEq, Prod.mk.injEq] at H; obtain ⟨rfl, rfl⟩ := H; have hnb62 := NB321_315.out; have hnc62 := NB315_321.out; have hnb63 := NB321_316.out; have hnc63 := NB316_321.out; obtain ⟨hcz64_0, hfz64_0⟩ := cY0 BK321; obtain ⟨Ao65, co65, eo65⟩ := Kd.S_slice HO_322000.out; subst eo65
        go_wp2_with (first | ((with_reducible refine gate_callee (f := 55) rfl ?_); refine goesK (some 77) Try.func55 #[.agg #[.slice Ao65 x322000_2.length co65]] ?_; (with_reducible refine (dir_May.calls k2 _ _ x322000_2 true _ ?side1 ?side2 A60.out).mono ?_); (case side1 => repeat (first | exact (Kd.S_reads' HO_322000.out).2.2 | (with_reducible refine Kd.C_alloc ?_ _) | (with_reducible refine Kd.C_drewN ?_ _) | (with_reducible refine Kd.C_drew ?_))); (case side2 => exact (Kd.S_reads' HO_322000.out).2.1); rintro e w66 ⟨rfl, hb⟩; refine ⟨_, rfl, ?_⟩; replace HO_322000 := kS HO_322000 hb; replace BK315 := kB BK315 hb; replace BK316 := kB BK316 hb; replace BK321 := kB BK321 hb; replace HB := kH HB hb; (try clear hb); (try clear hk); obtain ⟨hcz67_0, hfz67_0⟩ := cY0 BK321; have hnb68 := NB316_315.out; have hnc68 := NB315_316.out; obtain ⟨hcz69_0, hfz69_0⟩ := cY0 BK316))
        refine bodyPost_ret (results_ct rfl _ _ gb316 24 #[.slice Ao65 x322000_2.length co65] (0, 0) _ rfl (pP BK316) Try.underlying24 rfl (by kernel_rfl)) rfl ?_
        exact ⟨_, rT, fS ⟨Kd.S_types HO_322000.out BK316.out (by decide)⟩, mH HB⟩
       ·
        replace c61 := Bool.eq_false_iff.mpr c61; subst c61
        have H1 : (none) = some (r1, r2) := by rw [if_neg (show ¬ (false = true) by decide)] at H; exact H
        clear H; have H := H1; clear H1; exact absurd H (by simp)
abbrev B27_0 : Array Bool := #[false, false, false, false, false]
abbrev B27_1 := B27_0.set! 0 true
abbrev B27_2 := B27_1.set! 1 true
abbrev B27_3 := B27_2.set! 2 true
abbrev B27_4 := B27_3.set! 3 true
abbrev B27_5 : Array Bool := #[true, true, true, true, true]
def mkKeep (old : List Int) (keep : Int) : Nat := (mn (mx keep 0) (old.length : Int)).toNat
def mkBase (old : List Int) (keep : Int) : List Int := (old.take (mkKeep old keep) ++ List.replicate 16 0).take 16
def mkIdx (frm : Int) (data : List Int) (i : Nat) : Int := wrap64 ((i : Int) - mx frm (-(data.length : Int)))
def mkAt (old : List Int) (keep frm : Int) (data : List Int) : Nat → List Int
 | 0 => mkBase old keep
 | i + 1 => if 0 ≤ mkIdx frm data i ∧ mkIdx frm data i < data.length then (mkAt old keep frm data i).set i (rd data (mkIdx frm data i)) else mkAt old keep frm data i
abbrev mkV (x : Int) : Value := .int .u8 x
theorem mkBase_len (old : List Int) (keep : Int) : (mkBase old keep).length = 16 := by
 unfold mkBase; rw [List.length_take, List.length_append, List.length_replicate]; omega
theorem mkAt_len (old : List Int) (keep frm : Int) (data : List Int) : ∀ i, (mkAt old keep frm data i).length = 16
 | 0 => mkBase_len old keep
 | i + 1 => by
  simp only [mkAt]
  split
  ·
   rw [List.length_set]; exact mkAt_len old keep frm data i
  ·
   exact mkAt_len old keep frm data i
theorem mk_splice (old : List Int) (n : Nat) (h : n ≤ old.length) : splice ((List.replicate 16 (0 : Int)).map mkV) 0 (((old.take n).take 16).map mkV) = ((old.take n ++ List.replicate 16 0).take 16).map mkV := by
 unfold splice
 rw [List.take_zero, List.nil_append, Nat.zero_add, List.length_map, ← List.map_drop, ← List.map_append]
 congr 1
 rw [List.take_append, List.length_take, List.drop_replicate, List.take_replicate, List.length_take]
 congr 2
 omega
theorem mk_info5 : (Try.prog.info? 5).map (fun ti => (ti.zero, ti.size, ti.bytes)) = some (some (Value.int IntKind.u8 0), 1, 1) := by kernel_rfl
theorem mk_made : madeCells (Value.int .u8 0).cells (Int.toNat 16 * 1) = ((List.replicate 16 (0 : Int)).map mkV).toArray := by kernel_rfl
theorem mk_put {w : World} {g i : Nat} {L : List Int} {x : Int} (h : w.heap[g]? = some (.cells (L.map mkV).toArray 5 (0, 0))) : (w.setCell ⟨g, i, none⟩ (mkV x)).heap[g]? = some (.cells ((L.set i x).map mkV).toArray 5 (0, 0)) :=
 blk_put h i _ (by rw [lT, List.map_set])
theorem mk_cell {w : World} {g i : Nat} {L : List Int} (h : w.heap[g]? = some (.cells (L.map mkV).toArray 5 (0, 0))) (hi : i < L.length) : w.cell? ⟨g, i, none⟩ = some (mkV (L.getD i 0)) := by
 rw [bC h i, List.getElem?_toArray, List.getElem?_map, List.getD_eq_getElem?_getD, List.getElem?_eq_getElem hi]; rfl
set_option maxHeartbeats 8000000 in
set_option maxRecDepth 100000 in
theorem make_walk (A : Option Addr) (c : Nat) (old : List Int) (a0 a1 a2 keep frm : Int) (A5 : Option Addr) (c5 : Nat) (data : List Int) (w : World) (hr : Kd.C (Kd.int .u8) w A old.length old) (hc : old.length ≤ c) (hr5 : Kd.C (Kd.int .u8) w A5 data.length data) (hc5 : data.length ≤ c5) :
 Calls Try.prog 37 #[.slice A old.length c, .agg #[.int .i64 a0, .int .i64 a1, .int .i64 a2, .int .i64 keep, .int .i64 frm, .slice A5 data.length c5]] w fun e w' => ∃ v0_ : Value, e = .returned (v0_) ∧ Kd.R (Kd.int .u8) 5 w' w.heap.size (fun _ => True) v0_ (mkAt old keep frm data 16) ∧ Below w.heap.size w w' := by
 have hu50 := Try.underlying50; have hu60 := Try.underlying60; have hu5 := Try.underlying5; have HB := Aside0.mk (Below.refl w.heap.size w); have HR := Aside0.mk hr; have HC := Aside0.mk hc; have HR5 := Aside0.mk hr5; have HC5 := Aside0.mk hc5; have HM := Aside0.mk (Kd.C_max hr); have HM5 := Aside0.mk (Kd.C_max hr5); clear hr hc hr5 hc5
 obtain ⟨ti, hti, htz⟩ : ∃ ti, Try.prog.info? 5 = some ti ∧ (ti.zero, ti.size, ti.bytes) = (some (Value.int IntKind.u8 0), 1, 1) := by
  have h := mk_info5
  cases hq : Try.prog.info? 5 with
  | none => rw [hq] at h; cases h
  | some ti => rw [hq] at h; exact ⟨ti, rfl, Option.some.inj h⟩
 simp only [Prod.mk.injEq] at htz; obtain ⟨Z, hZ⟩ : ∃ Z : Array Value, Z = ((List.replicate 16 (0 : Int)).map mkV).toArray := ⟨_, rfl⟩
 have hmk : ∀ W : World, (Instr.makeSlice 50 (.int .i64 16) (.int .i64 16)).run Try.prog W = .ok (.slice (some ⟨W.heap.size, 0, none⟩) 16 16) (W.alloc (.cells Z 5)) := fun W => by
  have := run_make W 50 5 ti (.int .u8 0) Try.underlying50 hti htz.1 .i64 .i64 16 16 (by decide) (by decide) (by rw [htz.2.2]; decide) (by decide)
  rw [htz.2.1] at this; exact this.trans (by rw [mk_made, hZ]; rfl)
 clear hti htz; have HZ := Aside0.mk hZ; clear hZ
 go_enter Try.func37, Try.ntmps37
 go_upto_region 2 with ((with_reducible refine gate_dst (N := 3) rfl ?_); (try (refine gate_guard (by rfl) ?_; dsimp only)); refine bxE 60 (cs := #[.int .i64 a0, .int .i64 a1, .int .i64 a2, .int .i64 keep, .int .i64 frm, .slice A5 data.length c5]) ?_; intro bd hg_ w1 hbox hb; have GD := Aside0.mk (show w.heap.size ≤ bd from by rw [hg_]; exact HB.out.size); have BD := Aside0.mk hbox; have m_ := Aside0.mk (below_step HB.out hb); clear HB; have HB := m_; clear m_; clear hg_ hbox hb)
 clear hmk; have n0_ := Aside0.mk (show (w1.alloc (.cells Z 5)).heap[w1.heap.size]? = some (.cells Z 5 (0, 0)) from by show (w1.heap.push _)[w1.heap.size]? = _; simp)
 have n1_ := Aside0.mk (bA BD.out (.cells Z 5)); have n2_ := Aside0.mk (wA HB.out (.cells Z 5)); have GG := Aside0.mk HB.out.size; have NDG := Aside0.mk (blk_lt BD.out); clear BD HB; generalize w1.heap.size = g at GG n0_ NDG ⊢; generalize w1.alloc (.cells Z 5) = w2 at n0_ n1_ n2_ ⊢; rw [HZ.out] at n0_; have HG := n0_; have BD := n1_; have HB := n2_; clear n0_ n1_ n2_; have hd3 := cZ3 BD
 have hn0 : 0 ≤ mn (mx keep 0) (old.length : Int) := by unfold mn mx; split <;> split <;> omega
 have hn1 : mn (mx keep 0) (old.length : Int) ≤ (old.length : Int) := by unfold mn; split <;> omega
 have HN := Aside0.mk (show mkKeep old keep = (mn (mx keep 0) (old.length : Int)).toNat from rfl); obtain ⟨n, hn⟩ : ∃ n : Nat, mn (mx keep 0) (old.length : Int) = (n : Int) := ⟨_, (Int.toNat_of_nonneg hn0).symm⟩; have HN2 := Aside0.mk (show mkKeep old keep = n from by rw [HN.out, hn, Int.toNat_natCast]); have HN1 := Aside0.mk (show n ≤ old.length from by omega); have hm1 : (if keep < 0 then (0 : Int) else keep) = mx keep 0 := rfl; have hm2 : (if (old.length : Int) < mx keep 0 then (old.length : Int) else mx keep 0) = (n : Int) := hn; have e0 : (0 ≤ (n : Int)) = True := eq_true (by omega); have e1 : decide ((n : Int) ≤ (old.length : Int)) = true := decide_eq_true (by omega); have e2 : ((n : Int) ≤ (old.length : Int)) = True := eq_true (by omega); have e3 : n ≤ old.length := HN1.out; have e4 : n ≤ c := Nat.le_trans HN1.out HC.out; clear hn0 hn1 HN hn
 have hlen : (((old.take n).take 16).map mkV).length = Nat.min n 16 := by rw [List.length_map, List.length_take, List.length_take]; have := HN1.out; show min 16 (min n old.length) = min n 16; omega
 have hsrc : 0 < (((old.take n).take 16).map mkV).length → (some (⟨g, 0, none⟩ : Addr)) = some ⟨g, 0, none⟩ ∧ ∃ ad, A = some ad ∧ ∀ j v, (((old.take n).take 16).map mkV)[j]? = some v → w2.cell? (ad.add j) = some v := by
  intro hp; rw [hlen] at hp
  have hp' : 0 < n := by have : Nat.min n 16 ≤ n := Nat.min_le_left _ _; omega
  obtain ⟨ad, e0, -⟩ := Kd.at_int HR.out 0 (by omega) (oK HN1)
  refine ⟨rfl, ad, e0, fun j v hj => ?_⟩; rw [List.getElem?_map] at hj; obtain ⟨x, hx, rfl⟩ := Option.map_eq_some_iff.1 hj; have hjl := (List.getElem?_eq_some_iff.1 hx).1; rw [List.length_take, List.length_take] at hjl; obtain ⟨ad', e1, hc1⟩ := Kd.at_int HR.out (j : Int) (by omega) (by omega); rw [e0] at e1
  cases e1
  rw [mt_rd, Int.toNat_natCast] at hc1
  have hx2 : old.getD j 0 = x := by
   rw [List.getElem?_take, if_pos (by omega), List.getElem?_take, if_pos (by omega)] at hx; rw [List.getD_eq_getElem?_getD, hx]; rfl
  rw [hx2] at hc1; exact xC HB hc1
 have HLEN := Aside0.mk hlen; have HSRC := Aside0.mk hsrc; clear hlen hsrc
 go_wp2_with ((with_reducible refine gate_builtin (b := .copy) (xs := #[.tmp 9, .tmp 17]) rfl ?_); go_loud (refine wpList_copy_splice rfl _ _ 50 50 rfl 5 Try.underlying50 (by rfl) (some ⟨g, 0, none⟩) A 16 16 n c rfl rfl g 0 ((List.replicate 16 (0 : Int)).map mkV) 5 HG.out (((old.take n).take 16).map mkV) HLEN.out HSRC.out ?fit ?one g w2 (Below.refl g w2) (Nat.le_refl _) ?_); (case fit => rw [HLEN.out, List.length_map, List.length_replicate]; have : Nat.min n 16 ≤ 16 := Nat.min_le_right _ _; omega); (case one => intro v hv; obtain ⟨x, _, rfl⟩ := List.mem_map.1 hv; rfl); intro w3 hg3 hb3)
 replace HG := Aside0.mk (show w3.heap[g]? = some (.cells ((mkAt old keep frm data 0).map mkV).toArray 5 (0, 0)) from by
  have h : w3.heap[g]? = some (.cells (splice ((List.replicate 16 (0 : Int)).map mkV) 0 (((old.take n).take 16).map mkV)).toArray 5 (0, 0)) := hg3; rw [mk_splice old n HN1.out] at h
  show w3.heap[g]? = some (.cells ((mkBase old keep).map mkV).toArray 5 (0, 0))
  unfold mkBase; rw [HN2.out]; exact h); replace BD := Aside0.mk ((hb3.block bd NDG.out).trans BD.out); replace HB := Aside0.mk (HB.out.trans (hb3.mono GG.out)); clear hg3 hb3 hm1 hm2 e0 e1 e2 e3 e4 hd3 HLEN HSRC
 go_loopg [21] 16 (fun gk v21 w' => ∃ i : Nat, v21 = .int .i64 i ∧ i ≤ 16 ∧ 16 - i ≤ gk ∧ Aside0 (w'.heap[g]? = some (.cells ((mkAt old keep frm data i).map mkV).toArray 5 (0, 0))) ∧ Aside0 (w'.heap[bd]? = some (.cells #[.int .i64 a0, .int .i64 a1, .int .i64 a2, .int .i64 keep, .int .i64 frm, .slice A5 data.length c5] 60 (0, 0))) ∧ Aside0 (Below w.heap.size w w'))
 case atStart => exact ⟨0, rfl, by omega, by omega, HG, BD, HB⟩
 case round =>
  clear HG BD HB; obtain ⟨i, rfl, hi, hig, HG, BD, HB⟩ := hrel
  by_cases hlt : i < 16
  case neg =>
   have : i = 16 := by omega
   subst this; clear hlt
   go_wp2
   go_ret
   refine ⟨.slice (some ⟨g, 0, none⟩) 16 16, rfl, ?_, HB.out⟩; refine Kd.R_of_own (enc := Value.int .u8) (h1 := fun _ => rfl) ?_ (fun _ _ => trivial); have hl := mkAt_len old keep frm data 16; refine ⟨by rw [encs_length, Nat.mul_one], Or.inr ⟨g, 16, ((mkAt old keep frm data 16).map mkV).toArray, by rw [hl], GG.out, HG.out, by omega, by decide, by simp [hl], ?_⟩⟩; rw [Nat.mul_one, hl]; exact List.take_of_length_le (by rw [List.length_map, hl]; exact Nat.le_refl _)
  case pos =>
   have cd1 : decide ((i : Int) < 16) = true := decide_eq_true (by omega); have cd2 : decide (i < 16) = true := decide_eq_true (by omega); have hd4 := cZ4 BD; have hd5 := cZ5 BD; have HLT := Aside0.mk hlt; clear hlt; have hm1 : (if frm < -(data.length : Int) then -(data.length : Int) else frm) = mx frm (-(data.length : Int)) := rfl
   go_upto_region 7 with (fail)
   generalize ho : (if frm < wrap64 (-(data.length : Int)) then wrap64 (-(data.length : Int)) else frm) = oo; generalize hk : wrap64 ((i : Int) - oo) = kk
   have hk2 : mkIdx frm data i = kk := by
    rw [← hk, ← ho]; unfold mkIdx mx
    rw [show wrap64 (-(data.length : Int)) = -(data.length : Int) from by have := HM5.out; unfold wrap64; omega]
   have HK := Aside0.mk hk2; clear hk hk2 ho hm1 hd4
   by_cases c1 : 0 ≤ kk
   case neg =>
    have d1 := decide_eq_false c1; replace HG := Aside0.mk (show wr.heap[g]? = some (.cells ((mkAt old keep frm data (i + 1)).map mkV).toArray 5 (0, 0)) from by simp only [mkAt]; rw [if_neg (fun h => c1 (HK.out ▸ h.1))]; exact HG.out); clear c1
    go_wp2
    go_roundg (16 - (i + 1))
    case measure => have := HLT.out; omega
    case rel => exact ⟨i + 1, by first | rfl | (push_cast; rfl) | exact mt_succ i (oK HLT), HLT.out, Nat.le_refl _, HG, BD, HB⟩
   case pos =>
    have d1 := decide_eq_true c1
    by_cases c2 : kk < (data.length : Int)
    case neg =>
     have d2 := decide_eq_false c2; replace HG := Aside0.mk (show wr.heap[g]? = some (.cells ((mkAt old keep frm data (i + 1)).map mkV).toArray 5 (0, 0)) from by simp only [mkAt]; rw [if_neg (fun h => c2 (HK.out ▸ h.2))]; exact HG.out); clear c1 c2
     go_wp2
     go_roundg (16 - (i + 1))
     case measure => have := HLT.out; omega
     case rel => exact ⟨i + 1, by first | rfl | (push_cast; rfl) | exact mt_succ i (oK HLT), HLT.out, Nat.le_refl _, HG, BD, HB⟩
    case pos =>
     have d2 := decide_eq_true c2; obtain ⟨ad5, e5, hy0⟩ := Kd.at_int HR5.out kk c1 c2; subst e5; replace hy0 := xC HB hy0; have hz0 : wr.cell? ⟨g, i, none⟩ = some (mkV ((mkAt old keep frm data i).getD i 0)) := mk_cell HG.out (by rw [mkAt_len]; exact HLT.out)
     have hf0 := bZ HG.out i; have hst := Aside0.mk (show mkAt old keep frm data (i + 1) = (mkAt old keep frm data i).set i (rd data kk) from by simp only [mkAt]; rw [HK.out, if_pos ⟨c1, c2⟩])
     have p1 : (0 ≤ kk) = True := eq_true c1; have q1 : (kk < (data.length : Int)) = True := eq_true c2; have p2 : (0 ≤ (i : Int)) = True := eq_true (by omega); have q2 : ((i : Int) < 16) = True := eq_true (oK HLT)
     clear c1 c2
     go_upto_region 9 with (fail)
     have n0_ := Aside0.mk (mk_put (i := i) (x := rd data kk) HG.out); rw [← hst.out] at n0_; have n1_ := Aside0.mk (bF (p := ⟨g, i, none⟩) BD.out (Nat.ne_of_lt NDG.out) (mkV (rd data kk))); have n2_ := Aside0.mk (wS (j := i) HB.out GG.out (v := mkV (rd data kk))); clear HG BD HB hz0 hf0 hy0 hst p1 q1 p2 q2; generalize wr.setCell ⟨g, i, none⟩ (mkV (rd data kk)) = w4 at n0_ n1_ n2_ ⊢; have HG := n0_; have BD := n1_; have HB := n2_; clear n0_ n1_ n2_
     go_wp2
     go_roundg (16 - (i + 1))
     case measure => have := HLT.out; omega
     case rel => exact ⟨i + 1, by first | rfl | (push_cast; rfl) | exact mt_succ i (oK HLT), HLT.out, Nat.le_refl _, HG, BD, HB⟩
def file_Make.f (l0 : List Int) (a1_0 : Int) (a1_1 : Int) (a1_2 : Int) (a1_3 : Int) (a1_4 : Int) (l1_5 : List Int) : Option (List Int) := some (mkAt l0 a1_3 a1_4 l1_5 16)
theorem file_Make.calls (A0 : Option Addr) (c0 : Nat) (l0 : List Int) (a1_0 : Int) (a1_1 : Int) (a1_2 : Int) (a1_3 : Int) (a1_4 : Int) (A1_5 : Option Addr) (c1_5 : Nat) (l1_5 : List Int) (r : List Int) (w : World) (hr0 : Kd.C (Kd.int .u8) w A0 l0.length l0) (hc0 : l0.length ≤ c0) (hr1_5 : Kd.C (Kd.int .u8) w A1_5 l1_5.length l1_5) (hc1_5 : l1_5.length ≤ c1_5) (h : file_Make.f l0 a1_0 a1_1 a1_2 a1_3 a1_4 l1_5 = some r) :
 Calls Try.prog 37 #[.slice A0 l0.length c0, .agg #[.int .i64 a1_0, .int .i64 a1_1, .int .i64 a1_2, .int .i64 a1_3, .int .i64 a1_4, .slice A1_5 l1_5.length c1_5]] w fun e w' => ∃ v0_ : Value, e = .returned (v0_) ∧ Kd.R (Kd.int .u8) 5 w' w.heap.size (fun _ => True) v0_ r ∧ Below w.heap.size w w' := by
 unfold file_Make.f at h
 obtain rfl := Option.some.inj h; exact make_walk A0 c0 l0 a1_0 a1_1 a1_2 a1_3 a1_4 A1_5 c1_5 l1_5 w hr0 hc0 hr1_5 hc1_5
def potsherdref12_EmptyNode.f (a0 : Int) : Option (Int × Int × Int × List Int × (List (S78))) := if a0 = 1 then (if 5 ≤ 35184372088832 then (some (a0, 1, 0, (List.replicate 5 0), ([] : List (S78)))) else (none)) else (if a0 = 2 then (some (a0, 1, 0, ([] : List Int), ([] : List (S78)))) else (none))
set_option maxHeartbeats 8000000 in
set_option maxRecDepth 100000 in
theorem potsherdref12_EmptyNode.calls (a0 : Int) (r1 : Int) (r2 : Int) (r3 : Int) (r4 : List Int) (r5 : List (S78)) (w : World) (h : potsherdref12_EmptyNode.f a0 = some (r1, r2, r3, r4, r5)) :
 Calls Try.prog 53 #[.int .i64 a0] w fun e w' => ∃ v3_ v4_ : Value, e = .returned (.agg #[.int .i64 r1, .int .i64 r2, .int .i64 r3, v3_, v4_]) ∧ Kd.R (Kd.int .i64) 3 w' w.heap.size (fun _ => True) v3_ r4 ∧ Kd.R k78 78 w' w.heap.size (fun _ => True) v4_ r5 ∧ Below w.heap.size w w' := by
 have hu28 := Try.underlying28; have HB := Aside0.mk (Below.refl w.heap.size w); have H : (if a0 = 1 then (if 5 ≤ 35184372088832 then (some (a0, 1, 0, (List.replicate 5 0), ([] : List (S78)))) else (none)) else (if a0 = 2 then (some (a0, 1, 0, ([] : List Int), ([] : List (S78)))) else (none))) = some (r1, r2, r3, r4, r5) := h; clear h
 by_cases c2 : a0 = 1
 ·
  rw [if_pos c2] at H; obtain ⟨c2b0, c2b1⟩ := eP c2; clear c2
  replace H := nP H; obtain ⟨c3, H⟩ := H; have c3b0 := eq_true c3; have c3b1 := decide_eq_true c3; clear c3; obtain ⟨y334, hy334⟩ : ∃ y_ : List Int, y_ = (List.replicate 5 0) := ⟨_, rfl⟩
  replace H : (some (a0, 1, 0, y334, ([] : List (S78)))) = some (r1, r2, r3, r4, r5) := rH H hy334
  have Ny334 := Aside0.mk hy334; clear hy334; simp only [Option.some.injEq, Prod.mk.injEq] at H; obtain ⟨rfl, rfl, rfl, rfl, rfl⟩ := H
  go_enter Try.func53, Try.ntmps53
  go_wp2_with (first | ((with_reducible refine gate_dst (N := 2) rfl ?_); refine bxE 28 (cs := #[.int .i64 0, .int .i64 0, .int .i64 0, .slice none 0 0, .slice none 0 0]) ?_; intro gb333 hg w4 hbox hb; have BK333 := Aside0.mk hbox; have GW333 := kG HB hg; have GE333 := kG HB hg; replace HB := kH HB hb; clear hb hbox hg) | ((with_reducible refine gate_dst (N := 7) rfl ?_); refine Kd.R_make (Kd.int .i64) _ 3 rfl (N := 7) rfl 25 _ _ rfl 5 rfl rfl Try.underlying25 (.int .i64 0) 8 info3 rfl (by decide) (by omega) 0 (ok := fun _ => True) (okp := fun _ => True) rfl (fun _ hk => hk) trivial (by omega) (by omega) (Below.refl _ _) (Nat.le_refl _) ?_; intro v335 w5 ho6 hb hg_ hnew_; clear hg_ hnew_; (first | rw [← Ny334.out] at ho6 | (simp only [Int.reduceToNat] at ho6; rw [← Ny334.out] at ho6)); have HO336 := Aside0.mk (Kd.R_lower ho6 (below_size (mH HB))); replace BK333 := kB BK333 hb; replace HB := kH HB hb; clear hb ho6; obtain ⟨Ao7, co7, eo7⟩ := Kd.R_slice HO336.out; subst eo7; obtain ⟨hcz8_0, hfz8_0⟩ := cY0 BK333; obtain ⟨hcz8_1, hfz8_1⟩ := cY1 BK333; obtain ⟨hcz8_2, hfz8_2⟩ := cY2 BK333; obtain ⟨hcz8_3, hfz8_3⟩ := cY3 BK333; obtain ⟨hcz8_4, hfz8_4⟩ := cY4 BK333))
  refine bodyPost_ret (results_cell_row rfl _ _ gb333 28 #[.int .i64 a0, .int .i64 1, .int .i64 0, .slice Ao7 y334.length co7, .slice none 0 0] (0, 0) _ rfl (pP BK333) Try.underlying28 rfl (by kernel_rfl)) rfl ?_
  exact ⟨_, _, rT, fR ⟨Kd.R_types HO336.out BK333.out (by decide)⟩, by first | exact Kd.R_nil _ _ _ _ _ | exact Kd.N_nil _ _ _ _ _ | exact Kd.V_nil _ _ _ _ _ | exact Kd.Q_nil _ _ _ _ _ | exact Kd.S_nil _ _ _ _ _, mH HB⟩
 ·
  rw [if_neg c2] at H; obtain ⟨c2b0, c2b1⟩ := eN c2
  replace H := nP H; obtain ⟨c9, H⟩ := H; obtain ⟨c9b0, c9b1⟩ := eP c9; clear c9; simp only [Option.some.injEq, Prod.mk.injEq] at H; obtain ⟨rfl, rfl, rfl, rfl, rfl⟩ := H
  go_enter Try.func53, Try.ntmps53
  go_wp2_with (first | ((with_reducible refine gate_dst (N := 2) rfl ?_); refine bxE 28 (cs := #[.int .i64 0, .int .i64 0, .int .i64 0, .slice none 0 0, .slice none 0 0]) ?_; intro gb333 hg w10 hbox hb; have BK333 := Aside0.mk hbox; have GW333 := kG HB hg; have GE333 := kG HB hg; replace HB := kH HB hb; clear hb hbox hg; obtain ⟨hcz11_0, hfz11_0⟩ := cY0 BK333; obtain ⟨hcz11_1, hfz11_1⟩ := cY1 BK333; obtain ⟨hcz11_2, hfz11_2⟩ := cY2 BK333; obtain ⟨hcz11_3, hfz11_3⟩ := cY3 BK333; obtain ⟨hcz11_4, hfz11_4⟩ := cY4 BK333))
  refine bodyPost_ret (results_cell_row rfl _ _ gb333 28 #[.int .i64 a0, .int .i64 1, .int .i64 0, .slice none 0 0, .slice none 0 0] (0, 0) _ rfl (pP BK333) Try.underlying28 rfl (by kernel_rfl)) rfl ?_
  exact ⟨_, _, rT, by first | exact Kd.R_nil _ _ _ _ _ | exact Kd.N_nil _ _ _ _ _ | exact Kd.V_nil _ _ _ _ _ | exact Kd.Q_nil _ _ _ _ _ | exact Kd.S_nil _ _ _ _ _, by first | exact Kd.R_nil _ _ _ _ _ | exact Kd.N_nil _ _ _ _ _ | exact Kd.V_nil _ _ _ _ _ | exact Kd.Q_nil _ _ _ _ _ | exact Kd.S_nil _ _ _ _ _, mH HB⟩
def potsherdref12_First.f  : Option ((List (S28))) := if 12 ≤ 3909374676536 then ((some (List.replicate 12 z28 : List (S28))).bind fun y338 => ((potsherdref12_EmptyNode.f 2).bind fun bt342 => (if 0 < (y338.length : Int) then (some (y338.set (0 : Int).toNat (⟨bt342.1, bt342.2.1, bt342.2.2.1, bt342.2.2.2.1, bt342.2.2.2.2⟩ : S28))) else (none)))) else (none)
set_option maxHeartbeats 8000000 in
set_option maxRecDepth 100000 in
theorem potsherdref12_First.calls  (r : List (S28)) (w : World) (h : potsherdref12_First.f  = some r) :
 Calls Try.prog 31 #[] w fun e w' => ∃ v0_ : Value, e = .returned (.agg #[v0_]) ∧ Kd.N k28 28 w' w.heap.size (fun k_ => (w.heap.size ≤ k_)) v0_ r ∧ Below w.heap.size w w' := by
 have hu24 := Try.underlying24; have hu28 := Try.underlying28; have HB := Aside0.mk (Below.refl w.heap.size w); have H : (if 12 ≤ 3909374676536 then ((some (List.replicate 12 z28 : List (S28))).bind fun y338 => ((potsherdref12_EmptyNode.f 2).bind fun bt342 => (if 0 < (y338.length : Int) then (some (y338.set (0 : Int).toNat (⟨bt342.1, bt342.2.1, bt342.2.2.1, bt342.2.2.2.1, bt342.2.2.2.2⟩ : S28))) else (none)))) else (none)) = some r := h; clear h
 replace H := nP H; obtain ⟨c1, H⟩ := H; have c1b0 := eq_true c1; have c1b1 := decide_eq_true c1; clear c1; obtain ⟨y338, hy338⟩ : ∃ y_ : List (S28), y_ = (List.replicate 12 z28) := ⟨_, rfl⟩
 replace H : ((potsherdref12_EmptyNode.f 2).bind fun bt342 => (if 0 < (y338.length : Int) then (some (y338.set (0 : Int).toNat (⟨bt342.1, bt342.2.1, bt342.2.2.1, bt342.2.2.2.1, bt342.2.2.2.2⟩ : S28))) else (none))) = some r := rH H hy338
 have Ny338 := Aside0.mk hy338; clear hy338; replace H := Option.bind_eq_some_iff.mp H; obtain ⟨⟨t342, t343, t344, t345, t348⟩, A20, H⟩ := H; replace H : (if 0 < (y338.length : Int) then (some (y338.set (0 : Int).toNat (⟨t342, t343, t344, t345, t348⟩ : S28))) else (none)) = some r := H; have A2 := Aside0.mk A20; clear A20
 replace H := nP H; obtain ⟨c3, H⟩ := H; have c3b0 := decide_eq_true c3; have c3b1 : decide (0 < y338.length) = true := decide_eq_true (by omega); clear c3; obtain ⟨y351, hy351⟩ : ∃ y_ : List (S28), y_ = (y338.set (0 : Int).toNat (⟨t342, t343, t344, t345, t348⟩ : S28)) := ⟨_, rfl⟩
 replace H : (some y351) = some r := rH H hy351
 have Ny351 := Aside0.mk hy351; clear hy351; obtain rfl := Option.some.inj H
 go_enter Try.func31, Try.ntmps31
 try go_wp2_with (first | ((with_reducible refine gate_dst (N := 0) rfl ?_); refine bxE 24 (cs := #[.slice none 0 0]) ?_; intro gb337 hg w5 hbox hb; have BK337 := Aside0.mk hbox; have GW337 := kG HB hg; have GE337 := kG HB hg; replace HB := kH HB hb; clear hb hbox hg) | ((with_reducible refine gate_dst (N := 2) rfl ?_); refine Kd.N_make k28 _ 28 rfl (N' := 2) rfl 22 _ _ rfl 12 rfl rfl Try.underlying22 (.agg #[(.int .i64 0), (.int .i64 0), (.int .i64 0), (.slice none 0 0), (.slice none 0 0)]) 72 info28 rfl (by decide) (by omega) z28 (ok := fun k_ => w5.heap.size ≤ k_) (okp := fun _ => False) (k28_mkF _ _ z28 (Nat.le_refl _) (Kd.F_nil _ _ _) (Nat.le_refl _) (Kd.F_nil _ _ _)) (fun _ hk => hk.elim) (Nat.le_refl _) (by omega) (by omega) (Below.refl _ _) (Nat.le_refl _) ?_; intro v339 w6 ho7 hb hg_ hnew_; clear hg_ hnew_; (first | rw [← Ny338.out] at ho7 | (simp only [Int.reduceToNat] at ho7; rw [← Ny338.out] at ho7)); have HO340 := Aside0.mk (Kd.N_lower (Kd.N_mono (ok' := fun k_ => (w.heap.size ≤ k_) ∧ k_ ≠ gb337) ho7 (fun k_ hk_ => ⟨(Nat.le_trans (below_size (mH HB)) hk_), (Kd.freshB (g := gb337) (o := .cells #[.slice none 0 0] 24 (0, 0)) (mB BK337) k_ hk_)⟩)) (below_size (mH HB))); replace BK337 := kB BK337 hb; replace HB := kH HB hb; clear hb ho7; obtain ⟨Ao8, co8, eo8⟩ := Kd.N_slice HO340.out; subst eo8) | ((with_reducible refine gate_dst (N := 1) rfl ?_); refine bxE 24 (cs := #[.slice none 0 0]) ?_; intro gb341 hg w9 hbox hb; replace HO340 := Aside0.mk (Kd.N_below (Kd.N_elderB (mN HO340) gb341 (Nat.le_of_eq hg.symm)) hb); have BK341 := Aside0.mk hbox; have GW341 := kG HB hg; have GE341 := kG HB hg; replace HB := kH HB hb; have NB337_341 := kL BK337 hg; have NB341_337 := kQ BK337 hg; replace BK337 := kB BK337 hb; clear hb hbox hg; have hnb10 := NB341_337.out; have hnc10 := NB337_341.out; obtain ⟨hcz11_0, hfz11_0⟩ := cY0 BK341))
 obtain ⟨w12, hw_, n_⟩ : ∃ W_, w9.setCell ⟨gb341, 0, none⟩ (.slice Ao8 y338.length co8) = W_ ∧ Aside0 (Kd.N k28 28 W_ w.heap.size (fun k_ => (w.heap.size ≤ k_) ∧ k_ ≠ gb337 ∧ k_ ≠ gb341) (.slice Ao8 y338.length co8) y338) ∧ Aside0 (W_.heap[gb337]? = some (.cells #[.slice none 0 0] 24 (0, 0))) ∧ Aside0 (W_.heap[gb341]? = some (.cells #[.slice Ao8 y338.length co8] 24 (0, 0))) ∧ Aside0 (Below w.heap.size w W_) := ⟨_, rfl, ⟨fN HO340 (fun _ hk => ⟨hk.1.1, ⟨hk.1.2, hk.2⟩⟩)⟩, ⟨mF BK337⟩, ⟨pP BK341⟩, ⟨mH HB⟩⟩
 (try clear HO340); (try clear BK337); (try clear BK341); (try clear HB); rewrite [hw_]; clear hw_; obtain ⟨HO340, BK337, BK341, HB⟩ := n_; replace HO340 := Aside0.mk (Kd.N_drew HO340.out); replace BK337 := Aside0.mk (bD BK337.out); replace BK341 := Aside0.mk (bD BK341.out); replace HB := Aside0.mk (wD HB.out); refine start_ (n := 5) (S := fun w' => w'.cell? ⟨gb341, 0, none⟩ = some (.slice Ao8 y338.length co8)) (ds := [4]) B27_0 (by kernel_rfl) rfl rfl (cZ0 BK341) (fun hHeld => ?_); generalize w12.drew = w13 at HO340 BK337 BK341 HB hHeld ⊢; refine pureE 0 (some 4) B27_1 (by kernel_rfl) ?_
 refine takeE 1 (some 5) B27_2 (by kernel_rfl) hHeld ?_
 refine one_ (i := 2) (N := some 6) B27_3 rfl rfl (by kernel_rfl) (by decide) (fun K hK => ?_); refine goes_ Try.func53 (by kernel_rfl) rfl #[.int .i64 2] (by rfl) rfl rfl (by (try simp only [List.map_toArray, List.map_cons, List.map_nil]); first | done | rfl | (simp only [List.length_drop, List.length_take]; rfl)) ?_
 with_reducible refine (potsherdref12_EmptyNode.calls 2 t342 t343 t344 t345 t348 _ A2.out).mono ?_
 rintro e w14 ⟨v346, v349, rfl, ho0, ho1, hb⟩; refine ⟨_, rfl, ?_⟩; replace HO340 := Aside0.mk (Kd.N_mono (Kd.N_told (Kd.N_told (Kd.N_old (mN HO340) hb) (Kd.R_base ho0)) (Kd.R_base ho1)) (fun _ h_ => h_.1)); have HO347 := Aside0.mk (Kd.R_lower (Kd.R_newM (M := fun k_ => (w.heap.size ≤ k_)) ho0 (below_size (mH HB)) (fun k_ h_ => h_)) (below_size (mH HB))); have HO350 := Aside0.mk (Kd.R_lower (Kd.R_newM (M := fun k_ => (w.heap.size ≤ k_)) ho1 (below_size (mH HB)) (fun k_ h_ => h_)) (below_size (mH HB))); replace BK337 := kB BK337 hb; replace BK341 := kB BK341 hb; replace HB := kH HB hb
 (try clear hb); (try clear hk); (try clear ho0); (try clear ho1)
 have p4 : 0 ≤ (0 : Int) := (by omega); have q4 : (0 : Int) < ((y338.length : Int) : Int) := dT; have qi4 : (0 < y338.length) = True := eq_true (by omega); obtain ⟨go4, co4, eo4, gb4, gl4, cl4, HG4⟩ := Kd.N_form HO340.out (by omega)
 (first | cases eo4 | (injection eo4 with ea_ en_ ec_; (first | subst ea_ | (injection ea_ with ea_; subst ea_)); subst ec_; clear en_))
 have GB4 := Aside0.mk gb4; have GG4 := Aside0.mk HG4; clear gb4 gl4 HG4; obtain ⟨ce4, hcl4, hM4, hcc4, hfr4⟩ := Kd.N_elem HO340.out z28 (0 : Int) p4 q4; obtain ⟨ua4_3, uc4_3, ua4_4, uc4_4, rfl, ul4_3, ge4_3, ul4_4, ge4_4⟩ := k28_openF hM4; have hx4_0 : World.cell? _ ⟨go4, (0 : Int).toNat * 5, none⟩ = some (.int .i64 ((rd_T28 y338 0).f0)) := hcc4 0 _ rfl; have hx4_1 : World.cell? _ ⟨go4, (0 : Int).toNat * 5 + 1, none⟩ = some (.int .i64 ((rd_T28 y338 0).f1)) := hcc4 1 _ rfl; have hx4_2 : World.cell? _ ⟨go4, (0 : Int).toNat * 5 + 2, none⟩ = some (.int .i64 ((rd_T28 y338 0).f2)) := hcc4 2 _ rfl; have hx4_3 : World.cell? _ ⟨go4, (0 : Int).toNat * 5 + 3, none⟩ = some (.slice ua4_3 ((rd_T28 y338 0).f3).length uc4_3) := hcc4 3 _ rfl; have hx4_4 : World.cell? _ ⟨go4, (0 : Int).toNat * 5 + 4, none⟩ = some (.slice ua4_4 ((rd_T28 y338 0).f4).length uc4_4) := hcc4 4 _ rfl; have hf4_0 : World.frozen? _ ⟨go4, (0 : Int).toNat * 5, none⟩ = false := hfr4 0; have hf4_1 : World.frozen? _ ⟨go4, (0 : Int).toNat * 5 + 1, none⟩ = false := hfr4 1; have hf4_2 : World.frozen? _ ⟨go4, (0 : Int).toNat * 5 + 2, none⟩ = false := hfr4 2; have hf4_3 : World.frozen? _ ⟨go4, (0 : Int).toNat * 5 + 3, none⟩ = false := hfr4 3; have hf4_4 : World.frozen? _ ⟨go4, (0 : Int).toNat * 5 + 4, none⟩ = false := hfr4 4; clear hcl4 hcc4 hfr4 hM4
 (try rw [show ((0 : Int)).toNat = 0 from rfl] at hx4_0)
 (try simp only [Nat.reduceMul, Nat.zero_mul, Nat.zero_add, Nat.reduceAdd] at hx4_0)
 (try rw [show ((0 : Int)).toNat = 0 from rfl] at hf4_0)
 (try simp only [Nat.reduceMul, Nat.zero_mul, Nat.zero_add, Nat.reduceAdd] at hf4_0)
 (try rw [show ((0 : Int)).toNat = 0 from rfl] at hx4_1)
 (try simp only [Nat.reduceMul, Nat.zero_mul, Nat.zero_add, Nat.reduceAdd] at hx4_1)
 (try rw [show ((0 : Int)).toNat = 0 from rfl] at hf4_1)
 (try simp only [Nat.reduceMul, Nat.zero_mul, Nat.zero_add, Nat.reduceAdd] at hf4_1)
 (try rw [show ((0 : Int)).toNat = 0 from rfl] at hx4_2)
 (try simp only [Nat.reduceMul, Nat.zero_mul, Nat.zero_add, Nat.reduceAdd] at hx4_2)
 (try rw [show ((0 : Int)).toNat = 0 from rfl] at hf4_2)
 (try simp only [Nat.reduceMul, Nat.zero_mul, Nat.zero_add, Nat.reduceAdd] at hf4_2)
 (try rw [show ((0 : Int)).toNat = 0 from rfl] at hx4_3)
 (try simp only [Nat.reduceMul, Nat.zero_mul, Nat.zero_add, Nat.reduceAdd] at hx4_3)
 (try rw [show ((0 : Int)).toNat = 0 from rfl] at hf4_3)
 (try simp only [Nat.reduceMul, Nat.zero_mul, Nat.zero_add, Nat.reduceAdd] at hf4_3)
 (try rw [show ((0 : Int)).toNat = 0 from rfl] at hx4_4)
 (try simp only [Nat.reduceMul, Nat.zero_mul, Nat.zero_add, Nat.reduceAdd] at hx4_4)
 (try rw [show ((0 : Int)).toNat = 0 from rfl] at hf4_4)
 (try simp only [Nat.reduceMul, Nat.zero_mul, Nat.zero_add, Nat.reduceAdd] at hf4_4)
 replace p4 := eq_true p4; replace q4 := eq_true q4; obtain ⟨Azv346, czv346, ezv346⟩ := Kd.R_slice HO347.out; subst ezv346; obtain ⟨Azv349, czv349, ezv349⟩ := Kd.R_slice HO350.out; subst ezv349; have HX15 := Aside0.mk (show Kd.N k28 28 _ w.heap.size (fun k_ => (w.heap.size ≤ k_) ∧ some k_ ≠ ((Value.slice Azv346 t345.length czv346) : Value).ownBlock ∧ some k_ ≠ ((Value.slice Azv349 t348.length czv349) : Value).ownBlock ∧ k_ ≠ gb337 ∧ k_ ≠ gb341) (.slice (some ⟨go4, 0, none⟩) y338.length co8) y338 from (Kd.N_mono (HO340.out) (fun k_ hk => ⟨hk.1.1.1, ⟨hk.1.2, ⟨hk.2, ⟨hk.1.1.2.1, hk.1.1.2.2⟩⟩⟩⟩))); replace HX15 := Aside0.mk (show Kd.N k28 28 _ w.heap.size (fun k_ => (w.heap.size ≤ k_) ∧ k_ ≠ gb337 ∧ k_ ≠ gb341) (.slice (some ⟨go4, 0, none⟩) y338.length co8) y338 from Kd.N_mono HX15.out (fun k_ hk => ⟨hk.1, ⟨hk.2.2.2.1, hk.2.2.2.2⟩⟩)); obtain ⟨ce15, hcl15, hM15, hcc15, hfr15⟩ := Kd.N_elem HX15.out z28 (0 : Int) (by omega) (by have h_ : (0 : Int) < ((y338.length : Int) : Int) := dT; first | exact h_ | (have e_ := (Kd.N_reads' HO340.out).1; omega) | simpa using h_)
 obtain ⟨ua15_3, uc15_3, ua15_4, uc15_4, rfl, ul15_3, ge15_3, ul15_4, ge15_4⟩ := k28_openF hM15; have HP15 := (Kd.N_seg HX15.out (0 : Int) (by omega) (by have h_ : (0 : Int) < ((y338.length : Int) : Int) := dT; first | exact h_ | (have e_ := (Kd.N_reads' HO340.out).1; omega) | simpa using h_) (seg := [.int .i64 t342, .int .i64 t343, .int .i64 t344, (Value.slice Azv346 t345.length czv346), (Value.slice Azv349 t348.length czv349)]) (j := 0) hcl15 hcc15 (show 5 ≤ 5 from by decide) (x' := (⟨t342, t343, t344, t345, t348⟩ : S28)) (k28_mkF _ _ (⟨t342, t343, t344, t345, t348⟩ : S28) (Kd.R_reads' (Kd.R_mono (ok' := (fun k_ => ((fun k_ => (w.heap.size ≤ k_) ∧ k_ ≠ gb337 ∧ k_ ≠ gb341)) k_ ∧ k_ ≠ go4)) (Kd.R_types (Kd.R_types (Kd.R_apart' (HO347.out) (Kd.N_typed HO340.out) (by decide)) BK337.out (by decide)) BK341.out (by decide)) (fun k_ hk => ⟨⟨hk.1.1.1.1, ⟨hk.1.2, hk.2⟩⟩, fun e_ => (hk.1.1.2) (by rw [e_]; rfl)⟩))).2.1 (Kd.R_F (Kd.R_mono (ok' := (fun k_ => ((fun k_ => (w.heap.size ≤ k_) ∧ k_ ≠ gb337 ∧ k_ ≠ gb341)) k_ ∧ k_ ≠ go4)) (Kd.R_types (Kd.R_types (Kd.R_apart' (HO347.out) (Kd.N_typed HO340.out) (by decide)) BK337.out (by decide)) BK341.out (by decide)) (fun k_ hk => ⟨⟨hk.1.1.1.1, ⟨hk.1.2, hk.2⟩⟩, fun e_ => (hk.1.1.2) (by rw [e_]; rfl)⟩))) (Kd.R_reads' (Kd.R_mono (ok' := (fun k_ => ((fun k_ => (w.heap.size ≤ k_) ∧ k_ ≠ gb337 ∧ k_ ≠ gb341)) k_ ∧ k_ ≠ go4)) (Kd.R_types (Kd.R_types (Kd.R_apart' (HO350.out) (Kd.N_typed HO340.out) (by decide)) BK337.out (by decide)) BK341.out (by decide)) (fun k_ hk => ⟨⟨hk.1.1.1.1, ⟨hk.1.2, hk.2⟩⟩, fun e_ => (hk.1.1.2) (by rw [e_]; rfl)⟩))).2.1 (Kd.R_F (Kd.R_mono (ok' := (fun k_ => ((fun k_ => (w.heap.size ≤ k_) ∧ k_ ≠ gb337 ∧ k_ ≠ gb341)) k_ ∧ k_ ≠ go4)) (Kd.R_types (Kd.R_types (Kd.R_apart' (HO350.out) (Kd.N_typed HO340.out) (by decide)) BK337.out (by decide)) BK341.out (by decide)) (fun k_ hk => ⟨⟨hk.1.1.1.1, ⟨hk.1.2, hk.2⟩⟩, fun e_ => (hk.1.1.2) (by rw [e_]; rfl)⟩)))) (fun _ hk => hk)).1
 rw [← Ny351.out] at HP15; have HQ15 := Aside0.mk HP15; clear hcl15 hcc15 hfr15 hM15 HP15; refine hK.out _ _ (cZ0 BK341) (fun hHeld => ?_); clear hK K; refine norm_ (a' := ?_) ?_ ?_; rotate_left
 ·
  show Act.put _ (some 6) _ = _
  simp only [Act.put, lT, l0_, lS, i64_w, i32_w]; rfl
 refine pureE 3 (some 7) B27_4 (by kernel_rfl) ?_
 refine last_ (i := 4) (N := none) B27_5 rfl rfl (by kernel_rfl) (by decide) (fun K hK => ?_); refine skip_ (w1 := ?_) (by rfl) rfl ?_ ?_; rotate_left
 ·
  go_simp; rfl
 refine hK.out _ _ ?_; clear hK K; refine done_ (by kernel_rfl) ?_
 obtain ⟨w16, hw_, n_⟩ : ∃ W_, ((((w14.setCell ⟨go4, 0, none⟩ (.int .i64 t342)).setCell ⟨go4, 1, none⟩ (.int .i64 t343)).setCell ⟨go4, 2, none⟩ (.int .i64 t344)).setCell ⟨go4, 3, none⟩ ((Value.slice Azv346 t345.length czv346))).setCell ⟨go4, 4, none⟩ ((Value.slice Azv349 t348.length czv349)) = W_ ∧ Aside0 (Kd.N k28 28 W_ w.heap.size (fun k_ => (w.heap.size ≤ k_) ∧ k_ ≠ gb337 ∧ k_ ≠ gb341) (.slice (some ⟨go4, 0, none⟩) y338.length co8) y351) ∧ Aside0 (W_.heap[gb337]? = some (.cells #[.slice none 0 0] 24 (0, 0))) ∧ Aside0 (W_.heap[gb341]? = some (.cells #[.slice (some ⟨go4, 0, none⟩) y338.length co8] 24 (0, 0))) ∧ Aside0 (Below w.heap.size w W_) := ⟨_, rfl, ⟨mN HQ15⟩, ⟨by (with_reducible repeat (first | refine bN ?_ _ | refine bD ?_ | refine bA ?_ _)); refine bF ?_ (by have h_ := Kd.N_away HO340.out (fun _ hk => by first | exact hk.2.1 | exact hk.1.1.2.1 | exact hk.1.2.1); intro e_; exact h_ (by rw [e_]; rfl)) _; (with_reducible repeat (first | refine bN ?_ _ | refine bD ?_ | refine bA ?_ _)); refine bF ?_ (by have h_ := Kd.N_away HO340.out (fun _ hk => by first | exact hk.2.1 | exact hk.1.1.2.1 | exact hk.1.2.1); intro e_; exact h_ (by rw [e_]; rfl)) _; (with_reducible repeat (first | refine bN ?_ _ | refine bD ?_ | refine bA ?_ _)); refine bF ?_ (by have h_ := Kd.N_away HO340.out (fun _ hk => by first | exact hk.2.1 | exact hk.1.1.2.1 | exact hk.1.2.1); intro e_; exact h_ (by rw [e_]; rfl)) _; (with_reducible repeat (first | refine bN ?_ _ | refine bD ?_ | refine bA ?_ _)); refine bF ?_ (by have h_ := Kd.N_away HO340.out (fun _ hk => by first | exact hk.2.1 | exact hk.1.1.2.1 | exact hk.1.2.1); intro e_; exact h_ (by rw [e_]; rfl)) _; (with_reducible repeat (first | refine bN ?_ _ | refine bD ?_ | refine bA ?_ _)); refine bF ?_ (by have h_ := Kd.N_away HO340.out (fun _ hk => by first | exact hk.2.1 | exact hk.1.1.2.1 | exact hk.1.2.1); intro e_; exact h_ (by rw [e_]; rfl)) _; (with_reducible repeat (first | refine bN ?_ _ | refine bD ?_ | refine bA ?_ _)); exact BK337.out⟩, ⟨by (with_reducible repeat (first | refine bN ?_ _ | refine bD ?_ | refine bA ?_ _)); refine bF ?_ (by have h_ := Kd.N_away HO340.out (fun _ hk => by first | exact hk.2.2 | exact hk.1.1.2.2 | exact hk.1.2.2); intro e_; exact h_ (by rw [e_]; rfl)) _; (with_reducible repeat (first | refine bN ?_ _ | refine bD ?_ | refine bA ?_ _)); refine bF ?_ (by have h_ := Kd.N_away HO340.out (fun _ hk => by first | exact hk.2.2 | exact hk.1.1.2.2 | exact hk.1.2.2); intro e_; exact h_ (by rw [e_]; rfl)) _; (with_reducible repeat (first | refine bN ?_ _ | refine bD ?_ | refine bA ?_ _)); refine bF ?_ (by have h_ := Kd.N_away HO340.out (fun _ hk => by first | exact hk.2.2 | exact hk.1.1.2.2 | exact hk.1.2.2); intro e_; exact h_ (by rw [e_]; rfl)) _; (with_reducible repeat (first | refine bN ?_ _ | refine bD ?_ | refine bA ?_ _)); refine bF ?_ (by have h_ := Kd.N_away HO340.out (fun _ hk => by first | exact hk.2.2 | exact hk.1.1.2.2 | exact hk.1.2.2); intro e_; exact h_ (by rw [e_]; rfl)) _; (with_reducible repeat (first | refine bN ?_ _ | refine bD ?_ | refine bA ?_ _)); refine bF ?_ (by have h_ := Kd.N_away HO340.out (fun _ hk => by first | exact hk.2.2 | exact hk.1.1.2.2 | exact hk.1.2.2); intro e_; exact h_ (by rw [e_]; rfl)) _; (with_reducible repeat (first | refine bN ?_ _ | refine bD ?_ | refine bA ?_ _)); exact BK341.out⟩, ⟨mH HB⟩⟩
 (try clear HO340); (try clear BK337); (try clear BK341); (try clear HB); rewrite [hw_]; clear hw_; obtain ⟨HO340, BK337, BK341, HB⟩ := n_; obtain ⟨hcz17_0, hfz17_0⟩ := cY0 BK341; obtain ⟨hcz18_0, hfz18_0⟩ := cY0 BK337
 try go_wp2
 refine bodyPost_ret (results_cell_row rfl _ _ gb337 24 #[.slice (some ⟨go4, 0, none⟩) y338.length co8] (0, 0) _ rfl (pP BK337) Try.underlying24 rfl (by kernel_rfl)) rfl ?_
 exact ⟨_, rT, fN HO340 (hg := fun _ hk => hk.2.1), mH HB⟩
mutual
def potsherdref12_Split.j0 : Nat → ByteArray → Bool → Option (List ByteArray × Int)
 | 0, _, _ => none
 | k + 1, x0, x19 => if x19 = true then (none) else (if x0.toList = ([47] : List UInt8) then (some (([] : List ByteArray), 0)) else (potsherdref12_Split.l0 k x0 ([] : List ByteArray) 1 1))
def potsherdref12_Split.l0 : Nat → ByteArray → List ByteArray → Int → Int → Option (List ByteArray × Int)
 | 0, _, _, _, _ => none
 | k + 1, x0, x4, x5, x6 => if x6 ≤ (x0.size : Int) then (if x6 < (x0.size : Int) then (if 0 ≤ x6 then (potsherdref12_Split.j2 k x0 x4 x5 x6 ((bt x0 x6) != 47)) else (none)) else (potsherdref12_Split.j2 k x0 x4 x5 x6 false)) else (some (x4, 0))
def potsherdref12_Split.j2 : Nat → ByteArray → List ByteArray → Int → Int → Bool → Option (List ByteArray × Int)
 | 0, _, _, _, _, _ => none
 | k + 1, x0, x4, x5, x6, x37 => if x37 = true then (potsherdref12_Split.l0 k x0 x4 x5 (wrap64 (x6 + 1))) else (if 0 ≤ x5 then (if x5 ≤ x6 then (if x6 ≤ (x0.size : Int) then ((potsherdref12_Name.f k (x0.extract (x5 : Int).toNat (x6 : Int).toNat)).bind fun t352 => (if t352 = true then (if x4.length < 8796093022208 then (potsherdref12_Split.l0 k x0 (x4 ++ [x0.extract (x5 : Int).toNat (x6 : Int).toNat]) (wrap64 (x6 + 1)) (wrap64 (x6 + 1))) else (none)) else (none))) else (none)) else (none)) else (none))
end
def potsherdref12_Split.f (k : Nat) (a0 : ByteArray) : Option (List ByteArray × Int) := if (a0.size : Int) > 60 then (none) else (if (a0.size : Int) < 1 then (none) else (if 0 < (a0.size : Int) then (potsherdref12_Split.j0 k a0 ((bt a0 0) != 47)) else (none)))
theorem potsherdref12_Split.mono_l : ∀ k, (∀ y0 y1, LeO (potsherdref12_Split.j0 k y0 y1) (potsherdref12_Split.j0 (k + 1) y0 y1)) ∧ (∀ y0 y1 y2 y3, LeO (potsherdref12_Split.l0 k y0 y1 y2 y3) (potsherdref12_Split.l0 (k + 1) y0 y1 y2 y3)) ∧ (∀ y0 y1 y2 y3 y4, LeO (potsherdref12_Split.j2 k y0 y1 y2 y3 y4) (potsherdref12_Split.j2 (k + 1) y0 y1 y2 y3 y4))
 | 0 => ⟨fun _ _ r h => by simp [potsherdref12_Split.j0] at h, fun _ _ _ _ r h => by simp [potsherdref12_Split.l0] at h, fun _ _ _ _ _ r h => by simp [potsherdref12_Split.j2] at h⟩
 | k + 1 => by
  obtain ⟨ih0, ih1, ih2⟩ := potsherdref12_Split.mono_l k; refine ⟨?_, ?_, ?_⟩
  ·
   intro y0 y1
   unfold potsherdref12_Split.j0
   repeat' with_reducible first | apply ih0 | apply ih1 | apply ih2 | apply potsherdref12_Name.mono | exact LeO.refl _ | exact LeO.none _ | refine LeO.ite ?_ ?_ | refine LeO.bind ?_ (fun _ => ?_)
  ·
   intro y0 y1 y2 y3
   unfold potsherdref12_Split.l0
   repeat' with_reducible first | apply ih0 | apply ih1 | apply ih2 | apply potsherdref12_Name.mono | exact LeO.refl _ | exact LeO.none _ | refine LeO.ite ?_ ?_ | refine LeO.bind ?_ (fun _ => ?_)
  ·
   intro y0 y1 y2 y3 y4
   unfold potsherdref12_Split.j2
   repeat' with_reducible first | apply ih0 | apply ih1 | apply ih2 | apply potsherdref12_Name.mono | exact LeO.refl _ | exact LeO.none _ | refine LeO.ite ?_ ?_ | refine LeO.bind ?_ (fun _ => ?_)
theorem potsherdref12_Split.mono : ∀ a0 k, LeO (potsherdref12_Split.f k a0) (potsherdref12_Split.f (k + 1) a0) := by
 intro a0 k; obtain ⟨ih0, ih1, ih2⟩ := potsherdref12_Split.mono_l k
 unfold potsherdref12_Split.f
 repeat' with_reducible first | apply ih0 | apply ih1 | apply ih2 | apply potsherdref12_Name.mono | exact LeO.refl _ | exact LeO.none _ | refine LeO.ite ?_ ?_ | refine LeO.bind ?_ (fun _ => ?_)
set_option maxHeartbeats 8000000 in
set_option maxRecDepth 100000 in
theorem potsherdref12_Split.calls (k : Nat) (a0 : ByteArray) (r1 : List ByteArray) (r2 : Int) (w : World) (h : potsherdref12_Split.f k a0 = some (r1, r2)) :
 Calls Try.prog 91 #[.string a0] w fun e w' => ∃ v0_ : Value, e = .returned (.tuple #[v0_, .int .i64 r2]) ∧ Kd.R Kd.string 9 w' w.heap.size (fun _ => True) v0_ r1 ∧ Below w.heap.size w w' := by
 have HB := Aside0.mk (Below.refl w.heap.size w); have H : (if (a0.size : Int) > 60 then (none) else (if (a0.size : Int) < 1 then (none) else (if 0 < (a0.size : Int) then (potsherdref12_Split.j0 k a0 ((bt a0 0) != 47)) else (none)))) = some (r1, r2) := h; clear h; have HC2 := Aside0.mk H; clear H
 go_enter Try.func91, Try.ntmps91
 go_upto_region 1 with (fail)
 go_cut [19] (fun v19 wc => ∃ (kq : Nat) (x19_1 : Bool), v19 = .bool x19_1 ∧ Aside0 (potsherdref12_Split.j0 kq a0 x19_1 = some (r1, r2)) ∧ Aside0 (kq ≤ k) ∧ Aside0 (Below w.heap.size w wc))
 case first =>
  have H := HC2.out; clear HC2
  replace H := nQ H; obtain ⟨c3, H⟩ := H; have c3b0 : decide (60 < (a0.size : Int)) = false := decide_eq_false c3; have c3b1 : decide (60 < a0.size) = false := decide_eq_false (by omega); clear c3
  (first | rw [c3b0] | (simp only [i64_w, i32_w]; rw [c3b0]) | skip)
  replace H := nQ H; obtain ⟨c4, H⟩ := H; have c4b0 := decide_eq_false c4; have c4b1 : decide (a0.size < 1) = false := decide_eq_false (by omega); clear c4
  replace H := nP H; obtain ⟨c5, H⟩ := H; have c5b0 := decide_eq_true c5; have c5b1 : decide (0 < a0.size) = true := decide_eq_true (by omega); clear c5; have H' := Aside0.mk H; clear H; have p6 : 0 ≤ (0 : Int) := (by omega); have q6 : 0 < a0.size := (by have : (0 : Int) < (a0.size : Int) := dT; omega)
  have hx6 : ∀ h : 0 < a0.size, ((a0[0]'h).toNat : Int) = bt a0 0 := bt_at a0 0; clear p6; have qi6 : (0 < (a0.size : Int)) = True := eq_true (dT); replace q6 := eq_true q6
  go_wp2
  go_meet
  case rel => exact ⟨_, (((bt a0 0) != 47)), sI, H', ⟨by first | omega | exact Nat.le_refl _⟩, ⟨mH HB⟩⟩
 case rest =>
  clear HC2
  obtain ⟨kq, x19_1, rfl, HA, HJ1, HB⟩ := hcut
  cases kq with
  | zero => exact absurd HA.out (by simp [potsherdref12_Split.j0])
  | succ kj1 =>
   have H := HA.out; clear HA; simp only [potsherdref12_Split.j0] at H
   by_cases c7 : x19_1 = true
   ·
    subst c7
    have H1 : (none) = some (r1, r2) := by rw [if_pos rfl] at H; exact H
    clear H; have H := H1; clear H1; exact absurd H (by simp)
   ·
    replace c7 := Bool.eq_false_iff.mpr c7; subst c7
    have H1 : (if a0.toList = ([47] : List UInt8) then (some (([] : List ByteArray), 0)) else (potsherdref12_Split.l0 kj1 a0 ([] : List ByteArray) 1 1)) = some (r1, r2) := by rw [if_neg (show ¬ (false = true) by decide)] at H; exact H
    clear H; have H := H1; clear H1
    by_cases c8 : a0.toList = ([47] : List UInt8)
    ·
     rw [if_pos c8] at H; obtain ⟨c8b0, c8b1⟩ := eP c8; clear c8; simp only [Option.some.injEq, Prod.mk.injEq] at H; obtain ⟨rfl, rfl⟩ := H
     go_wp2
     go_ret2
     exact ⟨_, rT, by first | exact Kd.R_nil _ _ _ _ _ | exact Kd.N_nil _ _ _ _ _ | exact Kd.V_nil _ _ _ _ _ | exact Kd.Q_nil _ _ _ _ _ | exact Kd.S_nil _ _ _ _ _, mH HB⟩
    ·
     rw [if_neg c8] at H; obtain ⟨c8b0, c8b1⟩ := eN c8; have H' := Aside0.mk H; clear H
     go_wp2
     go_loopg [4, 5, 6] kj1 (fun kq v4 v5 v6 w' => ∃ (x4_2 : List ByteArray) (x5_2 : Int) (x6_2 : Int), v5 = .int .i64 x5_2 ∧ v6 = .int .i64 x6_2 ∧ Aside0 (potsherdref12_Split.l0 kq a0 x4_2 x5_2 x6_2 = some (r1, r2)) ∧ Aside0 (kq ≤ kj1) ∧ Aside0 (Kd.R Kd.string 9 w' w.heap.size (fun _ => True) v4 x4_2) ∧ Aside0 (Below w.heap.size w w'))
     case atStart => exact ⟨(([] : List ByteArray)), (1), (1), sI, sI, H', ⟨Nat.le_refl _⟩, ⟨by first | exact Kd.R_nil _ _ _ _ _ | exact Kd.N_nil _ _ _ _ _ | exact Kd.V_nil _ _ _ _ _ | exact Kd.Q_nil _ _ _ _ _ | exact Kd.S_nil _ _ _ _ _⟩, ⟨mH HB⟩⟩
     case round =>
      clear H'
      (try clear c7); (try clear c8); (try clear c8b0); (try clear c8b1)
      obtain ⟨x4_2, x5_2, x6_2, rfl, rfl, HA, HK2, HO_4, HB⟩ := hrel
      cases gk with
      | zero => exact absurd HA.out (by simp [potsherdref12_Split.l0])
      | succ k2 =>
       have H := HA.out; clear HA; simp only [potsherdref12_Split.l0] at H
       by_cases c9 : x6_2 ≤ (a0.size : Int)
       ·
        rw [if_pos c9] at H; have c9b0 := decide_eq_true c9; clear c9; have HC10 := Aside0.mk H; clear H
        go_upto_region 10 with (fail)
        go_cut [37] (fun v37 wc => ∃ (kq : Nat) (x37_9 : Bool), v37 = .bool x37_9 ∧ Aside0 (potsherdref12_Split.j2 kq a0 x4_2 x5_2 x6_2 x37_9 = some (r1, r2)) ∧ Aside0 (kq ≤ k2) ∧ Aside0 (Kd.R Kd.string 9 wc w.heap.size (fun _ => True) u4 x4_2) ∧ Aside0 (Below w.heap.size w wc))
        case first =>
         have H := HC10.out; clear HC10
         by_cases c11 : x6_2 < (a0.size : Int)
         ·
          rw [if_pos c11] at H; have c11b0 := decide_eq_true c11; clear c11
          (first | rw [c11b0] | (simp only [i64_w, i32_w]; rw [c11b0]) | skip)
          replace H := nP H; obtain ⟨c12, H⟩ := H; have c12b0 := decide_eq_true c12; clear c12; have H' := Aside0.mk H; clear H; have p13 : 0 ≤ (x6_2 : Int) := dT; have q13 : x6_2 < (a0.size : Int) := dT; have hx13 := bt_at a0 x6_2; replace p13 := eq_true p13; replace q13 := eq_true q13
          go_wp2
          go_meet
          case rel => exact ⟨_, (((bt a0 x6_2) != 47)), sI, H', ⟨by have := HJ1.out; have := HK2.out; first | omega | exact Nat.le_refl _⟩, ⟨mR HO_4⟩, ⟨mH HB⟩⟩
         ·
          rw [if_neg c11] at H; have c11b0 := decide_eq_false c11; clear c11
          (first | rw [c11b0] | (simp only [i64_w, i32_w]; rw [c11b0]) | skip)
          have H' := Aside0.mk H; clear H
          go_wp2
          go_meet
          case rel => exact ⟨_, (false), sI, H', ⟨by have := HJ1.out; have := HK2.out; first | omega | exact Nat.le_refl _⟩, ⟨mR HO_4⟩, ⟨mH HB⟩⟩
        case rest =>
         clear HC10
         (try clear c7); (try clear c8); (try clear c8b0); (try clear c8b1); (try clear c9); (try clear c9b0)
         obtain ⟨kq, x37_9, rfl, HA, HJ9, HO_4, HB⟩ := hcut
         cases kq with
         | zero => exact absurd HA.out (by simp [potsherdref12_Split.j2])
         | succ kj9 =>
          have H := HA.out; clear HA; simp only [potsherdref12_Split.j2] at H
          by_cases c14 : x37_9 = true
          ·
           subst c14
           have H1 : (potsherdref12_Split.l0 kj9 a0 x4_2 x5_2 (wrap64 (x6_2 + 1))) = some (r1, r2) := by rw [if_pos rfl] at H; exact H
           clear H; have H := H1; clear H1; have H' := Aside0.mk H; clear H
           go_wp2
           go_roundg kj9
           case measure => have := HJ1.out; have := HK2.out; have := HJ9.out; omega
           case rel => exact ⟨(x4_2), (x5_2), (wrap64 (x6_2 + 1)), sI, sI, H', ⟨by have := HJ1.out; have := HK2.out; have := HJ9.out; omega⟩, ⟨mR HO_4⟩, ⟨mH HB⟩⟩
          ·
           replace c14 := Bool.eq_false_iff.mpr c14; subst c14
           have H1 : (if 0 ≤ x5_2 then (if x5_2 ≤ x6_2 then (if x6_2 ≤ (a0.size : Int) then ((potsherdref12_Name.f kj9 (a0.extract (x5_2 : Int).toNat (x6_2 : Int).toNat)).bind fun t352 => (if t352 = true then (if x4_2.length < 8796093022208 then (potsherdref12_Split.l0 kj9 a0 (x4_2 ++ [a0.extract (x5_2 : Int).toNat (x6_2 : Int).toNat]) (wrap64 (x6_2 + 1)) (wrap64 (x6_2 + 1))) else (none)) else (none))) else (none)) else (none)) else (none)) = some (r1, r2) := by rw [if_neg (show ¬ (false = true) by decide)] at H; exact H
           clear H; have H := H1; clear H1
           replace H := nP H; obtain ⟨c15, H⟩ := H; have c15b0 := eq_true c15; have c15b1 := decide_eq_true c15; clear c15
           replace H := nP H; obtain ⟨c16, H⟩ := H; have c16b0 := eq_true c16; have c16b1 := decide_eq_true c16; clear c16
           replace H := nP H; obtain ⟨c17, H⟩ := H; have c17b0 := eq_true c17; have c17b1 := decide_eq_true c17; clear c17; replace H := Option.bind_eq_some_iff.mp H; obtain ⟨t352, A180, H⟩ := H; have A18 := Aside0.mk A180; clear A180
           by_cases c19 : t352 = true
           ·
            subst c19
            have H1 : (if x4_2.length < 8796093022208 then (potsherdref12_Split.l0 kj9 a0 (x4_2 ++ [a0.extract (x5_2 : Int).toNat (x6_2 : Int).toNat]) (wrap64 (x6_2 + 1)) (wrap64 (x6_2 + 1))) else (none)) = some (r1, r2) := by rw [if_pos rfl] at H; exact H
            clear H; have H := H1; clear H1; have c20b0 := eq_true (dT : 0 ≤ x5_2); have c21b0 := eq_true (dT : x5_2 ≤ x6_2); have c22b0 := eq_true (dT : x6_2 ≤ (a0.size : Int))
            replace H := nP H; obtain ⟨c23, H⟩ := H; have LMc23 := Aside0.mk c23; clear c23; obtain ⟨y353, hy353⟩ : ∃ y_ : List ByteArray, y_ = (x4_2 ++ [a0.extract (x5_2 : Int).toNat (x6_2 : Int).toNat]) := ⟨_, rfl⟩
            replace H : (potsherdref12_Split.l0 kj9 a0 y353 (wrap64 (x6_2 + 1)) (wrap64 (x6_2 + 1))) = some (r1, r2) := rH H hy353
            have Ny353 := Aside0.mk hy353; clear hy353; have H' := Aside0.mk H; clear H
            go_wp2_with (first | ((with_reducible refine gate_callee (f := 69) rfl ?_); refine goesK (some 42) Try.func69 #[.string (a0.extract (x5_2 : Int).toNat (x6_2 : Int).toNat)] ?_; (with_reducible refine (potsherdref12_Name.calls kj9 (a0.extract (x5_2 : Int).toNat (x6_2 : Int).toNat) true _ A18.out).mono ?_); rintro e w' ⟨rfl, ⟨nd, rfl⟩⟩; refine ⟨_, rfl, ?_⟩) | ((with_reducible refine gate_builtin (b := .append) (xs := #[.tmp 44, .tmp 49]) rfl ?_); (try (refine gate_guard (by rfl) ?_; dsimp only)); at_builtin; refine Kd.R_append Kd.string (w0 := w) w.heap.size rfl (.tmp 44) (.tmp 49) 113 9 (.string ⟨#[]⟩) 16 rfl Try.underlying113 info9 rfl (by decide) (by omega) u4 x4_2 (a0.extract (x5_2 : Int).toNat (x6_2 : Int).toNat) [.string (a0.extract (x5_2 : Int).toNat (x6_2 : Int).toNat)] (fun _ => True) (fun _ => False) rfl rfl ?aP (fun _ hk => hk.elim) ?aF ?aO ?aB ?aS ?aL ?_; (case aP => exact rfl); (case aB => exact (mH HB)); (case aF => exact (fun _ _ => trivial)); (case aO => exact (mR HO_4)); (case aS => exact (below_size (mH HB))); (case aL => have := LMc23.out; omega); intro v354 w24 ho hb hg hat; rw [← Ny353.out] at ho; replace HB := Aside0.mk (hb); have HO355 := Aside0.mk (ho); clear HO_4; clear ho hb hg hat))
            go_roundg kj9
            case measure => have := HJ1.out; have := HK2.out; have := HJ9.out; omega
            case rel => exact ⟨(y353), (wrap64 (x6_2 + 1)), (wrap64 (x6_2 + 1)), sI, sI, H', ⟨by have := HJ1.out; have := HK2.out; have := HJ9.out; omega⟩, ⟨mR HO355⟩, ⟨mH HB⟩⟩
           ·
            replace c19 := Bool.eq_false_iff.mpr c19; subst c19
            have H1 : (none) = some (r1, r2) := by rw [if_neg (show ¬ (false = true) by decide)] at H; exact H
            clear H; have H := H1; clear H1; exact absurd H (by simp)
       ·
        rw [if_neg c9] at H; have c9b0 := decide_eq_false c9; clear c9; simp only [Option.some.injEq, Prod.mk.injEq] at H; obtain ⟨rfl, rfl⟩ := H
        go_wp2
        go_ret2
        exact ⟨_, rT, mR HO_4, mH HB⟩
def potsherdref12_Join.f (k : Nat) (l0 : List ByteArray) : Option (ByteArray) := if (l0.length : Int) = 0 then (some (⟨#[47]⟩ : ByteArray)) else (none)
theorem potsherdref12_Join.mono : ∀ a0 k, LeO (potsherdref12_Join.f k a0) (potsherdref12_Join.f (k + 1) a0) := by
 intro a0 k
 unfold potsherdref12_Join.f
 repeat' with_reducible first | apply potsherdref12_Name.mono | exact LeO.refl _ | exact LeO.none _ | refine LeO.ite ?_ ?_ | refine LeO.bind ?_ (fun _ => ?_)
set_option maxHeartbeats 8000000 in
set_option maxRecDepth 100000 in
theorem potsherdref12_Join.calls (k : Nat) (A0 : Option Addr) (c0 : Nat) (l0 : List ByteArray) (r : ByteArray) (w : World) (hr0 : Kd.C Kd.string w A0 l0.length l0) (hc0 : l0.length ≤ c0) (h : potsherdref12_Join.f k l0 = some r) :
 Calls Try.prog 93 #[.slice A0 l0.length c0] w fun e w' => e = .returned (.string r) ∧ Drawn0 w w' := by
 have HR0 := Aside0.mk hr0; have HC0 := Aside0.mk hc0; clear hr0 hc0; have H : (if (l0.length : Int) = 0 then (some (⟨#[47]⟩ : ByteArray)) else (none)) = some r := h; clear h
 replace H := nP H; obtain ⟨c2, H⟩ := H; obtain ⟨c2b0, c2b1⟩ := eP c2; clear c2; obtain rfl := Option.some.inj H
 go_enter Try.func93, Try.ntmps93
 go_wp2
 go_ret
 exact ⟨sI, by repeat (first | exact Drawn0.refl _ | apply Drawn0.step)⟩
def potsherdref12_Last.f (k : Nat) (a0 : ByteArray) : Option (ByteArray × ByteArray × Int) := (potsherdref12_Split.f k a0).bind fun bt358 => (if bt358.2 = 0 then (if (bt358.1.length : Int) = 0 then (none) else (if 0 ≤ (wrap64 ((bt358.1.length : Int) - 1)) then (if (wrap64 ((bt358.1.length : Int) - 1)) ≤ (bt358.1.length : Int) then ((potsherdref12_Join.f k (bt358.1.take ((wrap64 ((bt358.1.length : Int) - 1)) : Int).toNat)).bind fun t366 => (if (wrap64 ((bt358.1.length : Int) - 1)) < (bt358.1.length : Int) then (some (t366, rdOf ByteArray.empty bt358.1 (wrap64 ((bt358.1.length : Int) - 1)), 0)) else (none))) else (none)) else (none))) else (none))
theorem potsherdref12_Last.mono : ∀ a0 k, LeO (potsherdref12_Last.f k a0) (potsherdref12_Last.f (k + 1) a0) := by
 intro a0 k
 unfold potsherdref12_Last.f
 repeat' with_reducible first | apply potsherdref12_Join.mono | apply potsherdref12_Split.mono | exact LeO.refl _ | exact LeO.none _ | refine LeO.ite ?_ ?_ | refine LeO.bind ?_ (fun _ => ?_)
set_option maxHeartbeats 8000000 in
set_option maxRecDepth 100000 in
theorem potsherdref12_Last.calls (k : Nat) (a0 : ByteArray) (r1 : ByteArray) (r2 : ByteArray) (r3 : Int) (w : World) (h : potsherdref12_Last.f k a0 = some (r1, r2, r3)) :
 Calls Try.prog 90 #[.string a0] w fun e w' => e = .returned (.tuple #[.string r1, .string r2, .int .i64 r3]) ∧ Below w.heap.size w w' := by
 have HB := Aside0.mk (Below.refl w.heap.size w); have H : ((potsherdref12_Split.f k a0).bind fun bt358 => (if bt358.2 = 0 then (if (bt358.1.length : Int) = 0 then (none) else (if 0 ≤ (wrap64 ((bt358.1.length : Int) - 1)) then (if (wrap64 ((bt358.1.length : Int) - 1)) ≤ (bt358.1.length : Int) then ((potsherdref12_Join.f k (bt358.1.take ((wrap64 ((bt358.1.length : Int) - 1)) : Int).toNat)).bind fun t366 => (if (wrap64 ((bt358.1.length : Int) - 1)) < (bt358.1.length : Int) then (some (t366, rdOf ByteArray.empty bt358.1 (wrap64 ((bt358.1.length : Int) - 1)), 0)) else (none))) else (none)) else (none))) else (none))) = some (r1, r2, r3) := h; clear h; replace H := Option.bind_eq_some_iff.mp H; obtain ⟨⟨t358, t359⟩, A20, H⟩ := H; replace H : (if t359 = 0 then (if (t358.length : Int) = 0 then (none) else (if 0 ≤ (wrap64 ((t358.length : Int) - 1)) then (if (wrap64 ((t358.length : Int) - 1)) ≤ (t358.length : Int) then ((potsherdref12_Join.f k (t358.take ((wrap64 ((t358.length : Int) - 1)) : Int).toNat)).bind fun t366 => (if (wrap64 ((t358.length : Int) - 1)) < (t358.length : Int) then (some (t366, rdOf ByteArray.empty t358 (wrap64 ((t358.length : Int) - 1)), 0)) else (none))) else (none)) else (none))) else (none)) = some (r1, r2, r3) := H; have A2 := Aside0.mk A20; clear A20
 replace H := nP H; obtain ⟨c3, H⟩ := H; obtain ⟨c3b0, c3b1⟩ := eP c3; clear c3
 replace H := nQ H; obtain ⟨c4, H⟩ := H; obtain ⟨c4b0, c4b1⟩ := eN c4
 have c4b2 : ¬ (t358 = []) := fun h_ => c4 (by rw [h_]; rfl)
 obtain ⟨ji5, hji5⟩ : ∃ j_ : Int, (wrap64 ((t358.length : Int) - 1)) = j_ := ⟨_, rfl⟩
 replace H : (if 0 ≤ (ji5) then (if (ji5) ≤ (t358.length : Int) then ((potsherdref12_Join.f k (t358.take ((ji5) : Int).toNat)).bind fun t366 => (if (ji5) < (t358.length : Int) then (some (t366, rdOf ByteArray.empty t358 (ji5), 0)) else (none))) else (none)) else (none)) = some (r1, r2, r3) := by first | (rw [hji5] at H; exact H) | (simp only [hji5] at H ⊢; exact H)
 (try rw [hji5] at A2)
 have hji5w : (IntKind.i64.wrap ((t358.length : Int) - 1)) = ji5 := (i64_w _).trans hji5
 replace H := nP H; obtain ⟨c6, H⟩ := H; have c6b0 := eq_true c6; have c6b1 := decide_eq_true c6; clear c6
 replace H := nP H; obtain ⟨c7, H⟩ := H; have c7b0 := eq_true c7; have c7b1 := decide_eq_true c7; clear c7; obtain ⟨y362, hy362⟩ : ∃ y_ : List ByteArray, y_ = (t358.take ((ji5) : Int).toNat) := ⟨_, rfl⟩
 replace H : ((potsherdref12_Join.f k y362).bind fun t366 => (if (ji5) < (t358.length : Int) then (some (t366, rdOf ByteArray.empty t358 (ji5), 0)) else (none))) = some (r1, r2, r3) := rH H hy362
 have Ny362 := Aside0.mk hy362; clear hy362; replace H := Option.bind_eq_some_iff.mp H; obtain ⟨t366, A80, H⟩ := H; have A8 := Aside0.mk A80; clear A80
 replace H := nP H; obtain ⟨c9, H⟩ := H; have c9b0 := decide_eq_true c9; clear c9; simp only [Option.some.injEq, Prod.mk.injEq] at H; obtain ⟨rfl, rfl, rfl⟩ := H
 go_enter Try.func90, Try.ntmps90
 go_wp2_with (first | (go_at_call 91; (with_reducible refine (potsherdref12_Split.calls k a0 t358 t359 _ A2.out).mono ?_); rintro e w10 ⟨v360, rfl, ho0, hb⟩; have HO361 := Aside0.mk (Kd.R_lower ho0 (below_size (mH HB))); replace HB := kH HB hb; (try clear hb); (try clear ho0); obtain ⟨Ao11, co11, eo11⟩ := Kd.R_slice HO361.out; subst eo11; have q12 : ((ji5) : Int) ≤ ((t358.length : Int) : Int) := dT; obtain ⟨i012, hi012, _, hsz12, _⟩ := info_parts info9; have hroom12 : t358.length ≤ co11 := (Kd.R_reads' HO361.out).2.1; have hC12 : Kd.C Kd.string _ Ao11 t358.length t358 := (Kd.R_reads' HO361.out).2.2; have hcut12 := cut_to (P := Try.prog) 113 9 .i64 Try.underlying113 hi012 Ao11 t358.length co11 (ji5) (dT) q12 hroom12; have hr12 := Kd.C_take (m := ((ji5) : Int).toNat) hC12 (by omega); have hy12 : y362.length = ((ji5) : Int).toNat := (by rw [Ny362.out, List.length_take]; omega); rw [← Ny362.out] at hr12; rw [← hy12] at hcut12; have HR365 := Aside0.mk hr12; have HC365 := Aside0.mk (show y362.length ≤ co11 from by omega); clear hr12 hC12 hroom12 hi012 hsz12; have KY12 := Aside0.mk hy12; clear hy12; have KL12 := Aside0.mk (show ((ji5) : Int).toNat ≤ t358.length from by omega); replace q12 := eq_true q12) | (go_at_call 93; (with_reducible refine (potsherdref12_Join.calls k _ _ y362 t366 _ ?side1 ?side2 A8.out).mono ?_); (case side1 => repeat (first | exact (by repeat (first | (with_reducible exact HR365.out) | (with_reducible refine Kd.C_alloc ?_ _) | (with_reducible refine Kd.C_drewN ?_ _) | (with_reducible refine Kd.C_drew ?_) | exact HR365.out)) | (with_reducible refine Kd.C_alloc ?_ _) | (with_reducible refine Kd.C_drewN ?_ _) | (with_reducible refine Kd.C_drew ?_))); (case side2 => exact HC365.out); rintro e w' ⟨rfl, ⟨nd, rfl⟩⟩; (try first | exact ⟨rfl, _, World.drewN_drewN _ _ _⟩ | exact ⟨rfl, _, Eq.trans (World.drewN_drewN _ _ _) (congrArg (World.drewN _) (Nat.add_assoc _ _ _))⟩); have p367 : 0 ≤ ((ji5) : Int) := dT; have q367 : (ji5) < (t358.length : Int) := dT; obtain ⟨ad367, e367, hx367_0⟩ := Kd.at_string (Kd.R_reads' HO361.out).2.2 (ji5) p367 q367; cases e367; replace p367 := eq_true p367; replace q367 := eq_true q367))
 repeat (go_quiet (first | (go_at_call 91; (with_reducible refine (potsherdref12_Split.calls k a0 t358 t359 _ A2.out).mono ?_); rintro e w10 ⟨v360, rfl, ho0, hb⟩; have HO361 := Aside0.mk (Kd.R_lower ho0 (below_size (mH HB))); replace HB := kH HB hb; (try clear hb); (try clear ho0); obtain ⟨Ao11, co11, eo11⟩ := Kd.R_slice HO361.out; subst eo11; have q12 : ((ji5) : Int) ≤ ((t358.length : Int) : Int) := dT; obtain ⟨i012, hi012, _, hsz12, _⟩ := info_parts info9; have hroom12 : t358.length ≤ co11 := (Kd.R_reads' HO361.out).2.1; have hC12 : Kd.C Kd.string _ Ao11 t358.length t358 := (Kd.R_reads' HO361.out).2.2; have hcut12 := cut_to (P := Try.prog) 113 9 .i64 Try.underlying113 hi012 Ao11 t358.length co11 (ji5) (dT) q12 hroom12; have hr12 := Kd.C_take (m := ((ji5) : Int).toNat) hC12 (by omega); have hy12 : y362.length = ((ji5) : Int).toNat := (by rw [Ny362.out, List.length_take]; omega); rw [← Ny362.out] at hr12; rw [← hy12] at hcut12; have HR365 := Aside0.mk hr12; have HC365 := Aside0.mk (show y362.length ≤ co11 from by omega); clear hr12 hC12 hroom12 hi012 hsz12; have KY12 := Aside0.mk hy12; clear hy12; have KL12 := Aside0.mk (show ((ji5) : Int).toNat ≤ t358.length from by omega); replace q12 := eq_true q12) | (go_at_call 93; (with_reducible refine (potsherdref12_Join.calls k _ _ y362 t366 _ ?side1 ?side2 A8.out).mono ?_); (case side1 => repeat (first | exact (by repeat (first | (with_reducible exact HR365.out) | (with_reducible refine Kd.C_alloc ?_ _) | (with_reducible refine Kd.C_drewN ?_ _) | (with_reducible refine Kd.C_drew ?_) | exact HR365.out)) | (with_reducible refine Kd.C_alloc ?_ _) | (with_reducible refine Kd.C_drewN ?_ _) | (with_reducible refine Kd.C_drew ?_))); (case side2 => exact HC365.out); rintro e w' ⟨rfl, ⟨nd, rfl⟩⟩; (try first | exact ⟨rfl, _, World.drewN_drewN _ _ _⟩ | exact ⟨rfl, _, Eq.trans (World.drewN_drewN _ _ _) (congrArg (World.drewN _) (Nat.add_assoc _ _ _))⟩); have p367 : 0 ≤ ((ji5) : Int) := dT; have q367 : (ji5) < (t358.length : Int) := dT; obtain ⟨ad367, e367, hx367_0⟩ := Kd.at_string (Kd.R_reads' HO361.out).2.2 (ji5) p367 q367; cases e367; replace p367 := eq_true p367; replace q367 := eq_true q367)); try go_wp2_with (first | (go_at_call 91; (with_reducible refine (potsherdref12_Split.calls k a0 t358 t359 _ A2.out).mono ?_); rintro e w10 ⟨v360, rfl, ho0, hb⟩; have HO361 := Aside0.mk (Kd.R_lower ho0 (below_size (mH HB))); replace HB := kH HB hb; (try clear hb); (try clear ho0); obtain ⟨Ao11, co11, eo11⟩ := Kd.R_slice HO361.out; subst eo11; have q12 : ((ji5) : Int) ≤ ((t358.length : Int) : Int) := dT; obtain ⟨i012, hi012, _, hsz12, _⟩ := info_parts info9; have hroom12 : t358.length ≤ co11 := (Kd.R_reads' HO361.out).2.1; have hC12 : Kd.C Kd.string _ Ao11 t358.length t358 := (Kd.R_reads' HO361.out).2.2; have hcut12 := cut_to (P := Try.prog) 113 9 .i64 Try.underlying113 hi012 Ao11 t358.length co11 (ji5) (dT) q12 hroom12; have hr12 := Kd.C_take (m := ((ji5) : Int).toNat) hC12 (by omega); have hy12 : y362.length = ((ji5) : Int).toNat := (by rw [Ny362.out, List.length_take]; omega); rw [← Ny362.out] at hr12; rw [← hy12] at hcut12; have HR365 := Aside0.mk hr12; have HC365 := Aside0.mk (show y362.length ≤ co11 from by omega); clear hr12 hC12 hroom12 hi012 hsz12; have KY12 := Aside0.mk hy12; clear hy12; have KL12 := Aside0.mk (show ((ji5) : Int).toNat ≤ t358.length from by omega); replace q12 := eq_true q12) | (go_at_call 93; (with_reducible refine (potsherdref12_Join.calls k _ _ y362 t366 _ ?side1 ?side2 A8.out).mono ?_); (case side1 => repeat (first | exact (by repeat (first | (with_reducible exact HR365.out) | (with_reducible refine Kd.C_alloc ?_ _) | (with_reducible refine Kd.C_drewN ?_ _) | (with_reducible refine Kd.C_drew ?_) | exact HR365.out)) | (with_reducible refine Kd.C_alloc ?_ _) | (with_reducible refine Kd.C_drewN ?_ _) | (with_reducible refine Kd.C_drew ?_))); (case side2 => exact HC365.out); rintro e w' ⟨rfl, ⟨nd, rfl⟩⟩; (try first | exact ⟨rfl, _, World.drewN_drewN _ _ _⟩ | exact ⟨rfl, _, Eq.trans (World.drewN_drewN _ _ _) (congrArg (World.drewN _) (Nat.add_assoc _ _ _))⟩); have p367 : 0 ≤ ((ji5) : Int) := dT; have q367 : (ji5) < (t358.length : Int) := dT; obtain ⟨ad367, e367, hx367_0⟩ := Kd.at_string (Kd.R_reads' HO361.out).2.2 (ji5) p367 q367; cases e367; replace p367 := eq_true p367; replace q367 := eq_true q367)))
 go_ret3
 exact ⟨by first | rfl | exact congrArg (fun b_ => Ending.returned (Value.bool b_)) HRET.out | (rw [HRET.out]) | (simp [errW_none, errW_some] <;> rfl) | (simp only [← hji5]; first | rfl | (simp [errW_none, errW_some] <;> rfl)) | (simp [*, errW_none, errW_some] <;> rfl), mH HB⟩
def potsherdref12_At.l0 : Nat → Int → Int → Option (Int)
 | 0, _, _ => none
 | k + 1, x8, x9 => if x9 < x8 then (none) else (some (-1))
def potsherdref12_At.f (k : Nat) (l0 : List (S78)) (a1 : ByteArray) : Option (Int) := potsherdref12_At.l0 k (l0.length : Int) 0
theorem potsherdref12_At.mono_l : ∀ k, (∀ y0 y1, LeO (potsherdref12_At.l0 k y0 y1) (potsherdref12_At.l0 (k + 1) y0 y1))
 | 0 => fun _ _ r h => by simp [potsherdref12_At.l0] at h
 | k + 1 => by
  have ih0 := potsherdref12_At.mono_l k
  ·
   intro y0 y1
   unfold potsherdref12_At.l0
   repeat' with_reducible first | apply ih0 | exact LeO.refl _ | exact LeO.none _ | refine LeO.ite ?_ ?_ | refine LeO.bind ?_ (fun _ => ?_)
theorem potsherdref12_At.mono : ∀ a0 a1 k, LeO (potsherdref12_At.f k a0 a1) (potsherdref12_At.f (k + 1) a0 a1) := by
 intro a0 a1 k; have ih0 := potsherdref12_At.mono_l k
 unfold potsherdref12_At.f
 repeat' with_reducible first | apply ih0 | exact LeO.refl _ | exact LeO.none _ | refine LeO.ite ?_ ?_ | refine LeO.bind ?_ (fun _ => ?_)
set_option maxHeartbeats 8000000 in
set_option maxRecDepth 100000 in
theorem potsherdref12_At.calls (k : Nat) (A0 : Option Addr) (c0 : Nat) (l0 : List (S78)) (a1 : ByteArray) (r : Int) (w : World) (hr0 : Kd.C k78 w A0 l0.length l0) (hc0 : l0.length ≤ c0) (h : potsherdref12_At.f k l0 a1 = some r) :
 Calls Try.prog 86 #[.slice A0 l0.length c0, .string a1] w fun e w' => e = .returned (.int .i64 r) ∧ Below w.heap.size w w' := by
 have hu78 := Try.underlying78; have HR0 := Aside0.mk hr0; have HC0 := Aside0.mk hc0; clear hr0 hc0; have HB := Aside0.mk (Below.refl w.heap.size w); have H : (potsherdref12_At.l0 k (l0.length : Int) 0) = some r := h; clear h; have H' := Aside0.mk H; clear H
 go_enter Try.func86, Try.ntmps86
 go_wp2
 go_loopg [9] k (fun kq v9 w' => ∃ (x9_1 : Int), v9 = .int .i64 x9_1 ∧ Aside0 (potsherdref12_At.l0 kq (l0.length : Int) x9_1 = some r) ∧ Aside0 (kq ≤ k) ∧ Aside0 (Below w.heap.size w w'))
 case atStart => exact ⟨(0), sI, H', ⟨Nat.le_refl _⟩, ⟨mH HB⟩⟩
 case round =>
  clear H'
  obtain ⟨x9_1, rfl, HA, HK1, HB⟩ := hrel
  cases gk with
  | zero => exact absurd HA.out (by simp [potsherdref12_At.l0])
  | succ k1 =>
   have H := HA.out; clear HA; simp only [potsherdref12_At.l0] at H
   replace H := nQ H; obtain ⟨c3, H⟩ := H; have c3b0 := decide_eq_false c3; clear c3; obtain rfl := Option.some.inj H
   go_wp2
   go_ret
   exact ⟨rT, mH HB⟩
def potsherdref12_find.l0 : Nat → Int → Int → Int → Option (Int × Int)
 | 0, _, _, _ => none
 | k + 1, x6, x10, x11 => if x11 < x10 then (none) else (some (x6, 0))
def potsherdref12_find.f (k : Nat) (l0_0 : List (S28)) (l1 : List ByteArray) : Option (Int × Int) := potsherdref12_find.l0 k 0 (l1.length : Int) 0
theorem potsherdref12_find.mono_l : ∀ k, (∀ y0 y1 y2, LeO (potsherdref12_find.l0 k y0 y1 y2) (potsherdref12_find.l0 (k + 1) y0 y1 y2))
 | 0 => fun _ _ _ r h => by simp [potsherdref12_find.l0] at h
 | k + 1 => by
  have ih0 := potsherdref12_find.mono_l k
  ·
   intro y0 y1 y2
   unfold potsherdref12_find.l0
   repeat' with_reducible first | apply ih0 | apply potsherdref12_At.mono | exact LeO.refl _ | exact LeO.none _ | refine LeO.ite ?_ ?_ | refine LeO.bind ?_ (fun _ => ?_)
theorem potsherdref12_find.mono : ∀ a0 a1 k, LeO (potsherdref12_find.f k a0 a1) (potsherdref12_find.f (k + 1) a0 a1) := by
 intro a0 a1 k; have ih0 := potsherdref12_find.mono_l k
 unfold potsherdref12_find.f
 repeat' with_reducible first | apply ih0 | apply potsherdref12_At.mono | exact LeO.refl _ | exact LeO.none _ | refine LeO.ite ?_ ?_ | refine LeO.bind ?_ (fun _ => ?_)
set_option maxHeartbeats 8000000 in
set_option maxRecDepth 100000 in
theorem potsherdref12_find.calls (k : Nat) (A0_0 : Option Addr) (c0_0 : Nat) (l0_0 : List (S28)) (A1 : Option Addr) (c1 : Nat) (l1 : List ByteArray) (r1 : Int) (r2 : Int) (w : World) (hr0_0 : Kd.C k28 w A0_0 l0_0.length l0_0) (hc0_0 : l0_0.length ≤ c0_0) (hr1 : Kd.C Kd.string w A1 l1.length l1) (hc1 : l1.length ≤ c1) (h : potsherdref12_find.f k l0_0 l1 = some (r1, r2)) :
 Calls Try.prog 92 #[.agg #[.slice A0_0 l0_0.length c0_0], .slice A1 l1.length c1] w fun e w' => e = .returned (.tuple #[.int .i64 r1, .int .i64 r2]) ∧ Below w.heap.size w w' := by
 have hu24 := Try.underlying24; have HR0_0 := Aside0.mk hr0_0; have HC0_0 := Aside0.mk hc0_0; clear hr0_0 hc0_0; have HR1 := Aside0.mk hr1; have HC1 := Aside0.mk hc1; clear hr1 hc1; have HB := Aside0.mk (Below.refl w.heap.size w); have H : (potsherdref12_find.l0 k 0 (l1.length : Int) 0) = some (r1, r2) := h; clear h; have H' := Aside0.mk H; clear H
 go_enter Try.func92, Try.ntmps92
 go_wp2_with (first | ((with_reducible refine gate_dst (N := 2) rfl ?_); refine bxE 24 (cs := #[.slice A0_0 l0_0.length c0_0]) ?_; intro gb370 hg w3 hbox hb; have BK370 := Aside0.mk hbox; have GW370 := kG HB hg; have GE370 := kG HB hg; replace HB := kH HB hb; clear hb hbox hg))
 go_loopg [6, 11] k (fun kq v6 v11 w' => ∃ (x6_1 : Int) (x11_1 : Int), v6 = .int .i64 x6_1 ∧ v11 = .int .i64 x11_1 ∧ Aside0 (potsherdref12_find.l0 kq x6_1 (l1.length : Int) x11_1 = some (r1, r2)) ∧ Aside0 (kq ≤ k) ∧ Aside0 (w'.heap[gb370]? = some (.cells #[(.slice A0_0 l0_0.length c0_0)] 24 (0, 0))) ∧ Aside0 (Below w.heap.size w w'))
 case atStart => exact ⟨(0), (0), sI, sI, H', ⟨Nat.le_refl _⟩, ⟨mB BK370⟩, ⟨mH HB⟩⟩
 case round =>
  clear H'
  (try clear c1)
  obtain ⟨x6_1, x11_1, rfl, rfl, HA, HK1, BK370, HB⟩ := hrel
  cases gk with
  | zero => exact absurd HA.out (by simp [potsherdref12_find.l0])
  | succ k1 =>
   have H := HA.out; clear HA; simp only [potsherdref12_find.l0] at H
   replace H := nQ H; obtain ⟨c4, H⟩ := H; have c4b0 := decide_eq_false c4; clear c4; simp only [Option.some.injEq, Prod.mk.injEq] at H; obtain ⟨rfl, rfl⟩ := H
   go_wp2
   go_ret2
   exact ⟨rT, mH HB⟩
def potsherdref12_Parent.f (k : Nat) (l0_0 : List (S28)) (a1 : ByteArray) : Option (Int × ByteArray × Int) := (potsherdref12_MayTree.f k l0_0).bind fun t376 => (if t376 = true then ((potsherdref12_Last.f k a1).bind fun bt377 => (if bt377.2.2 = 0 then ((potsherdref12_Split.f k bt377.1).bind fun bt380 => ((potsherdref12_find.f k l0_0 bt380.1).bind fun bt384 => (if bt384.2 = 0 then (if 0 ≤ bt384.1 then (if bt384.1 < (l0_0.length : Int) then (if ((rd_T28 l0_0 bt384.1).f0) = 2 then (some (bt384.1, bt377.2.1, 0)) else (none)) else (none)) else (none)) else (none)))) else (none))) else (none))
theorem potsherdref12_Parent.mono : ∀ a0 a1 k, LeO (potsherdref12_Parent.f k a0 a1) (potsherdref12_Parent.f (k + 1) a0 a1) := by
 intro a0 a1 k
 unfold potsherdref12_Parent.f
 repeat' with_reducible first | apply potsherdref12_Last.mono | apply potsherdref12_MayTree.mono | apply potsherdref12_Split.mono | apply potsherdref12_find.mono | exact LeO.refl _ | exact LeO.none _ | refine LeO.ite ?_ ?_ | refine LeO.bind ?_ (fun _ => ?_)
set_option maxHeartbeats 8000000 in
set_option maxRecDepth 100000 in
theorem potsherdref12_Parent.calls (k : Nat) (A0_0 : Option Addr) (c0_0 : Nat) (l0_0 : List (S28)) (a1 : ByteArray) (r1 : Int) (r2 : ByteArray) (r3 : Int) (w : World) (hr0_0 : Kd.C k28 w A0_0 l0_0.length l0_0) (hc0_0 : l0_0.length ≤ c0_0) (h : potsherdref12_Parent.f k l0_0 a1 = some (r1, r2, r3)) :
 Calls Try.prog 85 #[.agg #[.slice A0_0 l0_0.length c0_0], .string a1] w fun e w' => e = .returned (.tuple #[.int .i64 r1, .string r2, .int .i64 r3]) ∧ Below w.heap.size w w' := by
 have hu24 := Try.underlying24; have HR0_0 := Aside0.mk hr0_0; have HC0_0 := Aside0.mk hc0_0; clear hr0_0 hc0_0; have HB := Aside0.mk (Below.refl w.heap.size w); have H : ((potsherdref12_MayTree.f k l0_0).bind fun t376 => (if t376 = true then ((potsherdref12_Last.f k a1).bind fun bt377 => (if bt377.2.2 = 0 then ((potsherdref12_Split.f k bt377.1).bind fun bt380 => ((potsherdref12_find.f k l0_0 bt380.1).bind fun bt384 => (if bt384.2 = 0 then (if 0 ≤ bt384.1 then (if bt384.1 < (l0_0.length : Int) then (if ((rd_T28 l0_0 bt384.1).f0) = 2 then (some (bt384.1, bt377.2.1, 0)) else (none)) else (none)) else (none)) else (none)))) else (none))) else (none))) = some (r1, r2, r3) := h; clear h; replace H := Option.bind_eq_some_iff.mp H; obtain ⟨t376, A30, H⟩ := H; have A3 := Aside0.mk A30; clear A30
 by_cases c4 : t376 = true
 ·
  subst c4
  have H1 : ((potsherdref12_Last.f k a1).bind fun bt377 => (if bt377.2.2 = 0 then ((potsherdref12_Split.f k bt377.1).bind fun bt380 => ((potsherdref12_find.f k l0_0 bt380.1).bind fun bt384 => (if bt384.2 = 0 then (if 0 ≤ bt384.1 then (if bt384.1 < (l0_0.length : Int) then (if ((rd_T28 l0_0 bt384.1).f0) = 2 then (some (bt384.1, bt377.2.1, 0)) else (none)) else (none)) else (none)) else (none)))) else (none))) = some (r1, r2, r3) := by rw [if_pos rfl] at H; exact H
  clear H; have H := H1; clear H1; replace H := Option.bind_eq_some_iff.mp H; obtain ⟨⟨t377, t378, t379⟩, A50, H⟩ := H; replace H : (if t379 = 0 then ((potsherdref12_Split.f k t377).bind fun bt380 => ((potsherdref12_find.f k l0_0 bt380.1).bind fun bt384 => (if bt384.2 = 0 then (if 0 ≤ bt384.1 then (if bt384.1 < (l0_0.length : Int) then (if ((rd_T28 l0_0 bt384.1).f0) = 2 then (some (bt384.1, t378, 0)) else (none)) else (none)) else (none)) else (none)))) else (none)) = some (r1, r2, r3) := H; have A5 := Aside0.mk A50; clear A50
  replace H := nP H; obtain ⟨c6, H⟩ := H; obtain ⟨c6b0, c6b1⟩ := eP c6; clear c6; replace H := Option.bind_eq_some_iff.mp H; obtain ⟨⟨t380, t381⟩, A70, H⟩ := H; replace H : ((potsherdref12_find.f k l0_0 t380).bind fun bt384 => (if bt384.2 = 0 then (if 0 ≤ bt384.1 then (if bt384.1 < (l0_0.length : Int) then (if ((rd_T28 l0_0 bt384.1).f0) = 2 then (some (bt384.1, t378, 0)) else (none)) else (none)) else (none)) else (none))) = some (r1, r2, r3) := H; have A7 := Aside0.mk A70; clear A70; replace H := Option.bind_eq_some_iff.mp H; obtain ⟨⟨t384, t385⟩, A80, H⟩ := H; replace H : (if t385 = 0 then (if 0 ≤ t384 then (if t384 < (l0_0.length : Int) then (if ((rd_T28 l0_0 t384).f0) = 2 then (some (t384, t378, 0)) else (none)) else (none)) else (none)) else (none)) = some (r1, r2, r3) := H; have A8 := Aside0.mk A80; clear A80
  replace H := nP H; obtain ⟨c9, H⟩ := H; obtain ⟨c9b0, c9b1⟩ := eP c9; clear c9
  replace H := nP H; obtain ⟨c10, H⟩ := H; have c10b0 := decide_eq_true c10; clear c10
  replace H := nP H; obtain ⟨c11, H⟩ := H; have c11b0 := decide_eq_true c11; clear c11
  replace H := nP H; obtain ⟨c12, H⟩ := H; obtain ⟨c12b0, c12b1⟩ := eP c12; clear c12; simp only [Option.some.injEq, Prod.mk.injEq] at H; obtain ⟨rfl, rfl, rfl⟩ := H
  go_enter Try.func85, Try.ntmps85
  go_wp2_with (first | ((with_reducible refine gate_dst (N := 2) rfl ?_); refine bxE 24 (cs := #[.slice A0_0 l0_0.length c0_0]) ?_; intro gb375 hg w13 hbox hb; have BK375 := Aside0.mk hbox; have GW375 := kG HB hg; have GE375 := kG HB hg; replace HB := kH HB hb; clear hb hbox hg; obtain ⟨hcz14_0, hfz14_0⟩ := cY0 BK375) | ((with_reducible refine gate_callee (f := 29) rfl ?_); refine goesK (some 14) Try.func29 #[.agg #[.slice A0_0 l0_0.length c0_0]] ?_; (with_reducible refine (potsherdref12_MayTree.calls k _ _ l0_0 true _ ?side1 ?side2 A3.out).mono ?_); (case side1 => exact mC HR0_0 HB); (case side2 => exact HC0_0.out); rintro e w15 ⟨rfl, hb⟩; refine ⟨_, rfl, ?_⟩; replace BK375 := kB BK375 hb; replace HB := kH HB hb; (try clear hb)) | ((with_reducible refine gate_callee (f := 90) rfl ?_); refine goesK (some 18) Try.func90 #[.string a1] ?_; (with_reducible refine (potsherdref12_Last.calls k a1 t377 t378 t379 _ A5.out).mono ?_); rintro e w16 ⟨rfl, hb⟩; refine ⟨_, rfl, ?_⟩; replace BK375 := kB BK375 hb; replace HB := kH HB hb; (try clear hb)) | ((with_reducible refine gate_callee (f := 91) rfl ?_); refine goesK (some 27) Try.func91 #[.string t377] ?_; (with_reducible refine (potsherdref12_Split.calls k t377 t380 t381 _ A7.out).mono ?_); rintro e w17 ⟨v382, rfl, ho0, hb⟩; refine ⟨_, rfl, ?_⟩; have HO383 := Aside0.mk (Kd.R_lower ho0 (below_size (mH HB))); replace BK375 := kB BK375 hb; replace HB := kH HB hb; (try clear hb); (try clear ho0); obtain ⟨hcz18_0, hfz18_0⟩ := cY0 BK375; obtain ⟨Ao19, co19, eo19⟩ := Kd.R_slice HO383.out; subst eo19) | ((with_reducible refine gate_callee (f := 92) rfl ?_); refine goesK (some 33) Try.func92 #[.agg #[.slice A0_0 l0_0.length c0_0], .slice Ao19 t380.length co19] ?_; (with_reducible refine (potsherdref12_find.calls k _ _ l0_0 _ _ t380 t384 t385 _ ?side1 ?side2 ?side3 ?side4 A8.out).mono ?_); (case side1 => exact mC HR0_0 HB); (case side2 => exact HC0_0.out); (case side3 => repeat (first | exact (Kd.R_reads' HO383.out).2.2 | (with_reducible refine Kd.C_alloc ?_ _) | (with_reducible refine Kd.C_drewN ?_ _) | (with_reducible refine Kd.C_drew ?_))); (case side4 => exact (Kd.R_reads' HO383.out).2.1); rintro e w20 ⟨rfl, hb⟩; refine ⟨_, rfl, ?_⟩; replace HO383 := kR HO383 hb; replace BK375 := kB BK375 hb; replace HB := kH HB hb; (try clear hb); obtain ⟨hcz21_0, hfz21_0⟩ := cY0 BK375; have p386 : 0 ≤ (t384 : Int) := dT; have q386 : t384 < (l0_0.length : Int) := dT; obtain ⟨ad386, A386_3, c386_3, A386_4, c386_4, e386, hx386_0, hx386_1, hx386_2, hx386_3, hx386_4, hl386_3, hi386_3, hl386_4, hi386_4⟩ := at_T28 HR0_0.out t384 p386 q386; cases e386; replace hx386_0 := xC HB hx386_0; replace hx386_1 := xC HB hx386_1; replace hx386_2 := xC HB hx386_2; replace hx386_3 := xC HB hx386_3; replace hx386_4 := xC HB hx386_4; have HR386_3 := Aside0.mk hi386_3; have HC386_3 := Aside0.mk hl386_3; clear hi386_3 hl386_3; have HR386_4 := Aside0.mk hi386_4; have HC386_4 := Aside0.mk hl386_4; clear hi386_4 hl386_4; replace p386 := eq_true p386; replace q386 := eq_true q386))
  go_ret3
  exact ⟨rT, mH HB⟩
 ·
  replace c4 := Bool.eq_false_iff.mpr c4; subst c4
  have H1 : (none) = some (r1, r2, r3) := by rw [if_neg (show ¬ (false = true) by decide)] at H; exact H
  clear H; have H := H1; clear H1; exact absurd H (by simp)
end Go.Proofs.Ytkigiehkckjlhaa.PDone
