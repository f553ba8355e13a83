/- The Go functions that these laws reach, each as a Lean function with the same answers (a law itself where it answers true), and the proof that the code comes to them; conditions: those of each theorem. Laid by a program of this session over the print. -/
import Derived.Test.YtkigiehkckjlhaaZReadsPReadsShort
import Derived.Test.YtkigiehkckjlhaaZReadsPReadsx0
import Derived.Test.YtkigiehkckjlhaaZReadsPReadsx18
import Derived.Test.YtkigiehkckjlhaaZReadsPReadsx22
import Derived.Test.YtkigiehkckjlhaaZReadsPReadsx5
namespace Go.Proofs.Ytkigiehkckjlhaa.PReads
open Go.RowKit Go.Proofs.YtkigiehkckjlhaaW.PrintWords Go.Proofs.YtkigiehkckjlhaaW.PrintLast Go.Proofs.YtkigiehkckjlhaaW.PrintMore
attribute [local go_sem] max2_int min2_int max_two min_two max_three min_three max_four min_four   -- for this text's walks alone
set_option linter.unusedVariables false
set_option linter.unusedSimpArgs false
open Go.Proofs.YtkigiehkckjlhaaW.PrintWords renaming blk_drewN → bN, blk_drew → bD, blk_alloc → bA, below_set → wS, below_alloc → wA, pw_below_drewN → wN, below_drew1 → wD, blk_below → bB, blk_far → bF, blk_cell → bC, blk_frozen → bZ
open List renaming setIfInBounds_toArray → lT, set_cons_zero → l0_, set_cons_succ → lS
abbrev B24_0 : Array Bool := #[false, false, false, false, false, false, false, false, false, false, false, false, false, false, false]
abbrev B24_1 := B24_0.set! 0 true
abbrev B24_2 := B24_1.set! 2 true
abbrev B24_3 := B24_2.set! 7 true
abbrev B24_4 := B24_3.set! 9 true
abbrev B24_5 := B24_4.set! 10 true
abbrev B24_6 := B24_5.set! 11 true
abbrev B24_7 := B24_6.set! 1 true
abbrev B24_8 := B24_7.set! 3 true
abbrev B24_9 := B24_8.set! 4 true
abbrev B24_10 := B24_9.set! 5 true
abbrev B24_11 := B24_10.set! 6 true
abbrev B24_12 := B24_11.set! 8 true
abbrev B24_13 := B24_12.set! 12 true
abbrev B24_14 := B24_13.set! 13 true
abbrev B24_15 := B24_14.set! 14 true
mutual
def file_Done.j0 : Nat → List (S60) → List Int → Bool → List (S28) → Option ((List (S28)) × Int)
 | 0, _, _, _, _ => none
 | k + 1, x1, x2, x20, x295000 => if x20 = true then (none) else ((dir_Copy.f k x295000).bind fun t297 => (file_Done.l0 k x2 x1 (x1.length : Int) 0 x295000 t297))
def file_Done.l0 : Nat → List Int → List (S60) → Int → Int → List (S28) → List (S28) → Option ((List (S28)) × Int)
 | 0, _, _, _, _, _, _ => none
 | k + 1, x2, x24, x25, x26, x295000, x301000 => if x26 < x25 then (if 0 ≤ x26 then (if x26 < (x24.length : Int) then ((file_is.f k x295000 ((rW x24 x26).f0)).bind fun t303 => (if t303 = true then (if ((rW x24 x26).f1) < 0 then (none) else (if ((rW x24 x26).f1) ≥ 5 then (none) else (if x26 < (x2.length : Int) then (if (rd x2 x26) < 1 then (none) else (file_Done.j2 k x2 x26 x24 x25 x26 (decide ((rd x2 x26) > 1099511627776)) x295000 x301000 ((rW x24 x26).f0) ((rW x24 x26).f1) ((rW x24 x26).f2) ((rW x24 x26).f3) ((rW x24 x26).f4) ((rW x24 x26).f5))) else (none)))) else (none))) else (none)) else (none)) else ((dir_May.f k x301000).bind fun t311 => (if t311 = true then (some (x301000, 0)) else (none)))
def file_Done.j2 : Nat → List Int → Int → List (S60) → Int → Int → Bool → List (S28) → List (S28) → Int → Int → Int → Int → Int → List Int → Option ((List (S28)) × Int)
 | 0, _, _, _, _, _, _, _, _, _, _, _, _, _, _ => none
 | k + 1, x2, x9, x24, x25, x26, x59, x295000, x301000, x303000, x303001, x303002, x303003, x303004, x303005 => if x59 = true then (none) else (if 0 ≤ x303000 then (if x303000 < (x301000.length : Int) then (if 0 ≤ x9 then (if x9 < (x2.length : Int) then (if 0 ≤ x303001 then (if x303001 < (((rU x301000 x303000).f3).length : Int) then (file_Done.l0 k x2 x24 x25 (wrap64 (x26 + 1)) x295000 (x301000.set (x303000 : Int).toNat (⟨(rU x301000 x303000).f0, (rU x301000 x303000).f1, (rU x301000 x303000).f2, (((rU x301000 x303000).f3).set (x303001 : Int).toNat (rd x2 x9)), (rU x301000 x303000).f4⟩ : S28))) else (none)) else (none)) else (none)) else (none)) else (none)) else (none))
end
def file_Done.f (k : Nat) (l0_0 : List (S28)) (l1 : List (S60)) (l2 : List Int) : Option ((List (S28)) × Int) := (dir_May.f k l0_0).bind fun t296 => (if t296 = true then (file_Done.j0 k l1 l2 ((l1.length : Int) != (l2.length : Int)) l0_0) else (none))
theorem file_Done.mono_l : ∀ k, (∀ y0 y1 y2 y3, LeO (file_Done.j0 k y0 y1 y2 y3) (file_Done.j0 (k + 1) y0 y1 y2 y3)) ∧ (∀ y0 y1 y2 y3 y4 y5, LeO (file_Done.l0 k y0 y1 y2 y3 y4 y5) (file_Done.l0 (k + 1) y0 y1 y2 y3 y4 y5)) ∧ (∀ y0 y1 y2 y3 y4 y5 y6 y7 y8 y9 y10 y11 y12 y13, LeO (file_Done.j2 k y0 y1 y2 y3 y4 y5 y6 y7 y8 y9 y10 y11 y12 y13) (file_Done.j2 (k + 1) y0 y1 y2 y3 y4 y5 y6 y7 y8 y9 y10 y11 y12 y13))
 | 0 => ⟨fun _ _ _ _ r h => by simp [file_Done.j0] at h, fun _ _ _ _ _ _ r h => by simp [file_Done.l0] at h, fun _ _ _ _ _ _ _ _ _ _ _ _ _ _ r h => by simp [file_Done.j2] at h⟩
 | k + 1 => by
  obtain ⟨ih0, ih1, ih2⟩ := file_Done.mono_l k; refine ⟨?_, ?_, ?_⟩
  ·
   intro y0 y1 y2 y3
   unfold file_Done.j0
   repeat' with_reducible first | apply ih0 | apply ih1 | apply ih2 | apply dir_Copy.mono | apply dir_May.mono | apply file_is.mono | exact LeO.refl _ | exact LeO.none _ | refine LeO.ite ?_ ?_ | refine LeO.bind ?_ (fun _ => ?_)
  ·
   intro y0 y1 y2 y3 y4 y5
   unfold file_Done.l0
   repeat' with_reducible first | apply ih0 | apply ih1 | apply ih2 | apply dir_Copy.mono | apply dir_May.mono | apply file_is.mono | exact LeO.refl _ | exact LeO.none _ | refine LeO.ite ?_ ?_ | refine LeO.bind ?_ (fun _ => ?_)
  ·
   intro y0 y1 y2 y3 y4 y5 y6 y7 y8 y9 y10 y11 y12 y13
   unfold file_Done.j2
   repeat' with_reducible first | apply ih0 | apply ih1 | apply ih2 | apply dir_Copy.mono | apply dir_May.mono | apply file_is.mono | exact LeO.refl _ | exact LeO.none _ | refine LeO.ite ?_ ?_ | refine LeO.bind ?_ (fun _ => ?_)
theorem file_Done.mono : ∀ a0 a1 a2 k, LeO (file_Done.f k a0 a1 a2) (file_Done.f (k + 1) a0 a1 a2) := by
 intro a0 a1 a2 k; obtain ⟨ih0, ih1, ih2⟩ := file_Done.mono_l k
 unfold file_Done.f
 repeat' with_reducible first | apply ih0 | apply ih1 | apply ih2 | apply dir_Copy.mono | apply dir_May.mono | apply file_is.mono | exact LeO.refl _ | exact LeO.none _ | refine LeO.ite ?_ ?_ | refine LeO.bind ?_ (fun _ => ?_)
def file_Done.T9 : Bool × List (List Nat × List Nat) := (true, [([], []), ([0], [0]), ([], []), ([2], [2]), ([1, 3], [1, 3]), ([4], [4]), ([5], [5]), ([], []), ([7], [7]), ([], []), ([], []), ([9, 10], [9, 10]), ([11], [11]), ([6, 8, 0, 1, 2, 3, 4, 5, 6, 7, 8, 9, 10, 11, 12], [6, 8]), ([13, 12, 0, 1, 2, 3, 4, 5, 6, 7, 8, 9, 10, 11, 12], [12, 13])])
def file_Done.B9 : List Nat := [0, 1, 0, 4, 15, 31, 63, 0, 128, 0, 0, 1536, 3584, 8191, 16383]
theorem file_Done.tab9 : rtab .any (opsOf Try.f36 9) = file_Done.T9 := by kernel_rfl
theorem file_Done.bits9 : waitsOk file_Done.T9.2 file_Done.B9 = true := by kernel_rfl
set_option maxHeartbeats 8000000 in
set_option maxRecDepth 100000 in
theorem file_Done.calls (k : Nat) (A0_0 : Option Addr) (c0_0 : Nat) (l0_0 : List (S28)) (A1 : Option Addr) (c1 : Nat) (l1 : List (S60)) (A2 : Option Addr) (c2 : Nat) (l2 : List Int) (r1 : List (S28)) (r2 : Int) (w : World) (hr0_0 : Kd.C k28 w A0_0 l0_0.length l0_0) (hc0_0 : l0_0.length ≤ c0_0) (hr1 : Kd.C k60 w A1 l1.length l1) (hc1 : l1.length ≤ c1) (hr2 : Kd.C (Kd.int .i64) w A2 l2.length l2) (hc2 : l2.length ≤ c2) (h : file_Done.f k l0_0 l1 l2 = some (r1, r2)) :
 Calls Try.prog 36 #[.agg #[.slice A0_0 l0_0.length c0_0], .slice A1 l1.length c1, .slice A2 l2.length c2] w fun e w' => ∃ v0_ : Value, e = .returned (.tuple #[.agg #[v0_], .int .i64 r2]) ∧ Kd.S k28 28 w' w.heap.size (fun _ => True) v0_ r1 ∧ Below w.heap.size w w' := by
 have hu24 := Try.underlying24; have hu60 := Try.underlying60; have HR0_0 := kA hr0_0; have HC0_0 := kA hc0_0; clear hr0_0 hc0_0; have HR1 := kA hr1; have HC1 := kA hc1; clear hr1 hc1; have HR2 := kA hr2; have HC2 := kA hc2; clear hr2 hc2; have HB := kA (Below.refl w.heap.size w); have H : ((dir_May.f k l0_0).bind fun t296 => (if t296 = true then (file_Done.j0 k l1 l2 ((l1.length : Int) != (l2.length : Int)) l0_0) else (none))) = some (r1, r2) := h; clear h; have HC4 := kA H; clear H
 go_enter Try.func36, Try.ntmps36
 go_upto_region 1 with (first | ((with_reducible refine gate_dst (N := 3) rfl ?_); (try (refine gate_guard (by rfl) ?_; dsimp only)); refine bxE 24 (cs := #[.slice A0_0 l0_0.length c0_0]) ?_; intro gb294 hg w5 hbox hb; have BK294 := kA hbox; have GW294 := kG HB hg; have GE294 := kG HB hg; replace HB := kH HB hb; clear hb hbox hg) | ((with_reducible refine gate_dst (N := 6) rfl ?_); (try (refine gate_guard (by rfl) ?_; dsimp only)); refine bxE 24 (cs := #[.slice none 0 0]) ?_; intro gb295 hg w6 hbox hb; have BK295 := kA hbox; have GW295 := kG HB hg; have GE295 := kG HB hg; replace HB := kH HB hb; have NB294_295 := kL BK294 hg; have NB295_294 := kQ BK294 hg; replace BK294 := kB BK294 hb; clear hb hbox hg))
 (try simp only [Act.put, lT, l0_, lS])
 go_cut [20] (fun v20 wc => ∃ (kq : Nat) (x20_3 : Bool), v20 = .bool x20_3 ∧ Aside0 (file_Done.j0 kq l1 l2 x20_3 l0_0 = some (r1, r2)) ∧ Aside0 (kq ≤ k) ∧ Aside0 (wc.heap[gb294]? = some (.cells #[(.slice A0_0 l0_0.length c0_0)] 24 (0, 0))) ∧ Aside0 (wc.heap[gb295]? = some (.cells #[(.slice none 0 0)] 24 (0, 0))) ∧ Aside0 (Below w.heap.size w wc))
 case first =>
  have H := HC4.out; clear HC4; replace H := qB H; obtain ⟨t296, A70, H⟩ := H; have A7 := kA A70; clear A70
  by_cases c8 : t296 = true
  ·
   subst c8
   have H1 : (file_Done.j0 k l1 l2 ((l1.length : Int) != (l2.length : Int)) l0_0) = some (r1, r2) := by rw [if_pos rfl] at H; exact H
   clear H; have H := H1; clear H1; have H' := kA H; clear H; have hnb9 := NB294_295.out; have hnc9 := NB295_294.out; obtain ⟨hcz10_0, hfz10_0⟩ := cY0 BK294
   go_wp2_with (first | ((with_reducible refine gate_callee (f := 55) rfl ?_); refine goesK (some 12) Try.func55 #[.agg #[.slice A0_0 l0_0.length c0_0]] ?_; (with_reducible refine (dir_May.calls k _ _ l0_0 true _ ?side1 ?side2 A7.out).mono ?_); (case side1 => exact mC HR0_0 HB); (case side2 => exact HC0_0.out); rintro e w11 ⟨rfl, hb⟩; refine ⟨_, rfl, ?_⟩; replace BK294 := kB BK294 hb; replace BK295 := kB BK295 hb; replace HB := kH HB hb; (try clear hb)))
   go_meet
   case rel => exact ⟨_, (((l1.length : Int) != (l2.length : Int))), sI, H', ⟨by first | omega | exact Nat.le_refl _⟩, ⟨mB BK294⟩, ⟨mB BK295⟩, ⟨mH HB⟩⟩
  ·
   replace c8 := Bool.eq_false_iff.mpr c8; subst c8
   have H1 : (none) = some (r1, r2) := by rw [if_neg (show ¬ (false = true) by decide)] at H; exact H
   clear H; have H := H1; clear H1; exact absurd H (by simp)
 case rest =>
  clear HC4
  (try clear c1); (try clear c2)
  obtain ⟨kq, x20_3, rfl, HA, HJ3, BK294, BK295, HB⟩ := hcut
  cases kq with
  | zero => exact absurd HA.out (by simp [file_Done.j0])
  | succ kj3 =>
   have H := HA.out; clear HA; simp only [file_Done.j0] at H
   by_cases c12 : x20_3 = true
   ·
    subst c12
    have H1 : (none) = some (r1, r2) := by rw [if_pos rfl] at H; exact H
    clear H; have H := H1; clear H1; exact absurd H (by simp)
   ·
    replace c12 := Bool.eq_false_iff.mpr c12; subst c12
    have H1 : ((dir_Copy.f kj3 l0_0).bind fun t297 => (file_Done.l0 kj3 l2 l1 (l1.length : Int) 0 l0_0 t297)) = some (r1, r2) := by rw [if_neg (show ¬ (false = true) by decide)] at H; exact H
    clear H; have H := H1; clear H1; replace H := qB H; obtain ⟨t297, A130, H⟩ := H; have A13 := kA A130; clear A130; have H' := kA H; clear H; have hnb14 := NB294_295.out; have hnc14 := NB295_294.out; obtain ⟨hcz15_0, hfz15_0⟩ := cY0 BK294
    go_wp2_with (first | ((with_reducible refine gate_callee (f := 57) rfl ?_); refine goesK (some 23) Try.func57 #[.agg #[.slice A0_0 l0_0.length c0_0]] ?_; (with_reducible refine (dir_Copy.calls kj3 _ _ l0_0 t297 _ ?side1 ?side2 A13.out).mono ?_); (case side1 => exact mC HR0_0 HB); (case side2 => exact HC0_0.out); rintro e w16 ⟨v298, rfl, ho0, hb⟩; refine ⟨_, rfl, ?_⟩; have HO299 := kA (Kd.S_lower ho0 (below_size (mH HB))); replace BK294 := kB BK294 hb; replace BK295 := kB BK295 hb; replace HB := kH HB hb; (try clear hb); (try clear ho0)) | ((with_reducible refine gate_dst (N := 8) rfl ?_); (try (refine gate_guard (by rfl) ?_; dsimp only)); refine bxE 24 (cs := #[.slice none 0 0]) ?_; intro gb300 hg w17 hbox hb; replace HO299 := kS HO299 hb; have BK300 := kA hbox; have GW300 := kG HB hg; have GE300 := kG HB hg; replace HB := kH HB hb; have NB294_300 := kL BK294 hg; have NB300_294 := kQ BK294 hg; replace BK294 := kB BK294 hb; have NB295_300 := kL BK295 hg; have NB300_295 := kQ BK295 hg; replace BK295 := kB BK295 hb; clear hb hbox hg; obtain ⟨Ao18, co18, eo18⟩ := Kd.S_slice HO299.out; subst eo18; have hnb19 := NB300_294.out; have hnc19 := NB294_300.out; have hnb20 := NB300_295.out; have hnc20 := NB295_300.out; obtain ⟨hcz21_0, hfz21_0⟩ := cY0 BK300))
    go_loopg [26] kj3 (fun kq v26 w' => ∃ (x26_2 : Int) (x301000_2 : List (S28)) (u301000 : Value), v26 = .int .i64 x26_2 ∧ Aside0 (file_Done.l0 kq l2 l1 (l1.length : Int) x26_2 l0_0 x301000_2 = some (r1, r2)) ∧ Aside0 (kq ≤ kj3) ∧ Aside0 (Kd.S k28 28 w' w.heap.size (fun _ => True) u301000 x301000_2) ∧ Aside0 (w'.heap[gb294]? = some (.cells #[(.slice A0_0 l0_0.length c0_0)] 24 (0, 0))) ∧ Aside0 (w'.heap[gb295]? = some (.cells #[(.slice none 0 0)] 24 (0, 0))) ∧ Aside0 (w'.heap[gb300]? = some (.cells #[u301000] 24 (0, 0))) ∧ Aside0 (Below w.heap.size w w'))
    case atStart => exact ⟨(0), (t297), (.slice Ao18 t297.length co18), sI, H', ⟨Nat.le_refl _⟩, ⟨fS ⟨Kd.S_types HO299.out BK300.out (by decide)⟩⟩, ⟨mF BK294⟩, ⟨mF BK295⟩, ⟨pP BK300⟩, ⟨mH HB⟩⟩
    case round =>
     clear H'
     (try clear c1); (try clear c2); (try clear c12); (try clear hcz15_0); (try clear hcz21_0); (try clear hfz15_0); (try clear hfz21_0)
     obtain ⟨x26_2, x301000_2, u301000, rfl, HA, HK2, HO_301000, BK294, BK295, BK300, HB⟩ := hrel
     cases gk with
     | zero => exact absurd HA.out (by simp [file_Done.l0])
     | succ k2 =>
      have H := HA.out; clear HA; simp only [file_Done.l0] at H
      by_cases c22 : x26_2 < (l1.length : Int)
      ·
       rw [if_pos c22] at H; have c22b0 := qT c22; clear c22
       replace H := nP H; obtain ⟨c23, H⟩ := H; have c23b0 := qT c23; clear c23
       replace H := nP H; obtain ⟨c24, H⟩ := H; have c24b0 := qT c24; clear c24; have HC25 := kA H; clear H; have p301 : 0 ≤ (x26_2 : Int) := dT; have q301 : x26_2 < (l1.length : Int) := dT; obtain ⟨ad301, A301_5, c301_5, e301, hx301_0, hx301_1, hx301_2, hx301_3, hx301_4, hx301_5, hl301_5, hi301_5⟩ := at_T60 HR1.out x26_2 p301 q301
       cases e301
       replace hx301_0 := xC HB hx301_0; replace hx301_1 := xC HB hx301_1; replace hx301_2 := xC HB hx301_2; replace hx301_3 := xC HB hx301_3; replace hx301_4 := xC HB hx301_4; replace hx301_5 := xC HB hx301_5; have HR301_5 := kA hi301_5; have HC301_5 := kA hl301_5; clear hi301_5 hl301_5; replace p301 := eq_true p301; replace q301 := eq_true q301
       go_upto_region 7 with (first | ((with_reducible refine gate_dst (N := 10) rfl ?_); (try (refine gate_guard (by rfl) ?_; dsimp only)); refine bxE 60 (cs := #[.int .i64 0, .int .i64 0, .int .i64 0, .int .i64 0, .int .i64 0, .slice none 0 0]) ?_; intro gb302 hg w26 hbox hb; replace HO_301000 := kS HO_301000 hb; have BK302 := kA hbox; have GW302 := kG HB hg; have GE302 := kG HB hg; replace HB := kH HB hb; have NB294_302 := kL BK294 hg; have NB302_294 := kQ BK294 hg; replace BK294 := kB BK294 hb; have NB295_302 := kL BK295 hg; have NB302_295 := kQ BK295 hg; replace BK295 := kB BK295 hb; have NB300_302 := kL BK300 hg; have NB302_300 := kQ BK300 hg; replace BK300 := kB BK300 hb; clear hb hbox hg; have hnb27 := NB302_294.out; have hnc27 := NB294_302.out; have hnb28 := NB302_295.out; have hnc28 := NB295_302.out; have hnb29 := NB302_300.out; have hnc29 := NB300_302.out; obtain ⟨hcz30_0, hfz30_0⟩ := cY0 BK302; obtain ⟨hcz30_1, hfz30_1⟩ := cY1 BK302; obtain ⟨hcz30_2, hfz30_2⟩ := cY2 BK302; obtain ⟨hcz30_3, hfz30_3⟩ := cY3 BK302; obtain ⟨hcz30_4, hfz30_4⟩ := cY4 BK302; obtain ⟨hcz30_5, hfz30_5⟩ := cY5 BK302))
       (try simp only [Act.put, lT, l0_, lS])
       go_cut [59] (fun v59 wc => ∃ (kq : Nat) (x59_24 : Bool), v59 = .bool x59_24 ∧ Aside0 (file_Done.j2 kq l2 x26_2 l1 (l1.length : Int) x26_2 x59_24 l0_0 x301000_2 ((rW l1 x26_2).f0) ((rW l1 x26_2).f1) ((rW l1 x26_2).f2) ((rW l1 x26_2).f3) ((rW l1 x26_2).f4) ((rW l1 x26_2).f5) = some (r1, r2)) ∧ Aside0 (kq ≤ k2) ∧ Aside0 (Kd.S k28 28 wc w.heap.size (fun _ => True) u301000 x301000_2) ∧ Aside0 (wc.heap[gb294]? = some (.cells #[(.slice A0_0 l0_0.length c0_0)] 24 (0, 0))) ∧ Aside0 (wc.heap[gb295]? = some (.cells #[(.slice none 0 0)] 24 (0, 0))) ∧ Aside0 (wc.heap[gb300]? = some (.cells #[u301000] 24 (0, 0))) ∧ Aside0 (wc.heap[gb302]? = some (.cells #[.int .i64 ((rW l1 x26_2).f0), .int .i64 ((rW l1 x26_2).f1), .int .i64 ((rW l1 x26_2).f2), .int .i64 ((rW l1 x26_2).f3), .int .i64 ((rW l1 x26_2).f4), (.slice A301_5 ((rW l1 x26_2).f5).length c301_5)] 60 (0, 0))) ∧ Aside0 (Below w.heap.size w wc))
       case first =>
        have H := HC25.out; clear HC25; replace H := qB H; obtain ⟨t303, A310, H⟩ := H; have A31 := kA A310; clear A310
        by_cases c32 : t303 = true
        ·
         subst c32
         have H1 : (if ((rW l1 x26_2).f1) < 0 then (none) else (if ((rW l1 x26_2).f1) ≥ 5 then (none) else (if x26_2 < (l2.length : Int) then (if (rd l2 x26_2) < 1 then (none) else (file_Done.j2 k2 l2 x26_2 l1 (l1.length : Int) x26_2 (decide ((rd l2 x26_2) > 1099511627776)) l0_0 x301000_2 ((rW l1 x26_2).f0) ((rW l1 x26_2).f1) ((rW l1 x26_2).f2) ((rW l1 x26_2).f3) ((rW l1 x26_2).f4) ((rW l1 x26_2).f5))) else (none)))) = some (r1, r2) := by rw [if_pos rfl] at H; exact H
         clear H; have H := H1; clear H1
         replace H := nQ H; obtain ⟨c33, H⟩ := H; have c33b0 := qF c33; clear c33
         (first | rw [c33b0] | (simp only [i64_w, i32_w]; rw [c33b0]) | skip)
         replace H := nQ H; obtain ⟨c34, H⟩ := H; have c34b0 : decide (5 ≤ ((rW l1 x26_2).f1)) = false := qF c34; clear c34
         replace H := nP H; obtain ⟨c35, H⟩ := H; have c35b0 := qT c35; clear c35
         replace H := nQ H; obtain ⟨c36, H⟩ := H; have c36b0 := qF c36; clear c36; have H' := kA H; clear H; have hnb37 := NB294_295.out; have hnc37 := NB295_294.out; have hnb38 := NB294_300.out; have hnc38 := NB300_294.out; have hnb39 := NB294_302.out; have hnc39 := NB302_294.out; obtain ⟨hcz40_0, hfz40_0⟩ := cY0 BK294; have hnb41 := NB302_295.out; have hnc41 := NB295_302.out; have hnb42 := NB302_300.out; have hnc42 := NB300_302.out; obtain ⟨hcz43_0, hfz43_0⟩ := cY0 BK302; obtain ⟨hcz43_1, hfz43_1⟩ := cY1 BK302; obtain ⟨hcz43_2, hfz43_2⟩ := cY2 BK302; obtain ⟨hcz43_3, hfz43_3⟩ := cY3 BK302; obtain ⟨hcz43_4, hfz43_4⟩ := cY4 BK302; obtain ⟨hcz43_5, hfz43_5⟩ := cY5 BK302
         go_wp2_with (first | ((with_reducible refine gate_callee (f := 56) rfl ?_); refine goesK (some 34) Try.func56 #[.agg #[.slice A0_0 l0_0.length c0_0], .int .i64 ((rW l1 x26_2).f0)] ?_; (with_reducible refine (file_is.calls k2 _ _ l0_0 ((rW l1 x26_2).f0) true _ ?side1 ?side2 A31.out).mono ?_); (case side1 => exact Kd.C_below HR0_0.out (mH HB)); (case side2 => exact HC0_0.out); rintro e w44 ⟨rfl, hb⟩; refine ⟨_, rfl, ?_⟩; replace HO_301000 := kA (Kd.S_below (by (with_reducible repeat (first | apply Kd.S_alloc | apply Kd.S_drewN | apply Kd.S_drew)); exact (Kd.S_mono (Kd.S_far (p := ⟨gb302, 5, none⟩) (Kd.S_far (p := ⟨gb302, 4, none⟩) (Kd.S_far (p := ⟨gb302, 3, none⟩) (Kd.S_far (p := ⟨gb302, 2, none⟩) (Kd.S_far (p := ⟨gb302, 1, none⟩) (Kd.S_far (p := ⟨gb302, 0, none⟩) (Kd.S_types HO_301000.out BK302.out (by decide)) (fun _ hk => hk.2) (.int .i64 ((rW l1 x26_2).f0))) (fun _ hk => hk.2) (.int .i64 ((rW l1 x26_2).f1))) (fun _ hk => hk.2) (.int .i64 ((rW l1 x26_2).f2))) (fun _ hk => hk.2) (.int .i64 ((rW l1 x26_2).f3))) (fun _ hk => hk.2) (.int .i64 ((rW l1 x26_2).f4))) (fun _ hk => hk.2) (.slice A301_5 ((rW l1 x26_2).f5).length c301_5)) (fun _ h_ => h_.1))) hb); replace BK294 := kA (bB (mF BK294) hb); replace BK295 := kA (bB (mF BK295) hb); replace BK300 := kA (bB (mF BK300) hb); replace BK302 := kA (bB (g := gb302) (o := .cells #[.int .i64 ((rW l1 x26_2).f0), .int .i64 ((rW l1 x26_2).f1), .int .i64 ((rW l1 x26_2).f2), .int .i64 ((rW l1 x26_2).f3), .int .i64 ((rW l1 x26_2).f4), .slice A301_5 ((rW l1 x26_2).f5).length c301_5] 60 (0, 0)) (pP BK302) hb); replace HB := kH HB hb; (try clear hb); (try clear hk); obtain ⟨hcz45_0, hfz45_0⟩ := cY0 BK302; obtain ⟨hcz45_1, hfz45_1⟩ := cY1 BK302; obtain ⟨hcz45_2, hfz45_2⟩ := cY2 BK302; obtain ⟨hcz45_3, hfz45_3⟩ := cY3 BK302; obtain ⟨hcz45_4, hfz45_4⟩ := cY4 BK302; obtain ⟨hcz45_5, hfz45_5⟩ := cY5 BK302; have p304 : 0 ≤ (x26_2 : Int) := dT; have q304 : x26_2 < (l2.length : Int) := dT; obtain ⟨ad304, e304, hx304_0⟩ := Kd.at_int HR2.out x26_2 p304 q304; cases e304; replace hx304_0 := xC HB hx304_0; replace p304 := eq_true p304; replace q304 := eq_true q304; have p305 : 0 ≤ (x26_2 : Int) := dT; have q305 : x26_2 < (l2.length : Int) := dT; obtain ⟨ad305, e305, hx305_0⟩ := Kd.at_int HR2.out x26_2 p305 q305; obtain rfl : ad304 = ad305 := (by injection e305); replace hx305_0 := xC HB hx305_0; replace p305 := eq_true p305; replace q305 := eq_true q305))
         go_meet
         case rel => exact ⟨_, (decide ((rd l2 x26_2) > 1099511627776)), sI, H', ⟨by have := HJ3.out; have := HK2.out; first | omega | exact Nat.le_refl _⟩, ⟨mS HO_301000⟩, ⟨mB BK294⟩, ⟨mB BK295⟩, ⟨mB BK300⟩, ⟨mB BK302⟩, ⟨mH HB⟩⟩
        ·
         replace c32 := Bool.eq_false_iff.mpr c32; subst c32
         have H1 : (none) = some (r1, r2) := by rw [if_neg (show ¬ (false = true) by decide)] at H; exact H
         clear H; have H := H1; clear H1; exact absurd H (by simp)
       case rest =>
        clear HC25
        (try clear c1); (try clear c2); (try clear c12); (try clear c22); (try clear c22b0); (try clear c23); (try clear c23b0); (try clear c24); (try clear c24b0); (try clear hcz15_0); (try clear hcz21_0); (try clear hcz30_0); (try clear hcz30_1); (try clear hcz30_2); (try clear hcz30_3); (try clear hcz30_4); (try clear hcz30_5); (try clear hfz15_0); (try clear hfz21_0); (try clear hfz30_0); (try clear hfz30_1); (try clear hfz30_2); (try clear hfz30_3); (try clear hfz30_4); (try clear hfz30_5); (try clear hx301_0); (try clear hx301_1); (try clear hx301_2); (try clear hx301_3); (try clear hx301_4); (try clear hx301_5); (try clear p301); (try clear q301)
        obtain ⟨kq, x59_24, rfl, HA, HJ24, HO_301000, BK294, BK295, BK300, BK302, HB⟩ := hcut
        cases kq with
        | zero => exact absurd HA.out (by simp [file_Done.j2])
        | succ kj24 =>
         have H := HA.out; clear HA; simp only [file_Done.j2] at H
         by_cases c46 : x59_24 = true
         ·
          subst c46
          have H1 : (none) = some (r1, r2) := by rw [if_pos rfl] at H; exact H
          clear H; have H := H1; clear H1; exact absurd H (by simp)
         ·
          replace c46 := Bool.eq_false_iff.mpr c46; subst c46
          have H1 : (if 0 ≤ ((rW l1 x26_2).f0) then (if ((rW l1 x26_2).f0) < (x301000_2.length : Int) then (if 0 ≤ x26_2 then (if x26_2 < (l2.length : Int) then (if 0 ≤ ((rW l1 x26_2).f1) then (if ((rW l1 x26_2).f1) < (((rU x301000_2 ((rW l1 x26_2).f0)).f3).length : Int) then (file_Done.l0 kj24 l2 l1 (l1.length : Int) (wrap64 (x26_2 + 1)) l0_0 (x301000_2.set (((rW l1 x26_2).f0) : Int).toNat (⟨(rU x301000_2 ((rW l1 x26_2).f0)).f0, (rU x301000_2 ((rW l1 x26_2).f0)).f1, (rU x301000_2 ((rW l1 x26_2).f0)).f2, (((rU x301000_2 ((rW l1 x26_2).f0)).f3).set (((rW l1 x26_2).f1) : Int).toNat (rd l2 x26_2)), (rU x301000_2 ((rW l1 x26_2).f0)).f4⟩ : S28))) else (none)) else (none)) else (none)) else (none)) else (none)) else (none)) = some (r1, r2) := by rw [if_neg (show ¬ (false = true) by decide)] at H; exact H
          clear H; have H := H1; clear H1
          replace H := nP H; obtain ⟨c47, H⟩ := H; have c47b0 := qT c47; clear c47
          replace H := nP H; obtain ⟨c48, H⟩ := H; have c48b0 := qT c48; clear c48
          replace H := nP H; obtain ⟨c49, H⟩ := H; have c49b0 := qT c49; clear c49
          replace H := nP H; obtain ⟨c50, H⟩ := H; have c50b0 := qT c50; clear c50
          replace H := nP H; obtain ⟨c51, H⟩ := H; have c51b0 := qT c51; clear c51
          replace H := nP H; obtain ⟨c52, H⟩ := H; have c52b0 := qT c52; clear c52; obtain ⟨y308, hy308⟩ : ∃ y_ : List Int, y_ = (((rU x301000_2 ((rW l1 x26_2).f0)).f3).set (((rW l1 x26_2).f1) : Int).toNat (rd l2 x26_2)) := ⟨_, rfl⟩
          replace H : (file_Done.l0 kj24 l2 l1 (l1.length : Int) (wrap64 (x26_2 + 1)) l0_0 (x301000_2.set (((rW l1 x26_2).f0) : Int).toNat (⟨(rU x301000_2 ((rW l1 x26_2).f0)).f0, (rU x301000_2 ((rW l1 x26_2).f0)).f1, (rU x301000_2 ((rW l1 x26_2).f0)).f2, y308, (rU x301000_2 ((rW l1 x26_2).f0)).f4⟩ : S28))) = some (r1, r2) := rH H hy308
          have Ny308 := kA hy308; clear hy308; obtain ⟨y310, hy310⟩ : ∃ y_ : List (S28), y_ = (x301000_2.set (((rW l1 x26_2).f0) : Int).toNat (⟨(rU x301000_2 ((rW l1 x26_2).f0)).f0, (rU x301000_2 ((rW l1 x26_2).f0)).f1, (rU x301000_2 ((rW l1 x26_2).f0)).f2, y308, (rU x301000_2 ((rW l1 x26_2).f0)).f4⟩ : S28)) := ⟨_, rfl⟩
          replace H : (file_Done.l0 kj24 l2 l1 (l1.length : Int) (wrap64 (x26_2 + 1)) l0_0 y310) = some (r1, r2) := rH H hy310
          have Ny310 := kA hy310; clear hy310; have H' := kA H; clear H
          try go_wp2
          replace HO_301000 := kA (Kd.S_drew HO_301000.out); replace BK294 := kA (bD BK294.out); replace BK295 := kA (bD BK295.out); replace BK300 := kA (bD BK300.out); replace BK302 := kA (bD BK302.out); replace HB := kA (wD HB.out); obtain ⟨Ao55, co55, eo55⟩ := Kd.S_slice HO_301000.out
          (first | subst eo55 | (injection eo55 with f1_ f2_ f3_; have f4_ := f1_.symm; have f5_ := f3_.symm; clear f1_ f2_ f3_; subst f4_; subst f5_))
          have p306 : 0 ≤ (((rW l1 x26_2).f0) : Int) := dT; have q306 : ((rW l1 x26_2).f0) < (x301000_2.length : Int) := dT; obtain ⟨ad306, A306_3, c306_3, A306_4, c306_4, e306, hx306_0, hx306_1, hx306_2, hx306_3, hx306_4, hl306_3, hi306_3, hl306_4, hi306_4⟩ := at_T28 (Kd.S_reads' HO_301000.out).2.2 ((rW l1 x26_2).f0) p306 q306
          cases e306
          obtain ⟨ce306, hce306, hMe306, hcc306⟩ := Kd.S_get HO_301000.out z28 ((rW l1 x26_2).f0) p306 (by first | exact q306 | exact dT | (have e_ := (Kd.S_reads' HO_301000.out).1; omega))
          obtain ⟨ve306_3, ve306_4, rfl, ge306_3, ge306_4⟩ := k28_openM hMe306; have hv306_3 := hcc306 3 _ rfl; rw [add_field _ _ 3 (by omega)] at hv306_3; replace hv306_3 := qI (hv306_3.symm.trans hx306_3); rw [hv306_3] at ge306_3; have HL306_3 := kA (show Kd.R (Kd.int .i64) 3 _ _ _ _ ((rU x301000_2 ((rW l1 x26_2).f0)).f3) from ge306_3); clear hv306_3 ge306_3; have HX306_3 := kA hx306_3; have hv306_4 := hcc306 4 _ rfl; rw [add_field _ _ 4 (by omega)] at hv306_4; replace hv306_4 := qI (hv306_4.symm.trans hx306_4); rw [hv306_4] at ge306_4; have HL306_4 := kA (show Kd.R k78 78 _ _ _ _ ((rU x301000_2 ((rW l1 x26_2).f0)).f4) from ge306_4); clear hv306_4 ge306_4; have HX306_4 := kA hx306_4; clear hcc306 hce306; have HR306_3 := kA hi306_3; have HC306_3 := kA hl306_3; clear hi306_3 hl306_3; have HR306_4 := kA hi306_4; have HC306_4 := kA hl306_4; clear hi306_4 hl306_4; replace p306 := eq_true p306; replace q306 := eq_true q306; have p307 : 0 ≤ (x26_2 : Int) := dT; have q307 : x26_2 < (l2.length : Int) := dT; obtain ⟨ad307, e307, hx307_0⟩ := Kd.at_int HR2.out x26_2 p307 q307; have hw307_0 := hx307_0
          cases e307
          replace hx307_0 := xC HB hx307_0; replace p307 := eq_true p307; replace q307 := eq_true q307; have p53 : 0 ≤ (((rW l1 x26_2).f1) : Int) := dT; have q53 : (((rW l1 x26_2).f1) : Int) < ((((rU x301000_2 ((rW l1 x26_2).f0)).f3).length : Int) : Int) := dT; obtain ⟨go53, co53, eo53, gb53, gl53, cl53, HG53⟩ := Kd.R_form HL306_3.out (by omega)
          (first | cases eo53 | (injection eo53 with ea_ en_ ec_; (first | subst ea_ | (injection ea_ with ea_; subst ea_)); subst ec_; clear en_))
          have GB53 := kA gb53; have GG53 := kA HG53; clear gb53 gl53 HG53; obtain ⟨hx53_0, hf53_0⟩ := Kd.R_celln 0 HL306_3.out (((rW l1 x26_2).f1) : Int) p53 q53; replace p53 := eq_true p53; replace q53 := eq_true q53; have hq56 : (((rW l1 x26_2).f0) : Int) < (x301000_2.length : Int) := (by have h_ : (((rW l1 x26_2).f0) : Int) < ((x301000_2.length : Int) : Int) := dT; first | exact h_ | (have e_ := (Kd.S_reads' HO_301000.out).1; omega) | simpa only [List.length_set, List.length_set] using h_)
          obtain ⟨oki56, ce56, hcl56, hM56, hcc56, hok56, hbk56⟩ := Kd.S_borrow HO_301000.out z28 (((rW l1 x26_2).f0) : Int) (dT) hq56; obtain ⟨ve56_3, ve56_4, rfl, ge56_3, ge56_4⟩ := k28_openM hM56; have hv56 := hcc56 3 _ rfl; rw [add_field _ _ 3 (by omega)] at hv56; replace hv56 := qI (hv56.symm.trans HX306_3.out); subst hv56; clear hcc56 hcl56; replace ge56_3 := (show Kd.R (Kd.int .i64) 3 _ _ _ _ ((rU x301000_2 ((rW l1 x26_2).f0)).f3) from ge56_3); have HP56 := Kd.R_putg ge56_3 (((rW l1 x26_2).f1) : Int) (rd l2 x26_2); rw [← Ny308.out] at HP56; have HS56 := hbk56 HP56.2 (fun k_ e_ => by injection e_ with e_; subst e_; exact ge56_3.1 _ rfl) (x' := (⟨(rU x301000_2 ((rW l1 x26_2).f0)).f0, (rU x301000_2 ((rW l1 x26_2).f0)).f1, (rU x301000_2 ((rW l1 x26_2).f0)).f2, y308, (rU x301000_2 ((rW l1 x26_2).f0)).f4⟩ : S28)) (k28_mkM _ _ _ (⟨(rU x301000_2 ((rW l1 x26_2).f0)).f0, (rU x301000_2 ((rW l1 x26_2).f0)).f1, (rU x301000_2 ((rW l1 x26_2).f0)).f2, y308, (rU x301000_2 ((rW l1 x26_2).f0)).f4⟩ : S28) HP56.1 (Kd.R_over' (v := (.slice (some ⟨go53, 0, none⟩) ((rU x301000_2 ((rW l1 x26_2).f0)).f3).length c306_3)) ge56_4 (Kd.R_typed ge56_3) (by decide) HP56.2))
          rw [← Ny310.out] at HS56; have HQ56 := kA HS56; clear HP56 HS56 hbk56 hok56; refine start_ (n := 15) (S := fun w' => w'.cell? ⟨gb300, 0, none⟩ = some (.slice (some ad306) x301000_2.length co55) ∧ w'.cell? ⟨gb302, 0, none⟩ = some (.int .i64 ((rW l1 x26_2).f0)) ∧ w'.cell? ⟨gb302, 1, none⟩ = some (.int .i64 ((rW l1 x26_2).f1)) ∧ w'.cell? ⟨gb302, 2, none⟩ = some (.int .i64 ((rW l1 x26_2).f2)) ∧ w'.cell? ⟨gb302, 3, none⟩ = some (.int .i64 ((rW l1 x26_2).f3)) ∧ w'.cell? ⟨gb302, 4, none⟩ = some (.int .i64 ((rW l1 x26_2).f4)) ∧ w'.cell? ⟨gb302, 5, none⟩ = some (.slice A301_5 ((rW l1 x26_2).f5).length c301_5) ∧ w'.cell? (ad306.add ((((rW l1 x26_2).f0)).toNat * 5)) = some (.int .i64 ((rU x301000_2 ((rW l1 x26_2).f0)).f0)) ∧ w'.cell? ⟨(ad306.add ((((rW l1 x26_2).f0)).toNat * 5)).block, (ad306.add ((((rW l1 x26_2).f0)).toNat * 5)).off + 1, none⟩ = some (.int .i64 ((rU x301000_2 ((rW l1 x26_2).f0)).f1)) ∧ w'.cell? ⟨(ad306.add ((((rW l1 x26_2).f0)).toNat * 5)).block, (ad306.add ((((rW l1 x26_2).f0)).toNat * 5)).off + 2, none⟩ = some (.int .i64 ((rU x301000_2 ((rW l1 x26_2).f0)).f2)) ∧ w'.cell? ⟨(ad306.add ((((rW l1 x26_2).f0)).toNat * 5)).block, (ad306.add ((((rW l1 x26_2).f0)).toNat * 5)).off + 3, none⟩ = some (.slice (some ⟨go53, 0, none⟩) ((rU x301000_2 ((rW l1 x26_2).f0)).f3).length c306_3) ∧ w'.cell? ⟨(ad306.add ((((rW l1 x26_2).f0)).toNat * 5)).block, (ad306.add ((((rW l1 x26_2).f0)).toNat * 5)).off + 4, none⟩ = some (.slice A306_4 ((rU x301000_2 ((rW l1 x26_2).f0)).f4).length c306_4) ∧ w'.cell? (ad307.add (x26_2).toNat) = some (.int .i64 (rd l2 x26_2))) (ds := [14]) B24_0 (by kernel_rfl) rfl rfl ⟨cZ0 BK300, cZ0 BK302, cZ1 BK302, cZ2 BK302, cZ3 BK302, cZ4 BK302, cZ5 BK302, hx306_0, hx306_1, hx306_2, hx306_3, hx306_4, (xC HB hw307_0)⟩ (fun hHeld => ?_); refine with_tabW file_Done.tab9 file_Done.bits9 (fun HT_ HW_ => ?_); generalize wc.drew = w54 at HO_301000 BK294 BK295 BK300 BK302 HB GG53 HL306_3 HL306_4 HQ56 HR306_3 HR306_4 HX306_3 HX306_4 hf53_0 hx306_0 hx306_1 hx306_2 hx306_3 hx306_4 hx307_0 hx53_0 hHeld ⊢; refine pure_ (i := 0) (N := some 61) (v := ?_) (a' := ?_) B24_1 rfl rfl (any_of HT_.out (by kernel_rfl)) (fun _ _ _ h => h) (Or.inl ⟨by rfl, ?_⟩) ?_ ?_; rotate_left
          ·
           intro w'; go_simp; with_reducible rfl
          rotate_left
          ·
           simp only [Act.put, lT, l0_, lS, i64_w, i32_w]; rfl
          refine pE 2 63 B24_2 HT_ ?_
          refine pE 7 68 B24_3 HT_ ?_
          refine pE 9 70 B24_4 HT_ ?_
          refine pE 10 71 B24_5 HT_ ?_
          refine pE 11 72 B24_6 HT_ ?_
          refine tE 1 62 B24_7 HT_ HW_ hHeld ?_
          refine tE 3 64 B24_8 HT_ HW_ hHeld ?_
          refine pE 4 65 B24_9 HT_ ?_
          refine pE 5 66 B24_10 HT_ ?_
          refine tE 6 67 B24_11 HT_ HW_ hHeld ?_
          refine tE 8 69 B24_12 HT_ HW_ hHeld ?_
          refine tE 12 73 B24_13 HT_ HW_ hHeld ?_
          refine pE 13 74 B24_14 HT_ ?_
          refine last_ (i := 14) (N := none) B24_15 rfl rfl (one_of HT_.out (by kernel_rfl)) (by decide) (fun K hK => ?_); refine skip_ (w1 := ?_) (by rfl) rfl ?_ ?_; rotate_left
          ·
           go_simp; rfl
          refine hK.out _ _ ?_; clear hK K; refine done_ (done_of HT_.out (by kernel_rfl)) ?_
          try go_wp2
          go_roundg kj24
          case measure => have := HJ3.out; have := HK2.out; have := HJ24.out; omega
          case rel => exact ⟨(wrap64 (x26_2 + 1)), (y310), (.slice (some ad306) x301000_2.length co55), sI, H', ⟨by have := HJ3.out; have := HK2.out; have := HJ24.out; omega⟩, ⟨mS HQ56⟩, ⟨by (with_reducible repeat (first | refine bN ?_ _ | refine bD ?_ | refine bA ?_ _)); refine bF ?_ (by have h_ := Kd.R_ne HL306_3.out BK294.out (by decide); intro e_; exact h_ (by rw [e_]; rfl)) _; (with_reducible repeat (first | refine bN ?_ _ | refine bD ?_ | refine bA ?_ _)); exact BK294.out⟩, ⟨by (with_reducible repeat (first | refine bN ?_ _ | refine bD ?_ | refine bA ?_ _)); refine bF ?_ (by have h_ := Kd.R_ne HL306_3.out BK295.out (by decide); intro e_; exact h_ (by rw [e_]; rfl)) _; (with_reducible repeat (first | refine bN ?_ _ | refine bD ?_ | refine bA ?_ _)); exact BK295.out⟩, ⟨by (with_reducible repeat (first | refine bN ?_ _ | refine bD ?_ | refine bA ?_ _)); refine bF ?_ (by have h_ := Kd.R_ne HL306_3.out BK300.out (by decide); intro e_; exact h_ (by rw [e_]; rfl)) _; (with_reducible repeat (first | refine bN ?_ _ | refine bD ?_ | refine bA ?_ _)); exact BK300.out⟩, ⟨mH HB⟩⟩
      ·
       rw [if_neg c22] at H; have c22b0 := qF c22; clear c22; replace H := qB H; obtain ⟨t311, A580, H⟩ := H; have A58 := kA A580; clear A580
       by_cases c59 : t311 = true
       ·
        subst c59
        have H1 : (some (x301000_2, 0)) = some (r1, r2) := by rw [if_pos rfl] at H; exact H
        clear H; have H := H1; clear H1; simp only [Option.some.injEq, Prod.mk.injEq] at H; obtain ⟨rfl, rfl⟩ := H; have hnb60 := NB300_294.out; have hnc60 := NB294_300.out; have hnb61 := NB300_295.out; have hnc61 := NB295_300.out; obtain ⟨hcz62_0, hfz62_0⟩ := cY0 BK300; obtain ⟨Ao63, co63, eo63⟩ := Kd.S_slice HO_301000.out; subst eo63
        go_wp2_with (first | ((with_reducible refine gate_callee (f := 55) rfl ?_); refine goesK (some 77) Try.func55 #[.agg #[.slice Ao63 x301000_2.length co63]] ?_; (with_reducible refine (dir_May.calls k2 _ _ x301000_2 true _ ?side1 ?side2 A58.out).mono ?_); (case side1 => repeat (first | exact (Kd.S_reads' HO_301000.out).2.2 | (with_reducible refine Kd.C_alloc ?_ _) | (with_reducible refine Kd.C_drewN ?_ _) | (with_reducible refine Kd.C_drew ?_))); (case side2 => exact (Kd.S_reads' HO_301000.out).2.1); rintro e w64 ⟨rfl, hb⟩; refine ⟨_, rfl, ?_⟩; replace HO_301000 := kS HO_301000 hb; replace BK294 := kB BK294 hb; replace BK295 := kB BK295 hb; replace BK300 := kB BK300 hb; replace HB := kH HB hb; (try clear hb); (try clear hk); obtain ⟨hcz65_0, hfz65_0⟩ := cY0 BK300; have hnb66 := NB295_294.out; have hnc66 := NB294_295.out; obtain ⟨hcz67_0, hfz67_0⟩ := cY0 BK295))
        refine bodyPost_ret (results_ct rfl _ _ gb295 24 #[.slice Ao63 x301000_2.length co63] (0, 0) _ rfl (pP BK295) Try.underlying24 rfl (by kernel_rfl)) rfl ?_
        exact ⟨_, rT, fS ⟨Kd.S_types HO_301000.out BK295.out (by decide)⟩, mH HB⟩
       ·
        replace c59 := Bool.eq_false_iff.mpr c59; subst c59
        have H1 : (none) = some (r1, r2) := by rw [if_neg (show ¬ (false = true) by decide)] at H; exact H
        clear H; have H := H1; clear H1; exact absurd H (by simp)
abbrev B25_0 : Array Bool := #[false, false, false, false, false]
abbrev B25_1 := B25_0.set! 0 true
abbrev B25_2 := B25_1.set! 1 true
abbrev B25_3 := B25_2.set! 2 true
abbrev B25_4 := B25_3.set! 3 true
abbrev B25_5 : Array Bool := #[true, true, true, true, true]
def mkKeep (old : List Int) (keep : Int) : Nat := (mn (mx keep 0) (old.length : Int)).toNat
def mkBase (old : List Int) (keep : Int) : List Int := (old.take (mkKeep old keep) ++ List.replicate 16 0).take 16
def mkIdx (frm : Int) (data : List Int) (i : Nat) : Int := wrap64 ((i : Int) - mx frm (-(data.length : Int)))
def mkAt (old : List Int) (keep frm : Int) (data : List Int) : Nat → List Int
 | 0 => mkBase old keep
 | i + 1 => if 0 ≤ mkIdx frm data i ∧ mkIdx frm data i < data.length then (mkAt old keep frm data i).set i (rd data (mkIdx frm data i)) else mkAt old keep frm data i
abbrev mkV (x : Int) : Value := .int .u8 x
theorem mkBase_len (old : List Int) (keep : Int) : (mkBase old keep).length = 16 := by
 unfold mkBase; rw [List.length_take, List.length_append, List.length_replicate]; omega
theorem mkAt_len (old : List Int) (keep frm : Int) (data : List Int) : ∀ i, (mkAt old keep frm data i).length = 16
 | 0 => mkBase_len old keep
 | i + 1 => by
  simp only [mkAt]
  split
  ·
   rw [List.length_set]; exact mkAt_len old keep frm data i
  ·
   exact mkAt_len old keep frm data i
theorem mk_splice (old : List Int) (n : Nat) (h : n ≤ old.length) : splice ((List.replicate 16 (0 : Int)).map mkV) 0 (((old.take n).take 16).map mkV) = ((old.take n ++ List.replicate 16 0).take 16).map mkV := by
 unfold splice
 rw [List.take_zero, List.nil_append, Nat.zero_add, List.length_map, ← List.map_drop, ← List.map_append]
 congr 1
 rw [List.take_append, List.length_take, List.drop_replicate, List.take_replicate, List.length_take]
 congr 2
 omega
theorem mk_info5 : (Try.prog.info? 5).map (fun ti => (ti.zero, ti.size, ti.bytes)) = some (some (Value.int IntKind.u8 0), 1, 1) := by kernel_rfl
theorem mk_made : madeCells (Value.int .u8 0).cells (Int.toNat 16 * 1) = ((List.replicate 16 (0 : Int)).map mkV).toArray := by kernel_rfl
theorem mk_put {w : World} {g i : Nat} {L : List Int} {x : Int} (h : w.heap[g]? = some (.cells (L.map mkV).toArray 5 (0, 0))) : (w.setCell ⟨g, i, none⟩ (mkV x)).heap[g]? = some (.cells ((L.set i x).map mkV).toArray 5 (0, 0)) :=
 blk_put h i _ (by rw [lT, List.map_set])
theorem mk_cell {w : World} {g i : Nat} {L : List Int} (h : w.heap[g]? = some (.cells (L.map mkV).toArray 5 (0, 0))) (hi : i < L.length) : w.cell? ⟨g, i, none⟩ = some (mkV (L.getD i 0)) := by
 rw [bC h i, List.getElem?_toArray, List.getElem?_map, qG, List.getElem?_eq_getElem hi]; rfl
set_option maxHeartbeats 8000000 in
set_option maxRecDepth 100000 in
theorem make_walk (A : Option Addr) (c : Nat) (old : List Int) (a0 a1 a2 keep frm : Int) (A5 : Option Addr) (c5 : Nat) (data : List Int) (w : World) (hr : Kd.C (Kd.int .u8) w A old.length old) (hc : old.length ≤ c) (hr5 : Kd.C (Kd.int .u8) w A5 data.length data) (hc5 : data.length ≤ c5) :
 Calls Try.prog 37 #[.slice A old.length c, .agg #[.int .i64 a0, .int .i64 a1, .int .i64 a2, .int .i64 keep, .int .i64 frm, .slice A5 data.length c5]] w fun e w' => ∃ v0_ : Value, e = .returned (v0_) ∧ Kd.R (Kd.int .u8) 5 w' w.heap.size (fun _ => True) v0_ (mkAt old keep frm data 16) ∧ Below w.heap.size w w' := by
 have hu50 := Try.underlying50; have hu60 := Try.underlying60; have hu5 := Try.underlying5; have HB := kA (Below.refl w.heap.size w); have HR := kA hr; have HC := kA hc; have HR5 := kA hr5; have HC5 := kA hc5; have HM := kA (Kd.C_max hr); have HM5 := kA (Kd.C_max hr5); clear hr hc hr5 hc5
 obtain ⟨ti, hti, htz⟩ : ∃ ti, Try.prog.info? 5 = some ti ∧ (ti.zero, ti.size, ti.bytes) = (some (Value.int IntKind.u8 0), 1, 1) := by
  have h := mk_info5
  cases hq : Try.prog.info? 5 with
  | none => rw [hq] at h; cases h
  | some ti => rw [hq] at h; exact ⟨ti, rfl, qI h⟩
 simp only [Prod.mk.injEq] at htz; obtain ⟨Z, hZ⟩ : ∃ Z : Array Value, Z = ((List.replicate 16 (0 : Int)).map mkV).toArray := ⟨_, rfl⟩
 have hmk : ∀ W : World, (Instr.makeSlice 50 (.int .i64 16) (.int .i64 16)).run Try.prog W = .ok (.slice (some ⟨W.heap.size, 0, none⟩) 16 16) (W.alloc (.cells Z 5)) := fun W => by
  have := run_make W 50 5 ti (.int .u8 0) Try.underlying50 hti htz.1 .i64 .i64 16 16 (by decide) (by decide) (by rw [htz.2.2]; decide) (by decide)
  rw [htz.2.1] at this; exact this.trans (by rw [mk_made, hZ]; rfl)
 clear hti htz; have HZ := kA hZ; clear hZ
 go_enter Try.func37, Try.ntmps37
 go_upto_region 2 with ((with_reducible refine gate_dst (N := 3) rfl ?_); (try (refine gate_guard (by rfl) ?_; dsimp only)); refine bxE 60 (cs := #[.int .i64 a0, .int .i64 a1, .int .i64 a2, .int .i64 keep, .int .i64 frm, .slice A5 data.length c5]) ?_; intro bd hg_ w1 hbox hb; have GD := kA (show w.heap.size ≤ bd from by rw [hg_]; exact HB.out.size); have BD := kA hbox; have m_ := kA (below_step HB.out hb); clear HB; have HB := m_; clear m_; clear hg_ hbox hb)
 clear hmk; have n0_ := kA (show (w1.alloc (.cells Z 5)).heap[w1.heap.size]? = some (.cells Z 5 (0, 0)) from by show (w1.heap.push _)[w1.heap.size]? = _; simp)
 have n1_ := kA (bA BD.out (.cells Z 5)); have n2_ := kA (wA HB.out (.cells Z 5)); have GG := kA HB.out.size; have NDG := kA (blk_lt BD.out); clear BD HB; generalize w1.heap.size = g at GG n0_ NDG ⊢; generalize w1.alloc (.cells Z 5) = w2 at n0_ n1_ n2_ ⊢; rw [HZ.out] at n0_; have HG := n0_; have BD := n1_; have HB := n2_; clear n0_ n1_ n2_; have hd3 := cZ3 BD
 have hn0 : 0 ≤ mn (mx keep 0) (old.length : Int) := by unfold mn mx; split <;> split <;> omega
 have hn1 : mn (mx keep 0) (old.length : Int) ≤ (old.length : Int) := by unfold mn; split <;> omega
 have HN := kA (show mkKeep old keep = (mn (mx keep 0) (old.length : Int)).toNat from rfl); obtain ⟨n, hn⟩ : ∃ n : Nat, mn (mx keep 0) (old.length : Int) = (n : Int) := ⟨_, (Int.toNat_of_nonneg hn0).symm⟩; have HN2 := kA (show mkKeep old keep = n from by rw [HN.out, hn, Int.toNat_natCast]); have HN1 := kA (show n ≤ old.length from by omega); have hm1 : (if keep < 0 then (0 : Int) else keep) = mx keep 0 := rfl; have hm2 : (if (old.length : Int) < mx keep 0 then (old.length : Int) else mx keep 0) = (n : Int) := hn; have e0 : (0 ≤ (n : Int)) = True := eq_true (by omega); have e1 : decide ((n : Int) ≤ (old.length : Int)) = true := qT (by omega); have e2 : ((n : Int) ≤ (old.length : Int)) = True := eq_true (by omega); have e3 : n ≤ old.length := HN1.out; have e4 : n ≤ c := Nat.le_trans HN1.out HC.out; clear hn0 hn1 HN hn
 have hlen : (((old.take n).take 16).map mkV).length = Nat.min n 16 := by rw [List.length_map, List.length_take, List.length_take]; have := HN1.out; show min 16 (min n old.length) = min n 16; omega
 have hsrc : 0 < (((old.take n).take 16).map mkV).length → (some (⟨g, 0, none⟩ : Addr)) = some ⟨g, 0, none⟩ ∧ ∃ ad, A = some ad ∧ ∀ j v, (((old.take n).take 16).map mkV)[j]? = some v → w2.cell? (ad.add j) = some v := by
  intro hp; rw [hlen] at hp
  have hp' : 0 < n := by have : Nat.min n 16 ≤ n := Nat.min_le_left _ _; omega
  obtain ⟨ad, e0, -⟩ := Kd.at_int HR.out 0 (by omega) (oK HN1)
  refine ⟨rfl, ad, e0, fun j v hj => ?_⟩; rw [List.getElem?_map] at hj; obtain ⟨x, hx, rfl⟩ := Option.map_eq_some_iff.1 hj; have hjl := (List.getElem?_eq_some_iff.1 hx).1; rw [List.length_take, List.length_take] at hjl; obtain ⟨ad', e1, hc1⟩ := Kd.at_int HR.out (j : Int) (by omega) (by omega); rw [e0] at e1
  cases e1
  rw [mt_rd, Int.toNat_natCast] at hc1
  have hx2 : old.getD j 0 = x := by
   rw [List.getElem?_take, if_pos (by omega), List.getElem?_take, if_pos (by omega)] at hx; rw [qG, hx]; rfl
  rw [hx2] at hc1; exact xC HB hc1
 have HLEN := kA hlen; have HSRC := kA hsrc; clear hlen hsrc
 go_wp2_with ((with_reducible refine gate_builtin (b := .copy) (xs := #[.tmp 9, .tmp 17]) rfl ?_); go_loud (refine wpList_copy_splice rfl _ _ 50 50 rfl 5 Try.underlying50 (by rfl) (some ⟨g, 0, none⟩) A 16 16 n c rfl rfl g 0 ((List.replicate 16 (0 : Int)).map mkV) 5 HG.out (((old.take n).take 16).map mkV) HLEN.out HSRC.out ?fit ?one g w2 (Below.refl g w2) (Nat.le_refl _) ?_); (case fit => rw [HLEN.out, List.length_map, List.length_replicate]; have : Nat.min n 16 ≤ 16 := Nat.min_le_right _ _; omega); (case one => intro v hv; obtain ⟨x, _, rfl⟩ := List.mem_map.1 hv; rfl); intro w3 hg3 hb3)
 replace HG := kA (show w3.heap[g]? = some (.cells ((mkAt old keep frm data 0).map mkV).toArray 5 (0, 0)) from by
  have h : w3.heap[g]? = some (.cells (splice ((List.replicate 16 (0 : Int)).map mkV) 0 (((old.take n).take 16).map mkV)).toArray 5 (0, 0)) := hg3; rw [mk_splice old n HN1.out] at h
  show w3.heap[g]? = some (.cells ((mkBase old keep).map mkV).toArray 5 (0, 0))
  unfold mkBase; rw [HN2.out]; exact h); replace BD := kA ((hb3.block bd NDG.out).trans BD.out); replace HB := kA (HB.out.trans (hb3.mono GG.out)); clear hg3 hb3 hm1 hm2 e0 e1 e2 e3 e4 hd3 HLEN HSRC
 go_loopg [21] 16 (fun gk v21 w' => ∃ i : Nat, v21 = .int .i64 i ∧ i ≤ 16 ∧ 16 - i ≤ gk ∧ Aside0 (w'.heap[g]? = some (.cells ((mkAt old keep frm data i).map mkV).toArray 5 (0, 0))) ∧ Aside0 (w'.heap[bd]? = some (.cells #[.int .i64 a0, .int .i64 a1, .int .i64 a2, .int .i64 keep, .int .i64 frm, .slice A5 data.length c5] 60 (0, 0))) ∧ Aside0 (Below w.heap.size w w'))
 case atStart => exact ⟨0, rfl, by omega, by omega, HG, BD, HB⟩
 case round =>
  clear HG BD HB; obtain ⟨i, rfl, hi, hig, HG, BD, HB⟩ := hrel
  by_cases hlt : i < 16
  case neg =>
   have : i = 16 := by omega
   subst this; clear hlt
   go_wp2
   go_ret
   refine ⟨.slice (some ⟨g, 0, none⟩) 16 16, rfl, ?_, HB.out⟩; refine Kd.R_of_own (enc := Value.int .u8) (h1 := fun _ => rfl) ?_ (fun _ _ => trivial); have hl := mkAt_len old keep frm data 16; refine ⟨by rw [encs_length, Nat.mul_one], Or.inr ⟨g, 16, ((mkAt old keep frm data 16).map mkV).toArray, by rw [hl], GG.out, HG.out, by omega, by decide, by simp [hl], ?_⟩⟩; rw [Nat.mul_one, hl]; exact List.take_of_length_le (by rw [List.length_map, hl]; exact Nat.le_refl _)
  case pos =>
   have cd1 : decide ((i : Int) < 16) = true := qT (by omega); have cd2 : decide (i < 16) = true := qT (by omega); have hd4 := cZ4 BD; have hd5 := cZ5 BD; have HLT := kA hlt; clear hlt; have hm1 : (if frm < -(data.length : Int) then -(data.length : Int) else frm) = mx frm (-(data.length : Int)) := rfl
   go_upto_region 7 with (fail)
   generalize ho : (if frm < wrap64 (-(data.length : Int)) then wrap64 (-(data.length : Int)) else frm) = oo; generalize hk : wrap64 ((i : Int) - oo) = kk
   have hk2 : mkIdx frm data i = kk := by
    rw [← hk, ← ho]; unfold mkIdx mx
    rw [show wrap64 (-(data.length : Int)) = -(data.length : Int) from by have := HM5.out; unfold wrap64; omega]
   have HK := kA hk2; clear hk hk2 ho hm1 hd4
   by_cases c1 : 0 ≤ kk
   case neg =>
    have d1 := qF c1; replace HG := kA (show wr.heap[g]? = some (.cells ((mkAt old keep frm data (i + 1)).map mkV).toArray 5 (0, 0)) from by simp only [mkAt]; rw [if_neg (fun h => c1 (HK.out ▸ h.1))]; exact HG.out); clear c1
    go_wp2
    go_roundg (16 - (i + 1))
    case measure => have := HLT.out; omega
    case rel => exact ⟨i + 1, by first | rfl | (push_cast; rfl) | exact mt_succ i (oK HLT), HLT.out, Nat.le_refl _, HG, BD, HB⟩
   case pos =>
    have d1 := qT c1
    by_cases c2 : kk < (data.length : Int)
    case neg =>
     have d2 := qF c2; replace HG := kA (show wr.heap[g]? = some (.cells ((mkAt old keep frm data (i + 1)).map mkV).toArray 5 (0, 0)) from by simp only [mkAt]; rw [if_neg (fun h => c2 (HK.out ▸ h.2))]; exact HG.out); clear c1 c2
     go_wp2
     go_roundg (16 - (i + 1))
     case measure => have := HLT.out; omega
     case rel => exact ⟨i + 1, by first | rfl | (push_cast; rfl) | exact mt_succ i (oK HLT), HLT.out, Nat.le_refl _, HG, BD, HB⟩
    case pos =>
     have d2 := qT c2; obtain ⟨ad5, e5, hy0⟩ := Kd.at_int HR5.out kk c1 c2; subst e5; replace hy0 := xC HB hy0; have hz0 : wr.cell? ⟨g, i, none⟩ = some (mkV ((mkAt old keep frm data i).getD i 0)) := mk_cell HG.out (by rw [mkAt_len]; exact HLT.out)
     have hf0 := bZ HG.out i; have hst := kA (show mkAt old keep frm data (i + 1) = (mkAt old keep frm data i).set i (rd data kk) from by simp only [mkAt]; rw [HK.out, if_pos ⟨c1, c2⟩])
     have p1 : (0 ≤ kk) = True := eq_true c1; have q1 : (kk < (data.length : Int)) = True := eq_true c2; have p2 : (0 ≤ (i : Int)) = True := eq_true (by omega); have q2 : ((i : Int) < 16) = True := eq_true (oK HLT)
     clear c1 c2
     go_upto_region 9 with (fail)
     have n0_ := kA (mk_put (i := i) (x := rd data kk) HG.out); rw [← hst.out] at n0_; have n1_ := kA (bF (p := ⟨g, i, none⟩) BD.out (Nat.ne_of_lt NDG.out) (mkV (rd data kk))); have n2_ := kA (wS (j := i) HB.out GG.out (v := mkV (rd data kk))); clear HG BD HB hz0 hf0 hy0 hst p1 q1 p2 q2; generalize wr.setCell ⟨g, i, none⟩ (mkV (rd data kk)) = w4 at n0_ n1_ n2_ ⊢; have HG := n0_; have BD := n1_; have HB := n2_; clear n0_ n1_ n2_
     go_wp2
     go_roundg (16 - (i + 1))
     case measure => have := HLT.out; omega
     case rel => exact ⟨i + 1, by first | rfl | (push_cast; rfl) | exact mt_succ i (oK HLT), HLT.out, Nat.le_refl _, HG, BD, HB⟩
def file_Make.f (l0 : List Int) (a1_0 : Int) (a1_1 : Int) (a1_2 : Int) (a1_3 : Int) (a1_4 : Int) (l1_5 : List Int) : Option (List Int) := some (mkAt l0 a1_3 a1_4 l1_5 16)
theorem file_Make.calls (A0 : Option Addr) (c0 : Nat) (l0 : List Int) (a1_0 : Int) (a1_1 : Int) (a1_2 : Int) (a1_3 : Int) (a1_4 : Int) (A1_5 : Option Addr) (c1_5 : Nat) (l1_5 : List Int) (r : List Int) (w : World) (hr0 : Kd.C (Kd.int .u8) w A0 l0.length l0) (hc0 : l0.length ≤ c0) (hr1_5 : Kd.C (Kd.int .u8) w A1_5 l1_5.length l1_5) (hc1_5 : l1_5.length ≤ c1_5) (h : file_Make.f l0 a1_0 a1_1 a1_2 a1_3 a1_4 l1_5 = some r) :
 Calls Try.prog 37 #[.slice A0 l0.length c0, .agg #[.int .i64 a1_0, .int .i64 a1_1, .int .i64 a1_2, .int .i64 a1_3, .int .i64 a1_4, .slice A1_5 l1_5.length c1_5]] w fun e w' => ∃ v0_ : Value, e = .returned (v0_) ∧ Kd.R (Kd.int .u8) 5 w' w.heap.size (fun _ => True) v0_ r ∧ Below w.heap.size w w' := by
 unfold file_Make.f at h
 obtain rfl := qI h; exact make_walk A0 c0 l0 a1_0 a1_1 a1_2 a1_3 a1_4 A1_5 c1_5 l1_5 w hr0 hc0 hr1_5 hc1_5
def potsherdref12_EmptyNode.f (a0 : Int) : Option (Int × Int × Int × List Int × (List (S78))) := if a0 = 1 then (if 5 ≤ 35184372088832 then (some (a0, 1, 0, (List.replicate 5 0), ([] : List (S78)))) else (none)) else (if a0 = 2 then (some (a0, 1, 0, ([] : List Int), ([] : List (S78)))) else (none))
set_option maxHeartbeats 8000000 in
set_option maxRecDepth 100000 in
theorem potsherdref12_EmptyNode.calls (a0 : Int) (r1 : Int) (r2 : Int) (r3 : Int) (r4 : List Int) (r5 : List (S78)) (w : World) (h : potsherdref12_EmptyNode.f a0 = some (r1, r2, r3, r4, r5)) :
 Calls Try.prog 53 #[.int .i64 a0] w fun e w' => ∃ v3_ v4_ : Value, e = .returned (.agg #[.int .i64 r1, .int .i64 r2, .int .i64 r3, v3_, v4_]) ∧ Kd.R (Kd.int .i64) 3 w' w.heap.size (fun _ => True) v3_ r4 ∧ Kd.R k78 78 w' w.heap.size (fun _ => True) v4_ r5 ∧ Below w.heap.size w w' := by
 have hu28 := Try.underlying28; have HB := kA (Below.refl w.heap.size w); have H : (if a0 = 1 then (if 5 ≤ 35184372088832 then (some (a0, 1, 0, (List.replicate 5 0), ([] : List (S78)))) else (none)) else (if a0 = 2 then (some (a0, 1, 0, ([] : List Int), ([] : List (S78)))) else (none))) = some (r1, r2, r3, r4, r5) := h; clear h
 by_cases c2 : a0 = 1
 ·
  rw [if_pos c2] at H; obtain ⟨c2b0, c2b1⟩ := eP c2; clear c2
  replace H := nP H; obtain ⟨c3, H⟩ := H; have c3b0 := eq_true c3; have c3b1 := qT c3; clear c3; obtain ⟨y313, hy313⟩ : ∃ y_ : List Int, y_ = (List.replicate 5 0) := ⟨_, rfl⟩
  replace H : (some (a0, 1, 0, y313, ([] : List (S78)))) = some (r1, r2, r3, r4, r5) := rH H hy313
  have Ny313 := kA hy313; clear hy313; simp only [Option.some.injEq, Prod.mk.injEq] at H; obtain ⟨rfl, rfl, rfl, rfl, rfl⟩ := H
  go_enter Try.func53, Try.ntmps53
  go_wp2_with (first | ((with_reducible refine gate_dst (N := 2) rfl ?_); refine bxE 28 (cs := #[.int .i64 0, .int .i64 0, .int .i64 0, .slice none 0 0, .slice none 0 0]) ?_; intro gb312 hg w4 hbox hb; have BK312 := kA hbox; have GW312 := kG HB hg; have GE312 := kG HB hg; replace HB := kH HB hb; clear hb hbox hg) | ((with_reducible refine gate_dst (N := 7) rfl ?_); refine Kd.R_make (Kd.int .i64) _ 3 rfl (N := 7) rfl 25 _ _ rfl 5 rfl rfl Try.underlying25 (.int .i64 0) 8 info3 rfl (by decide) (by omega) 0 (ok := fun _ => True) (okp := fun _ => True) rfl (fun _ hk => hk) trivial (by omega) (by omega) (Below.refl _ _) (Nat.le_refl _) ?_; intro v314 w5 ho6 hb hg_ hnew_; clear hg_ hnew_; (first | rw [← Ny313.out] at ho6 | (simp only [Int.reduceToNat] at ho6; rw [← Ny313.out] at ho6)); have HO315 := kA (Kd.R_lower ho6 (below_size (mH HB))); replace BK312 := kB BK312 hb; replace HB := kH HB hb; clear hb ho6; obtain ⟨Ao7, co7, eo7⟩ := Kd.R_slice HO315.out; subst eo7; obtain ⟨hcz8_0, hfz8_0⟩ := cY0 BK312; obtain ⟨hcz8_1, hfz8_1⟩ := cY1 BK312; obtain ⟨hcz8_2, hfz8_2⟩ := cY2 BK312; obtain ⟨hcz8_3, hfz8_3⟩ := cY3 BK312; obtain ⟨hcz8_4, hfz8_4⟩ := cY4 BK312))
  refine bodyPost_ret (results_cell_row rfl _ _ gb312 28 #[.int .i64 a0, .int .i64 1, .int .i64 0, .slice Ao7 y313.length co7, .slice none 0 0] (0, 0) _ rfl (pP BK312) Try.underlying28 rfl (by kernel_rfl)) rfl ?_
  exact ⟨_, _, rT, fR ⟨Kd.R_types HO315.out BK312.out (by decide)⟩, by first | exact Kd.R_nil _ _ _ _ _ | exact Kd.N_nil _ _ _ _ _ | exact Kd.V_nil _ _ _ _ _ | exact Kd.Q_nil _ _ _ _ _ | exact Kd.S_nil _ _ _ _ _, mH HB⟩
 ·
  rw [if_neg c2] at H; obtain ⟨c2b0, c2b1⟩ := eN c2
  replace H := nP H; obtain ⟨c9, H⟩ := H; obtain ⟨c9b0, c9b1⟩ := eP c9; clear c9; simp only [Option.some.injEq, Prod.mk.injEq] at H; obtain ⟨rfl, rfl, rfl, rfl, rfl⟩ := H
  go_enter Try.func53, Try.ntmps53
  go_wp2_with (first | ((with_reducible refine gate_dst (N := 2) rfl ?_); refine bxE 28 (cs := #[.int .i64 0, .int .i64 0, .int .i64 0, .slice none 0 0, .slice none 0 0]) ?_; intro gb312 hg w10 hbox hb; have BK312 := kA hbox; have GW312 := kG HB hg; have GE312 := kG HB hg; replace HB := kH HB hb; clear hb hbox hg; obtain ⟨hcz11_0, hfz11_0⟩ := cY0 BK312; obtain ⟨hcz11_1, hfz11_1⟩ := cY1 BK312; obtain ⟨hcz11_2, hfz11_2⟩ := cY2 BK312; obtain ⟨hcz11_3, hfz11_3⟩ := cY3 BK312; obtain ⟨hcz11_4, hfz11_4⟩ := cY4 BK312))
  refine bodyPost_ret (results_cell_row rfl _ _ gb312 28 #[.int .i64 a0, .int .i64 1, .int .i64 0, .slice none 0 0, .slice none 0 0] (0, 0) _ rfl (pP BK312) Try.underlying28 rfl (by kernel_rfl)) rfl ?_
  exact ⟨_, _, rT, by first | exact Kd.R_nil _ _ _ _ _ | exact Kd.N_nil _ _ _ _ _ | exact Kd.V_nil _ _ _ _ _ | exact Kd.Q_nil _ _ _ _ _ | exact Kd.S_nil _ _ _ _ _, by first | exact Kd.R_nil _ _ _ _ _ | exact Kd.N_nil _ _ _ _ _ | exact Kd.V_nil _ _ _ _ _ | exact Kd.Q_nil _ _ _ _ _ | exact Kd.S_nil _ _ _ _ _, mH HB⟩
def potsherdref12_First.f  : Option ((List (S28))) := if 12 ≤ 3909374676536 then ((some (List.replicate 12 z28 : List (S28))).bind fun y317 => ((potsherdref12_EmptyNode.f 2).bind fun bt321 => (if 0 < (y317.length : Int) then (some (y317.set (0 : Int).toNat (⟨bt321.1, bt321.2.1, bt321.2.2.1, bt321.2.2.2.1, bt321.2.2.2.2⟩ : S28))) else (none)))) else (none)
set_option maxHeartbeats 8000000 in
set_option maxRecDepth 100000 in
theorem potsherdref12_First.calls  (r : List (S28)) (w : World) (h : potsherdref12_First.f  = some r) :
 Calls Try.prog 31 #[] w fun e w' => ∃ v0_ : Value, e = .returned (.agg #[v0_]) ∧ Kd.N k28 28 w' w.heap.size (fun k_ => (w.heap.size ≤ k_)) v0_ r ∧ Below w.heap.size w w' := by
 have hu24 := Try.underlying24; have hu28 := Try.underlying28; have HB := kA (Below.refl w.heap.size w); have H : (if 12 ≤ 3909374676536 then ((some (List.replicate 12 z28 : List (S28))).bind fun y317 => ((potsherdref12_EmptyNode.f 2).bind fun bt321 => (if 0 < (y317.length : Int) then (some (y317.set (0 : Int).toNat (⟨bt321.1, bt321.2.1, bt321.2.2.1, bt321.2.2.2.1, bt321.2.2.2.2⟩ : S28))) else (none)))) else (none)) = some r := h; clear h
 replace H := nP H; obtain ⟨c1, H⟩ := H; have c1b0 := eq_true c1; have c1b1 := qT c1; clear c1; obtain ⟨y317, hy317⟩ : ∃ y_ : List (S28), y_ = (List.replicate 12 z28) := ⟨_, rfl⟩
 replace H : ((potsherdref12_EmptyNode.f 2).bind fun bt321 => (if 0 < (y317.length : Int) then (some (y317.set (0 : Int).toNat (⟨bt321.1, bt321.2.1, bt321.2.2.1, bt321.2.2.2.1, bt321.2.2.2.2⟩ : S28))) else (none))) = some r := rH H hy317
 have Ny317 := kA hy317; clear hy317; replace H := qB H; obtain ⟨⟨t321, t322, t323, t324, t327⟩, A20, H⟩ := H; replace H : (if 0 < (y317.length : Int) then (some (y317.set (0 : Int).toNat (⟨t321, t322, t323, t324, t327⟩ : S28))) else (none)) = some r := H; have A2 := kA A20; clear A20
 replace H := nP H; obtain ⟨c3, H⟩ := H; have c3b0 := qT c3; have c3b1 : decide (0 < y317.length) = true := qT (by omega); clear c3; obtain ⟨y330, hy330⟩ : ∃ y_ : List (S28), y_ = (y317.set (0 : Int).toNat (⟨t321, t322, t323, t324, t327⟩ : S28)) := ⟨_, rfl⟩
 replace H : (some y330) = some r := rH H hy330
 have Ny330 := kA hy330; clear hy330; obtain rfl := qI H
 go_enter Try.func31, Try.ntmps31
 try go_wp2_with (first | ((with_reducible refine gate_dst (N := 0) rfl ?_); refine bxE 24 (cs := #[.slice none 0 0]) ?_; intro gb316 hg w5 hbox hb; have BK316 := kA hbox; have GW316 := kG HB hg; have GE316 := kG HB hg; replace HB := kH HB hb; clear hb hbox hg) | ((with_reducible refine gate_dst (N := 2) rfl ?_); refine Kd.N_make k28 _ 28 rfl (N' := 2) rfl 22 _ _ rfl 12 rfl rfl Try.underlying22 (.agg #[(.int .i64 0), (.int .i64 0), (.int .i64 0), (.slice none 0 0), (.slice none 0 0)]) 72 info28 rfl (by decide) (by omega) z28 (ok := fun k_ => w5.heap.size ≤ k_) (okp := fun _ => False) (k28_mkF _ _ z28 (Nat.le_refl _) (Kd.F_nil _ _ _) (Nat.le_refl _) (Kd.F_nil _ _ _)) (fun _ hk => hk.elim) (Nat.le_refl _) (by omega) (by omega) (Below.refl _ _) (Nat.le_refl _) ?_; intro v318 w6 ho7 hb hg_ hnew_; clear hg_ hnew_; (first | rw [← Ny317.out] at ho7 | (simp only [Int.reduceToNat] at ho7; rw [← Ny317.out] at ho7)); have HO319 := kA (Kd.N_lower (Kd.N_mono (ok' := fun k_ => (w.heap.size ≤ k_) ∧ k_ ≠ gb316) ho7 (fun k_ hk_ => ⟨(Nat.le_trans (below_size (mH HB)) hk_), (Kd.freshB (g := gb316) (o := .cells #[.slice none 0 0] 24 (0, 0)) (mB BK316) k_ hk_)⟩)) (below_size (mH HB))); replace BK316 := kB BK316 hb; replace HB := kH HB hb; clear hb ho7; obtain ⟨Ao8, co8, eo8⟩ := Kd.N_slice HO319.out; subst eo8) | ((with_reducible refine gate_dst (N := 1) rfl ?_); refine bxE 24 (cs := #[.slice none 0 0]) ?_; intro gb320 hg w9 hbox hb; replace HO319 := kA (Kd.N_below (Kd.N_elderB (mN HO319) gb320 (Nat.le_of_eq hg.symm)) hb); have BK320 := kA hbox; have GW320 := kG HB hg; have GE320 := kG HB hg; replace HB := kH HB hb; have NB316_320 := kL BK316 hg; have NB320_316 := kQ BK316 hg; replace BK316 := kB BK316 hb; clear hb hbox hg; have hnb10 := NB320_316.out; have hnc10 := NB316_320.out; obtain ⟨hcz11_0, hfz11_0⟩ := cY0 BK320))
 obtain ⟨w12, hw_, n_⟩ : ∃ W_, w9.setCell ⟨gb320, 0, none⟩ (.slice Ao8 y317.length co8) = W_ ∧ Aside0 (Kd.N k28 28 W_ w.heap.size (fun k_ => (w.heap.size ≤ k_) ∧ k_ ≠ gb316 ∧ k_ ≠ gb320) (.slice Ao8 y317.length co8) y317) ∧ Aside0 (W_.heap[gb316]? = some (.cells #[.slice none 0 0] 24 (0, 0))) ∧ Aside0 (W_.heap[gb320]? = some (.cells #[.slice Ao8 y317.length co8] 24 (0, 0))) ∧ Aside0 (Below w.heap.size w W_) := ⟨_, rfl, ⟨fN HO319 (fun _ hk => ⟨hk.1.1, ⟨hk.1.2, hk.2⟩⟩)⟩, ⟨mF BK316⟩, ⟨pP BK320⟩, ⟨mH HB⟩⟩
 (try clear HO319); (try clear BK316); (try clear BK320); (try clear HB); rewrite [hw_]; clear hw_; obtain ⟨HO319, BK316, BK320, HB⟩ := n_; replace HO319 := kA (Kd.N_drew HO319.out); replace BK316 := kA (bD BK316.out); replace BK320 := kA (bD BK320.out); replace HB := kA (wD HB.out); refine start_ (n := 5) (S := fun w' => w'.cell? ⟨gb320, 0, none⟩ = some (.slice Ao8 y317.length co8)) (ds := [4]) B25_0 (by kernel_rfl) rfl rfl (cZ0 BK320) (fun hHeld => ?_); generalize w12.drew = w13 at HO319 BK316 BK320 HB hHeld ⊢; refine pureE 0 (some 4) B25_1 (by kernel_rfl) ?_
 refine takeE 1 (some 5) B25_2 (by kernel_rfl) hHeld ?_
 refine one_ (i := 2) (N := some 6) B25_3 rfl rfl (by kernel_rfl) (by decide) (fun K hK => ?_); refine goes_ Try.func53 (by kernel_rfl) rfl #[.int .i64 2] (by rfl) rfl rfl (by (try simp only [List.map_toArray, List.map_cons, List.map_nil]); first | done | rfl | (simp only [List.length_drop, List.length_take]; rfl)) ?_
 with_reducible refine (potsherdref12_EmptyNode.calls 2 t321 t322 t323 t324 t327 _ A2.out).mono ?_
 rintro e w14 ⟨v325, v328, rfl, ho0, ho1, hb⟩; refine ⟨_, rfl, ?_⟩; replace HO319 := kA (Kd.N_mono (Kd.N_told (Kd.N_told (Kd.N_old (mN HO319) hb) (Kd.R_base ho0)) (Kd.R_base ho1)) (fun _ h_ => h_.1)); have HO326 := kA (Kd.R_lower (Kd.R_newM (M := fun k_ => (w.heap.size ≤ k_)) ho0 (below_size (mH HB)) (fun k_ h_ => h_)) (below_size (mH HB))); have HO329 := kA (Kd.R_lower (Kd.R_newM (M := fun k_ => (w.heap.size ≤ k_)) ho1 (below_size (mH HB)) (fun k_ h_ => h_)) (below_size (mH HB))); replace BK316 := kB BK316 hb; replace BK320 := kB BK320 hb; replace HB := kH HB hb
 (try clear hb); (try clear hk); (try clear ho0); (try clear ho1)
 have p4 : 0 ≤ (0 : Int) := (by omega); have q4 : (0 : Int) < ((y317.length : Int) : Int) := dT; have qi4 : (0 < y317.length) = True := eq_true (by omega); obtain ⟨go4, co4, eo4, gb4, gl4, cl4, HG4⟩ := Kd.N_form HO319.out (by omega)
 (first | cases eo4 | (injection eo4 with ea_ en_ ec_; (first | subst ea_ | (injection ea_ with ea_; subst ea_)); subst ec_; clear en_))
 have GB4 := kA gb4; have GG4 := kA HG4; clear gb4 gl4 HG4; obtain ⟨ce4, hcl4, hM4, hcc4, hfr4⟩ := Kd.N_elem HO319.out z28 (0 : Int) p4 q4; obtain ⟨ua4_3, uc4_3, ua4_4, uc4_4, rfl, ul4_3, ge4_3, ul4_4, ge4_4⟩ := k28_openF hM4; have hx4_0 : World.cell? _ ⟨go4, (0 : Int).toNat * 5, none⟩ = some (.int .i64 ((rU y317 0).f0)) := hcc4 0 _ rfl; have hx4_1 : World.cell? _ ⟨go4, (0 : Int).toNat * 5 + 1, none⟩ = some (.int .i64 ((rU y317 0).f1)) := hcc4 1 _ rfl; have hx4_2 : World.cell? _ ⟨go4, (0 : Int).toNat * 5 + 2, none⟩ = some (.int .i64 ((rU y317 0).f2)) := hcc4 2 _ rfl; have hx4_3 : World.cell? _ ⟨go4, (0 : Int).toNat * 5 + 3, none⟩ = some (.slice ua4_3 ((rU y317 0).f3).length uc4_3) := hcc4 3 _ rfl; have hx4_4 : World.cell? _ ⟨go4, (0 : Int).toNat * 5 + 4, none⟩ = some (.slice ua4_4 ((rU y317 0).f4).length uc4_4) := hcc4 4 _ rfl; have hf4_0 : World.frozen? _ ⟨go4, (0 : Int).toNat * 5, none⟩ = false := hfr4 0; have hf4_1 : World.frozen? _ ⟨go4, (0 : Int).toNat * 5 + 1, none⟩ = false := hfr4 1; have hf4_2 : World.frozen? _ ⟨go4, (0 : Int).toNat * 5 + 2, none⟩ = false := hfr4 2; have hf4_3 : World.frozen? _ ⟨go4, (0 : Int).toNat * 5 + 3, none⟩ = false := hfr4 3; have hf4_4 : World.frozen? _ ⟨go4, (0 : Int).toNat * 5 + 4, none⟩ = false := hfr4 4; clear hcl4 hcc4 hfr4 hM4
 (try rw [show ((0 : Int)).toNat = 0 from rfl] at hx4_0)
 (try simp only [Nat.reduceMul, Nat.zero_mul, Nat.zero_add, Nat.reduceAdd] at hx4_0)
 (try rw [show ((0 : Int)).toNat = 0 from rfl] at hf4_0)
 (try simp only [Nat.reduceMul, Nat.zero_mul, Nat.zero_add, Nat.reduceAdd] at hf4_0)
 (try rw [show ((0 : Int)).toNat = 0 from rfl] at hx4_1)
 (try simp only [Nat.reduceMul, Nat.zero_mul, Nat.zero_add, Nat.reduceAdd] at hx4_1)
 (try rw [show ((0 : Int)).toNat = 0 from rfl] at hf4_1)
 (try simp only [Nat.reduceMul, Nat.zero_mul, Nat.zero_add, Nat.reduceAdd] at hf4_1)
 (try rw [show ((0 : Int)).toNat = 0 from rfl] at hx4_2)
 (try simp only [Nat.reduceMul, Nat.zero_mul, Nat.zero_add, Nat.reduceAdd] at hx4_2)
 (try rw [show ((0 : Int)).toNat = 0 from rfl] at hf4_2)
 (try simp only [Nat.reduceMul, Nat.zero_mul, Nat.zero_add, Nat.reduceAdd] at hf4_2)
 (try rw [show ((0 : Int)).toNat = 0 from rfl] at hx4_3)
 (try simp only [Nat.reduceMul, Nat.zero_mul, Nat.zero_add, Nat.reduceAdd] at hx4_3)
 (try rw [show ((0 : Int)).toNat = 0 from rfl] at hf4_3)
 (try simp only [Nat.reduceMul, Nat.zero_mul, Nat.zero_add, Nat.reduceAdd] at hf4_3)
 (try rw [show ((0 : Int)).toNat = 0 from rfl] at hx4_4)
 (try simp only [Nat.reduceMul, Nat.zero_mul, Nat.zero_add, Nat.reduceAdd] at hx4_4)
 (try rw [show ((0 : Int)).toNat = 0 from rfl] at hf4_4)
 (try simp only [Nat.reduceMul, Nat.zero_mul, Nat.zero_add, Nat.reduceAdd] at hf4_4)
 replace p4 := eq_true p4; replace q4 := eq_true q4; obtain ⟨Azv325, czv325, ezv325⟩ := Kd.R_slice HO326.out; subst ezv325; obtain ⟨Azv328, czv328, ezv328⟩ := Kd.R_slice HO329.out; subst ezv328; have HX15 := kA (show Kd.N k28 28 _ w.heap.size (fun k_ => (w.heap.size ≤ k_) ∧ some k_ ≠ ((Value.slice Azv325 t324.length czv325) : Value).ownBlock ∧ some k_ ≠ ((Value.slice Azv328 t327.length czv328) : Value).ownBlock ∧ k_ ≠ gb316 ∧ k_ ≠ gb320) (.slice (some ⟨go4, 0, none⟩) y317.length co8) y317 from (Kd.N_mono (HO319.out) (fun k_ hk => ⟨hk.1.1.1, ⟨hk.1.2, ⟨hk.2, ⟨hk.1.1.2.1, hk.1.1.2.2⟩⟩⟩⟩))); replace HX15 := kA (show Kd.N k28 28 _ w.heap.size (fun k_ => (w.heap.size ≤ k_) ∧ k_ ≠ gb316 ∧ k_ ≠ gb320) (.slice (some ⟨go4, 0, none⟩) y317.length co8) y317 from Kd.N_mono HX15.out (fun k_ hk => ⟨hk.1, ⟨hk.2.2.2.1, hk.2.2.2.2⟩⟩)); obtain ⟨ce15, hcl15, hM15, hcc15, hfr15⟩ := Kd.N_elem HX15.out z28 (0 : Int) (by omega) (by have h_ : (0 : Int) < ((y317.length : Int) : Int) := dT; first | exact h_ | (have e_ := (Kd.N_reads' HO319.out).1; omega) | simpa using h_)
 obtain ⟨ua15_3, uc15_3, ua15_4, uc15_4, rfl, ul15_3, ge15_3, ul15_4, ge15_4⟩ := k28_openF hM15; have HP15 := (Kd.N_seg HX15.out (0 : Int) (by omega) (by have h_ : (0 : Int) < ((y317.length : Int) : Int) := dT; first | exact h_ | (have e_ := (Kd.N_reads' HO319.out).1; omega) | simpa using h_) (seg := [.int .i64 t321, .int .i64 t322, .int .i64 t323, (Value.slice Azv325 t324.length czv325), (Value.slice Azv328 t327.length czv328)]) (j := 0) hcl15 hcc15 (show 5 ≤ 5 from by decide) (x' := (⟨t321, t322, t323, t324, t327⟩ : S28)) (k28_mkF _ _ (⟨t321, t322, t323, t324, t327⟩ : S28) (Kd.R_reads' (Kd.R_mono (ok' := (fun k_ => ((fun k_ => (w.heap.size ≤ k_) ∧ k_ ≠ gb316 ∧ k_ ≠ gb320)) k_ ∧ k_ ≠ go4)) (Kd.R_types (Kd.R_types (Kd.R_apart' (HO326.out) (Kd.N_typed HO319.out) (by decide)) BK316.out (by decide)) BK320.out (by decide)) (fun k_ hk => ⟨⟨hk.1.1.1.1, ⟨hk.1.2, hk.2⟩⟩, fun e_ => (hk.1.1.2) (by rw [e_]; rfl)⟩))).2.1 (Kd.R_F (Kd.R_mono (ok' := (fun k_ => ((fun k_ => (w.heap.size ≤ k_) ∧ k_ ≠ gb316 ∧ k_ ≠ gb320)) k_ ∧ k_ ≠ go4)) (Kd.R_types (Kd.R_types (Kd.R_apart' (HO326.out) (Kd.N_typed HO319.out) (by decide)) BK316.out (by decide)) BK320.out (by decide)) (fun k_ hk => ⟨⟨hk.1.1.1.1, ⟨hk.1.2, hk.2⟩⟩, fun e_ => (hk.1.1.2) (by rw [e_]; rfl)⟩))) (Kd.R_reads' (Kd.R_mono (ok' := (fun k_ => ((fun k_ => (w.heap.size ≤ k_) ∧ k_ ≠ gb316 ∧ k_ ≠ gb320)) k_ ∧ k_ ≠ go4)) (Kd.R_types (Kd.R_types (Kd.R_apart' (HO329.out) (Kd.N_typed HO319.out) (by decide)) BK316.out (by decide)) BK320.out (by decide)) (fun k_ hk => ⟨⟨hk.1.1.1.1, ⟨hk.1.2, hk.2⟩⟩, fun e_ => (hk.1.1.2) (by rw [e_]; rfl)⟩))).2.1 (Kd.R_F (Kd.R_mono (ok' := (fun k_ => ((fun k_ => (w.heap.size ≤ k_) ∧ k_ ≠ gb316 ∧ k_ ≠ gb320)) k_ ∧ k_ ≠ go4)) (Kd.R_types (Kd.R_types (Kd.R_apart' (HO329.out) (Kd.N_typed HO319.out) (by decide)) BK316.out (by decide)) BK320.out (by decide)) (fun k_ hk => ⟨⟨hk.1.1.1.1, ⟨hk.1.2, hk.2⟩⟩, fun e_ => (hk.1.1.2) (by rw [e_]; rfl)⟩)))) (fun _ hk => hk)).1
 rw [← Ny330.out] at HP15; have HQ15 := kA HP15; clear hcl15 hcc15 hfr15 hM15 HP15; refine hK.out _ _ (cZ0 BK320) (fun hHeld => ?_); clear hK K; refine norm_ (a' := ?_) ?_ ?_; rotate_left
 ·
  show Act.put _ (some 6) _ = _
  simp only [Act.put, lT, l0_, lS, i64_w, i32_w]; rfl
 refine pureE 3 (some 7) B25_4 (by kernel_rfl) ?_
 refine last_ (i := 4) (N := none) B25_5 rfl rfl (by kernel_rfl) (by decide) (fun K hK => ?_); refine skip_ (w1 := ?_) (by rfl) rfl ?_ ?_; rotate_left
 ·
  go_simp; rfl
 refine hK.out _ _ ?_; clear hK K; refine done_ (by kernel_rfl) ?_
 obtain ⟨w16, hw_, n_⟩ : ∃ W_, ((((w14.setCell ⟨go4, 0, none⟩ (.int .i64 t321)).setCell ⟨go4, 1, none⟩ (.int .i64 t322)).setCell ⟨go4, 2, none⟩ (.int .i64 t323)).setCell ⟨go4, 3, none⟩ ((Value.slice Azv325 t324.length czv325))).setCell ⟨go4, 4, none⟩ ((Value.slice Azv328 t327.length czv328)) = W_ ∧ Aside0 (Kd.N k28 28 W_ w.heap.size (fun k_ => (w.heap.size ≤ k_) ∧ k_ ≠ gb316 ∧ k_ ≠ gb320) (.slice (some ⟨go4, 0, none⟩) y317.length co8) y330) ∧ Aside0 (W_.heap[gb316]? = some (.cells #[.slice none 0 0] 24 (0, 0))) ∧ Aside0 (W_.heap[gb320]? = some (.cells #[.slice (some ⟨go4, 0, none⟩) y317.length co8] 24 (0, 0))) ∧ Aside0 (Below w.heap.size w W_) := ⟨_, rfl, ⟨mN HQ15⟩, ⟨by (with_reducible repeat (first | refine bN ?_ _ | refine bD ?_ | refine bA ?_ _)); refine bF ?_ (by have h_ := Kd.N_away HO319.out (fun _ hk => by first | exact hk.2.1 | exact hk.1.1.2.1 | exact hk.1.2.1); intro e_; exact h_ (by rw [e_]; rfl)) _; (with_reducible repeat (first | refine bN ?_ _ | refine bD ?_ | refine bA ?_ _)); refine bF ?_ (by have h_ := Kd.N_away HO319.out (fun _ hk => by first | exact hk.2.1 | exact hk.1.1.2.1 | exact hk.1.2.1); intro e_; exact h_ (by rw [e_]; rfl)) _; (with_reducible repeat (first | refine bN ?_ _ | refine bD ?_ | refine bA ?_ _)); refine bF ?_ (by have h_ := Kd.N_away HO319.out (fun _ hk => by first | exact hk.2.1 | exact hk.1.1.2.1 | exact hk.1.2.1); intro e_; exact h_ (by rw [e_]; rfl)) _; (with_reducible repeat (first | refine bN ?_ _ | refine bD ?_ | refine bA ?_ _)); refine bF ?_ (by have h_ := Kd.N_away HO319.out (fun _ hk => by first | exact hk.2.1 | exact hk.1.1.2.1 | exact hk.1.2.1); intro e_; exact h_ (by rw [e_]; rfl)) _; (with_reducible repeat (first | refine bN ?_ _ | refine bD ?_ | refine bA ?_ _)); refine bF ?_ (by have h_ := Kd.N_away HO319.out (fun _ hk => by first | exact hk.2.1 | exact hk.1.1.2.1 | exact hk.1.2.1); intro e_; exact h_ (by rw [e_]; rfl)) _; (with_reducible repeat (first | refine bN ?_ _ | refine bD ?_ | refine bA ?_ _)); exact BK316.out⟩, ⟨by (with_reducible repeat (first | refine bN ?_ _ | refine bD ?_ | refine bA ?_ _)); refine bF ?_ (by have h_ := Kd.N_away HO319.out (fun _ hk => by first | exact hk.2.2 | exact hk.1.1.2.2 | exact hk.1.2.2); intro e_; exact h_ (by rw [e_]; rfl)) _; (with_reducible repeat (first | refine bN ?_ _ | refine bD ?_ | refine bA ?_ _)); refine bF ?_ (by have h_ := Kd.N_away HO319.out (fun _ hk => by first | exact hk.2.2 | exact hk.1.1.2.2 | exact hk.1.2.2); intro e_; exact h_ (by rw [e_]; rfl)) _; (with_reducible repeat (first | refine bN ?_ _ | refine bD ?_ | refine bA ?_ _)); refine bF ?_ (by have h_ := Kd.N_away HO319.out (fun _ hk => by first | exact hk.2.2 | exact hk.1.1.2.2 | exact hk.1.2.2); intro e_; exact h_ (by rw [e_]; rfl)) _; (with_reducible repeat (first | refine bN ?_ _ | refine bD ?_ | refine bA ?_ _)); refine bF ?_ (by have h_ := Kd.N_away HO319.out (fun _ hk => by first | exact hk.2.2 | exact hk.1.1.2.2 | exact hk.1.2.2); intro e_; exact h_ (by rw [e_]; rfl)) _; (with_reducible repeat (first | refine bN ?_ _ | refine bD ?_ | refine bA ?_ _)); refine bF ?_ (by have h_ := Kd.N_away HO319.out (fun _ hk => by first | exact hk.2.2 | exact hk.1.1.2.2 | exact hk.1.2.2); intro e_; exact h_ (by rw [e_]; rfl)) _; (with_reducible repeat (first | refine bN ?_ _ | refine bD ?_ | refine bA ?_ _)); exact BK320.out⟩, ⟨mH HB⟩⟩
 (try clear HO319); (try clear BK316); (try clear BK320); (try clear HB); rewrite [hw_]; clear hw_; obtain ⟨HO319, BK316, BK320, HB⟩ := n_; obtain ⟨hcz17_0, hfz17_0⟩ := cY0 BK320; obtain ⟨hcz18_0, hfz18_0⟩ := cY0 BK316
 try go_wp2
 refine bodyPost_ret (results_cell_row rfl _ _ gb316 24 #[.slice (some ⟨go4, 0, none⟩) y317.length co8] (0, 0) _ rfl (pP BK316) Try.underlying24 rfl (by kernel_rfl)) rfl ?_
 exact ⟨_, rT, fN HO319 (hg := fun _ hk => hk.2.1), mH HB⟩
abbrev B26_0 : Array Bool := #[false, false, false, false, false, false, false, false, false, false]
abbrev B26_1 := B26_0.set! 0 true
abbrev B26_2 := B26_1.set! 3 true
abbrev B26_3 := B26_2.set! 1 true
abbrev B26_4 := B26_3.set! 4 true
abbrev B26_5 := B26_4.set! 2 true
abbrev B26_6 := B26_5.set! 6 true
abbrev B26_7 := B26_6.set! 5 true
abbrev B26_8 := B26_7.set! 7 true
abbrev B26_9 := B26_8.set! 8 true
abbrev B26_10 := B26_9.set! 9 true
def potsherdref12_CopyNode.f (a0_0 : Int) (a0_1 : Int) (a0_2 : Int) (l0_3 : List Int) (l0_4 : List (S78)) : Option (Int × Int × Int × List Int × (List (S78))) := if ([] : List Int).length + l0_3.length < 17592186044416 then (if ([] : List (S78)).length + l0_4.length < 5864062014805 then (some (a0_0, a0_1, a0_2, (([] : List Int) ++ l0_3), (([] : List (S78)) ++ l0_4))) else (none)) else (none)
def potsherdref12_CopyNode.T1 : Bool × List (List Nat × List Nat) := (true, [([], []), ([0], [0]), ([1], [1]), ([], []), ([3], [3]), ([4, 2], [4]), ([0, 1, 2, 3, 4], []), ([6, 2, 5, 0, 1, 2, 3, 4], [2, 6]), ([0, 1, 2, 3, 4, 5, 6, 7], []), ([8, 5, 7, 0, 1, 2, 3, 4, 5, 6, 7], [5, 8])])
def potsherdref12_CopyNode.B1 : List Nat := [0, 1, 3, 0, 8, 31, 31, 127, 255, 511]
theorem potsherdref12_CopyNode.tab1 : rtab .any (opsOf Try.f26 1) = potsherdref12_CopyNode.T1 := by kernel_rfl
theorem potsherdref12_CopyNode.bits1 : waitsOk potsherdref12_CopyNode.T1.2 potsherdref12_CopyNode.B1 = true := by kernel_rfl
set_option maxHeartbeats 8000000 in
set_option maxRecDepth 100000 in
theorem potsherdref12_CopyNode.calls (a0_0 : Int) (a0_1 : Int) (a0_2 : Int) (A0_3 : Option Addr) (c0_3 : Nat) (l0_3 : List Int) (A0_4 : Option Addr) (c0_4 : Nat) (l0_4 : List (S78)) (r1 : Int) (r2 : Int) (r3 : Int) (r4 : List Int) (r5 : List (S78)) (w : World) (hr0_3 : Kd.C (Kd.int .i64) w A0_3 l0_3.length l0_3) (hc0_3 : l0_3.length ≤ c0_3) (hr0_4 : Kd.C k78 w A0_4 l0_4.length l0_4) (hc0_4 : l0_4.length ≤ c0_4) (h : potsherdref12_CopyNode.f a0_0 a0_1 a0_2 l0_3 l0_4 = some (r1, r2, r3, r4, r5)) :
 Calls Try.prog 26 #[.agg #[.int .i64 a0_0, .int .i64 a0_1, .int .i64 a0_2, .slice A0_3 l0_3.length c0_3, .slice A0_4 l0_4.length c0_4]] w fun e w' => ∃ v3_ v4_ : Value, e = .returned (.agg #[.int .i64 r1, .int .i64 r2, .int .i64 r3, v3_, v4_]) ∧ Kd.R (Kd.int .i64) 3 w' w.heap.size (fun _ => True) v3_ r4 ∧ Kd.R k78 78 w' w.heap.size (fun _ => True) v4_ r5 ∧ Below w.heap.size w w' := by
 have hu28 := Try.underlying28; have HR0_3 := kA hr0_3; have HC0_3 := kA hc0_3; clear hr0_3 hc0_3; have HR0_4 := kA hr0_4; have HC0_4 := kA hc0_4; clear hr0_4 hc0_4; have HB := kA (Below.refl w.heap.size w); have H : (if ([] : List Int).length + l0_3.length < 17592186044416 then (if ([] : List (S78)).length + l0_4.length < 5864062014805 then (some (a0_0, a0_1, a0_2, (([] : List Int) ++ l0_3), (([] : List (S78)) ++ l0_4))) else (none)) else (none)) = some (r1, r2, r3, r4, r5) := h; clear h
 replace H := nP H; obtain ⟨c2, H⟩ := H; have LMc2 := kA c2; clear c2; obtain ⟨y333, hy333⟩ : ∃ y_ : List Int, y_ = (([] : List Int) ++ l0_3) := ⟨_, rfl⟩
 replace H : (if ([] : List (S78)).length + l0_4.length < 5864062014805 then (some (a0_0, a0_1, a0_2, y333, (([] : List (S78)) ++ l0_4))) else (none)) = some (r1, r2, r3, r4, r5) := rH H hy333
 have Ny333 := kA hy333; clear hy333
 replace H := nP H; obtain ⟨c3, H⟩ := H; have LMc3 := kA c3; clear c3; obtain ⟨y336, hy336⟩ : ∃ y_ : List (S78), y_ = (([] : List (S78)) ++ l0_4) := ⟨_, rfl⟩
 replace H : (some (a0_0, a0_1, a0_2, y333, y336)) = some (r1, r2, r3, r4, r5) := rH H hy336
 have Ny336 := kA hy336; clear hy336; simp only [Option.some.injEq, Prod.mk.injEq] at H; obtain ⟨rfl, rfl, rfl, rfl, rfl⟩ := H
 go_enter Try.func26, Try.ntmps26
 try go_wp2_with (first | ((with_reducible refine gate_dst (N := 1) rfl ?_); refine bxE 28 (cs := #[.int .i64 a0_0, .int .i64 a0_1, .int .i64 a0_2, .slice A0_3 l0_3.length c0_3, .slice A0_4 l0_4.length c0_4]) ?_; intro gb331 hg w4 hbox hb; have BK331 := kA hbox; have GW331 := kG HB hg; have GE331 := kG HB hg; replace HB := kH HB hb; clear hb hbox hg) | ((with_reducible refine gate_dst (N := 2) rfl ?_); refine bxE 28 (cs := #[.int .i64 0, .int .i64 0, .int .i64 0, .slice none 0 0, .slice none 0 0]) ?_; intro gb332 hg w5 hbox hb; have BK332 := kA hbox; have GW332 := kG HB hg; have GE332 := kG HB hg; replace HB := kH HB hb; have NB331_332 := kL BK331 hg; have NB332_331 := kQ BK331 hg; replace BK331 := kB BK331 hb; clear hb hbox hg))
 replace BK331 := kA (bD BK331.out); replace BK332 := kA (bD BK332.out); replace HB := kA (wD HB.out); refine start_ (n := 10) (S := fun w' => w'.cell? ⟨gb331, 0, none⟩ = some (.int .i64 a0_0) ∧ w'.cell? ⟨gb331, 1, none⟩ = some (.int .i64 a0_1) ∧ w'.cell? ⟨gb331, 2, none⟩ = some (.int .i64 a0_2) ∧ w'.cell? ⟨gb331, 3, none⟩ = some (.slice A0_3 l0_3.length c0_3) ∧ w'.cell? ⟨gb331, 4, none⟩ = some (.slice A0_4 l0_4.length c0_4)) (ds := [7, 9]) B26_0 (by kernel_rfl) rfl rfl ⟨cZ0 BK331, cZ1 BK331, cZ2 BK331, cZ3 BK331, cZ4 BK331⟩ (fun hHeld => ?_); refine with_tabW potsherdref12_CopyNode.tab1 potsherdref12_CopyNode.bits1 (fun HT_ HW_ => ?_); generalize w5.drew = w6 at BK331 BK332 HB hHeld ⊢; refine pE 0 3 B26_1 HT_ ?_
 refine pE 3 6 B26_2 HT_ ?_
 refine tE 1 4 B26_3 HT_ HW_ hHeld ?_
 refine tE 4 7 B26_4 HT_ HW_ hHeld ?_
 refine one_ (i := 2) (N := some 5) B26_5 rfl rfl (one_of HT_.out (by kernel_rfl)) (by decide) (fun K hK => ?_); refine Kd.R_append_rows_step (Kd.int .i64) (w0 := w) w.heap.size rfl (.const (.slice none 0 0)) (.tmp 4) 25 3 (.int .i64 0) 8 rfl Try.underlying25 info3 rfl (by decide) (by omega) (.slice none 0 0) ([] : List Int) l0_3 _ _ _ (fun _ => True) (fun _ => False) rfl rfl ?aO ?aR (fun _ _ h => h) (fun _ h => h.elim) ?aF ?aB ?aS ?aL ?_
 (case aR => repeat (first | exact (Kd.C_below HR0_3.out HB.out) | (with_reducible refine Kd.C_alloc ?_ _) | (with_reducible refine Kd.C_drewN ?_ _) | (with_reducible refine Kd.C_drew ?_)))
 (case aB => exact (mH HB))
 (case aF => exact (fun _ _ => trivial))
 (case aO => exact ((Kd.R_nil _ _ _ _ (fun _ => True))))
 (case aS => exact (below_size (mH HB)))
 (case aL => have := LMc2.out; omega)
 intro v334 w7 ho hb hg hat; rw [← Ny333.out] at ho; replace BK331 := kA (blk_grown (g := gb331) (o := .cells #[.int .i64 a0_0, .int .i64 a0_1, .int .i64 a0_2, .slice A0_3 l0_3.length c0_3, .slice A0_4 l0_4.length c0_4] 28 (0, 0)) (mB BK331) hg (by simp [Value.ownBlock])); replace BK332 := kA (blk_grown (g := gb332) (o := .cells #[.int .i64 0, .int .i64 0, .int .i64 0, .slice none 0 0, .slice none 0 0] 28 (0, 0)) (mB BK332) hg (by simp [Value.ownBlock])); replace HB := kA (hb); have HO335 := kA (ho); clear ho hb hg hat; refine hK.out _ _ ⟨cZ0 BK331, cZ1 BK331, cZ2 BK331, cZ3 BK331, cZ4 BK331⟩ (fun hHeld => ?_); clear hK K; refine norm_ (a' := ?_) ?_ ?_; rotate_left
 ·
  show Act.put _ (some 5) _ = _
  simp only [Act.put, lT, l0_, lS, i64_w, i32_w]; rfl
 refine pE 6 9 B26_6 HT_ ?_
 refine one_ (i := 5) (N := some 8) B26_7 rfl rfl (one_of HT_.out (by kernel_rfl)) (by decide) (fun K hK => ?_); refine Kd.R_append_rows_step k78 (w0 := w) w.heap.size rfl (.const (.slice none 0 0)) (.tmp 7) 26 78 (.agg #[(.string ⟨#[]⟩), (.int .i64 0)]) 24 rfl Try.underlying26 info78 rfl (by decide) (by omega) (.slice none 0 0) ([] : List (S78)) l0_4 _ _ _ (fun _ => True) (fun _ => False) rfl rfl ?aO ?aR (fun _ _ h => h) (fun _ h => h.elim) ?aF ?aB ?aS ?aL ?_
 (case aR => repeat (first | exact (Kd.C_below HR0_4.out HB.out) | (with_reducible refine Kd.C_alloc ?_ _) | (with_reducible refine Kd.C_drewN ?_ _) | (with_reducible refine Kd.C_drew ?_)))
 (case aB => exact (mH HB))
 (case aF => exact (fun _ _ => trivial))
 (case aO => exact ((Kd.R_nil _ _ _ _ (fun _ => True))))
 (case aS => exact (below_size (mH HB)))
 (case aL => have := LMc3.out; omega)
 intro v337 w8 ho hb hg hat; rw [← Ny336.out] at ho; replace BK331 := kA (blk_grown (g := gb331) (o := .cells #[.int .i64 a0_0, .int .i64 a0_1, .int .i64 a0_2, .slice A0_3 l0_3.length c0_3, .slice A0_4 l0_4.length c0_4] 28 (0, 0)) (mB BK331) hg (by simp [Value.ownBlock])); replace BK332 := kA (blk_grown (g := gb332) (o := .cells #[.int .i64 0, .int .i64 0, .int .i64 0, .slice none 0 0, .slice none 0 0] 28 (0, 0)) (mB BK332) hg (by simp [Value.ownBlock])); replace HO335 := kA (Kd.R_grown (mR HO335) hg (fun _ _ => by simp [Value.ownBlock])); replace HB := kA (hb); have HO338 := kA (ho); clear ho hb hg hat; obtain ⟨Ao9, co9, eo9⟩ := Kd.R_slice HO335.out
 (first | subst eo9 | (injection eo9 with f1_ f2_ f3_; have f4_ := f1_.symm; have f5_ := f3_.symm; clear f1_ f2_ f3_; subst f4_; subst f5_))
 obtain ⟨Ao11, co11, eo11⟩ := Kd.R_slice HO338.out
 (first | subst eo11 | (injection eo11 with f1_ f2_ f3_; have f4_ := f1_.symm; have f5_ := f3_.symm; clear f1_ f2_ f3_; subst f4_; subst f5_))
 refine hK.out _ _ ⟨cZ0 BK331, cZ1 BK331, cZ2 BK331, cZ3 BK331, cZ4 BK331⟩ (fun hHeld => ?_); clear hK K; refine norm_ (a' := ?_) ?_ ?_; rotate_left
 ·
  show Act.put _ (some 8) _ = _
  simp only [Act.put, lT, l0_, lS, i64_w, i32_w]; rfl
 refine last_ (i := 7) (N := none) B26_8 rfl rfl (one_of HT_.out (by kernel_rfl)) (by decide) (fun K hK => ?_); have hs10 := cZ3 BK331; have hfs10 := bZ BK331.out 3; have hns10_1 := NB332_331.out; have hms10_1 := NB331_332.out; refine skip_ (w1 := ?_) (by rfl) rfl ?_ ?_; rotate_left
 ·
  go_simp; rfl
 refine hK.out _ _ ?_; clear hK K; refine pE 8 10 B26_9 HT_ ?_
 refine last_ (i := 9) (N := none) B26_10 rfl rfl (one_of HT_.out (by kernel_rfl)) (by decide) (fun K hK => ?_); have hs12 := cZ4 BK331; have hfs12 := bZ BK331.out 4; have hns12_1 := NB332_331.out; have hms12_1 := NB331_332.out; refine skip_ (w1 := ?_) (by rfl) rfl ?_ ?_; rotate_left
 ·
  go_simp; rfl
 refine hK.out _ _ ?_; clear hK K; refine done_ (done_of HT_.out (by kernel_rfl)) ?_; have hnb13 := NB331_332.out; have hnc13 := NB332_331.out; obtain ⟨hcz14_0, hfz14_0⟩ := cY0 BK331; obtain ⟨hcz14_1, hfz14_1⟩ := cY1 BK331; obtain ⟨hcz14_2, hfz14_2⟩ := cY2 BK331; obtain ⟨hcz14_3, hfz14_3⟩ := cY3 BK331; obtain ⟨hcz14_4, hfz14_4⟩ := cY4 BK331; obtain ⟨hcz15_0, hfz15_0⟩ := cY0 BK332; obtain ⟨hcz15_1, hfz15_1⟩ := cY1 BK332; obtain ⟨hcz15_2, hfz15_2⟩ := cY2 BK332; obtain ⟨hcz15_3, hfz15_3⟩ := cY3 BK332; obtain ⟨hcz15_4, hfz15_4⟩ := cY4 BK332
 try go_wp2
 refine bodyPost_ret (results_cell_row rfl _ _ gb332 28 #[.int .i64 a0_0, .int .i64 a0_1, .int .i64 a0_2, .slice Ao9 y333.length co9, .slice Ao11 y336.length co11] (0, 0) _ rfl (by (with_reducible repeat (first | refine bN ?_ _ | refine bD ?_ | refine bA ?_ _)); refine blk_put (cs := #[.int .i64 a0_0, .int .i64 a0_1, .int .i64 a0_2, .slice Ao9 y333.length co9, .slice none 0 0]) ?_ 4 _ rfl; (with_reducible repeat (first | refine bN ?_ _ | refine bD ?_ | refine bA ?_ _)); refine blk_put (cs := #[.int .i64 a0_0, .int .i64 a0_1, .int .i64 a0_2, .slice none 0 0, .slice none 0 0]) ?_ 3 _ rfl; (with_reducible repeat (first | refine bN ?_ _ | refine bD ?_ | refine bA ?_ _)); refine blk_put (cs := #[.int .i64 a0_0, .int .i64 a0_1, .int .i64 0, .slice none 0 0, .slice none 0 0]) ?_ 2 _ rfl; (with_reducible repeat (first | refine bN ?_ _ | refine bD ?_ | refine bA ?_ _)); refine blk_put (cs := #[.int .i64 a0_0, .int .i64 0, .int .i64 0, .slice none 0 0, .slice none 0 0]) ?_ 1 _ rfl; (with_reducible repeat (first | refine bN ?_ _ | refine bD ?_ | refine bA ?_ _)); refine blk_put (cs := #[.int .i64 0, .int .i64 0, .int .i64 0, .slice none 0 0, .slice none 0 0]) ?_ 0 _ rfl; (with_reducible repeat (first | refine bN ?_ _ | refine bD ?_ | refine bA ?_ _)); refine bF ?_ NB332_331.out _; (with_reducible repeat (first | refine bN ?_ _ | refine bD ?_ | refine bA ?_ _)); refine bF ?_ NB332_331.out _; (with_reducible repeat (first | refine bN ?_ _ | refine bD ?_ | refine bA ?_ _)); exact BK332.out) Try.underlying28 rfl (by kernel_rfl)) rfl ?_
 exact ⟨_, _, rT, by (with_reducible repeat (first | apply Kd.R_alloc | apply Kd.R_drewN | apply Kd.R_drew)); exact Kd.R_mono (Kd.R_far (p := ⟨gb332, 4, none⟩) (Kd.R_far (p := ⟨gb332, 3, none⟩) (Kd.R_far (p := ⟨gb332, 2, none⟩) (Kd.R_far (p := ⟨gb332, 1, none⟩) (Kd.R_far (p := ⟨gb332, 0, none⟩) (Kd.R_far (p := ⟨gb331, 4, none⟩) (Kd.R_far (p := ⟨gb331, 3, none⟩) (Kd.R_types (Kd.R_types HO335.out BK331.out (by decide)) BK332.out (by decide)) (fun _ hk => hk.1.2) (.slice Ao9 y333.length co9)) (fun _ hk => hk.1.2) (.slice Ao11 y336.length co11)) (fun _ hk => hk.2) (.int .i64 a0_0)) (fun _ hk => hk.2) (.int .i64 a0_1)) (fun _ hk => hk.2) (.int .i64 a0_2)) (fun _ hk => hk.2) (.slice Ao9 y333.length co9)) (fun _ hk => hk.2) (.slice Ao11 y336.length co11)) (fun _ hk => trivial), by (with_reducible repeat (first | apply Kd.R_alloc | apply Kd.R_drewN | apply Kd.R_drew)); exact Kd.R_mono (Kd.R_far (p := ⟨gb332, 4, none⟩) (Kd.R_far (p := ⟨gb332, 3, none⟩) (Kd.R_far (p := ⟨gb332, 2, none⟩) (Kd.R_far (p := ⟨gb332, 1, none⟩) (Kd.R_far (p := ⟨gb332, 0, none⟩) (Kd.R_far (p := ⟨gb331, 4, none⟩) (Kd.R_far (p := ⟨gb331, 3, none⟩) (Kd.R_types (Kd.R_types HO338.out BK331.out (by decide)) BK332.out (by decide)) (fun _ hk => hk.1.2) (.slice Ao9 y333.length co9)) (fun _ hk => hk.1.2) (.slice Ao11 y336.length co11)) (fun _ hk => hk.2) (.int .i64 a0_0)) (fun _ hk => hk.2) (.int .i64 a0_1)) (fun _ hk => hk.2) (.int .i64 a0_2)) (fun _ hk => hk.2) (.slice Ao9 y333.length co9)) (fun _ hk => hk.2) (.slice Ao11 y336.length co11)) (fun _ hk => trivial), mH HB⟩
abbrev B27_0 : Array Bool := #[false, false, false, false, false, false, false, false]
abbrev B27_1 := B27_0.set! 0 true
abbrev B27_2 := B27_1.set! 1 true
abbrev B27_3 := B27_2.set! 2 true
abbrev B27_4 := B27_3.set! 3 true
abbrev B27_5 := B27_4.set! 4 true
abbrev B27_6 := B27_5.set! 5 true
abbrev B27_7 := B27_6.set! 6 true
abbrev B27_8 := B27_7.set! 7 true
def potsherdref12_CopyTree.l0 : Nat → List (S28) → Int → Int → List (S28) → Option ((List (S28)))
 | 0, _, _, _, _ => none
 | k + 1, x7, x8, x9, x342000 => if x9 < x8 then (if 0 ≤ x9 then (if x9 < (x7.length : Int) then ((potsherdref12_CopyNode.f ((rU x7 x9).f0) ((rU x7 x9).f1) ((rU x7 x9).f2) ((rU x7 x9).f3) ((rU x7 x9).f4)).bind fun bt344 => (if x342000.length < 1954687338268 then (potsherdref12_CopyTree.l0 k x7 x8 (wrap64 (x9 + 1)) (x342000 ++ [(⟨bt344.1, bt344.2.1, bt344.2.2.1, bt344.2.2.2.1, bt344.2.2.2.2⟩ : S28)])) else (none))) else (none)) else (none)) else (some x342000)
def potsherdref12_CopyTree.f (k : Nat) (l0_0 : List (S28)) : Option ((List (S28))) := potsherdref12_CopyTree.l0 k l0_0 (l0_0.length : Int) 0 ([] : List (S28))
theorem potsherdref12_CopyTree.mono_l : ∀ k, (∀ y0 y1 y2 y3, LeO (potsherdref12_CopyTree.l0 k y0 y1 y2 y3) (potsherdref12_CopyTree.l0 (k + 1) y0 y1 y2 y3))
 | 0 => fun _ _ _ _ r h => by simp [potsherdref12_CopyTree.l0] at h
 | k + 1 => by
  have ih0 := potsherdref12_CopyTree.mono_l k
  ·
   intro y0 y1 y2 y3
   unfold potsherdref12_CopyTree.l0
   repeat' with_reducible first | apply ih0 | exact LeO.refl _ | exact LeO.none _ | refine LeO.ite ?_ ?_ | refine LeO.bind ?_ (fun _ => ?_)
theorem potsherdref12_CopyTree.mono : ∀ a0 k, LeO (potsherdref12_CopyTree.f k a0) (potsherdref12_CopyTree.f (k + 1) a0) := by
 intro a0 k; have ih0 := potsherdref12_CopyTree.mono_l k
 unfold potsherdref12_CopyTree.f
 repeat' with_reducible first | apply ih0 | exact LeO.refl _ | exact LeO.none _ | refine LeO.ite ?_ ?_ | refine LeO.bind ?_ (fun _ => ?_)
def potsherdref12_CopyTree.T5 : Bool × List (List Nat × List Nat) := (true, [([], []), ([0], [0]), ([], []), ([2], [2]), ([3], [3]), ([1, 4, 3], [1, 4]), ([0, 1, 2, 3, 4, 5], []), ([6, 5, 5, 0, 1, 2, 3, 4, 5], [5, 6])])
def potsherdref12_CopyTree.B5 : List Nat := [0, 1, 0, 4, 12, 31, 63, 127]
theorem potsherdref12_CopyTree.tab5 : rtab .any (opsOf Try.f32 5) = potsherdref12_CopyTree.T5 := by kernel_rfl
theorem potsherdref12_CopyTree.bits5 : waitsOk potsherdref12_CopyTree.T5.2 potsherdref12_CopyTree.B5 = true := by kernel_rfl
set_option maxHeartbeats 8000000 in
set_option maxRecDepth 100000 in
theorem potsherdref12_CopyTree.calls (k : Nat) (A0_0 : Option Addr) (c0_0 : Nat) (l0_0 : List (S28)) (r : List (S28)) (w : World) (hr0_0 : Kd.C k28 w A0_0 l0_0.length l0_0) (hc0_0 : l0_0.length ≤ c0_0) (h : potsherdref12_CopyTree.f k l0_0 = some r) :
 Calls Try.prog 32 #[.agg #[.slice A0_0 l0_0.length c0_0]] w fun e w' => ∃ v0_ : Value, e = .returned (.agg #[v0_]) ∧ Kd.S k28 28 w' w.heap.size (fun _ => True) v0_ r ∧ Below w.heap.size w w' := by
 have hu24 := Try.underlying24; have hu28 := Try.underlying28; have HR0_0 := kA hr0_0; have HC0_0 := kA hc0_0; clear hr0_0 hc0_0; have HB := kA (Below.refl w.heap.size w); have H : (potsherdref12_CopyTree.l0 k l0_0 (l0_0.length : Int) 0 ([] : List (S28))) = some r := h; clear h; have H' := kA H; clear H
 go_enter Try.func32, Try.ntmps32
 go_wp2_with (first | ((with_reducible refine gate_dst (N := 1) rfl ?_); refine bxE 24 (cs := #[.slice A0_0 l0_0.length c0_0]) ?_; intro gb339 hg w2 hbox hb; have BK339 := kA hbox; have GW339 := kG HB hg; have GE339 := kG HB hg; replace HB := kH HB hb; clear hb hbox hg) | ((with_reducible refine gate_dst (N := 2) rfl ?_); refine bxE 24 (cs := #[.slice none 0 0]) ?_; intro gb340 hg w3 hbox hb; have BK340 := kA hbox; have GW340 := kG HB hg; have GE340 := kG HB hg; replace HB := kH HB hb; have NB339_340 := kL BK339 hg; have NB340_339 := kQ BK339 hg; replace BK339 := kB BK339 hb; clear hb hbox hg) | ((with_reducible refine gate_dst (N := 3) rfl ?_); refine bxE 24 (cs := #[.slice none 0 0]) ?_; intro gb341 hg w4 hbox hb; have BK341 := kA hbox; have GW341 := kG HB hg; have GE341 := kG HB hg; replace HB := kH HB hb; have NB339_341 := kL BK339 hg; have NB341_339 := kQ BK339 hg; replace BK339 := kB BK339 hb; have NB340_341 := kL BK340 hg; have NB341_340 := kQ BK340 hg; replace BK340 := kB BK340 hb; clear hb hbox hg; have hnb5 := NB339_340.out; have hnc5 := NB340_339.out; have hnb6 := NB339_341.out; have hnc6 := NB341_339.out; obtain ⟨hcz7_0, hfz7_0⟩ := cY0 BK339))
 go_loopg [9] k (fun kq v9 w' => ∃ (x9_1 : Int) (x342000_1 : List (S28)) (u342000 : Value), v9 = .int .i64 x9_1 ∧ Aside0 (potsherdref12_CopyTree.l0 kq l0_0 (l0_0.length : Int) x9_1 x342000_1 = some r) ∧ Aside0 (kq ≤ k) ∧ Aside0 (Kd.S k28 28 w' w.heap.size (fun _ => True) u342000 x342000_1) ∧ Aside0 (w'.heap[gb339]? = some (.cells #[(.slice A0_0 l0_0.length c0_0)] 24 (0, 0))) ∧ Aside0 (w'.heap[gb340]? = some (.cells #[(.slice none 0 0)] 24 (0, 0))) ∧ Aside0 (w'.heap[gb341]? = some (.cells #[u342000] 24 (0, 0))) ∧ Aside0 (Below w.heap.size w w'))
 case atStart => exact ⟨(0), (([] : List (S28))), (.slice none 0 0), sI, H', ⟨Nat.le_refl _⟩, ⟨by first | exact Kd.S_nil _ _ _ _ _ | exact Kd.N_nil _ _ _ _ _ | exact Kd.V_nil _ _ _ _ _ | exact Kd.Q_nil _ _ _ _ _ | exact Kd.R_nil _ _ _ _ _⟩, ⟨mB BK339⟩, ⟨mB BK340⟩, ⟨mB BK341⟩, ⟨mH HB⟩⟩
 case round =>
  clear H'
  (try clear hcz7_0); (try clear hfz7_0)
  obtain ⟨x9_1, x342000_1, u342000, rfl, HA, HK1, HO_342000, BK339, BK340, BK341, HB⟩ := hrel
  cases gk with
  | zero => exact absurd HA.out (by simp [potsherdref12_CopyTree.l0])
  | succ k1 =>
   have H := HA.out; clear HA; simp only [potsherdref12_CopyTree.l0] at H
   by_cases c8 : x9_1 < (l0_0.length : Int)
   ·
    rw [if_pos c8] at H; have c8b0 := qT c8; clear c8
    replace H := nP H; obtain ⟨c9, H⟩ := H; have c9b0 := qT c9; clear c9
    replace H := nP H; obtain ⟨c10, H⟩ := H; have c10b0 := qT c10; clear c10; replace H := qB H; obtain ⟨⟨t344, t345, t346, t347, t350⟩, A110, H⟩ := H; replace H : (if x342000_1.length < 1954687338268 then (potsherdref12_CopyTree.l0 k1 l0_0 (l0_0.length : Int) (wrap64 (x9_1 + 1)) (x342000_1 ++ [(⟨t344, t345, t346, t347, t350⟩ : S28)])) else (none)) = some r := H; have A11 := kA A110; clear A110
    replace H := nP H; obtain ⟨c12, H⟩ := H; have LMc12 := kA c12; clear c12; obtain ⟨y353, hy353⟩ : ∃ y_ : List (S28), y_ = (x342000_1 ++ [(⟨t344, t345, t346, t347, t350⟩ : S28)]) := ⟨_, rfl⟩
    replace H : (potsherdref12_CopyTree.l0 k1 l0_0 (l0_0.length : Int) (wrap64 (x9_1 + 1)) y353) = some r := rH H hy353
    have Ny353 := kA hy353; clear hy353; have H' := kA H; clear H; have p342 : 0 ≤ (x9_1 : Int) := dT; have q342 : x9_1 < (l0_0.length : Int) := dT; obtain ⟨ad342, A342_3, c342_3, A342_4, c342_4, e342, hx342_0, hx342_1, hx342_2, hx342_3, hx342_4, hl342_3, hi342_3, hl342_4, hi342_4⟩ := at_T28 HR0_0.out x9_1 p342 q342
    cases e342
    replace hx342_0 := xC HB hx342_0; replace hx342_1 := xC HB hx342_1; replace hx342_2 := xC HB hx342_2; replace hx342_3 := xC HB hx342_3; replace hx342_4 := xC HB hx342_4; have HR342_3 := kA hi342_3; have HC342_3 := kA hl342_3; clear hi342_3 hl342_3; have HR342_4 := kA hi342_4; have HC342_4 := kA hl342_4; clear hi342_4 hl342_4; replace p342 := eq_true p342; replace q342 := eq_true q342
    try go_wp2_with (first | ((with_reducible refine gate_dst (N := 5) rfl ?_); refine bxE 28 (cs := #[.int .i64 0, .int .i64 0, .int .i64 0, .slice none 0 0, .slice none 0 0]) ?_; intro gb343 hg w13 hbox hb; replace HO_342000 := kA (Kd.S_below (Kd.S_elderB (mS HO_342000) gb343 (Nat.le_of_eq hg.symm)) hb); have BK343 := kA hbox; have GW343 := kG HB hg; have GE343 := kG HB hg; replace HB := kH HB hb; have NB339_343 := kL BK339 hg; have NB343_339 := kQ BK339 hg; replace BK339 := kB BK339 hb; have NB340_343 := kL BK340 hg; have NB343_340 := kQ BK340 hg; replace BK340 := kB BK340 hb; have NB341_343 := kL BK341 hg; have NB343_341 := kQ BK341 hg; replace BK341 := kB BK341 hb; clear hb hbox hg; have hnb14 := NB343_339.out; have hnc14 := NB339_343.out; have hnb15 := NB343_340.out; have hnc15 := NB340_343.out; have hnb16 := NB343_341.out; have hnc16 := NB341_343.out; obtain ⟨hcz17_0, hfz17_0⟩ := cY0 BK343; obtain ⟨hcz17_1, hfz17_1⟩ := cY1 BK343; obtain ⟨hcz17_2, hfz17_2⟩ := cY2 BK343; obtain ⟨hcz17_3, hfz17_3⟩ := cY3 BK343; obtain ⟨hcz17_4, hfz17_4⟩ := cY4 BK343))
    obtain ⟨w18, hw_, n_⟩ : ∃ W_, ((((w13.setCell ⟨gb343, 0, none⟩ (.int .i64 ((rU l0_0 x9_1).f0))).setCell ⟨gb343, 1, none⟩ (.int .i64 ((rU l0_0 x9_1).f1))).setCell ⟨gb343, 2, none⟩ (.int .i64 ((rU l0_0 x9_1).f2))).setCell ⟨gb343, 3, none⟩ (.slice A342_3 ((rU l0_0 x9_1).f3).length c342_3)).setCell ⟨gb343, 4, none⟩ (.slice A342_4 ((rU l0_0 x9_1).f4).length c342_4) = W_ ∧ Aside0 (Kd.S k28 28 W_ w.heap.size (fun k_ => k_ ≠ gb343) u342000 x342000_1) ∧ Aside0 (W_.heap[gb339]? = some (.cells #[.slice (some ad342) l0_0.length c0_0] 24 (0, 0))) ∧ Aside0 (W_.heap[gb340]? = some (.cells #[.slice none 0 0] 24 (0, 0))) ∧ Aside0 (W_.heap[gb341]? = some (.cells #[u342000] 24 (0, 0))) ∧ Aside0 (W_.heap[gb343]? = some (.cells #[.int .i64 ((rU l0_0 x9_1).f0), .int .i64 ((rU l0_0 x9_1).f1), .int .i64 ((rU l0_0 x9_1).f2), .slice A342_3 ((rU l0_0 x9_1).f3).length c342_3, .slice A342_4 ((rU l0_0 x9_1).f4).length c342_4] 28 (0, 0))) ∧ Aside0 (Below w.heap.size w W_) := ⟨_, rfl, ⟨fS HO_342000 (fun _ hk => hk.2)⟩, ⟨mF BK339⟩, ⟨mF BK340⟩, ⟨mF BK341⟩, ⟨pP BK343⟩, ⟨mH HB⟩⟩
    (try clear HO_342000); (try clear BK339); (try clear BK340); (try clear BK341); (try clear BK343); (try clear HB); rewrite [hw_]; clear hw_; obtain ⟨HO_342000, BK339, BK340, BK341, BK343, HB⟩ := n_; replace HO_342000 := kA (Kd.S_drew HO_342000.out); replace BK339 := kA (bD BK339.out); replace BK340 := kA (bD BK340.out); replace BK341 := kA (bD BK341.out); replace BK343 := kA (bD BK343.out); replace HB := kA (wD HB.out); refine start_ (n := 8) (S := fun w' => w'.cell? ⟨gb341, 0, none⟩ = some (u342000) ∧ w'.cell? ⟨gb343, 0, none⟩ = some (.int .i64 ((rU l0_0 x9_1).f0)) ∧ w'.cell? ⟨gb343, 1, none⟩ = some (.int .i64 ((rU l0_0 x9_1).f1)) ∧ w'.cell? ⟨gb343, 2, none⟩ = some (.int .i64 ((rU l0_0 x9_1).f2)) ∧ w'.cell? ⟨gb343, 3, none⟩ = some (.slice A342_3 ((rU l0_0 x9_1).f3).length c342_3) ∧ w'.cell? ⟨gb343, 4, none⟩ = some (.slice A342_4 ((rU l0_0 x9_1).f4).length c342_4)) (ds := [7]) B27_0 (by kernel_rfl) rfl rfl ⟨cZ0 BK341, cZ0 BK343, cZ1 BK343, cZ2 BK343, cZ3 BK343, cZ4 BK343⟩ (fun hHeld => ?_); refine with_tabW potsherdref12_CopyTree.tab5 potsherdref12_CopyTree.bits5 (fun HT_ HW_ => ?_); generalize w18.drew = w19 at HO_342000 BK339 BK340 BK341 BK343 HB hHeld ⊢; refine pure_ (i := 0) (N := some 13) (v := ?_) (a' := ?_) B27_1 rfl rfl (any_of HT_.out (by kernel_rfl)) (fun _ _ _ h => h) (Or.inl ⟨by rfl, ?_⟩) ?_ ?_; rotate_left
    ·
     intro w'; go_simp; with_reducible rfl
    rotate_left
    ·
     simp only [Act.put, lT, l0_, lS, i64_w, i32_w]; rfl
    refine tE 1 14 B27_2 HT_ HW_ hHeld ?_
    refine tE 2 15 B27_3 HT_ HW_ hHeld ?_
    refine one_ (i := 3) (N := some 16) B27_4 rfl rfl (one_of HT_.out (by kernel_rfl)) (by decide) (fun K hK => ?_); refine goes_ Try.func26 (by kernel_rfl) rfl #[.agg #[.int .i64 ((rU l0_0 x9_1).f0), .int .i64 ((rU l0_0 x9_1).f1), .int .i64 ((rU l0_0 x9_1).f2), .slice A342_3 ((rU l0_0 x9_1).f3).length c342_3, .slice A342_4 ((rU l0_0 x9_1).f4).length c342_4]] (by rfl) rfl rfl (by (try simp only [List.map_toArray, List.map_cons, List.map_nil]); first | done | rfl | (simp only [List.length_drop, List.length_take]; rfl)) ?_
    with_reducible refine (potsherdref12_CopyNode.calls ((rU l0_0 x9_1).f0) ((rU l0_0 x9_1).f1) ((rU l0_0 x9_1).f2) _ _ ((rU l0_0 x9_1).f3) _ _ ((rU l0_0 x9_1).f4) t344 t345 t346 t347 t350 _ ?side1 ?side2 ?side3 ?side4 A11.out).mono ?_
    (case side1 => exact mC HR342_3 HB)
    (case side2 => exact HC342_3.out)
    (case side3 => exact mC HR342_4 HB)
    (case side4 => exact HC342_4.out)
    rintro e w20 ⟨v348, v351, rfl, ho0, ho1, hb⟩; refine ⟨_, rfl, ?_⟩; replace HO_342000 := kA (Kd.S_mono (Kd.S_told (Kd.S_told (Kd.S_old (mS HO_342000) hb) (Kd.R_base ho0)) (Kd.R_base ho1)) (fun _ h_ => h_.1)); have HO349 := kA (Kd.R_lower ho0 (below_size (mH HB))); have HO352 := kA (Kd.R_lower ho1 (below_size (mH HB))); replace BK339 := kB BK339 hb; replace BK340 := kB BK340 hb; replace BK341 := kB BK341 hb; replace BK343 := kB BK343 hb; replace HB := kH HB hb
    (try clear hb); (try clear hk); (try clear ho0); (try clear ho1)
    obtain ⟨Ao22, co22, eo22⟩ := Kd.R_slice HO349.out
    (first | subst eo22 | (injection eo22 with f1_ f2_ f3_; have f4_ := f1_.symm; have f5_ := f3_.symm; clear f1_ f2_ f3_; subst f4_; subst f5_))
    obtain ⟨Ao23, co23, eo23⟩ := Kd.R_slice HO352.out
    (first | subst eo23 | (injection eo23 with f1_ f2_ f3_; have f4_ := f1_.symm; have f5_ := f3_.symm; clear f1_ f2_ f3_; subst f4_; subst f5_))
    refine hK.out _ _ ⟨cZ0 BK341, cZ0 BK343, cZ1 BK343, cZ2 BK343, cZ3 BK343, cZ4 BK343⟩ (fun hHeld => ?_); clear hK K; refine norm_ (a' := ?_) ?_ ?_; rotate_left
    ·
     show Act.put _ (some 16) _ = _
     simp only [Act.put, lT, l0_, lS, i64_w, i32_w]; rfl
    refine one_ (i := 4) (N := some 17) B27_5 rfl rfl (one_of HT_.out (by kernel_rfl)) (by decide) (fun K hK => ?_); refine value_ (w1 := ?_) (v := ?_) (by rfl) rfl ?_ ?_; rotate_left 2
    ·
     go_simp
     constructor
     ·
      rfl
     ·
      rfl
    refine hK.out _ _ ⟨(bC (bA BK341.out _) 0).trans rfl, (bC (bA BK343.out _) 0).trans rfl, (bC (bA BK343.out _) 1).trans rfl, (bC (bA BK343.out _) 2).trans rfl, (bC (bA BK343.out _) 3).trans rfl, (bC (bA BK343.out _) 4).trans rfl⟩ (fun hHeld => ?_); clear hK K; refine norm_ (a' := ?_) ?_ ?_; rotate_left
    ·
     show Act.put _ (some 17) _ = _
     simp only [Act.put, lT, l0_, lS, i64_w, i32_w]; rfl
    refine one_ (i := 5) (N := some 18) B27_6 rfl rfl (one_of HT_.out (by kernel_rfl)) (by decide) (fun K hK => ?_); refine Kd.S_append_step k28 (w0 := w) w.heap.size (by rfl) (.tmp 14) (.tmp 17) 22 28 (.agg #[(.int .i64 0), (.int .i64 0), (.int .i64 0), (.slice none 0 0), (.slice none 0 0)]) 72 rfl Try.underlying22 info28 rfl (by decide) (by omega) u342000 x342000_1 (⟨t344, t345, t346, t347, t350⟩ : S28) [.int .i64 t344, .int .i64 t345, .int .i64 t346, .slice Ao22 t347.length co22, .slice Ao23 t350.length co23] (fun k_ => k_ ≠ gb343) (fun k_ => some k_ = (.slice Ao22 t347.length co22 : Value).ownBlock ∨ some k_ = (.slice Ao23 t350.length co23 : Value).ownBlock) rfl rfl ?aP (fun k_ hk_ => hk_.elim (fun h_ => ((Kd.R_mono (ok' := fun k_ => ((fun k_ => k_ ≠ gb343)) k_ ∧ some k_ ≠ (u342000 : Value).ownBlock) (Kd.R_types (Kd.R_apart' (HO349.out) (Kd.S_typed HO_342000.out) (by decide)) BK343.out (by decide)) (fun k_ hk => ⟨hk.2, hk.1.2⟩))).1 k_ h_.symm) (fun h_ => ((Kd.R_mono (ok' := fun k_ => ((fun k_ => k_ ≠ gb343)) k_ ∧ some k_ ≠ (u342000 : Value).ownBlock) (Kd.R_types (Kd.R_apart' (HO352.out) (Kd.S_typed HO_342000.out) (by decide)) BK343.out (by decide)) (fun k_ hk => ⟨hk.2, hk.1.2⟩))).1 k_ h_.symm)) ?aF ?aO ?aB ?aS ?aL ?_
    (case aP => exact k28_mkM _ _ _ (⟨t344, t345, t346, t347, t350⟩ : S28) (Kd.R_mono (Kd.R_tight rfl (Kd.R_mono (ok' := fun k_ => ((fun k_ => k_ ≠ gb343)) k_ ∧ some k_ ≠ (u342000 : Value).ownBlock) (Kd.R_types (Kd.R_apart' (HO349.out) (Kd.S_typed HO_342000.out) (by decide)) BK343.out (by decide)) (fun k_ hk => ⟨hk.2, hk.1.2⟩))) (fun _ h_ => Or.inl h_)) (Kd.R_mono (Kd.R_tight rfl (Kd.R_mono (ok' := fun k_ => ((fun k_ => k_ ≠ gb343)) k_ ∧ some k_ ≠ (u342000 : Value).ownBlock) (Kd.R_types (Kd.R_apart' (HO352.out) (Kd.S_typed HO_342000.out) (by decide)) BK343.out (by decide)) (fun k_ hk => ⟨hk.2, hk.1.2⟩))) (fun _ h_ => Or.inr (h_))))
    (case aB => exact (mH HB))
    (case aF => exact (fun k_ hk => Kd.freshB (g := gb343) (o := .cells #[.int .i64 ((rU l0_0 x9_1).f0), .int .i64 ((rU l0_0 x9_1).f1), .int .i64 ((rU l0_0 x9_1).f2), .slice A342_3 ((rU l0_0 x9_1).f3).length c342_3, .slice A342_4 ((rU l0_0 x9_1).f4).length c342_4] 28 (0, 0)) (mB BK343) k_ hk))
    (case aO => exact (by (with_reducible repeat (first | apply Kd.S_alloc | apply Kd.S_drewN | apply Kd.S_drew)); exact Kd.S_mono HO_342000.out (fun k_ hk => ⟨hk.1.1, fun e_ => e_.elim (fun h_ => hk.1.2 h_) (fun h_ => hk.2 h_)⟩)))
    (case aS => exact (below_size (mH HB)))
    (case aL => have := LMc12.out; omega)
    intro v354 w21 ho hb hg hat; rw [← Ny353.out] at ho; replace BK339 := kA (blk_grown (g := gb339) (o := .cells #[.slice (some ad342) l0_0.length c0_0] 24 (0, 0)) (mB BK339) hg (Kd.S_ne HO_342000.out BK339.out (by decide))); replace BK340 := kA (blk_grown (g := gb340) (o := .cells #[.slice none 0 0] 24 (0, 0)) (mB BK340) hg (Kd.S_ne HO_342000.out BK340.out (by decide))); replace BK341 := kA (blk_grown (g := gb341) (o := .cells #[u342000] 24 (0, 0)) (mB BK341) hg (Kd.S_ne HO_342000.out BK341.out (by decide))); replace BK343 := kA (blk_grown (g := gb343) (o := .cells #[.int .i64 ((rU l0_0 x9_1).f0), .int .i64 ((rU l0_0 x9_1).f1), .int .i64 ((rU l0_0 x9_1).f2), .slice A342_3 ((rU l0_0 x9_1).f3).length c342_3, .slice A342_4 ((rU l0_0 x9_1).f4).length c342_4] 28 (0, 0)) (mB BK343) hg (Kd.S_away HO_342000.out (fun _ hk => hk.1.1))); replace HB := kA (hb); have HO355 := kA (ho); clear HO_342000 HO349 HO352; clear ho hb hg hat; obtain ⟨Ao24, co24, eo24⟩ := Kd.S_slice HO355.out
    (first | subst eo24 | (injection eo24 with f1_ f2_ f3_; have f4_ := f1_.symm; have f5_ := f3_.symm; clear f1_ f2_ f3_; subst f4_; subst f5_))
    refine hK.out _ _ ⟨cZ0 BK341, cZ0 BK343, cZ1 BK343, cZ2 BK343, cZ3 BK343, cZ4 BK343⟩ (fun hHeld => ?_); clear hK K; refine norm_ (a' := ?_) ?_ ?_; rotate_left
    ·
     show Act.put _ (some 18) _ = _
     simp only [Act.put, lT, l0_, lS, i64_w, i32_w]; rfl
    refine pE 6 19 B27_7 HT_ ?_
    refine last_ (i := 7) (N := none) B27_8 rfl rfl (one_of HT_.out (by kernel_rfl)) (by decide) (fun K hK => ?_); have hs25 := cZ0 BK341; have hfs25 := bZ BK341.out 0; have hns25_0 := NB339_341.out; have hns25_1 := NB340_341.out; have hns25_3 := NB343_341.out; have hms25_0 := NB341_339.out; have hms25_1 := NB341_340.out; have hms25_3 := NB341_343.out; refine skip_ (w1 := ?_) (by rfl) rfl ?_ ?_; rotate_left
    ·
     go_simp; rfl
    refine hK.out _ _ ?_; clear hK K; refine done_ (done_of HT_.out (by kernel_rfl)) ?_
    try go_wp2
    go_roundg k1
    case measure => have := HK1.out; omega
    case rel => exact ⟨(wrap64 (x9_1 + 1)), (y353), (.slice Ao24 y353.length co24), sI, H', ⟨oK HK1⟩, ⟨fS ⟨Kd.S_types HO355.out BK341.out (by decide)⟩⟩, ⟨mF BK339⟩, ⟨mF BK340⟩, ⟨pP BK341⟩, ⟨mH HB⟩⟩
   ·
    rw [if_neg c8] at H; have c8b0 := qF c8; clear c8; obtain rfl := qI H; have hnb26 := NB341_339.out; have hnc26 := NB339_341.out; have hnb27 := NB341_340.out; have hnc27 := NB340_341.out; obtain ⟨hcz28_0, hfz28_0⟩ := cY0 BK341; obtain ⟨Ao29, co29, eo29⟩ := Kd.S_slice HO_342000.out; subst eo29; have hnb30 := NB340_339.out; have hnc30 := NB339_340.out; obtain ⟨hcz31_0, hfz31_0⟩ := cY0 BK340
    go_wp2
    refine bodyPost_ret (results_cell_row rfl _ _ gb340 24 #[.slice Ao29 x342000_1.length co29] (0, 0) _ rfl (pP BK340) Try.underlying24 rfl (by kernel_rfl)) rfl ?_
    exact ⟨_, rT, fS ⟨Kd.S_types HO_342000.out BK340.out (by decide)⟩, mH HB⟩
end Go.Proofs.Ytkigiehkckjlhaa.PReads
