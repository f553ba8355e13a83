/- The Go functions that these laws reach, each as a Lean function with the same answers (a law itself where it answers true), and the proof that the code comes to them; conditions: those of each theorem. Laid by a program of this session over the print. -/
import Derived.Test.YtkigiehkckjlhaaZGrowsPGrowsShort
import Derived.Test.YtkigiehkckjlhaaZGrowsPGrowsx0
import Derived.Test.YtkigiehkckjlhaaZGrowsPGrowsx19
namespace Go.Proofs.Ytkigiehkckjlhaa.PGrows
open Go.RowKit Go.Proofs.YtkigiehkckjlhaaW.PrintWords Go.Proofs.YtkigiehkckjlhaaW.PrintLast Go.Proofs.YtkigiehkckjlhaaW.PrintMore
attribute [local go_sem] max2_int min2_int max_two min_two max_three min_three max_four min_four   -- for this text's walks alone
set_option linter.unusedVariables false
set_option linter.unusedSimpArgs false
open Go.Proofs.YtkigiehkckjlhaaW.PrintWords renaming blk_drewN → bN, blk_drew → bD, blk_alloc → bA, below_set → wS, below_alloc → wA, pw_below_drewN → wN, below_drew1 → wD, blk_below → bB, blk_far → bF, blk_cell → bC, blk_frozen → bZ
open List renaming setIfInBounds_toArray → lT, set_cons_zero → l0_, set_cons_succ → lS
abbrev B21_0 : Array Bool := #[false, false, false, false, false, false, false, false, false, false]
abbrev B21_1 : Array Bool := B21_0.set! 0 true
abbrev B21_2 : Array Bool := B21_1.set! 3 true
abbrev B21_3 : Array Bool := B21_2.set! 1 true
abbrev B21_4 : Array Bool := B21_3.set! 4 true
abbrev B21_5 : Array Bool := B21_4.set! 2 true
abbrev B21_6 : Array Bool := B21_5.set! 6 true
abbrev B21_7 : Array Bool := B21_6.set! 5 true
abbrev B21_8 : Array Bool := B21_7.set! 7 true
abbrev B21_9 : Array Bool := B21_8.set! 8 true
abbrev B21_10 : Array Bool := B21_9.set! 9 true
def file_is.f (k : Nat) (l0_0 : List (S28)) (a1 : Int) : Option (Bool) := (dir_May.f k l0_0).bind fun t223 => (if t223 = true then (if a1 ≥ 0 then (if a1 < (l0_0.length : Int) then (if 0 ≤ a1 then (some (((rd_T28 l0_0 a1).f0) == 1)) else (none)) else (none)) else (none)) else (none))
theorem file_is.mono : ∀ a0 a1 k, LeO (file_is.f k a0 a1) (file_is.f (k + 1) a0 a1) := by
 intro a0 a1 k
 unfold file_is.f
 repeat' with_reducible first | apply dir_May.mono | exact LeO.refl _ | exact LeO.none _ | refine LeO.ite ?_ ?_ | refine LeO.bind ?_ (fun _ => ?_)
set_option maxHeartbeats 8000000 in
set_option maxRecDepth 100000 in
theorem file_is.calls (k : Nat) (A0_0 : Option Addr) (c0_0 : Nat) (l0_0 : List (S28)) (a1 : Int) (r : Bool) (w : World) (hr0_0 : Kd.C k28 w A0_0 l0_0.length l0_0) (hc0_0 : l0_0.length ≤ c0_0) (h : file_is.f k l0_0 a1 = some r) :
 Calls Try.prog 56 #[.agg #[.slice A0_0 l0_0.length c0_0], .int .i64 a1] w fun e w' => e = .returned (.bool r) ∧ Below w.heap.size w w' := by
 have hu24 := Try.underlying24; have HR0_0 := Aside0.mk hr0_0; have HC0_0 := Aside0.mk hc0_0; clear hr0_0 hc0_0; have HB := Aside0.mk (Below.refl w.heap.size w); have H : ((dir_May.f k l0_0).bind fun t223 => (if t223 = true then (if a1 ≥ 0 then (if a1 < (l0_0.length : Int) then (if 0 ≤ a1 then (some (((rd_T28 l0_0 a1).f0) == 1)) else (none)) else (none)) else (none)) else (none))) = some r := h; clear h; replace H := Option.bind_eq_some_iff.mp H; obtain ⟨t223, A30, H⟩ := H; have A3 := Aside0.mk A30; clear A30
 by_cases c4 : t223 = true
 ·
  subst c4
  have H1 : (if a1 ≥ 0 then (if a1 < (l0_0.length : Int) then (if 0 ≤ a1 then (some (((rd_T28 l0_0 a1).f0) == 1)) else (none)) else (none)) else (none)) = some r := by rw [if_pos rfl] at H; exact H
  clear H; have H := H1; clear H1
  replace H := nP H; obtain ⟨c5, H⟩ := H; have c5b0 : decide (0 ≤ a1) = true := decide_eq_true c5; clear c5
  replace H := nP H; obtain ⟨c6, H⟩ := H; have c6b0 := decide_eq_true c6; clear c6
  replace H := nP H; obtain ⟨c7, H⟩ := H; have c7b0 := decide_eq_true c7; clear c7; obtain rfl := Option.some.inj H
  go_enter Try.func56, Try.ntmps56
  go_wp2_with (first | ((with_reducible refine gate_dst (N := 2) rfl ?_); (try (refine gate_guard (by rfl) ?_; dsimp only)); refine bxE 24 (cs := #[.slice A0_0 l0_0.length c0_0]) ?_; intro gb222 hg w8 hbox hb; have BK222 := Aside0.mk hbox; have GW222 := kG HB hg; have GE222 := kG HB hg; replace HB := kH HB hb; clear hb hbox hg; obtain ⟨hcz9_0, hfz9_0⟩ := cY0 BK222) | ((with_reducible refine gate_callee (f := 55) rfl ?_); refine goesK (some 6) Try.func55 #[.agg #[.slice A0_0 l0_0.length c0_0]] ?_; (with_reducible refine (dir_May.calls k _ _ l0_0 true _ ?side1 ?side2 A3.out).mono ?_); (case side1 => exact mC HR0_0 HB); (case side2 => exact HC0_0.out); rintro e w10 ⟨rfl, hb⟩; refine ⟨_, rfl, ?_⟩; replace BK222 := kB BK222 hb; replace HB := kH HB hb; (try clear hb); obtain ⟨hcz11_0, hfz11_0⟩ := cY0 BK222; have p224 : 0 ≤ (a1 : Int) := dT; have q224 : a1 < (l0_0.length : Int) := dT; obtain ⟨ad224, A224_3, c224_3, A224_4, c224_4, e224, hx224_0, hx224_1, hx224_2, hx224_3, hx224_4, hl224_3, hi224_3, hl224_4, hi224_4⟩ := at_T28 HR0_0.out a1 p224 q224; cases e224; replace hx224_0 := xC HB hx224_0; replace hx224_1 := xC HB hx224_1; replace hx224_2 := xC HB hx224_2; replace hx224_3 := xC HB hx224_3; replace hx224_4 := xC HB hx224_4; have HR224_3 := Aside0.mk hi224_3; have HC224_3 := Aside0.mk hl224_3; clear hi224_3 hl224_3; have HR224_4 := Aside0.mk hi224_4; have HC224_4 := Aside0.mk hl224_4; clear hi224_4 hl224_4; replace p224 := eq_true p224; replace q224 := eq_true q224))
  go_ret
  exact ⟨rT, mH HB⟩
 ·
  replace c4 := Bool.eq_false_iff.mpr c4; subst c4
  have H1 : (none) = some r := by rw [if_neg (show ¬ (false = true) by decide)] at H; exact H
  clear H; have H := H1; clear H1; exact absurd H (by simp)
def slices_Clone_int_int.f (l0 : List Int) : Option (List Int) := if l0.length < 17592186044416 then some l0 else none
theorem slices_Clone_int_int.calls (A0 : Option Addr) (c0 : Nat) (l0 : List Int) (r : List Int) (w : World) (hr0 : Kd.C (Kd.int .i64) w A0 l0.length l0) (hc0 : l0.length ≤ c0) (h : slices_Clone_int_int.f l0 = some r) :
 Calls Try.prog 83 #[.slice A0 l0.length c0] w fun e w' => ∃ v0_ : Value, e = .returned (v0_) ∧ Kd.R (Kd.int .i64) 3 w' w.heap.size (fun _ => True) v0_ r ∧ Below w.heap.size w w' := by
 unfold slices_Clone_int_int.f at h
 by_cases hlim : l0.length < 17592186044416
 ·
  rw [if_pos hlim] at h; obtain rfl := Option.some.inj h; clear h
  cases A0 with
  | none =>
   have hl : l0 = [] := by
    cases l0 with
    | nil => rfl
    | cons x xs => obtain ⟨ad, he, _⟩ := hr0.2.2 (by simp); cases he
   subst hl; clear hr0 hlim; have HB := Aside0.mk (Below.refl w.heap.size w)
   have hnil : ∀ (W : World), (Go.binOp .eql 25 (.slice none 0 c0) (.slice none 0 0)).run Try.prog W = .ok (.bool true) W := fun W => Lib.run_eql_slice_nil W 25 3 none _ _ _ _ Try.underlying25
   go_enter Try.func83, Try.ntmps83
   go_wp2
   go_ret
   exact ⟨_, rfl, Kd.R_nil _ _ _ _ _, HB.out⟩
  | some ad0 =>
   have HR0 := Aside0.mk hr0; have LMc2 := Aside0.mk hlim; clear hr0 hlim; have HB := Aside0.mk (Below.refl w.heap.size w)
   have hnil : ∀ (W : World), (Go.binOp .eql 25 (.slice (some ad0) l0.length c0) (.slice none 0 0)).run Try.prog W = .ok (.bool false) W := fun W => Lib.run_eql_slice_nil W 25 3 (some ad0) _ _ _ _ Try.underlying25
   obtain ⟨y142, hy142⟩ : ∃ y_ : List (Int), y_ = [] := ⟨_, rfl⟩; have Ny142 := Aside0.mk hy142; clear hy142
   go_enter Try.func83, Try.ntmps83
   go_wp2_with (first | ((with_reducible refine gate_dst (N := 5) rfl ?_); refine Kd.R_lit (Kd.int .i64) _ 3 ?hg (N := 5) ?hd (xs := ([] : List (Int))) (inner := []) (ok := fun _ => True) (okp := fun _ => True) ?hr ?hp (fun _ hk => hk) trivial (Below.refl _ _) (Nat.le_refl _) (by simp) ?_; (case hd => rfl); (case hg => rfl); (case hr => first | (go_simp; done) | (go_simp; rfl)); (case hp => exact (Reps.none _ _)); intro v143 w3 ho4 hb hg_ hnew_; clear hg_ hnew_; (first | rw [← Ny142.out] at ho4 | (simp only [Int.reduceToNat] at ho4; rw [← Ny142.out] at ho4)); have HO144 := Aside0.mk (Kd.R_lower ho4 (below_size (mH HB))); replace HB := kH HB hb; clear hb ho4) | ((with_reducible refine gate_builtin (b := .append) (xs := #[.tmp 5, .tmp 6]) rfl ?_); at_builtin; refine Kd.R_append_rows (Kd.int .i64) (w0 := w) w.heap.size rfl (.tmp 5) (.tmp 6) 25 3 (.int .i64 0) 8 rfl Try.underlying25 info3 rfl (by decide) (by omega) v143 y142 l0 _ _ _ (fun _ => True) (fun _ => False) rfl rfl ?aO ?aR (fun _ _ h => h) (fun _ h => h.elim) ?aF ?aB ?aS ?aL ?_; (case aR => repeat (first | exact (Kd.C_below HR0.out HB.out) | (with_reducible refine Kd.C_alloc ?_ _) | (with_reducible refine Kd.C_drewN ?_ _) | (with_reducible refine Kd.C_drew ?_))); (case aB => exact (mH HB)); (case aF => exact (fun _ _ => trivial)); (case aO => exact (mR HO144)); (case aS => exact (below_size (mH HB))); (case aL => have := LMc2.out; have hz := Ny142.out; subst hz; simp only [List.length_nil]; omega); intro v146 w5 ho hb hg hat; have hz := Ny142.out; rw [hz, List.nil_append] at ho; clear hz; replace HB := Aside0.mk (hb); have HO147 := Aside0.mk (ho); clear HO144; clear ho hb hg hat))
   go_ret
   exact ⟨_, rfl, mR HO147, mH HB⟩
 ·
  rw [if_neg hlim] at h
  cases h
def api_Entry.f (l0 : List (S78)) : Option ((List (S78))) := if l0.length < 5864062014805 then some l0 else none
theorem api_Entry.calls (A0 : Option Addr) (c0 : Nat) (l0 : List (S78)) (r : List (S78)) (w : World) (hr0 : Kd.C k78 w A0 l0.length l0) (hc0 : l0.length ≤ c0) (h : api_Entry.f l0 = some r) :
 Calls Try.prog 84 #[.slice A0 l0.length c0] w fun e w' => ∃ v0_ : Value, e = .returned (v0_) ∧ Kd.R k78 78 w' w.heap.size (fun _ => True) v0_ r ∧ Below w.heap.size w w' := by
 unfold api_Entry.f at h
 by_cases hlim : l0.length < 5864062014805
 ·
  rw [if_pos hlim] at h; obtain rfl := Option.some.inj h; clear h
  cases A0 with
  | none =>
   have hl : l0 = [] := by
    cases l0 with
    | nil => rfl
    | cons x xs => obtain ⟨ad, he, _⟩ := hr0.2.2 (by simp); cases he
   subst hl; clear hr0 hlim; have HB := Aside0.mk (Below.refl w.heap.size w)
   have hnil : ∀ (W : World), (Go.binOp .eql 26 (.slice none 0 c0) (.slice none 0 0)).run Try.prog W = .ok (.bool true) W := fun W => Lib.run_eql_slice_nil W 26 78 none _ _ _ _ Try.underlying26
   go_enter Try.func84, Try.ntmps84
   go_wp2
   go_ret
   exact ⟨_, rfl, Kd.R_nil _ _ _ _ _, HB.out⟩
  | some ad0 =>
   have HR0 := Aside0.mk hr0; have LMc2 := Aside0.mk hlim; clear hr0 hlim; have HB := Aside0.mk (Below.refl w.heap.size w)
   have hnil : ∀ (W : World), (Go.binOp .eql 26 (.slice (some ad0) l0.length c0) (.slice none 0 0)).run Try.prog W = .ok (.bool false) W := fun W => Lib.run_eql_slice_nil W 26 78 (some ad0) _ _ _ _ Try.underlying26
   obtain ⟨y142, hy142⟩ : ∃ y_ : List (S78), y_ = [] := ⟨_, rfl⟩; have Ny142 := Aside0.mk hy142; clear hy142
   go_enter Try.func84, Try.ntmps84
   go_wp2_with (first | ((with_reducible refine gate_dst (N := 5) rfl ?_); refine Kd.R_lit k78 _ 78 ?hg (N := 5) ?hd (xs := ([] : List (S78))) (inner := []) (ok := fun _ => True) (okp := fun _ => True) ?hr ?hp (fun _ hk => hk) trivial (Below.refl _ _) (Nat.le_refl _) (by simp) ?_; (case hd => rfl); (case hg => rfl); (case hr => first | (go_simp; done) | (go_simp; rfl)); (case hp => exact (Reps.none _ _)); intro v143 w3 ho4 hb hg_ hnew_; clear hg_ hnew_; (first | rw [← Ny142.out] at ho4 | (simp only [Int.reduceToNat] at ho4; rw [← Ny142.out] at ho4)); have HO144 := Aside0.mk (Kd.R_lower ho4 (below_size (mH HB))); replace HB := kH HB hb; clear hb ho4) | ((with_reducible refine gate_builtin (b := .append) (xs := #[.tmp 5, .tmp 6]) rfl ?_); at_builtin; refine Kd.R_append_rows k78 (w0 := w) w.heap.size rfl (.tmp 5) (.tmp 6) 26 78 (.agg #[(.string ⟨#[]⟩), (.int .i64 0)]) 24 rfl Try.underlying26 info78 rfl (by decide) (by omega) v143 y142 l0 _ _ _ (fun _ => True) (fun _ => False) rfl rfl ?aO ?aR (fun _ _ h => h) (fun _ h => h.elim) ?aF ?aB ?aS ?aL ?_; (case aR => repeat (first | exact (Kd.C_below HR0.out HB.out) | (with_reducible refine Kd.C_alloc ?_ _) | (with_reducible refine Kd.C_drewN ?_ _) | (with_reducible refine Kd.C_drew ?_))); (case aB => exact (mH HB)); (case aF => exact (fun _ _ => trivial)); (case aO => exact (mR HO144)); (case aS => exact (below_size (mH HB))); (case aL => have := LMc2.out; have hz := Ny142.out; subst hz; simp only [List.length_nil]; omega); intro v146 w5 ho hb hg hat; have hz := Ny142.out; rw [hz, List.nil_append] at ho; clear hz; replace HB := Aside0.mk (hb); have HO147 := Aside0.mk (ho); clear HO144; clear ho hb hg hat))
   go_ret
   exact ⟨_, rfl, mR HO147, mH HB⟩
 ·
  rw [if_neg hlim] at h
  cases h
def node_Copy.f (a0_0 : Int) (a0_1 : Int) (a0_2 : Int) (l0_3 : List Int) (l0_4 : List (S78)) : Option (Int × Int × Int × List Int × (List (S78))) := (slices_Clone_int_int.f l0_3).bind fun t227 => ((api_Entry.f l0_4).bind fun t230 => (some (a0_0, a0_1, a0_2, t227, t230)))
def node_Copy.T1 : Bool × List (List Nat × List Nat) := (true, [([], []), ([0], [0]), ([1], [1]), ([], []), ([3], [3]), ([4, 2], [4]), ([0, 1, 2, 3, 4], []), ([6, 2, 5, 0, 1, 2, 3, 4], [2, 6]), ([0, 1, 2, 3, 4, 5, 6, 7], []), ([8, 5, 7, 0, 1, 2, 3, 4, 5, 6, 7], [5, 8])])
def node_Copy.B1 : List Nat := [0, 1, 3, 0, 8, 31, 31, 127, 255, 511]
theorem node_Copy.tab1 : rtab .any (opsOf Try.f76 1) = node_Copy.T1 := by kernel_rfl
theorem node_Copy.bits1 : waitsOk node_Copy.T1.2 node_Copy.B1 = true := by kernel_rfl
set_option maxHeartbeats 8000000 in
set_option maxRecDepth 100000 in
theorem node_Copy.calls (a0_0 : Int) (a0_1 : Int) (a0_2 : Int) (A0_3 : Option Addr) (c0_3 : Nat) (l0_3 : List Int) (A0_4 : Option Addr) (c0_4 : Nat) (l0_4 : List (S78)) (r1 : Int) (r2 : Int) (r3 : Int) (r4 : List Int) (r5 : List (S78)) (w : World) (hr0_3 : Kd.C (Kd.int .i64) w A0_3 l0_3.length l0_3) (hc0_3 : l0_3.length ≤ c0_3) (hr0_4 : Kd.C k78 w A0_4 l0_4.length l0_4) (hc0_4 : l0_4.length ≤ c0_4) (h : node_Copy.f a0_0 a0_1 a0_2 l0_3 l0_4 = some (r1, r2, r3, r4, r5)) :
 Calls Try.prog 76 #[.agg #[.int .i64 a0_0, .int .i64 a0_1, .int .i64 a0_2, .slice A0_3 l0_3.length c0_3, .slice A0_4 l0_4.length c0_4]] w fun e w' => ∃ v3_ v4_ : Value, e = .returned (.agg #[.int .i64 r1, .int .i64 r2, .int .i64 r3, v3_, v4_]) ∧ Kd.R (Kd.int .i64) 3 w' w.heap.size (fun _ => True) v3_ r4 ∧ Kd.R k78 78 w' w.heap.size (fun _ => True) v4_ r5 ∧ Below w.heap.size w w' := by
 have hu28 := Try.underlying28; have HR0_3 := Aside0.mk hr0_3; have HC0_3 := Aside0.mk hc0_3; clear hr0_3 hc0_3; have HR0_4 := Aside0.mk hr0_4; have HC0_4 := Aside0.mk hc0_4; clear hr0_4 hc0_4; have HB := Aside0.mk (Below.refl w.heap.size w); have H : ((slices_Clone_int_int.f l0_3).bind fun t227 => ((api_Entry.f l0_4).bind fun t230 => (some (a0_0, a0_1, a0_2, t227, t230)))) = some (r1, r2, r3, r4, r5) := h; clear h; replace H := Option.bind_eq_some_iff.mp H; obtain ⟨t227, A20, H⟩ := H; have A2 := Aside0.mk A20; clear A20; replace H := Option.bind_eq_some_iff.mp H; obtain ⟨t230, A30, H⟩ := H; have A3 := Aside0.mk A30; clear A30; simp only [Option.some.injEq, Prod.mk.injEq] at H; obtain ⟨rfl, rfl, rfl, rfl, rfl⟩ := H
 go_enter Try.func76, Try.ntmps76
 try go_wp2_with (first | ((with_reducible refine gate_dst (N := 1) rfl ?_); refine bxE 28 (cs := #[.int .i64 a0_0, .int .i64 a0_1, .int .i64 a0_2, .slice A0_3 l0_3.length c0_3, .slice A0_4 l0_4.length c0_4]) ?_; intro gb225 hg w4 hbox hb; have BK225 := Aside0.mk hbox; have GW225 := kG HB hg; have GE225 := kG HB hg; replace HB := kH HB hb; clear hb hbox hg) | ((with_reducible refine gate_dst (N := 2) rfl ?_); refine bxE 28 (cs := #[.int .i64 0, .int .i64 0, .int .i64 0, .slice none 0 0, .slice none 0 0]) ?_; intro gb226 hg w5 hbox hb; have BK226 := Aside0.mk hbox; have GW226 := kG HB hg; have GE226 := kG HB hg; replace HB := kH HB hb; have NB225_226 := kL BK225 hg; have NB226_225 := kQ BK225 hg; replace BK225 := kB BK225 hb; clear hb hbox hg))
 replace BK225 := Aside0.mk (bD BK225.out); replace BK226 := Aside0.mk (bD BK226.out); replace HB := Aside0.mk (wD HB.out); refine start_ (n := 10) (S := fun w' => w'.cell? ⟨gb225, 0, none⟩ = some (.int .i64 a0_0) ∧ w'.cell? ⟨gb225, 1, none⟩ = some (.int .i64 a0_1) ∧ w'.cell? ⟨gb225, 2, none⟩ = some (.int .i64 a0_2) ∧ w'.cell? ⟨gb225, 3, none⟩ = some (.slice A0_3 l0_3.length c0_3) ∧ w'.cell? ⟨gb225, 4, none⟩ = some (.slice A0_4 l0_4.length c0_4)) (ds := [7, 9]) B21_0 (by kernel_rfl) rfl rfl ⟨(bC BK225.out 0).trans rfl, (bC BK225.out 1).trans rfl, (bC BK225.out 2).trans rfl, (bC BK225.out 3).trans rfl, (bC BK225.out 4).trans rfl⟩ (fun hHeld => ?_); refine with_tabW node_Copy.tab1 node_Copy.bits1 (fun HT_ HW_ => ?_); generalize w5.drew = w6 at BK225 BK226 HB hHeld ⊢; refine pureE 0 (some 3) B21_1 (any_of HT_.out (by kernel_rfl)) ?_
 refine pureE 3 (some 6) B21_2 (any_of HT_.out (by kernel_rfl)) ?_
 refine take_ (i := 1) (N := some 4) (v := ?_) (a' := ?_) B21_3 rfl rfl (take_ofW HT_.out HW_.out (by kernel_rfl)) (fun _ _ _ h => h) (Or.inl ⟨by rfl, ?_⟩) hHeld ?_ ?_; rotate_left
 ·
  rintro w' ⟨s0, s1, s2, s3, s4⟩; go_simp; with_reducible rfl
 rotate_left
 ·
  simp only [Act.put, lT, l0_, lS, i64_w, i32_w]; rfl
 refine take_ (i := 4) (N := some 7) (v := ?_) (a' := ?_) B21_4 rfl rfl (take_ofW HT_.out HW_.out (by kernel_rfl)) (fun _ _ _ h => h) (Or.inl ⟨by rfl, ?_⟩) hHeld ?_ ?_; rotate_left
 ·
  rintro w' ⟨s0, s1, s2, s3, s4⟩; go_simp; with_reducible rfl
 rotate_left
 ·
  simp only [Act.put, lT, l0_, lS, i64_w, i32_w]; rfl
 refine one_ (i := 2) (N := some 5) B21_5 rfl rfl (one_of HT_.out (by kernel_rfl)) (by decide) (fun K hK => ?_); refine goes_ Try.func83 (by kernel_rfl) rfl #[.slice A0_3 l0_3.length c0_3] (by rfl) rfl rfl (by (try simp only [List.map_toArray, List.map_cons, List.map_nil]); first | done | rfl | (simp only [List.length_drop, List.length_take]; rfl)) ?_
 with_reducible refine (slices_Clone_int_int.calls _ _ l0_3 t227 _ ?side1 ?side2 A2.out).mono ?_
 (case side1 => exact mC HR0_3 HB)
 (case side2 => exact HC0_3.out)
 rintro e w7 ⟨v228, rfl, ho0, hb⟩; refine ⟨_, rfl, ?_⟩; have HO229 := Aside0.mk (Kd.R_lower ho0 (below_size (mH HB))); replace BK225 := kB BK225 hb; replace BK226 := kB BK226 hb; replace HB := kH HB hb
 (try clear hb); (try clear ho0)
 refine hK.out _ _ ⟨(bC BK225.out 0).trans rfl, (bC BK225.out 1).trans rfl, (bC BK225.out 2).trans rfl, (bC BK225.out 3).trans rfl, (bC BK225.out 4).trans rfl⟩ (fun hHeld => ?_); clear hK K; refine norm_ (a' := ?_) ?_ ?_; rotate_left
 ·
  show Act.put _ (some 5) _ = _
  simp only [Act.put, lT, l0_, lS, i64_w, i32_w]; rfl
 refine pureE 6 (some 9) B21_6 (any_of HT_.out (by kernel_rfl)) ?_
 refine one_ (i := 5) (N := some 8) B21_7 rfl rfl (one_of HT_.out (by kernel_rfl)) (by decide) (fun K hK => ?_); refine goes_ Try.func84 (by kernel_rfl) rfl #[.slice A0_4 l0_4.length c0_4] (by rfl) rfl rfl (by (try simp only [List.map_toArray, List.map_cons, List.map_nil]); first | done | rfl | (simp only [List.length_drop, List.length_take]; rfl)) ?_
 with_reducible refine (api_Entry.calls _ _ l0_4 t230 _ ?side1 ?side2 A3.out).mono ?_
 (case side1 => exact mC HR0_4 HB)
 (case side2 => exact HC0_4.out)
 rintro e w8 ⟨v231, rfl, ho0, hb⟩; refine ⟨_, rfl, ?_⟩; replace HO229 := kR HO229 hb; have HO232 := Aside0.mk (Kd.R_lower ho0 (below_size (mH HB))); replace BK225 := kB BK225 hb; replace BK226 := kB BK226 hb; replace HB := kH HB hb
 (try clear hb); (try clear ho0)
 obtain ⟨Ao9, co9, eo9⟩ := Kd.R_slice HO229.out
 (first | subst eo9 | (injection eo9 with f1_ f2_ f3_; have f4_ := f1_.symm; have f5_ := f3_.symm; clear f1_ f2_ f3_; subst f4_; subst f5_))
 obtain ⟨Ao11, co11, eo11⟩ := Kd.R_slice HO232.out
 (first | subst eo11 | (injection eo11 with f1_ f2_ f3_; have f4_ := f1_.symm; have f5_ := f3_.symm; clear f1_ f2_ f3_; subst f4_; subst f5_))
 refine hK.out _ _ ⟨(bC BK225.out 0).trans rfl, (bC BK225.out 1).trans rfl, (bC BK225.out 2).trans rfl, (bC BK225.out 3).trans rfl, (bC BK225.out 4).trans rfl⟩ (fun hHeld => ?_); clear hK K; refine norm_ (a' := ?_) ?_ ?_; rotate_left
 ·
  show Act.put _ (some 8) _ = _
  simp only [Act.put, lT, l0_, lS, i64_w, i32_w]; rfl
 refine last_ (i := 7) (N := none) B21_8 rfl rfl (one_of HT_.out (by kernel_rfl)) (by decide) (fun K hK => ?_); have hs10 := cZ3 BK225; have hfs10 := bZ BK225.out 3; have hns10_1 := NB226_225.out; have hms10_1 := NB225_226.out; refine skip_ (w1 := ?_) (by rfl) rfl ?_ ?_; rotate_left
 ·
  go_simp; rfl
 refine hK.out _ _ ?_; clear hK K; refine pureE 8 (some 10) B21_9 (any_of HT_.out (by kernel_rfl)) ?_
 refine last_ (i := 9) (N := none) B21_10 rfl rfl (one_of HT_.out (by kernel_rfl)) (by decide) (fun K hK => ?_); have hs12 := cZ4 BK225; have hfs12 := bZ BK225.out 4; have hns12_1 := NB226_225.out; have hms12_1 := NB225_226.out; refine skip_ (w1 := ?_) (by rfl) rfl ?_ ?_; rotate_left
 ·
  go_simp; rfl
 refine hK.out _ _ ?_; clear hK K; refine done_ (done_of HT_.out (by kernel_rfl)) ?_; have hnb13 := NB225_226.out; have hnc13 := NB226_225.out; obtain ⟨hcz14_0, hfz14_0⟩ := cY0 BK225; obtain ⟨hcz14_1, hfz14_1⟩ := cY1 BK225; obtain ⟨hcz14_2, hfz14_2⟩ := cY2 BK225; obtain ⟨hcz14_3, hfz14_3⟩ := cY3 BK225; obtain ⟨hcz14_4, hfz14_4⟩ := cY4 BK225; obtain ⟨hcz15_0, hfz15_0⟩ := cY0 BK226; obtain ⟨hcz15_1, hfz15_1⟩ := cY1 BK226; obtain ⟨hcz15_2, hfz15_2⟩ := cY2 BK226; obtain ⟨hcz15_3, hfz15_3⟩ := cY3 BK226; obtain ⟨hcz15_4, hfz15_4⟩ := cY4 BK226
 try go_wp2
 refine bodyPost_ret (results_cell_row rfl _ _ gb226 28 #[.int .i64 a0_0, .int .i64 a0_1, .int .i64 a0_2, .slice Ao9 t227.length co9, .slice Ao11 t230.length co11] (0, 0) _ rfl (by (with_reducible repeat (first | refine bN ?_ _ | refine bD ?_ | refine bA ?_ _)); refine blk_put (cs := #[.int .i64 a0_0, .int .i64 a0_1, .int .i64 a0_2, .slice Ao9 t227.length co9, .slice none 0 0]) ?_ 4 _ rfl; (with_reducible repeat (first | refine bN ?_ _ | refine bD ?_ | refine bA ?_ _)); refine blk_put (cs := #[.int .i64 a0_0, .int .i64 a0_1, .int .i64 a0_2, .slice none 0 0, .slice none 0 0]) ?_ 3 _ rfl; (with_reducible repeat (first | refine bN ?_ _ | refine bD ?_ | refine bA ?_ _)); refine blk_put (cs := #[.int .i64 a0_0, .int .i64 a0_1, .int .i64 0, .slice none 0 0, .slice none 0 0]) ?_ 2 _ rfl; (with_reducible repeat (first | refine bN ?_ _ | refine bD ?_ | refine bA ?_ _)); refine blk_put (cs := #[.int .i64 a0_0, .int .i64 0, .int .i64 0, .slice none 0 0, .slice none 0 0]) ?_ 1 _ rfl; (with_reducible repeat (first | refine bN ?_ _ | refine bD ?_ | refine bA ?_ _)); refine blk_put (cs := #[.int .i64 0, .int .i64 0, .int .i64 0, .slice none 0 0, .slice none 0 0]) ?_ 0 _ rfl; (with_reducible repeat (first | refine bN ?_ _ | refine bD ?_ | refine bA ?_ _)); refine bF ?_ NB226_225.out _; (with_reducible repeat (first | refine bN ?_ _ | refine bD ?_ | refine bA ?_ _)); refine bF ?_ NB226_225.out _; (with_reducible repeat (first | refine bN ?_ _ | refine bD ?_ | refine bA ?_ _)); exact BK226.out) Try.underlying28 rfl (by kernel_rfl)) rfl ?_
 exact ⟨_, _, rT, by (with_reducible repeat (first | apply Kd.R_alloc | apply Kd.R_drewN | apply Kd.R_drew)); exact Kd.R_mono (Kd.R_far (p := ⟨gb226, 4, none⟩) (Kd.R_far (p := ⟨gb226, 3, none⟩) (Kd.R_far (p := ⟨gb226, 2, none⟩) (Kd.R_far (p := ⟨gb226, 1, none⟩) (Kd.R_far (p := ⟨gb226, 0, none⟩) (Kd.R_far (p := ⟨gb225, 4, none⟩) (Kd.R_far (p := ⟨gb225, 3, none⟩) (Kd.R_types (Kd.R_types HO229.out BK225.out (by decide)) BK226.out (by decide)) (fun _ hk => hk.1.2) (.slice Ao9 t227.length co9)) (fun _ hk => hk.1.2) (.slice Ao11 t230.length co11)) (fun _ hk => hk.2) (.int .i64 a0_0)) (fun _ hk => hk.2) (.int .i64 a0_1)) (fun _ hk => hk.2) (.int .i64 a0_2)) (fun _ hk => hk.2) (.slice Ao9 t227.length co9)) (fun _ hk => hk.2) (.slice Ao11 t230.length co11)) (fun _ hk => trivial), by (with_reducible repeat (first | apply Kd.R_alloc | apply Kd.R_drewN | apply Kd.R_drew)); exact Kd.R_mono (Kd.R_far (p := ⟨gb226, 4, none⟩) (Kd.R_far (p := ⟨gb226, 3, none⟩) (Kd.R_far (p := ⟨gb226, 2, none⟩) (Kd.R_far (p := ⟨gb226, 1, none⟩) (Kd.R_far (p := ⟨gb226, 0, none⟩) (Kd.R_far (p := ⟨gb225, 4, none⟩) (Kd.R_far (p := ⟨gb225, 3, none⟩) (Kd.R_types (Kd.R_types HO232.out BK225.out (by decide)) BK226.out (by decide)) (fun _ hk => hk.1.2) (.slice Ao9 t227.length co9)) (fun _ hk => hk.1.2) (.slice Ao11 t230.length co11)) (fun _ hk => hk.2) (.int .i64 a0_0)) (fun _ hk => hk.2) (.int .i64 a0_1)) (fun _ hk => hk.2) (.int .i64 a0_2)) (fun _ hk => hk.2) (.slice Ao9 t227.length co9)) (fun _ hk => hk.2) (.slice Ao11 t230.length co11)) (fun _ hk => trivial), mH HB⟩
abbrev B22_0 : Array Bool := #[false, false, false, false, false, false, false, false]
abbrev B22_1 : Array Bool := B22_0.set! 0 true
abbrev B22_2 : Array Bool := B22_1.set! 1 true
abbrev B22_3 : Array Bool := B22_2.set! 2 true
abbrev B22_4 : Array Bool := B22_3.set! 3 true
abbrev B22_5 : Array Bool := B22_4.set! 4 true
abbrev B22_6 : Array Bool := B22_5.set! 5 true
abbrev B22_7 : Array Bool := B22_6.set! 6 true
abbrev B22_8 : Array Bool := B22_7.set! 7 true
def dir_Copy.l0 : Nat → List (S28) → Int → Int → List (S28) → Option ((List (S28)))
 | 0, _, _, _, _ => none
 | k + 1, x7, x8, x9, x236000 => if x9 < x8 then (if 0 ≤ x9 then (if x9 < (x7.length : Int) then ((node_Copy.f ((rd_T28 x7 x9).f0) ((rd_T28 x7 x9).f1) ((rd_T28 x7 x9).f2) ((rd_T28 x7 x9).f3) ((rd_T28 x7 x9).f4)).bind fun bt238 => (if x236000.length < 1954687338268 then (dir_Copy.l0 k x7 x8 (wrap64 (x9 + 1)) (x236000 ++ [(⟨bt238.1, bt238.2.1, bt238.2.2.1, bt238.2.2.2.1, bt238.2.2.2.2⟩ : S28)])) else (none))) else (none)) else (none)) else (some x236000)
def dir_Copy.f (k : Nat) (l0_0 : List (S28)) : Option ((List (S28))) := dir_Copy.l0 k l0_0 (l0_0.length : Int) 0 ([] : List (S28))
theorem dir_Copy.mono_l : ∀ k, (∀ y0 y1 y2 y3, LeO (dir_Copy.l0 k y0 y1 y2 y3) (dir_Copy.l0 (k + 1) y0 y1 y2 y3))
 | 0 => fun _ _ _ _ r h => by simp [dir_Copy.l0] at h
 | k + 1 => by
  have ih0 := dir_Copy.mono_l k
  ·
   intro y0 y1 y2 y3
   unfold dir_Copy.l0
   repeat' with_reducible first | apply ih0 | exact LeO.refl _ | exact LeO.none _ | refine LeO.ite ?_ ?_ | refine LeO.bind ?_ (fun _ => ?_)
theorem dir_Copy.mono : ∀ a0 k, LeO (dir_Copy.f k a0) (dir_Copy.f (k + 1) a0) := by
 intro a0 k; have ih0 := dir_Copy.mono_l k
 unfold dir_Copy.f
 repeat' with_reducible first | apply ih0 | exact LeO.refl _ | exact LeO.none _ | refine LeO.ite ?_ ?_ | refine LeO.bind ?_ (fun _ => ?_)
def dir_Copy.T5 : Bool × List (List Nat × List Nat) := (true, [([], []), ([0], [0]), ([], []), ([2], [2]), ([3], [3]), ([1, 4, 3], [1, 4]), ([0, 1, 2, 3, 4, 5], []), ([6, 5, 5, 0, 1, 2, 3, 4, 5], [5, 6])])
def dir_Copy.B5 : List Nat := [0, 1, 0, 4, 12, 31, 63, 127]
theorem dir_Copy.tab5 : rtab .any (opsOf Try.f57 5) = dir_Copy.T5 := by kernel_rfl
theorem dir_Copy.bits5 : waitsOk dir_Copy.T5.2 dir_Copy.B5 = true := by kernel_rfl
set_option maxHeartbeats 8000000 in
set_option maxRecDepth 100000 in
theorem dir_Copy.calls (k : Nat) (A0_0 : Option Addr) (c0_0 : Nat) (l0_0 : List (S28)) (r : List (S28)) (w : World) (hr0_0 : Kd.C k28 w A0_0 l0_0.length l0_0) (hc0_0 : l0_0.length ≤ c0_0) (h : dir_Copy.f k l0_0 = some r) :
 Calls Try.prog 57 #[.agg #[.slice A0_0 l0_0.length c0_0]] w fun e w' => ∃ v0_ : Value, e = .returned (.agg #[v0_]) ∧ Kd.S k28 28 w' w.heap.size (fun _ => True) v0_ r ∧ Below w.heap.size w w' := by
 have hu24 := Try.underlying24; have hu28 := Try.underlying28; have HR0_0 := Aside0.mk hr0_0; have HC0_0 := Aside0.mk hc0_0; clear hr0_0 hc0_0; have HB := Aside0.mk (Below.refl w.heap.size w); have H : (dir_Copy.l0 k l0_0 (l0_0.length : Int) 0 ([] : List (S28))) = some r := h; clear h; have H' := Aside0.mk H; clear H
 go_enter Try.func57, Try.ntmps57
 go_wp2_with (first | ((with_reducible refine gate_dst (N := 1) rfl ?_); refine bxE 24 (cs := #[.slice A0_0 l0_0.length c0_0]) ?_; intro gb233 hg w2 hbox hb; have BK233 := Aside0.mk hbox; have GW233 := kG HB hg; have GE233 := kG HB hg; replace HB := kH HB hb; clear hb hbox hg) | ((with_reducible refine gate_dst (N := 2) rfl ?_); refine bxE 24 (cs := #[.slice none 0 0]) ?_; intro gb234 hg w3 hbox hb; have BK234 := Aside0.mk hbox; have GW234 := kG HB hg; have GE234 := kG HB hg; replace HB := kH HB hb; have NB233_234 := kL BK233 hg; have NB234_233 := kQ BK233 hg; replace BK233 := kB BK233 hb; clear hb hbox hg) | ((with_reducible refine gate_dst (N := 3) rfl ?_); refine bxE 24 (cs := #[.slice none 0 0]) ?_; intro gb235 hg w4 hbox hb; have BK235 := Aside0.mk hbox; have GW235 := kG HB hg; have GE235 := kG HB hg; replace HB := kH HB hb; have NB233_235 := kL BK233 hg; have NB235_233 := kQ BK233 hg; replace BK233 := kB BK233 hb; have NB234_235 := kL BK234 hg; have NB235_234 := kQ BK234 hg; replace BK234 := kB BK234 hb; clear hb hbox hg; have hnb5 := NB233_234.out; have hnc5 := NB234_233.out; have hnb6 := NB233_235.out; have hnc6 := NB235_233.out; obtain ⟨hcz7_0, hfz7_0⟩ := cY0 BK233))
 go_loopg [9] k (fun kq v9 w' => ∃ (x9_1 : Int) (x236000_1 : List (S28)) (u236000 : Value), v9 = .int .i64 x9_1 ∧ Aside0 (dir_Copy.l0 kq l0_0 (l0_0.length : Int) x9_1 x236000_1 = some r) ∧ Aside0 (kq ≤ k) ∧ Aside0 (Kd.S k28 28 w' w.heap.size (fun _ => True) u236000 x236000_1) ∧ Aside0 (w'.heap[gb233]? = some (.cells #[(.slice A0_0 l0_0.length c0_0)] 24 (0, 0))) ∧ Aside0 (w'.heap[gb234]? = some (.cells #[(.slice none 0 0)] 24 (0, 0))) ∧ Aside0 (w'.heap[gb235]? = some (.cells #[u236000] 24 (0, 0))) ∧ Aside0 (Below w.heap.size w w'))
 case atStart => exact ⟨(0), (([] : List (S28))), (.slice none 0 0), sI, H', ⟨Nat.le_refl _⟩, ⟨by first | exact Kd.S_nil _ _ _ _ _ | exact Kd.N_nil _ _ _ _ _ | exact Kd.V_nil _ _ _ _ _ | exact Kd.Q_nil _ _ _ _ _ | exact Kd.R_nil _ _ _ _ _⟩, ⟨mB BK233⟩, ⟨mB BK234⟩, ⟨mB BK235⟩, ⟨mH HB⟩⟩
 case round =>
  clear H'
  (try clear hcz7_0); (try clear hfz7_0)
  obtain ⟨x9_1, x236000_1, u236000, rfl, HA, HK1, HO_236000, BK233, BK234, BK235, HB⟩ := hrel
  cases gk with
  | zero => exact absurd HA.out (by simp [dir_Copy.l0])
  | succ k1 =>
   have H := HA.out; clear HA; simp only [dir_Copy.l0] at H
   by_cases c8 : x9_1 < (l0_0.length : Int)
   ·
    rw [if_pos c8] at H; have c8b0 := decide_eq_true c8; clear c8
    replace H := nP H; obtain ⟨c9, H⟩ := H; have c9b0 := decide_eq_true c9; clear c9
    replace H := nP H; obtain ⟨c10, H⟩ := H; have c10b0 := decide_eq_true c10; clear c10; replace H := Option.bind_eq_some_iff.mp H; obtain ⟨⟨t238, t239, t240, t241, t244⟩, A110, H⟩ := H; replace H : (if x236000_1.length < 1954687338268 then (dir_Copy.l0 k1 l0_0 (l0_0.length : Int) (wrap64 (x9_1 + 1)) (x236000_1 ++ [(⟨t238, t239, t240, t241, t244⟩ : S28)])) else (none)) = some r := H; have A11 := Aside0.mk A110; clear A110
    replace H := nP H; obtain ⟨c12, H⟩ := H; have LMc12 := Aside0.mk c12; clear c12; obtain ⟨y247, hy247⟩ : ∃ y_ : List (S28), y_ = (x236000_1 ++ [(⟨t238, t239, t240, t241, t244⟩ : S28)]) := ⟨_, rfl⟩
    replace H : (dir_Copy.l0 k1 l0_0 (l0_0.length : Int) (wrap64 (x9_1 + 1)) y247) = some r := rH H hy247
    have Ny247 := Aside0.mk hy247; clear hy247; have H' := Aside0.mk H; clear H; have p236 : 0 ≤ (x9_1 : Int) := dT; have q236 : x9_1 < (l0_0.length : Int) := dT; obtain ⟨ad236, A236_3, c236_3, A236_4, c236_4, e236, hx236_0, hx236_1, hx236_2, hx236_3, hx236_4, hl236_3, hi236_3, hl236_4, hi236_4⟩ := at_T28 HR0_0.out x9_1 p236 q236
    cases e236
    replace hx236_0 := xC HB hx236_0; replace hx236_1 := xC HB hx236_1; replace hx236_2 := xC HB hx236_2; replace hx236_3 := xC HB hx236_3; replace hx236_4 := xC HB hx236_4; have HR236_3 := Aside0.mk hi236_3; have HC236_3 := Aside0.mk hl236_3; clear hi236_3 hl236_3; have HR236_4 := Aside0.mk hi236_4; have HC236_4 := Aside0.mk hl236_4; clear hi236_4 hl236_4; replace p236 := eq_true p236; replace q236 := eq_true q236
    try go_wp2_with (first | ((with_reducible refine gate_dst (N := 5) rfl ?_); refine bxE 28 (cs := #[.int .i64 0, .int .i64 0, .int .i64 0, .slice none 0 0, .slice none 0 0]) ?_; intro gb237 hg w13 hbox hb; replace HO_236000 := Aside0.mk (Kd.S_below (Kd.S_elderB (mS HO_236000) gb237 (Nat.le_of_eq hg.symm)) hb); have BK237 := Aside0.mk hbox; have GW237 := kG HB hg; have GE237 := kG HB hg; replace HB := kH HB hb; have NB233_237 := kL BK233 hg; have NB237_233 := kQ BK233 hg; replace BK233 := kB BK233 hb; have NB234_237 := kL BK234 hg; have NB237_234 := kQ BK234 hg; replace BK234 := kB BK234 hb; have NB235_237 := kL BK235 hg; have NB237_235 := kQ BK235 hg; replace BK235 := kB BK235 hb; clear hb hbox hg; have hnb14 := NB237_233.out; have hnc14 := NB233_237.out; have hnb15 := NB237_234.out; have hnc15 := NB234_237.out; have hnb16 := NB237_235.out; have hnc16 := NB235_237.out; obtain ⟨hcz17_0, hfz17_0⟩ := cY0 BK237; obtain ⟨hcz17_1, hfz17_1⟩ := cY1 BK237; obtain ⟨hcz17_2, hfz17_2⟩ := cY2 BK237; obtain ⟨hcz17_3, hfz17_3⟩ := cY3 BK237; obtain ⟨hcz17_4, hfz17_4⟩ := cY4 BK237))
    obtain ⟨w18, hw_, n_⟩ : ∃ W_, ((((w13.setCell ⟨gb237, 0, none⟩ (.int .i64 ((rd_T28 l0_0 x9_1).f0))).setCell ⟨gb237, 1, none⟩ (.int .i64 ((rd_T28 l0_0 x9_1).f1))).setCell ⟨gb237, 2, none⟩ (.int .i64 ((rd_T28 l0_0 x9_1).f2))).setCell ⟨gb237, 3, none⟩ (.slice A236_3 ((rd_T28 l0_0 x9_1).f3).length c236_3)).setCell ⟨gb237, 4, none⟩ (.slice A236_4 ((rd_T28 l0_0 x9_1).f4).length c236_4) = W_ ∧ Aside0 (Kd.S k28 28 W_ w.heap.size (fun k_ => k_ ≠ gb237) u236000 x236000_1) ∧ Aside0 (W_.heap[gb233]? = some (.cells #[.slice (some ad236) l0_0.length c0_0] 24 (0, 0))) ∧ Aside0 (W_.heap[gb234]? = some (.cells #[.slice none 0 0] 24 (0, 0))) ∧ Aside0 (W_.heap[gb235]? = some (.cells #[u236000] 24 (0, 0))) ∧ Aside0 (W_.heap[gb237]? = some (.cells #[.int .i64 ((rd_T28 l0_0 x9_1).f0), .int .i64 ((rd_T28 l0_0 x9_1).f1), .int .i64 ((rd_T28 l0_0 x9_1).f2), .slice A236_3 ((rd_T28 l0_0 x9_1).f3).length c236_3, .slice A236_4 ((rd_T28 l0_0 x9_1).f4).length c236_4] 28 (0, 0))) ∧ Aside0 (Below w.heap.size w W_) := ⟨_, rfl, ⟨fS HO_236000 (fun _ hk => hk.2)⟩, ⟨mF BK233⟩, ⟨mF BK234⟩, ⟨mF BK235⟩, ⟨pP BK237⟩, ⟨mH HB⟩⟩
    (try clear HO_236000); (try clear BK233); (try clear BK234); (try clear BK235); (try clear BK237); (try clear HB); rewrite [hw_]; clear hw_; obtain ⟨HO_236000, BK233, BK234, BK235, BK237, HB⟩ := n_; replace HO_236000 := Aside0.mk (Kd.S_drew HO_236000.out); replace BK233 := Aside0.mk (bD BK233.out); replace BK234 := Aside0.mk (bD BK234.out); replace BK235 := Aside0.mk (bD BK235.out); replace BK237 := Aside0.mk (bD BK237.out); replace HB := Aside0.mk (wD HB.out); refine start_ (n := 8) (S := fun w' => w'.cell? ⟨gb235, 0, none⟩ = some (u236000) ∧ w'.cell? ⟨gb237, 0, none⟩ = some (.int .i64 ((rd_T28 l0_0 x9_1).f0)) ∧ w'.cell? ⟨gb237, 1, none⟩ = some (.int .i64 ((rd_T28 l0_0 x9_1).f1)) ∧ w'.cell? ⟨gb237, 2, none⟩ = some (.int .i64 ((rd_T28 l0_0 x9_1).f2)) ∧ w'.cell? ⟨gb237, 3, none⟩ = some (.slice A236_3 ((rd_T28 l0_0 x9_1).f3).length c236_3) ∧ w'.cell? ⟨gb237, 4, none⟩ = some (.slice A236_4 ((rd_T28 l0_0 x9_1).f4).length c236_4)) (ds := [7]) B22_0 (by kernel_rfl) rfl rfl ⟨(bC BK235.out 0).trans rfl, (bC BK237.out 0).trans rfl, (bC BK237.out 1).trans rfl, (bC BK237.out 2).trans rfl, (bC BK237.out 3).trans rfl, (bC BK237.out 4).trans rfl⟩ (fun hHeld => ?_); refine with_tabW dir_Copy.tab5 dir_Copy.bits5 (fun HT_ HW_ => ?_); generalize w18.drew = w19 at HO_236000 BK233 BK234 BK235 BK237 HB hHeld ⊢; refine pure_ (i := 0) (N := some 13) (v := ?_) (a' := ?_) B22_1 rfl rfl (any_of HT_.out (by kernel_rfl)) (fun _ _ _ h => h) (Or.inl ⟨by rfl, ?_⟩) ?_ ?_; rotate_left
    ·
     intro w'; go_simp; with_reducible rfl
    rotate_left
    ·
     simp only [Act.put, lT, l0_, lS, i64_w, i32_w]; rfl
    refine take_ (i := 1) (N := some 14) (v := ?_) (a' := ?_) B22_2 rfl rfl (take_ofW HT_.out HW_.out (by kernel_rfl)) (fun _ _ _ h => h) (Or.inl ⟨by rfl, ?_⟩) hHeld ?_ ?_; rotate_left
    ·
     rintro w' ⟨s0, s1, s2, s3, s4, s5⟩; go_simp; with_reducible rfl
    rotate_left
    ·
     simp only [Act.put, lT, l0_, lS, i64_w, i32_w]; rfl
    refine take_ (i := 2) (N := some 15) (v := ?_) (a' := ?_) B22_3 rfl rfl (take_ofW HT_.out HW_.out (by kernel_rfl)) (fun _ _ _ h => h) (Or.inl ⟨by rfl, ?_⟩) hHeld ?_ ?_; rotate_left
    ·
     rintro w' ⟨s0, s1, s2, s3, s4, s5⟩; go_simp; with_reducible rfl
    rotate_left
    ·
     simp only [Act.put, lT, l0_, lS, i64_w, i32_w]; rfl
    refine one_ (i := 3) (N := some 16) B22_4 rfl rfl (one_of HT_.out (by kernel_rfl)) (by decide) (fun K hK => ?_); refine goes_ Try.func76 (by kernel_rfl) rfl #[.agg #[.int .i64 ((rd_T28 l0_0 x9_1).f0), .int .i64 ((rd_T28 l0_0 x9_1).f1), .int .i64 ((rd_T28 l0_0 x9_1).f2), .slice A236_3 ((rd_T28 l0_0 x9_1).f3).length c236_3, .slice A236_4 ((rd_T28 l0_0 x9_1).f4).length c236_4]] (by rfl) rfl rfl (by (try simp only [List.map_toArray, List.map_cons, List.map_nil]); first | done | rfl | (simp only [List.length_drop, List.length_take]; rfl)) ?_
    with_reducible refine (node_Copy.calls ((rd_T28 l0_0 x9_1).f0) ((rd_T28 l0_0 x9_1).f1) ((rd_T28 l0_0 x9_1).f2) _ _ ((rd_T28 l0_0 x9_1).f3) _ _ ((rd_T28 l0_0 x9_1).f4) t238 t239 t240 t241 t244 _ ?side1 ?side2 ?side3 ?side4 A11.out).mono ?_
    (case side1 => exact mC HR236_3 HB)
    (case side2 => exact HC236_3.out)
    (case side3 => exact mC HR236_4 HB)
    (case side4 => exact HC236_4.out)
    rintro e w20 ⟨v242, v245, rfl, ho0, ho1, hb⟩; refine ⟨_, rfl, ?_⟩; replace HO_236000 := Aside0.mk (Kd.S_mono (Kd.S_told (Kd.S_told (Kd.S_old (mS HO_236000) hb) (Kd.R_base ho0)) (Kd.R_base ho1)) (fun _ h_ => h_.1)); have HO243 := Aside0.mk (Kd.R_lower ho0 (below_size (mH HB))); have HO246 := Aside0.mk (Kd.R_lower ho1 (below_size (mH HB))); replace BK233 := kB BK233 hb; replace BK234 := kB BK234 hb; replace BK235 := kB BK235 hb; replace BK237 := kB BK237 hb; replace HB := kH HB hb
    (try clear hb); (try clear hk); (try clear ho0); (try clear ho1)
    obtain ⟨Ao22, co22, eo22⟩ := Kd.R_slice HO243.out
    (first | subst eo22 | (injection eo22 with f1_ f2_ f3_; have f4_ := f1_.symm; have f5_ := f3_.symm; clear f1_ f2_ f3_; subst f4_; subst f5_))
    obtain ⟨Ao23, co23, eo23⟩ := Kd.R_slice HO246.out
    (first | subst eo23 | (injection eo23 with f1_ f2_ f3_; have f4_ := f1_.symm; have f5_ := f3_.symm; clear f1_ f2_ f3_; subst f4_; subst f5_))
    refine hK.out _ _ ⟨(bC BK235.out 0).trans rfl, (bC BK237.out 0).trans rfl, (bC BK237.out 1).trans rfl, (bC BK237.out 2).trans rfl, (bC BK237.out 3).trans rfl, (bC BK237.out 4).trans rfl⟩ (fun hHeld => ?_); clear hK K; refine norm_ (a' := ?_) ?_ ?_; rotate_left
    ·
     show Act.put _ (some 16) _ = _
     simp only [Act.put, lT, l0_, lS, i64_w, i32_w]; rfl
    refine one_ (i := 4) (N := some 17) B22_5 rfl rfl (one_of HT_.out (by kernel_rfl)) (by decide) (fun K hK => ?_); refine value_ (w1 := ?_) (v := ?_) (by rfl) rfl ?_ ?_; rotate_left 2
    ·
     go_simp
     constructor
     ·
      rfl
     ·
      rfl
    refine hK.out _ _ ⟨(bC (bA BK235.out _) 0).trans rfl, (bC (bA BK237.out _) 0).trans rfl, (bC (bA BK237.out _) 1).trans rfl, (bC (bA BK237.out _) 2).trans rfl, (bC (bA BK237.out _) 3).trans rfl, (bC (bA BK237.out _) 4).trans rfl⟩ (fun hHeld => ?_); clear hK K; refine norm_ (a' := ?_) ?_ ?_; rotate_left
    ·
     show Act.put _ (some 17) _ = _
     simp only [Act.put, lT, l0_, lS, i64_w, i32_w]; rfl
    refine one_ (i := 5) (N := some 18) B22_6 rfl rfl (one_of HT_.out (by kernel_rfl)) (by decide) (fun K hK => ?_); refine Kd.S_append_step k28 (w0 := w) w.heap.size (by rfl) (.tmp 14) (.tmp 17) 22 28 (.agg #[(.int .i64 0), (.int .i64 0), (.int .i64 0), (.slice none 0 0), (.slice none 0 0)]) 72 rfl Try.underlying22 info28 rfl (by decide) (by omega) u236000 x236000_1 (⟨t238, t239, t240, t241, t244⟩ : S28) [.int .i64 t238, .int .i64 t239, .int .i64 t240, .slice Ao22 t241.length co22, .slice Ao23 t244.length co23] (fun k_ => k_ ≠ gb237) (fun k_ => some k_ = (.slice Ao22 t241.length co22 : Value).ownBlock ∨ some k_ = (.slice Ao23 t244.length co23 : Value).ownBlock) rfl rfl ?aP (fun k_ hk_ => hk_.elim (fun h_ => ((Kd.R_mono (ok' := fun k_ => ((fun k_ => k_ ≠ gb237)) k_ ∧ some k_ ≠ (u236000 : Value).ownBlock) (Kd.R_types (Kd.R_apart' (HO243.out) (Kd.S_typed HO_236000.out) (by decide)) BK237.out (by decide)) (fun k_ hk => ⟨hk.2, hk.1.2⟩))).1 k_ h_.symm) (fun h_ => ((Kd.R_mono (ok' := fun k_ => ((fun k_ => k_ ≠ gb237)) k_ ∧ some k_ ≠ (u236000 : Value).ownBlock) (Kd.R_types (Kd.R_apart' (HO246.out) (Kd.S_typed HO_236000.out) (by decide)) BK237.out (by decide)) (fun k_ hk => ⟨hk.2, hk.1.2⟩))).1 k_ h_.symm)) ?aF ?aO ?aB ?aS ?aL ?_
    (case aP => exact k28_mkM _ _ _ (⟨t238, t239, t240, t241, t244⟩ : S28) (Kd.R_mono (Kd.R_tight rfl (Kd.R_mono (ok' := fun k_ => ((fun k_ => k_ ≠ gb237)) k_ ∧ some k_ ≠ (u236000 : Value).ownBlock) (Kd.R_types (Kd.R_apart' (HO243.out) (Kd.S_typed HO_236000.out) (by decide)) BK237.out (by decide)) (fun k_ hk => ⟨hk.2, hk.1.2⟩))) (fun _ h_ => Or.inl h_)) (Kd.R_mono (Kd.R_tight rfl (Kd.R_mono (ok' := fun k_ => ((fun k_ => k_ ≠ gb237)) k_ ∧ some k_ ≠ (u236000 : Value).ownBlock) (Kd.R_types (Kd.R_apart' (HO246.out) (Kd.S_typed HO_236000.out) (by decide)) BK237.out (by decide)) (fun k_ hk => ⟨hk.2, hk.1.2⟩))) (fun _ h_ => Or.inr (h_))))
    (case aB => exact (mH HB))
    (case aF => exact (fun k_ hk => Kd.freshB (g := gb237) (o := .cells #[.int .i64 ((rd_T28 l0_0 x9_1).f0), .int .i64 ((rd_T28 l0_0 x9_1).f1), .int .i64 ((rd_T28 l0_0 x9_1).f2), .slice A236_3 ((rd_T28 l0_0 x9_1).f3).length c236_3, .slice A236_4 ((rd_T28 l0_0 x9_1).f4).length c236_4] 28 (0, 0)) (mB BK237) k_ hk))
    (case aO => exact (by (with_reducible repeat (first | apply Kd.S_alloc | apply Kd.S_drewN | apply Kd.S_drew)); exact Kd.S_mono HO_236000.out (fun k_ hk => ⟨hk.1.1, fun e_ => e_.elim (fun h_ => hk.1.2 h_) (fun h_ => hk.2 h_)⟩)))
    (case aS => exact (below_size (mH HB)))
    (case aL => have := LMc12.out; omega)
    intro v248 w21 ho hb hg hat; rw [← Ny247.out] at ho; replace BK233 := Aside0.mk (blk_grown (g := gb233) (o := .cells #[.slice (some ad236) l0_0.length c0_0] 24 (0, 0)) (mB BK233) hg (Kd.S_ne HO_236000.out BK233.out (by decide))); replace BK234 := Aside0.mk (blk_grown (g := gb234) (o := .cells #[.slice none 0 0] 24 (0, 0)) (mB BK234) hg (Kd.S_ne HO_236000.out BK234.out (by decide))); replace BK235 := Aside0.mk (blk_grown (g := gb235) (o := .cells #[u236000] 24 (0, 0)) (mB BK235) hg (Kd.S_ne HO_236000.out BK235.out (by decide))); replace BK237 := Aside0.mk (blk_grown (g := gb237) (o := .cells #[.int .i64 ((rd_T28 l0_0 x9_1).f0), .int .i64 ((rd_T28 l0_0 x9_1).f1), .int .i64 ((rd_T28 l0_0 x9_1).f2), .slice A236_3 ((rd_T28 l0_0 x9_1).f3).length c236_3, .slice A236_4 ((rd_T28 l0_0 x9_1).f4).length c236_4] 28 (0, 0)) (mB BK237) hg (Kd.S_away HO_236000.out (fun _ hk => hk.1.1))); replace HB := Aside0.mk (hb); have HO249 := Aside0.mk (ho); clear HO_236000 HO243 HO246; clear ho hb hg hat; obtain ⟨Ao24, co24, eo24⟩ := Kd.S_slice HO249.out
    (first | subst eo24 | (injection eo24 with f1_ f2_ f3_; have f4_ := f1_.symm; have f5_ := f3_.symm; clear f1_ f2_ f3_; subst f4_; subst f5_))
    refine hK.out _ _ ⟨(bC BK235.out 0).trans rfl, (bC BK237.out 0).trans rfl, (bC BK237.out 1).trans rfl, (bC BK237.out 2).trans rfl, (bC BK237.out 3).trans rfl, (bC BK237.out 4).trans rfl⟩ (fun hHeld => ?_); clear hK K; refine norm_ (a' := ?_) ?_ ?_; rotate_left
    ·
     show Act.put _ (some 18) _ = _
     simp only [Act.put, lT, l0_, lS, i64_w, i32_w]; rfl
    refine pureE 6 (some 19) B22_7 (any_of HT_.out (by kernel_rfl)) ?_
    refine last_ (i := 7) (N := none) B22_8 rfl rfl (one_of HT_.out (by kernel_rfl)) (by decide) (fun K hK => ?_); have hs25 := cZ0 BK235; have hfs25 := bZ BK235.out 0; have hns25_0 := NB233_235.out; have hns25_1 := NB234_235.out; have hns25_3 := NB237_235.out; have hms25_0 := NB235_233.out; have hms25_1 := NB235_234.out; have hms25_3 := NB235_237.out; refine skip_ (w1 := ?_) (by rfl) rfl ?_ ?_; rotate_left
    ·
     go_simp; rfl
    refine hK.out _ _ ?_; clear hK K; refine done_ (done_of HT_.out (by kernel_rfl)) ?_
    try go_wp2
    go_roundg k1
    case measure => have := HK1.out; omega
    case rel => exact ⟨(wrap64 (x9_1 + 1)), (y247), (.slice Ao24 y247.length co24), sI, H', ⟨oK HK1⟩, ⟨fS ⟨Kd.S_types HO249.out BK235.out (by decide)⟩⟩, ⟨mF BK233⟩, ⟨mF BK234⟩, ⟨pP BK235⟩, ⟨mH HB⟩⟩
   ·
    rw [if_neg c8] at H; have c8b0 := decide_eq_false c8; clear c8; obtain rfl := Option.some.inj H; have hnb26 := NB235_233.out; have hnc26 := NB233_235.out; have hnb27 := NB235_234.out; have hnc27 := NB234_235.out; obtain ⟨hcz28_0, hfz28_0⟩ := cY0 BK235; obtain ⟨Ao29, co29, eo29⟩ := Kd.S_slice HO_236000.out; subst eo29; have hnb30 := NB234_233.out; have hnc30 := NB233_234.out; obtain ⟨hcz31_0, hfz31_0⟩ := cY0 BK234
    go_wp2
    refine bodyPost_ret (results_cell_row rfl _ _ gb234 24 #[.slice Ao29 x236000_1.length co29] (0, 0) _ rfl (pP BK234) Try.underlying24 rfl (by kernel_rfl)) rfl ?_
    exact ⟨_, rT, fS ⟨Kd.S_types HO_236000.out BK234.out (by decide)⟩, mH HB⟩
def slices_Clone_byte_byte.f (l0 : List Int) : Option (List Int) := if l0.length < 140737488355328 then some l0 else none
theorem slices_Clone_byte_byte.calls (A0 : Option Addr) (c0 : Nat) (l0 : List Int) (r : List Int) (w : World) (hr0 : Kd.C (Kd.int .u8) w A0 l0.length l0) (hc0 : l0.length ≤ c0) (h : slices_Clone_byte_byte.f l0 = some r) :
 Calls Try.prog 59 #[.slice A0 l0.length c0] w fun e w' => ∃ v0_ : Value, e = .returned (v0_) ∧ Kd.R (Kd.int .u8) 5 w' w.heap.size (fun _ => True) v0_ r ∧ Below w.heap.size w w' := by
 unfold slices_Clone_byte_byte.f at h
 by_cases hlim : l0.length < 140737488355328
 ·
  rw [if_pos hlim] at h; obtain rfl := Option.some.inj h; clear h
  cases A0 with
  | none =>
   have hl : l0 = [] := by
    cases l0 with
    | nil => rfl
    | cons x xs => obtain ⟨ad, he, _⟩ := hr0.2.2 (by simp); cases he
   subst hl; clear hr0 hlim; have HB := Aside0.mk (Below.refl w.heap.size w)
   have hnil : ∀ (W : World), (Go.binOp .eql 50 (.slice none 0 c0) (.slice none 0 0)).run Try.prog W = .ok (.bool true) W := fun W => Lib.run_eql_slice_nil W 50 5 none _ _ _ _ Try.underlying50
   go_enter Try.func59, Try.ntmps59
   go_wp2
   go_ret
   exact ⟨_, rfl, Kd.R_nil _ _ _ _ _, HB.out⟩
  | some ad0 =>
   have HR0 := Aside0.mk hr0; have LMc2 := Aside0.mk hlim; clear hr0 hlim; have HB := Aside0.mk (Below.refl w.heap.size w)
   have hnil : ∀ (W : World), (Go.binOp .eql 50 (.slice (some ad0) l0.length c0) (.slice none 0 0)).run Try.prog W = .ok (.bool false) W := fun W => Lib.run_eql_slice_nil W 50 5 (some ad0) _ _ _ _ Try.underlying50
   obtain ⟨y142, hy142⟩ : ∃ y_ : List (Int), y_ = [] := ⟨_, rfl⟩; have Ny142 := Aside0.mk hy142; clear hy142
   go_enter Try.func59, Try.ntmps59
   go_wp2_with (first | ((with_reducible refine gate_dst (N := 5) rfl ?_); refine Kd.R_lit (Kd.int .u8) _ 5 ?hg (N := 5) ?hd (xs := ([] : List (Int))) (inner := []) (ok := fun _ => True) (okp := fun _ => True) ?hr ?hp (fun _ hk => hk) trivial (Below.refl _ _) (Nat.le_refl _) (by simp) ?_; (case hd => rfl); (case hg => rfl); (case hr => first | (go_simp; done) | (go_simp; rfl)); (case hp => exact (Reps.none _ _)); intro v143 w3 ho4 hb hg_ hnew_; clear hg_ hnew_; (first | rw [← Ny142.out] at ho4 | (simp only [Int.reduceToNat] at ho4; rw [← Ny142.out] at ho4)); have HO144 := Aside0.mk (Kd.R_lower ho4 (below_size (mH HB))); replace HB := kH HB hb; clear hb ho4) | ((with_reducible refine gate_builtin (b := .append) (xs := #[.tmp 5, .tmp 6]) rfl ?_); at_builtin; refine Kd.R_append_rows (Kd.int .u8) (w0 := w) w.heap.size rfl (.tmp 5) (.tmp 6) 50 5 (.int .u8 0) 1 rfl Try.underlying50 info5 rfl (by decide) (by omega) v143 y142 l0 _ _ _ (fun _ => True) (fun _ => False) rfl rfl ?aO ?aR (fun _ _ h => h) (fun _ h => h.elim) ?aF ?aB ?aS ?aL ?_; (case aR => repeat (first | exact (Kd.C_below HR0.out HB.out) | (with_reducible refine Kd.C_alloc ?_ _) | (with_reducible refine Kd.C_drewN ?_ _) | (with_reducible refine Kd.C_drew ?_))); (case aB => exact (mH HB)); (case aF => exact (fun _ _ => trivial)); (case aO => exact (mR HO144)); (case aS => exact (below_size (mH HB))); (case aL => have := LMc2.out; have hz := Ny142.out; subst hz; simp only [List.length_nil]; omega); intro v146 w5 ho hb hg hat; have hz := Ny142.out; rw [hz, List.nil_append] at ho; clear hz; replace HB := Aside0.mk (hb); have HO147 := Aside0.mk (ho); clear HO144; clear ho hb hg hat))
   go_ret
   exact ⟨_, rfl, mR HO147, mH HB⟩
 ·
  rw [if_neg hlim] at h
  cases h
end Go.Proofs.Ytkigiehkckjlhaa.PGrows
