/- The Go functions that these laws reach, each as a Lean function with the same answers (a law itself where it answers true), and the proof that the code comes to them; conditions: those of each theorem. Laid by a program of this session over the print. -/
import Derived.Test.YtkigiehkckjlhaaZMakesPMakesx0
import Derived.Test.YtkigiehkckjlhaaZMakesPMakesx1
namespace Go.Proofs.Ytkigiehkckjlhaa.PMakes
open Go.RowKit Go.Proofs.YtkigiehkckjlhaaW.PrintWords Go.Proofs.YtkigiehkckjlhaaW.PrintLast Go.Proofs.YtkigiehkckjlhaaW.PrintMore
attribute [local go_sem] max2_int min2_int max_two min_two max_three min_three max_four min_four   -- for this text's walks alone
set_option linter.unusedVariables false
set_option linter.unusedSimpArgs false
open Go.Proofs.YtkigiehkckjlhaaW.PrintWords renaming blk_drewN → bN, blk_drew → bD, blk_alloc → bA, below_set → wS, below_alloc → wA, pw_below_drewN → wN, below_drew1 → wD, blk_below → bB, blk_far → bF, blk_cell → bC, blk_frozen → bZ
open List renaming setIfInBounds_toArray → lT, set_cons_zero → l0_, set_cons_succ → lS
abbrev B2_0 : Array Bool := #[false, false, false, false, false, false, false, false, false, false, false, false, false, false, false, false, false, false]
abbrev B2_1 : Array Bool := #[true, false, false, false, false, false, false, false, false, false, false, false, false, false, false, false, false, false]
abbrev B2_2 : Array Bool := #[true, true, false, false, false, false, false, false, false, false, false, false, false, false, false, false, false, false]
abbrev B2_3 : Array Bool := #[true, true, true, false, false, false, false, false, false, false, false, false, false, false, false, false, false, false]
abbrev B2_4 : Array Bool := #[true, true, true, true, false, false, false, false, false, false, false, false, false, false, false, false, false, false]
abbrev B2_5 : Array Bool := #[true, true, true, true, true, false, false, false, false, false, false, false, false, false, false, false, false, false]
abbrev B2_6 : Array Bool := #[true, true, true, true, true, true, false, false, false, false, false, false, false, false, false, false, false, false]
abbrev B2_7 : Array Bool := #[true, true, true, true, true, true, true, false, false, false, false, false, false, false, false, false, false, false]
abbrev B2_8 : Array Bool := #[true, true, true, true, true, true, true, true, false, false, false, false, false, false, false, false, false, false]
abbrev B2_9 : Array Bool := #[true, true, true, true, true, true, true, true, true, false, false, false, false, false, false, false, false, false]
abbrev B2_10 : Array Bool := #[true, true, true, true, true, true, true, true, true, true, false, false, false, false, false, false, false, false]
abbrev B2_11 : Array Bool := #[true, true, true, true, true, true, true, true, true, true, true, false, false, false, false, false, false, false]
abbrev B2_12 : Array Bool := #[true, true, true, true, true, true, true, true, true, true, true, true, false, false, false, false, false, false]
abbrev B2_13 : Array Bool := #[true, true, true, true, true, true, true, true, true, true, true, true, true, false, false, false, false, false]
abbrev B2_14 : Array Bool := #[true, true, true, true, true, true, true, true, true, true, true, true, true, true, false, false, false, false]
abbrev B2_15 : Array Bool := #[true, true, true, true, true, true, true, true, true, true, true, true, true, true, true, false, false, false]
abbrev B2_16 : Array Bool := #[true, true, true, true, true, true, true, true, true, true, true, true, true, true, true, true, false, false]
abbrev B2_17 : Array Bool := #[true, true, true, true, true, true, true, true, true, true, true, true, true, true, true, true, true, false]
abbrev B2_18 : Array Bool := #[true, true, true, true, true, true, true, true, true, true, true, true, true, true, true, true, true, true]
def name_May.l0 : Nat → List (S78) → List (S78) → Int → Int → Option (Bool)
 | 0, _, _, _, _ => none
 | k + 1, x0, x5, x6, x7 => if x7 < x6 then (if 0 ≤ x7 then (if x7 < (x5.length : Int) then ((name_sole.f k ((rd_T78 x5 x7).f0) ((rd_T78 x5 x7).f1)).bind fun t110 => (if t110 = true then (if x7 > 0 then (none) else (name_May.l0 k x0 x5 x6 (wrap64 (x7 + 1)))) else (none))) else (none)) else (none)) else (some (decide ((x0.length : Int) ≤ 10)))
def name_May.f (k : Nat) (l0 : List (S78)) : Option (Bool) := name_May.l0 k l0 l0 (l0.length : Int) 0
theorem name_May.mono_l : ∀ k, (∀ y0 y1 y2 y3, LeO (name_May.l0 k y0 y1 y2 y3) (name_May.l0 (k + 1) y0 y1 y2 y3))
 | 0 => fun _ _ _ _ r h => by simp [name_May.l0] at h
 | k + 1 => by
  have ih0 := name_May.mono_l k
  ·
   intro y0 y1 y2 y3
   unfold name_May.l0
   repeat' first
   | (with_reducible exact ih0 _ _ _ _)
   | (with_reducible exact name_sole.mono _ _ _)
   | (with_reducible exact LeO.refl _)
   | (with_reducible exact LeO.none _)
   | (with_reducible refine LeO.ite ?_ ?_)
   | (with_reducible refine LeO.bind ?_ (fun _ => ?_))
   | exact ih0 _ _ _ _
   | exact name_sole.mono _ _ _
   | exact LeO.none _
   | refine LeO.ite ?_ ?_
   | refine LeO.bind ?_ (fun _ => ?_)
theorem name_May.mono : ∀ a0 k, LeO (name_May.f k a0) (name_May.f (k + 1) a0) := by
 intro a0 k; have ih0 := name_May.mono_l k
 unfold name_May.f
 repeat' first
  | (with_reducible exact ih0 _ _ _ _)
  | (with_reducible exact name_sole.mono _ _ _)
  | (with_reducible exact LeO.refl _)
  | (with_reducible exact LeO.none _)
  | (with_reducible refine LeO.ite ?_ ?_)
  | (with_reducible refine LeO.bind ?_ (fun _ => ?_))
  | exact ih0 _ _ _ _
  | exact name_sole.mono _ _ _
  | exact LeO.none _
  | refine LeO.ite ?_ ?_
  | refine LeO.bind ?_ (fun _ => ?_)
def name_May.T4 : Bool × List (List Nat × List Nat) := (true, [([], []), ([0], [0]), ([1], [1]), ([2, 1], [2]), ([3], [3]), ([4, 3], [3, 4]), ([5, 3, 3], [3, 5]), ([6], [6]), ([6], [6]), ([8, 6], [6, 8]), ([7, 9, 6], [6, 7, 9]), ([10, 6], [6, 10]), ([11, 6], [6, 11]), ([6], [6]), ([13, 6], [6, 13]), ([12, 14, 6], [6, 12, 14]), ([6, 15, 3], [3, 6, 15]), ([3, 16], [3, 16])])
def name_May.B4 : List Nat := [0, 1, 3, 7, 15, 31, 63, 127, 127, 383, 1023, 2047, 4095, 127, 8319, 32767, 65535, 131071]
theorem name_May.tab4 : rtab .any (opsOf Try.f68 4) = name_May.T4 := by kernel_rfl
theorem name_May.bits4 : waitsOk name_May.T4.2 name_May.B4 = true := by kernel_rfl
set_option maxHeartbeats 8000000 in
set_option maxRecDepth 100000 in
theorem name_May.calls (k : Nat) (A0 : Option Addr) (c0 : Nat) (l0 : List (S78)) (r : Bool) (w : World) (hr0 : Kd.C k78 w A0 l0.length l0) (hc0 : l0.length ≤ c0) (h : name_May.f k l0 = some r) :
 Calls Try.prog 68 #[.slice A0 l0.length c0] w fun e w' => e = .returned (.bool r) ∧ Below w.heap.size w w' := by
 have hu78 := Try.underlying78; have HR0 := Aside0.mk hr0; have HC0 := Aside0.mk hc0; clear hr0 hc0; have HB := Aside0.mk (Below.refl w.heap.size w); have H : (name_May.l0 k l0 l0 (l0.length : Int) 0) = some r := h; clear h; have H' := Aside0.mk H; clear H
 go_enter Try.func68, Try.ntmps68
 go_wp2
 go_loopg [7] k (fun kq v7 w' => ∃ (x7_1 : Int), v7 = .int .i64 x7_1 ∧ Aside0 (name_May.l0 kq l0 l0 (l0.length : Int) x7_1 = some r) ∧ Aside0 (kq ≤ k) ∧ Aside0 (Below w.heap.size w w'))
 case atStart => exact ⟨(0), (by first | rfl | (simp; done) | (simp [*]; done)), H', ⟨Nat.le_refl _⟩, ⟨by repeat (first | (with_reducible first | exact HB.out | apply wA | apply wN | apply wD) | exact HB.out)⟩⟩
 case round =>
  clear H'; obtain ⟨x7_1, rfl, HA, HK1, HB⟩ := hrel
  cases gk with
  | zero => exact absurd HA.out (by simp [name_May.l0])
  | succ k1 =>
   have H := HA.out; clear HA; simp only [name_May.l0] at H
   by_cases c2 : x7_1 < (l0.length : Int)
   ·
    rw [if_pos c2] at H; have c2b0 : decide (x7_1 < (l0.length : Int)) = true := decide_eq_true c2; clear c2
    by_cases c3 : 0 ≤ x7_1
    ·
     rw [if_pos c3] at H; have c3b0 : decide (0 ≤ x7_1) = true := decide_eq_true c3; clear c3
     by_cases c4 : x7_1 < (l0.length : Int)
     ·
      rw [if_pos c4] at H; have c4b0 : decide (x7_1 < (l0.length : Int)) = true := decide_eq_true c4; clear c4; replace H := Option.bind_eq_some_iff.mp H; obtain ⟨t110, A50, H⟩ := H; replace H : (if t110 = true then (if x7_1 > 0 then (none) else (name_May.l0 k1 l0 l0 (l0.length : Int) (wrap64 (x7_1 + 1)))) else (none)) = some r := H; have A5 := Aside0.mk A50; clear A50
      by_cases c6 : t110 = true
      ·
       subst c6
       have H1 : (if x7_1 > 0 then (none) else (name_May.l0 k1 l0 l0 (l0.length : Int) (wrap64 (x7_1 + 1)))) = some r := by rw [if_pos rfl] at H; exact H
       clear H; have H := H1; clear H1
       by_cases c7 : x7_1 > 0
       ·
        rw [if_pos c7] at H; exact absurd H (by simp)
       ·
        rw [if_neg c7] at H; have c7b0 : decide (0 < x7_1) = false := decide_eq_false c7; clear c7; have H' := Aside0.mk H; clear H; have p108 : 0 ≤ (x7_1 : Int) := of_decide_eq_true (by first | (with_reducible assumption) | assumption); have q108 : x7_1 < (l0.length : Int) := of_decide_eq_true (by first | (with_reducible assumption) | assumption); obtain ⟨ad108, e108, hx108_0, hx108_1⟩ := at_T78 HR0.out x7_1 p108 q108
        cases e108
        replace hx108_0 := (HB.out.cell (World.block_lt_of_cell? w _ hx108_0)).trans hx108_0; replace hx108_1 := (HB.out.cell (World.block_lt_of_cell? w _ hx108_1)).trans hx108_1; replace p108 := eq_true p108; replace q108 := eq_true q108
        try go_wp2_with (first | ((with_reducible refine gate_dst (N := 4) rfl ?_); refine box_event ?hg (N := 4) ?hd (cs := #[.string (⟨#[]⟩ : ByteArray), .int .i64 0]) (t := 78) ?hr ?_; (case hd => rfl); (case hg => rfl); (case hr => first | (go_simp; done) | (go_simp; rfl)); intro gb109 hg w8 hbox hb; have n0_ := Aside0.mk (below_step (by repeat (first | (with_reducible first | exact HB.out | apply wA | apply wN | apply wD) | exact HB.out)) hb); have n1_ := Aside0.mk (hbox); have n2_ := Aside0.mk ((by rw [hg]; exact (below_size (by repeat (first | (with_reducible first | exact HB.out | apply wA | apply wN | apply wD) | exact HB.out))) : w.heap.size ≤ gb109)); have n3_ := Aside0.mk ((by rw [hg]; exact (below_size (by repeat (first | (with_reducible first | exact HB.out | apply wA | apply wN | apply wD) | exact HB.out))) : w.heap.size ≤ gb109)); clear HB; have HB := n0_; have BK109 := n1_; have GW109 := n2_; have GE109 := n3_; clear n0_ n1_ n2_ n3_; clear hb hbox hg; have hcz9_0 : w8.cell? ⟨gb109, 0, none⟩ = some (.string (⟨#[]⟩ : ByteArray)) := (bC BK109.out 0).trans rfl; have hcz9_1 : w8.cell? ⟨gb109, 1, none⟩ = some (.int .i64 0) := (bC BK109.out 1).trans rfl; have hfz9_0 := bZ BK109.out 0; have hfz9_1 := bZ BK109.out 1))
        have n0_ : Aside0 (((w8.setCell ⟨gb109, 0, none⟩ (.string ((rd_T78 l0 x7_1).f0))).setCell ⟨gb109, 1, none⟩ (.int .i64 ((rd_T78 l0 x7_1).f1))).heap[gb109]? = some (.cells #[.string ((rd_T78 l0 x7_1).f0), .int .i64 ((rd_T78 l0 x7_1).f1)] 78 (0, 0))) := ⟨by (with_reducible repeat (first | refine bN ?_ _ | refine bD ?_ | refine bA ?_ _)); refine blk_put (cs := #[.string ((rd_T78 l0 x7_1).f0), .int .i64 0]) ?_ 1 _ rfl; (with_reducible repeat (first | refine bN ?_ _ | refine bD ?_ | refine bA ?_ _)); refine blk_put (cs := #[.string (⟨#[]⟩ : ByteArray), .int .i64 0]) ?_ 0 _ rfl; (with_reducible repeat (first | refine bN ?_ _ | refine bD ?_ | refine bA ?_ _)); exact BK109.out⟩
        have n1_ : Aside0 (Below w.heap.size w ((w8.setCell ⟨gb109, 0, none⟩ (.string ((rd_T78 l0 x7_1).f0))).setCell ⟨gb109, 1, none⟩ (.int .i64 ((rd_T78 l0 x7_1).f1)))) := ⟨by repeat (first | (with_reducible first | exact HB.out | apply wA | apply wN | apply wD | refine wS ?_ GE109.out) | exact HB.out)⟩
        (try clear BK109)
        (try clear HB)
        generalize ((w8.setCell ⟨gb109, 0, none⟩ (.string ((rd_T78 l0 x7_1).f0))).setCell ⟨gb109, 1, none⟩ (.int .i64 ((rd_T78 l0 x7_1).f1))) = w10 at n0_ n1_ ⊢; have BK109 := n0_; have HB := n1_; clear n0_ n1_; have n0_ := Aside0.mk (bD BK109.out); have n1_ := Aside0.mk (wD HB.out); clear BK109; clear HB; have BK109 := n0_; have HB := n1_; clear n0_ n1_; refine start_ (n := 18) (S := fun w' => w'.cell? ⟨gb109, 0, none⟩ = some (.string ((rd_T78 l0 x7_1).f0)) ∧ w'.cell? ⟨gb109, 1, none⟩ = some (.int .i64 ((rd_T78 l0 x7_1).f1))) (ds := []) B2_0 (by kernel_rfl) rfl rfl ⟨(bC BK109.out 0).trans rfl, (bC BK109.out 1).trans rfl⟩ (fun hHeld => ?_); refine with_tabW name_May.tab4 name_May.bits4 (fun HT_ HW_ => ?_); generalize w10.drew = w11 at BK109 HB hHeld ⊢; refine take_ (i := 0) (N := some 12) (v := ?_) (a' := ?_) B2_1 rfl rfl (take_ofW HT_.out HW_.out (by kernel_rfl)) (fun _ _ _ h => h) (Or.inl ⟨by rfl, ?_⟩) hHeld ?_ ?_; rotate_left
        ·
         rintro w' ⟨s0, s1⟩; go_simp; with_reducible rfl
        rotate_left
        ·
         simp only [Act.put, lT, l0_, lS, i64_w, i32_w]; rfl
        refine one_ (i := 1) (N := some 13) B2_2 rfl rfl (one_of HT_.out (by kernel_rfl)) (by decide) (fun K hK => ?_); refine goes_ Try.func82 (by kernel_rfl) rfl #[.agg #[.string ((rd_T78 l0 x7_1).f0), .int .i64 ((rd_T78 l0 x7_1).f1)]] (by rfl) rfl rfl (by (try simp only [List.map_toArray, List.map_cons, List.map_nil]); first | done | rfl | (simp only [List.length_drop, List.length_take]; rfl)) ?_
        with_reducible refine (name_sole.calls k1 ((rd_T78 l0 x7_1).f0) ((rd_T78 l0 x7_1).f1) true _ A5.out).mono ?_
        rintro e w12 ⟨rfl, hb⟩; refine ⟨_, rfl, ?_⟩; have n0_ := Aside0.mk (bB (g := gb109) (o := .cells #[.string ((rd_T78 l0 x7_1).f0), .int .i64 ((rd_T78 l0 x7_1).f1)] 78 (0, 0)) (by (with_reducible repeat (first | refine bN ?_ _ | refine bD ?_ | refine bA ?_ _)); exact BK109.out) hb)
        have n1_ := Aside0.mk (below_step (by repeat (first | (with_reducible first | exact HB.out | apply wA | apply wN | apply wD | refine wS ?_ GE109.out) | exact HB.out)) hb); clear BK109; clear HB; have BK109 := n0_; have HB := n1_; clear n0_ n1_
        (try clear hb)
        (try clear hb2)
        (try clear hk)
        (try clear hi)
        refine hK.out _ _ ⟨(bC BK109.out 0).trans rfl, (bC BK109.out 1).trans rfl⟩ (fun hHeld => ?_); clear hK K; refine norm_ (a' := ?_) ?_ ?_; rotate_left
        ·
         show Act.put _ (some 13) _ = _
         simp only [Act.put, lT, l0_, lS, i64_w, i32_w]; rfl
        refine pure_ (i := 2) (N := some 14) (v := ?_) (a' := ?_) B2_3 rfl rfl (any_of HT_.out (by kernel_rfl)) (fun _ _ _ h => h) (Or.inl ⟨by rfl, ?_⟩) ?_ ?_; rotate_left
        ·
         intro w'; go_simp; with_reducible rfl
        rotate_left
        ·
         simp only [Act.put, lT, l0_, lS, i64_w, i32_w]; rfl
        refine pure_ (i := 3) (N := some 15) (v := ?_) (a' := ?_) B2_4 rfl rfl (any_of HT_.out (by kernel_rfl)) (fun _ _ _ h => h) (Or.inl ⟨by rfl, ?_⟩) ?_ ?_; rotate_left
        ·
         intro w'; go_simp; with_reducible rfl
        rotate_left
        ·
         simp only [Act.put, lT, l0_, lS, i64_w, i32_w]; rfl
        refine pure_ (i := 4) (N := some 16) (v := ?_) (a' := ?_) B2_5 rfl rfl (any_of HT_.out (by kernel_rfl)) (fun _ _ _ h => h) (Or.inl ⟨by rfl, ?_⟩) ?_ ?_; rotate_left
        ·
         intro w'; go_simp; with_reducible rfl
        rotate_left
        ·
         simp only [Act.put, lT, l0_, lS, i64_w, i32_w]; rfl
        refine pure_ (i := 5) (N := some 17) (v := ?_) (a' := ?_) B2_6 rfl rfl (any_of HT_.out (by kernel_rfl)) (fun _ _ _ h => h) (Or.inl ⟨by rfl, ?_⟩) ?_ ?_; rotate_left
        ·
         intro w'; go_simp; with_reducible rfl
        rotate_left
        ·
         simp only [Act.put, lT, l0_, lS, i64_w, i32_w]; rfl
        refine pure_ (i := 6) (N := some 18) (v := ?_) (a' := ?_) B2_7 rfl rfl (any_of HT_.out (by kernel_rfl)) (fun _ _ _ h => h) (Or.inl ⟨by rfl, ?_⟩) ?_ ?_; rotate_left
        ·
         intro w'; go_simp; with_reducible rfl
        rotate_left
        ·
         simp only [Act.put, lT, l0_, lS, i64_w, i32_w]; rfl
        refine pure_ (i := 7) (N := some 19) (v := undef) (a' := ?_) B2_8 rfl rfl (any_of HT_.out (by kernel_rfl)) (fun _ _ _ h => h) (Or.inr ⟨by rfl, rfl⟩) ?_ ?_; rotate_left
        ·
         simp only [Act.put, lT, l0_, lS, i64_w, i32_w]; rfl
        refine pure_ (i := 8) (N := some 20) (v := undef) (a' := ?_) B2_9 rfl rfl (any_of HT_.out (by kernel_rfl)) (fun _ _ _ h => h) (Or.inr ⟨by rfl, rfl⟩) ?_ ?_; rotate_left
        ·
         simp only [Act.put, lT, l0_, lS, i64_w, i32_w]; rfl
        refine pure_ (i := 9) (N := some 21) (v := undef) (a' := ?_) B2_10 rfl rfl (any_of HT_.out (by kernel_rfl)) (fun _ _ _ h => h) (Or.inr ⟨by rfl, rfl⟩) ?_ ?_; rotate_left
        ·
         simp only [Act.put, lT, l0_, lS, i64_w, i32_w]; rfl
        refine pure_ (i := 10) (N := some 22) (v := undef) (a' := ?_) B2_11 rfl rfl (any_of HT_.out (by kernel_rfl)) (fun _ _ _ h => h) (Or.inr ⟨by rfl, rfl⟩) ?_ ?_; rotate_left
        ·
         simp only [Act.put, lT, l0_, lS, i64_w, i32_w]; rfl
        refine pure_ (i := 11) (N := some 23) (v := undef) (a' := ?_) B2_12 rfl rfl (any_of HT_.out (by kernel_rfl)) (fun _ _ _ h => h) (Or.inr ⟨by rfl, rfl⟩) ?_ ?_; rotate_left
        ·
         simp only [Act.put, lT, l0_, lS, i64_w, i32_w]; rfl
        refine pure_ (i := 12) (N := some 24) (v := undef) (a' := ?_) B2_13 rfl rfl (any_of HT_.out (by kernel_rfl)) (fun _ _ _ h => h) (Or.inr ⟨by rfl, rfl⟩) ?_ ?_; rotate_left
        ·
         simp only [Act.put, lT, l0_, lS, i64_w, i32_w]; rfl
        refine pure_ (i := 13) (N := some 25) (v := undef) (a' := ?_) B2_14 rfl rfl (any_of HT_.out (by kernel_rfl)) (fun _ _ _ h => h) (Or.inr ⟨by rfl, rfl⟩) ?_ ?_; rotate_left
        ·
         simp only [Act.put, lT, l0_, lS, i64_w, i32_w]; rfl
        refine pure_ (i := 14) (N := some 26) (v := undef) (a' := ?_) B2_15 rfl rfl (any_of HT_.out (by kernel_rfl)) (fun _ _ _ h => h) (Or.inr ⟨by rfl, rfl⟩) ?_ ?_; rotate_left
        ·
         simp only [Act.put, lT, l0_, lS, i64_w, i32_w]; rfl
        refine pure_ (i := 15) (N := some 27) (v := undef) (a' := ?_) B2_16 rfl rfl (any_of HT_.out (by kernel_rfl)) (fun _ _ _ h => h) (Or.inr ⟨by rfl, rfl⟩) ?_ ?_; rotate_left
        ·
         simp only [Act.put, lT, l0_, lS, i64_w, i32_w]; rfl
        refine pure_ (i := 16) (N := some 28) (v := ?_) (a' := ?_) B2_17 rfl rfl (any_of HT_.out (by kernel_rfl)) (fun _ _ _ h => h) (Or.inl ⟨by rfl, ?_⟩) ?_ ?_; rotate_left
        ·
         intro w'; go_simp; with_reducible rfl
        rotate_left
        ·
         simp only [Act.put, lT, l0_, lS, i64_w, i32_w]; rfl
        refine pure_ (i := 17) (N := some 29) (v := ?_) (a' := ?_) B2_18 rfl rfl (any_of HT_.out (by kernel_rfl)) (fun _ _ _ h => h) (Or.inl ⟨by rfl, ?_⟩) ?_ ?_; rotate_left
        ·
         intro w'; go_simp; with_reducible rfl
        rotate_left
        ·
         simp only [Act.put, lT, l0_, lS, i64_w, i32_w]; rfl
        refine done_ (done_of HT_.out (by kernel_rfl)) ?_
        try go_wp2
        go_roundg k1
        case measure => have := HK1.out; omega
        case rel => exact ⟨(wrap64 (x7_1 + 1)), (by first | rfl | (simp; done) | (simp [*]; done)), H', ⟨by have := HK1.out; omega⟩, ⟨by repeat (first | (with_reducible first | exact HB.out | apply wA | apply wN | apply wD | refine wS ?_ GE109.out) | exact HB.out)⟩⟩
      ·
       replace c6 := Bool.eq_false_iff.mpr c6; subst c6
       have H1 : (none) = some r := by rw [if_neg (show ¬ (false = true) by decide)] at H; exact H
       clear H; have H := H1; clear H1; exact absurd H (by simp)
     ·
      rw [if_neg c4] at H; exact absurd H (by simp)
    ·
     rw [if_neg c3] at H; exact absurd H (by simp)
   ·
    rw [if_neg c2] at H; have c2b0 : decide (x7_1 < (l0.length : Int)) = false := decide_eq_false c2; clear c2; obtain rfl := Option.some.inj H
    go_wp2
    go_ret
    exact ⟨by first | rfl | exact congrArg (fun b_ => Ending.returned (Value.bool b_)) HRET.out | (rw [HRET.out]) | (simp [errW_none, errW_some] <;> rfl) | (simp [*, errW_none, errW_some] <;> rfl), by repeat (first | (with_reducible first | exact HB.out | apply wA | apply wN | apply wD) | exact HB.out)⟩
def node_May.f (k : Nat) (a0_0 : Int) (a0_1 : Int) (a0_2 : Int) (l0_3 : List Int) (l0_4 : List (S78)) : Option (Bool) := if a0_0 = 0 then (if a0_1 = 0 then (if a0_2 = 0 then (if (l0_3.length : Int) = 0 then (some ((l0_4.length : Int) == 0)) else (none)) else (none)) else (none)) else (if a0_0 = 1 then ((node_file.f k a0_0 a0_1 a0_2 l0_3 l0_4).bind fun t113 => (some t113)) else (if a0_0 = 2 then (if a0_1 = 1 then (if a0_2 = 0 then (if (l0_3.length : Int) = 0 then ((name_May.f k l0_4).bind fun t114 => (some t114)) else (none)) else (none)) else (none)) else (none)))
theorem node_May.mono : ∀ a0 a1 a2 a3 a4 k, LeO (node_May.f k a0 a1 a2 a3 a4) (node_May.f (k + 1) a0 a1 a2 a3 a4) := by
 intro a0 a1 a2 a3 a4 k
 unfold node_May.f
 repeat' first
  | (with_reducible exact name_May.mono _ _)
  | (with_reducible exact node_file.mono _ _ _ _ _ _)
  | (with_reducible exact LeO.refl _)
  | (with_reducible exact LeO.none _)
  | (with_reducible refine LeO.ite ?_ ?_)
  | (with_reducible refine LeO.bind ?_ (fun _ => ?_))
  | exact name_May.mono _ _
  | exact node_file.mono _ _ _ _ _ _
  | exact LeO.none _
  | refine LeO.ite ?_ ?_
  | refine LeO.bind ?_ (fun _ => ?_)
set_option maxHeartbeats 8000000 in
set_option maxRecDepth 100000 in
theorem node_May.calls (k : Nat) (a0_0 : Int) (a0_1 : Int) (a0_2 : Int) (A0_3 : Option Addr) (c0_3 : Nat) (l0_3 : List Int) (A0_4 : Option Addr) (c0_4 : Nat) (l0_4 : List (S78)) (r : Bool) (w : World) (hr0_3 : Kd.C (Kd.int .i64) w A0_3 l0_3.length l0_3) (hc0_3 : l0_3.length ≤ c0_3) (hr0_4 : Kd.C k78 w A0_4 l0_4.length l0_4) (hc0_4 : l0_4.length ≤ c0_4) (h : node_May.f k a0_0 a0_1 a0_2 l0_3 l0_4 = some r) :
 Calls Try.prog 48 #[.agg #[.int .i64 a0_0, .int .i64 a0_1, .int .i64 a0_2, .slice A0_3 l0_3.length c0_3, .slice A0_4 l0_4.length c0_4]] w fun e w' => e = .returned (.bool r) ∧ Below w.heap.size w w' := by
 have hu28 := Try.underlying28; have HR0_3 := Aside0.mk hr0_3; have HC0_3 := Aside0.mk hc0_3; clear hr0_3 hc0_3; have HR0_4 := Aside0.mk hr0_4; have HC0_4 := Aside0.mk hc0_4; clear hr0_4 hc0_4; have HB := Aside0.mk (Below.refl w.heap.size w); have H : (if a0_0 = 0 then (if a0_1 = 0 then (if a0_2 = 0 then (if (l0_3.length : Int) = 0 then (some ((l0_4.length : Int) == 0)) else (none)) else (none)) else (none)) else (if a0_0 = 1 then ((node_file.f k a0_0 a0_1 a0_2 l0_3 l0_4).bind fun t113 => (some t113)) else (if a0_0 = 2 then (if a0_1 = 1 then (if a0_2 = 0 then (if (l0_3.length : Int) = 0 then ((name_May.f k l0_4).bind fun t114 => (some t114)) else (none)) else (none)) else (none)) else (none)))) = some r := h; clear h
 by_cases c2 : a0_0 = 0
 ·
  rw [if_pos c2] at H; have c2b0 : (a0_0 == 0) = true := beq_iff_eq.mpr c2; have c2b1 : (a0_0 != 0) = false := bne_eq_false_iff_eq.mpr c2; clear c2
  by_cases c3 : a0_1 = 0
  ·
   rw [if_pos c3] at H; have c3b0 : (a0_1 == 0) = true := beq_iff_eq.mpr c3; have c3b1 : (a0_1 != 0) = false := bne_eq_false_iff_eq.mpr c3; clear c3
   by_cases c4 : a0_2 = 0
   ·
    rw [if_pos c4] at H; have c4b0 : (a0_2 == 0) = true := beq_iff_eq.mpr c4; have c4b1 : (a0_2 != 0) = false := bne_eq_false_iff_eq.mpr c4; clear c4
    by_cases c5 : (l0_3.length : Int) = 0
    ·
     rw [if_pos c5] at H; have c5b0 : ((l0_3.length : Int) == 0) = true := beq_iff_eq.mpr c5; have c5b1 : ((l0_3.length : Int) != 0) = false := bne_eq_false_iff_eq.mpr c5; clear c5; obtain rfl := Option.some.inj H
     go_enter Try.func48, Try.ntmps48
     go_wp2_with (first | ((with_reducible refine gate_dst (N := 1) rfl ?_); (try (refine gate_guard (by rfl) ?_; dsimp only)); refine box_event ?hg (N := 1) ?hd (cs := #[.int .i64 a0_0, .int .i64 a0_1, .int .i64 a0_2, .slice A0_3 l0_3.length c0_3, .slice A0_4 l0_4.length c0_4]) (t := 28) ?hr ?_; (case hd => rfl); (case hg => rfl); (case hr => first | (go_simp; done) | (go_simp; rfl)); intro gb112 hg w6 hbox hb; have n0_ := Aside0.mk (below_step (by repeat (first | (with_reducible first | exact HB.out | apply wA | apply wN | apply wD) | exact HB.out)) hb); have n1_ := Aside0.mk (hbox); have n2_ := Aside0.mk ((by rw [hg]; exact (below_size (by repeat (first | (with_reducible first | exact HB.out | apply wA | apply wN | apply wD) | exact HB.out))) : w.heap.size ≤ gb112)); have n3_ := Aside0.mk ((by rw [hg]; exact (below_size (by repeat (first | (with_reducible first | exact HB.out | apply wA | apply wN | apply wD) | exact HB.out))) : w.heap.size ≤ gb112)); clear HB; have HB := n0_; have BK112 := n1_; have GW112 := n2_; have GE112 := n3_; clear n0_ n1_ n2_ n3_; clear hb hbox hg; have hcz7_0 : w6.cell? ⟨gb112, 0, none⟩ = some (.int .i64 a0_0) := (bC BK112.out 0).trans rfl; have hcz7_1 : w6.cell? ⟨gb112, 1, none⟩ = some (.int .i64 a0_1) := (bC BK112.out 1).trans rfl; have hcz7_2 : w6.cell? ⟨gb112, 2, none⟩ = some (.int .i64 a0_2) := (bC BK112.out 2).trans rfl; have hcz7_3 : w6.cell? ⟨gb112, 3, none⟩ = some (.slice A0_3 l0_3.length c0_3) := (bC BK112.out 3).trans rfl; have hcz7_4 : w6.cell? ⟨gb112, 4, none⟩ = some (.slice A0_4 l0_4.length c0_4) := (bC BK112.out 4).trans rfl; have hfz7_0 := bZ BK112.out 0; have hfz7_1 := bZ BK112.out 1; have hfz7_2 := bZ BK112.out 2; have hfz7_3 := bZ BK112.out 3; have hfz7_4 := bZ BK112.out 4))
     go_ret
     exact ⟨by first | rfl | exact congrArg (fun b_ => Ending.returned (Value.bool b_)) HRET.out | (rw [HRET.out]) | (simp [errW_none, errW_some] <;> rfl) | (simp [*, errW_none, errW_some] <;> rfl), by repeat (first | (with_reducible first | exact HB.out | apply wA | apply wN | apply wD | refine wS ?_ GE112.out) | exact HB.out)⟩
    ·
     rw [if_neg c5] at H; exact absurd H (by simp)
   ·
    rw [if_neg c4] at H; exact absurd H (by simp)
  ·
   rw [if_neg c3] at H; exact absurd H (by simp)
 ·
  rw [if_neg c2] at H; have c2b0 : (a0_0 == 0) = false := beq_eq_false_iff_ne.mpr c2; have c2b1 : (a0_0 != 0) = true := bne_iff_ne.mpr c2
  by_cases c8 : a0_0 = 1
  ·
   rw [if_pos c8] at H; have c8b0 : (a0_0 == 1) = true := beq_iff_eq.mpr c8; have c8b1 : (a0_0 != 1) = false := bne_eq_false_iff_eq.mpr c8; clear c8; replace H := Option.bind_eq_some_iff.mp H; obtain ⟨t113, A90, H⟩ := H; replace H : (some t113) = some r := H; have A9 := Aside0.mk A90; clear A90; obtain rfl := Option.some.inj H
   go_enter Try.func48, Try.ntmps48
   go_wp2_with (first | ((with_reducible refine gate_dst (N := 1) rfl ?_); (try (refine gate_guard (by rfl) ?_; dsimp only)); refine box_event ?hg (N := 1) ?hd (cs := #[.int .i64 a0_0, .int .i64 a0_1, .int .i64 a0_2, .slice A0_3 l0_3.length c0_3, .slice A0_4 l0_4.length c0_4]) (t := 28) ?hr ?_; (case hd => rfl); (case hg => rfl); (case hr => first | (go_simp; done) | (go_simp; rfl)); intro gb112 hg w10 hbox hb; have n0_ := Aside0.mk (below_step (by repeat (first | (with_reducible first | exact HB.out | apply wA | apply wN | apply wD) | exact HB.out)) hb); have n1_ := Aside0.mk (hbox); have n2_ := Aside0.mk ((by rw [hg]; exact (below_size (by repeat (first | (with_reducible first | exact HB.out | apply wA | apply wN | apply wD) | exact HB.out))) : w.heap.size ≤ gb112)); have n3_ := Aside0.mk ((by rw [hg]; exact (below_size (by repeat (first | (with_reducible first | exact HB.out | apply wA | apply wN | apply wD) | exact HB.out))) : w.heap.size ≤ gb112)); clear HB; have HB := n0_; have BK112 := n1_; have GW112 := n2_; have GE112 := n3_; clear n0_ n1_ n2_ n3_; clear hb hbox hg; have hcz11_0 : w10.cell? ⟨gb112, 0, none⟩ = some (.int .i64 a0_0) := (bC BK112.out 0).trans rfl; have hcz11_1 : w10.cell? ⟨gb112, 1, none⟩ = some (.int .i64 a0_1) := (bC BK112.out 1).trans rfl; have hcz11_2 : w10.cell? ⟨gb112, 2, none⟩ = some (.int .i64 a0_2) := (bC BK112.out 2).trans rfl; have hcz11_3 : w10.cell? ⟨gb112, 3, none⟩ = some (.slice A0_3 l0_3.length c0_3) := (bC BK112.out 3).trans rfl; have hcz11_4 : w10.cell? ⟨gb112, 4, none⟩ = some (.slice A0_4 l0_4.length c0_4) := (bC BK112.out 4).trans rfl; have hfz11_0 := bZ BK112.out 0; have hfz11_1 := bZ BK112.out 1; have hfz11_2 := bZ BK112.out 2; have hfz11_3 := bZ BK112.out 3; have hfz11_4 := bZ BK112.out 4) | ((with_reducible refine gate_callee (f := 67) rfl ?_); refine goesL_ (some 30) rfl rfl Try.func67 (by kernel_rfl) rfl #[.agg #[.int .i64 a0_0, .int .i64 a0_1, .int .i64 a0_2, .slice A0_3 l0_3.length c0_3, .slice A0_4 l0_4.length c0_4]] rfl (by (try simp only [List.map_toArray, List.map_cons, List.map_nil]); first | done | rfl | (simp only [List.length_drop, List.length_take]; rfl)) ?_; (with_reducible refine (node_file.calls k a0_0 a0_1 a0_2 _ _ l0_3 _ _ l0_4 t113 _ ?side1 ?side2 ?side3 ?side4 A9.out).mono ?_); (case side1 => repeat (first | exact (Kd.C_below HR0_3.out HB.out) | (with_reducible refine Kd.C_alloc ?_ _) | (with_reducible refine Kd.C_drewN ?_ _) | (with_reducible refine Kd.C_drew ?_))); (case side2 => exact HC0_3.out); (case side3 => repeat (first | exact (Kd.C_below HR0_4.out HB.out) | (with_reducible refine Kd.C_alloc ?_ _) | (with_reducible refine Kd.C_drewN ?_ _) | (with_reducible refine Kd.C_drew ?_))); (case side4 => exact HC0_4.out); rintro e w12 ⟨rfl, hb⟩; refine ⟨_, rfl, ?_⟩; have n0_ := Aside0.mk (bB (g := gb112) (o := .cells #[.int .i64 a0_0, .int .i64 a0_1, .int .i64 a0_2, .slice A0_3 l0_3.length c0_3, .slice A0_4 l0_4.length c0_4] 28 (0, 0)) (by (with_reducible repeat (first | refine bN ?_ _ | refine bD ?_ | refine bA ?_ _)); exact BK112.out) hb); have n1_ := Aside0.mk (below_step (by repeat (first | (with_reducible first | exact HB.out | apply wA | apply wN | apply wD | refine wS ?_ GE112.out) | exact HB.out)) hb); clear BK112; clear HB; have BK112 := n0_; have HB := n1_; clear n0_ n1_; (try clear hb); (try clear hb2); (try clear hk); (try clear hi)))
   go_ret
   exact ⟨by first | rfl | exact congrArg (fun b_ => Ending.returned (Value.bool b_)) HRET.out | (rw [HRET.out]) | (simp [errW_none, errW_some] <;> rfl) | (simp [*, errW_none, errW_some] <;> rfl), by repeat (first | (with_reducible first | exact HB.out | apply wA | apply wN | apply wD | refine wS ?_ GE112.out) | exact HB.out)⟩
  ·
   rw [if_neg c8] at H; have c8b0 : (a0_0 == 1) = false := beq_eq_false_iff_ne.mpr c8; have c8b1 : (a0_0 != 1) = true := bne_iff_ne.mpr c8
   by_cases c13 : a0_0 = 2
   ·
    rw [if_pos c13] at H; have c13b0 : (a0_0 == 2) = true := beq_iff_eq.mpr c13; have c13b1 : (a0_0 != 2) = false := bne_eq_false_iff_eq.mpr c13; clear c13
    by_cases c14 : a0_1 = 1
    ·
     rw [if_pos c14] at H; have c14b0 : (a0_1 == 1) = true := beq_iff_eq.mpr c14; have c14b1 : (a0_1 != 1) = false := bne_eq_false_iff_eq.mpr c14; clear c14
     by_cases c15 : a0_2 = 0
     ·
      rw [if_pos c15] at H; have c15b0 : (a0_2 == 0) = true := beq_iff_eq.mpr c15; have c15b1 : (a0_2 != 0) = false := bne_eq_false_iff_eq.mpr c15; clear c15
      by_cases c16 : (l0_3.length : Int) = 0
      ·
       rw [if_pos c16] at H; have c16b0 : ((l0_3.length : Int) == 0) = true := beq_iff_eq.mpr c16; have c16b1 : ((l0_3.length : Int) != 0) = false := bne_eq_false_iff_eq.mpr c16; clear c16; replace H := Option.bind_eq_some_iff.mp H; obtain ⟨t114, A170, H⟩ := H; replace H : (some t114) = some r := H; have A17 := Aside0.mk A170; clear A170; obtain rfl := Option.some.inj H
       go_enter Try.func48, Try.ntmps48
       go_wp2_with (first | ((with_reducible refine gate_dst (N := 1) rfl ?_); (try (refine gate_guard (by rfl) ?_; dsimp only)); refine box_event ?hg (N := 1) ?hd (cs := #[.int .i64 a0_0, .int .i64 a0_1, .int .i64 a0_2, .slice A0_3 l0_3.length c0_3, .slice A0_4 l0_4.length c0_4]) (t := 28) ?hr ?_; (case hd => rfl); (case hg => rfl); (case hr => first | (go_simp; done) | (go_simp; rfl)); intro gb112 hg w18 hbox hb; have n0_ := Aside0.mk (below_step (by repeat (first | (with_reducible first | exact HB.out | apply wA | apply wN | apply wD) | exact HB.out)) hb); have n1_ := Aside0.mk (hbox); have n2_ := Aside0.mk ((by rw [hg]; exact (below_size (by repeat (first | (with_reducible first | exact HB.out | apply wA | apply wN | apply wD) | exact HB.out))) : w.heap.size ≤ gb112)); have n3_ := Aside0.mk ((by rw [hg]; exact (below_size (by repeat (first | (with_reducible first | exact HB.out | apply wA | apply wN | apply wD) | exact HB.out))) : w.heap.size ≤ gb112)); clear HB; have HB := n0_; have BK112 := n1_; have GW112 := n2_; have GE112 := n3_; clear n0_ n1_ n2_ n3_; clear hb hbox hg; have hcz19_0 : w18.cell? ⟨gb112, 0, none⟩ = some (.int .i64 a0_0) := (bC BK112.out 0).trans rfl; have hcz19_1 : w18.cell? ⟨gb112, 1, none⟩ = some (.int .i64 a0_1) := (bC BK112.out 1).trans rfl; have hcz19_2 : w18.cell? ⟨gb112, 2, none⟩ = some (.int .i64 a0_2) := (bC BK112.out 2).trans rfl; have hcz19_3 : w18.cell? ⟨gb112, 3, none⟩ = some (.slice A0_3 l0_3.length c0_3) := (bC BK112.out 3).trans rfl; have hcz19_4 : w18.cell? ⟨gb112, 4, none⟩ = some (.slice A0_4 l0_4.length c0_4) := (bC BK112.out 4).trans rfl; have hfz19_0 := bZ BK112.out 0; have hfz19_1 := bZ BK112.out 1; have hfz19_2 := bZ BK112.out 2; have hfz19_3 := bZ BK112.out 3; have hfz19_4 := bZ BK112.out 4) | (go_at_call 68; (with_reducible refine (name_May.calls k _ _ l0_4 t114 _ ?side1 ?side2 A17.out).mono ?_); (case side1 => repeat (first | exact (Kd.C_below HR0_4.out HB.out) | (with_reducible refine Kd.C_alloc ?_ _) | (with_reducible refine Kd.C_drewN ?_ _) | (with_reducible refine Kd.C_drew ?_))); (case side2 => exact HC0_4.out); rintro e w20 ⟨rfl, hb⟩; have n0_ := Aside0.mk (bB (g := gb112) (o := .cells #[.int .i64 a0_0, .int .i64 a0_1, .int .i64 a0_2, .slice A0_3 l0_3.length c0_3, .slice A0_4 l0_4.length c0_4] 28 (0, 0)) (by (with_reducible repeat (first | refine bN ?_ _ | refine bD ?_ | refine bA ?_ _)); exact BK112.out) hb); have n1_ := Aside0.mk (below_step (by repeat (first | (with_reducible first | exact HB.out | apply wA | apply wN | apply wD | refine wS ?_ GE112.out) | exact HB.out)) hb); clear BK112; clear HB; have BK112 := n0_; have HB := n1_; clear n0_ n1_; (try clear hb); (try clear hb2); (try clear hk); (try clear hi)))
       go_ret
       exact ⟨by first | rfl | exact congrArg (fun b_ => Ending.returned (Value.bool b_)) HRET.out | (rw [HRET.out]) | (simp [errW_none, errW_some] <;> rfl) | (simp [*, errW_none, errW_some] <;> rfl), by repeat (first | (with_reducible first | exact HB.out | apply wA | apply wN | apply wD | refine wS ?_ GE112.out) | exact HB.out)⟩
      ·
       rw [if_neg c16] at H; exact absurd H (by simp)
     ·
      rw [if_neg c15] at H; exact absurd H (by simp)
    ·
     rw [if_neg c14] at H; exact absurd H (by simp)
   ·
    rw [if_neg c13] at H; exact absurd H (by simp)
/-- The first node that may not be, counted from i; -1 where there is none. -/
def dmBad (k : Nat) : List S28 → Int → Option Int
 | [], _ => some (-1)
 | x :: r, i => (node_May.f k x.f0 x.f1 x.f2 x.f3 x.f4).bind fun b => if b = true then dmBad k r (i + 1) else some i
theorem dmBad_mono (k : Nat) : ∀ (l : List S28) (i : Int), LeO (dmBad k l i) (dmBad (k + 1) l i)
 | [], _ => LeO.refl _
 | x :: r, i => LeO.bind (node_May.mono _ _ _ _ _ _) (fun b => LeO.ite (dmBad_mono k r (i + 1)) (LeO.refl _))
set_option maxHeartbeats 4000000 in
theorem dm_clo (k : Nat) (a0 a1 a2 : Int) (A3 : Option Addr) (c3 : Nat) (l3 : List Int) (A4 : Option Addr) (c4 : Nat) (l4 : List S78) (b : Bool) (w : World)
 (hr3 : Kd.C (Kd.int .i64) w A3 l3.length l3) (hc3 : l3.length ≤ c3) (hr4 : Kd.C k78 w A4 l4.length l4) (hc4 : l4.length ≤ c4) (h : node_May.f k a0 a1 a2 l3 l4 = some b) :
 Calls Try.prog 71 #[.agg #[.int .i64 a0, .int .i64 a1, .int .i64 a2, .slice A3 l3.length c3, .slice A4 l4.length c4]] w fun e w' => e = .returned (.bool (!b)) ∧ Below w.heap.size w w' := by
 have hu28 := Try.underlying28; have HR3 := Aside0.mk hr3; have HC3 := Aside0.mk hc3; clear hr3 hc3; have HR4 := Aside0.mk hr4; have HC4 := Aside0.mk hc4; clear hr4 hc4; have HB := Aside0.mk (Below.refl w.heap.size w); have HH := Aside0.mk h; clear h
 go_enter Try.func71, Try.ntmps71
 go_wp2_with (first | ((with_reducible refine gate_dst (N := 1) rfl ?_); refine box_event ?hg (N := 1) ?hd (cs := #[.int .i64 a0, .int .i64 a1, .int .i64 a2, .slice A3 l3.length c3, .slice A4 l4.length c4]) (t := 28) ?hr ?_; (case hd => rfl); (case hg => rfl); (case hr => first | (go_simp; done) | (go_simp; rfl)); intro gb hg w2 hbox hb; have n0_ := Aside0.mk (below_step HB.out hb); clear HB; have HB := n0_; clear n0_; clear hb hg; have hcz0 := (bC hbox 0).trans rfl; have hcz1 := (bC hbox 1).trans rfl; have hcz2 := (bC hbox 2).trans rfl; have hcz3 := (bC hbox 3).trans rfl; have hcz4 := (bC hbox 4).trans rfl) | (go_at_call 48; refine (node_May.calls k a0 a1 a2 _ _ l3 _ _ l4 b _ ?side1 ?side2 ?side3 ?side4 HH.out).mono ?_; (case side1 => exact (Kd.C_below HR3.out HB.out)); (case side2 => exact HC3.out); (case side3 => exact (Kd.C_below HR4.out HB.out)); (case side4 => exact HC4.out); rintro e w' ⟨rfl, hb⟩; have n0_ := Aside0.mk (below_step HB.out hb); clear HB; have HB := n0_; clear n0_ hb))
 all_goals (go_ret; exact ⟨by simp, HB.out⟩)
set_option maxHeartbeats 8000000 in
theorem dm_idx (k : Nat) (A : Option Addr) (c : Nat) (l : List S28) (r : Int) (w : World) (hr : Kd.C k28 w A l.length l) (hc : l.length ≤ c) (hL : (l.length : Int) < 9223372036854775807) (hr_ : dmBad k l 0 = some r) :
 Calls Try.prog 80 #[.slice A l.length c, .func (.func 71) #[] #[]] w fun e w' => e = .returned (.int .i64 r) ∧ Below w.heap.size w w' := by
 have hu28 := Try.underlying28; have HR0 := Aside0.mk hr; have HB := Aside0.mk (Below.refl w.heap.size w); have HP := Aside0.mk hr_; have LL := Aside0.mk hL; clear hr hc hr_ hL
 go_enter Try.func80, Try.ntmps80
 go_wp2
 go_loopg [5, 8] l.length (fun gk v5 v8 w' => ∃ kk : Nat, kk ≤ l.length ∧ l.length - kk ≤ gk ∧ v8 = .int .i64 kk ∧ Aside0 (dmBad k (l.drop kk) kk = some r) ∧ Aside0 (Below w.heap.size w w'))
 case atStart => exact ⟨0, Nat.zero_le _, by omega, rfl, ⟨by simpa using HP.out⟩, HB⟩
 case round =>
  obtain ⟨kk, hkk, hgk, rfl, HQ, HB⟩ := hrel; clear HP
  by_cases hlt : kk < l.length
  ·
   have c3b0 : decide ((kk : Int) < (l.length : Int)) = true := decide_eq_true (by omega)
   have p124 : 0 ≤ (kk : Int) := by omega
   have q124 : (kk : Int) < (l.length : Int) := by omega
   obtain ⟨ad124, A3, c3, A4, c4, e124, hx124_0, hx124_1, hx124_2, hx124_3, hx124_4, hl3, hi3, hl4, hi4⟩ := at_T28 HR0.out kk p124 q124
   cases e124
   replace hx124_0 := (HB.out.cell (World.block_lt_of_cell? w _ hx124_0)).trans hx124_0; replace hx124_1 := (HB.out.cell (World.block_lt_of_cell? w _ hx124_1)).trans hx124_1; replace hx124_2 := (HB.out.cell (World.block_lt_of_cell? w _ hx124_2)).trans hx124_2; replace hx124_3 := (HB.out.cell (World.block_lt_of_cell? w _ hx124_3)).trans hx124_3; replace hx124_4 := (HB.out.cell (World.block_lt_of_cell? w _ hx124_4)).trans hx124_4; simp only [Int.toNat_natCast] at hx124_0 hx124_1 hx124_2 hx124_3 hx124_4; replace p124 := eq_true p124; replace q124 := eq_true q124
   have hd : l.drop kk = rd_T28 l kk :: l.drop (kk + 1) := by
    rw [List.drop_eq_getElem_cons hlt]; unfold rd_T28; rw [Int.toNat_natCast, List.getD_eq_getElem?_getD, List.getElem?_eq_getElem hlt]; rfl
   have hq := HQ.out; rw [hd] at hq; simp only [dmBad] at hq; obtain ⟨b, hb0, hq⟩ := Option.bind_eq_some_iff.mp hq; have hW : kk + 1 ≤ l.length := hlt
   have HC0 := fun W hW => dm_clo k (rd_T28 l kk).f0 (rd_T28 l kk).f1 (rd_T28 l kk).f2 A3 c3 (rd_T28 l kk).f3 A4 c4 (rd_T28 l kk).f4 b W (Kd.C_below hi3 hW) hl3 (Kd.C_below hi4 hW) hl4 hb0
   have HC := Aside0.mk HC0; clear hd hi3 hi4 hl3 hl4 hb0 HC0
   cases b with
   | false =>
    rw [if_neg (by decide)] at hq; obtain rfl := Option.some.inj hq; clear hq
    go_wp2_with (go_at_call 71; refine (HC.out _ HB.out).mono ?_; rintro e w' ⟨rfl, hb'⟩)
    go_ret
    exact ⟨rfl, below_step HB.out hb'⟩
   | true =>
    rw [if_pos rfl] at hq; have HQ := Aside0.mk hq; clear hq
    go_wp2_with (go_at_call 71; refine (HC.out _ HB.out).mono ?_; rintro e w' ⟨rfl, hb'⟩)
    go_roundg (l.length - (kk + 1))
    case measure => omega
    case rel =>
     have e_ : wrap64 ((kk : Int) + 1) = ((kk + 1 : Nat) : Int) := by have := LL.out; unfold wrap64; omega
     exact ⟨kk + 1, by omega, by omega, by rw [e_], ⟨by have := HQ.out; push_cast; exact this⟩, ⟨below_step HB.out hb'⟩⟩
  ·
   have : kk = l.length := by omega
   subst this; have hq := HQ.out; rw [List.drop_length] at hq; simp only [dmBad] at hq; obtain rfl := Option.some.inj hq
   go_wp2
   go_ret
   exact ⟨rfl, HB.out⟩
set_option maxHeartbeats 4000000 in
theorem dm_any (k : Nat) (A : Option Addr) (c : Nat) (l : List S28) (r : Int) (w : World) (hr : Kd.C k28 w A l.length l) (hc : l.length ≤ c) (hL : (l.length : Int) < 9223372036854775807) (hr_ : dmBad k l 0 = some r) :
 Calls Try.prog 64 #[.slice A l.length c, .func (.func 71) #[] #[]] w fun e w' => e = .returned (.bool (decide (0 ≤ r))) ∧ Below w.heap.size w w' := by
 have hcon := dm_idx k A c l r w hr hc hL hr_; clear hr_ hr hc hL
 go_enter Try.func64, Try.ntmps64
 go_wp2_with (go_at_call 80; refine hcon.mono ?_; rintro e w' ⟨rfl, hb'⟩)
 go_ret
 exact ⟨rfl, hb'⟩
def api_Node_64.f (k : Nat) (l0 : List (S28)) : Option (Bool) := if l0.length = 12 then (dmBad k l0 0).bind fun i => some (decide (0 ≤ i)) else none
theorem api_Node_64.mono : ∀ a0 k, LeO (api_Node_64.f k a0) (api_Node_64.f (k + 1) a0) := fun a0 k => LeO.ite (LeO.bind (dmBad_mono k a0 0) (fun _ => LeO.refl _)) (LeO.refl _)
theorem api_Node_64.calls (k : Nat) (A0 : Option Addr) (c0 : Nat) (l0 : List (S28)) (r : Bool) (w : World) (hr0 : Kd.C k28 w A0 l0.length l0) (hc0 : l0.length ≤ c0) (h : api_Node_64.f k l0 = some r) :
 Calls Try.prog 64 #[.slice A0 l0.length c0, .func (.func 71) #[] #[]] w fun e w' => e = .returned (.bool r) ∧ Below w.heap.size w w' := by
 unfold api_Node_64.f at h
 by_cases hl : l0.length = 12
 ·
  rw [if_pos hl] at h; obtain ⟨i, hi, h⟩ := Option.bind_eq_some_iff.mp h; obtain rfl := Option.some.inj h; exact dm_any k A0 c0 l0 i w hr0 hc0 (by omega) hi
 ·
  rw [if_neg hl] at h; cases h
end Go.Proofs.Ytkigiehkckjlhaa.PMakes
