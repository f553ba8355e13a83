/- The Go functions that these laws reach, each as a Lean function with the same answers (a law itself where it answers true), and the proof that the code comes to them; conditions: those of each theorem. Laid by a program of this session over the print. -/
import Derived.Test.YtkigiehkckjlhaaZMakesPMakesx0
namespace Go.Proofs.Ytkigiehkckjlhaa.PMakes
open Go.RowKit Go.Proofs.YtkigiehkckjlhaaW.PrintWords Go.Proofs.YtkigiehkckjlhaaW.PrintLast Go.Proofs.YtkigiehkckjlhaaW.PrintMore
attribute [local go_sem] max2_int min2_int max_two min_two max_three min_three max_four min_four   -- for this text's walks alone
set_option linter.unusedVariables false
set_option linter.unusedSimpArgs false
open Go.Proofs.YtkigiehkckjlhaaW.PrintWords renaming blk_drewN → bN, blk_drew → bD, blk_alloc → bA, below_set → wS, below_alloc → wA, pw_below_drewN → wN, below_drew1 → wD, blk_below → bB, blk_far → bF, blk_cell → bC, blk_frozen → bZ
open List renaming setIfInBounds_toArray → lT, set_cons_zero → l0_, set_cons_succ → lS
abbrev B18_0 : Array Bool := #[false, false, false, false, false, false, false, false, false, false]
abbrev B18_1 : Array Bool := #[true, false, false, false, false, false, false, false, false, false]
abbrev B18_2 : Array Bool := #[true, false, false, true, false, false, false, false, false, false]
abbrev B18_3 : Array Bool := #[true, true, false, true, false, false, false, false, false, false]
abbrev B18_4 : Array Bool := #[true, true, false, true, true, false, false, false, false, false]
abbrev B18_5 : Array Bool := #[true, true, true, true, true, false, false, false, false, false]
abbrev B18_6 : Array Bool := #[true, true, true, true, true, false, true, false, false, false]
abbrev B18_7 : Array Bool := #[true, true, true, true, true, true, true, false, false, false]
abbrev B18_8 : Array Bool := #[true, true, true, true, true, true, true, true, false, false]
abbrev B18_9 : Array Bool := #[true, true, true, true, true, true, true, true, true, false]
abbrev B18_10 : Array Bool := #[true, true, true, true, true, true, true, true, true, true]
def potsherdref12_CopyNode.f (a0_0 : Int) (a0_1 : Int) (a0_2 : Int) (l0_3 : List Int) (l0_4 : List (S78)) : Option (Int × Int × Int × List Int × (List (S78))) := if ([] : List Int).length + l0_3.length < 17592186044416 then (if ([] : List (S78)).length + l0_4.length < 5864062014805 then (some (a0_0, a0_1, a0_2, (([] : List Int) ++ l0_3), (([] : List (S78)) ++ l0_4))) else (none)) else (none)
def potsherdref12_CopyNode.T1 : Bool × List (List Nat × List Nat) := (true, [([], []), ([0], [0]), ([1], [1]), ([], []), ([3], [3]), ([4, 2], [4]), ([0, 1, 2, 3, 4], []), ([6, 2, 5, 0, 1, 2, 3, 4], [2, 6]), ([0, 1, 2, 3, 4, 5, 6, 7], []), ([8, 5, 7, 0, 1, 2, 3, 4, 5, 6, 7], [5, 8])])
def potsherdref12_CopyNode.B1 : List Nat := [0, 1, 3, 0, 8, 31, 31, 127, 255, 511]
theorem potsherdref12_CopyNode.tab1 : rtab .any (opsOf Try.f26 1) = potsherdref12_CopyNode.T1 := by kernel_rfl
theorem potsherdref12_CopyNode.bits1 : waitsOk potsherdref12_CopyNode.T1.2 potsherdref12_CopyNode.B1 = true := by kernel_rfl
set_option maxHeartbeats 8000000 in
set_option maxRecDepth 100000 in
theorem potsherdref12_CopyNode.calls (a0_0 : Int) (a0_1 : Int) (a0_2 : Int) (A0_3 : Option Addr) (c0_3 : Nat) (l0_3 : List Int) (A0_4 : Option Addr) (c0_4 : Nat) (l0_4 : List (S78)) (r1 : Int) (r2 : Int) (r3 : Int) (r4 : List Int) (r5 : List (S78)) (w : World) (hr0_3 : Kd.C (Kd.int .i64) w A0_3 l0_3.length l0_3) (hc0_3 : l0_3.length ≤ c0_3) (hr0_4 : Kd.C k78 w A0_4 l0_4.length l0_4) (hc0_4 : l0_4.length ≤ c0_4) (h : potsherdref12_CopyNode.f a0_0 a0_1 a0_2 l0_3 l0_4 = some (r1, r2, r3, r4, r5)) :
 Calls Try.prog 26 #[.agg #[.int .i64 a0_0, .int .i64 a0_1, .int .i64 a0_2, .slice A0_3 l0_3.length c0_3, .slice A0_4 l0_4.length c0_4]] w fun e w' => ∃ v3_ v4_ : Value, e = .returned (.agg #[.int .i64 r1, .int .i64 r2, .int .i64 r3, v3_, v4_]) ∧ Kd.R (Kd.int .i64) 3 w' w.heap.size (fun _ => True) v3_ r4 ∧ Kd.R k78 78 w' w.heap.size (fun _ => True) v4_ r5 ∧ Below w.heap.size w w' := by
 have hu28 := Try.underlying28; have HR0_3 := Aside0.mk hr0_3; have HC0_3 := Aside0.mk hc0_3; clear hr0_3 hc0_3; have HR0_4 := Aside0.mk hr0_4; have HC0_4 := Aside0.mk hc0_4; clear hr0_4 hc0_4; have HB := Aside0.mk (Below.refl w.heap.size w); have H : (if ([] : List Int).length + l0_3.length < 17592186044416 then (if ([] : List (S78)).length + l0_4.length < 5864062014805 then (some (a0_0, a0_1, a0_2, (([] : List Int) ++ l0_3), (([] : List (S78)) ++ l0_4))) else (none)) else (none)) = some (r1, r2, r3, r4, r5) := h; clear h
 by_cases c2 : ([] : List Int).length + l0_3.length < 17592186044416
 ·
  rw [if_pos c2] at H; have LMc2 := Aside0.mk c2; clear c2; obtain ⟨y321, hy321⟩ : ∃ y_ : List Int, y_ = (([] : List Int) ++ l0_3) := ⟨_, rfl⟩
  replace H : (if ([] : List (S78)).length + l0_4.length < 5864062014805 then (some (a0_0, a0_1, a0_2, y321, (([] : List (S78)) ++ l0_4))) else (none)) = some (r1, r2, r3, r4, r5) := by first | (rw [hy321]; with_reducible exact H) | (have H2_ := (Option.bind_some _ _).symm.trans H; rw [hy321]; with_reducible exact H2_) | (have H2_ := (Option.bind_some _ _).symm.trans H; with_reducible exact H2_) | with_reducible exact H | (rw [hy321]; exact H) | exact H
  have Ny321 := Aside0.mk hy321; clear hy321
  by_cases c3 : ([] : List (S78)).length + l0_4.length < 5864062014805
  ·
   rw [if_pos c3] at H; have LMc3 := Aside0.mk c3; clear c3; obtain ⟨y324, hy324⟩ : ∃ y_ : List (S78), y_ = (([] : List (S78)) ++ l0_4) := ⟨_, rfl⟩
   replace H : (some (a0_0, a0_1, a0_2, y321, y324)) = some (r1, r2, r3, r4, r5) := by first | (rw [hy324]; with_reducible exact H) | (have H2_ := (Option.bind_some _ _).symm.trans H; rw [hy324]; with_reducible exact H2_) | (have H2_ := (Option.bind_some _ _).symm.trans H; with_reducible exact H2_) | with_reducible exact H | (rw [hy324]; exact H) | exact H
   have Ny324 := Aside0.mk hy324; clear hy324; simp only [Option.some.injEq, Prod.mk.injEq] at H; obtain ⟨rfl, rfl, rfl, rfl, rfl⟩ := H
   go_enter Try.func26, Try.ntmps26
   try go_wp2_with (first | ((with_reducible refine gate_dst (N := 1) rfl ?_); refine box_event ?hg (N := 1) ?hd (cs := #[.int .i64 a0_0, .int .i64 a0_1, .int .i64 a0_2, .slice A0_3 l0_3.length c0_3, .slice A0_4 l0_4.length c0_4]) (t := 28) ?hr ?_; (case hd => rfl); (case hg => rfl); (case hr => first | (go_simp; done) | (go_simp; rfl)); intro gb319 hg w4 hbox hb; have n0_ := Aside0.mk (below_step (by repeat (first | (with_reducible first | exact HB.out | apply wA | apply wN | apply wD) | exact HB.out)) hb); have n1_ := Aside0.mk (hbox); have n2_ := Aside0.mk ((by rw [hg]; exact (below_size (by repeat (first | (with_reducible first | exact HB.out | apply wA | apply wN | apply wD) | exact HB.out))) : w.heap.size ≤ gb319)); have n3_ := Aside0.mk ((by rw [hg]; exact (below_size (by repeat (first | (with_reducible first | exact HB.out | apply wA | apply wN | apply wD) | exact HB.out))) : w.heap.size ≤ gb319)); clear HB; have HB := n0_; have BK319 := n1_; have GW319 := n2_; have GE319 := n3_; clear n0_ n1_ n2_ n3_; clear hb hbox hg) | ((with_reducible refine gate_dst (N := 2) rfl ?_); refine box_event ?hg (N := 2) ?hd (cs := #[.int .i64 0, .int .i64 0, .int .i64 0, .slice none 0 0, .slice none 0 0]) (t := 28) ?hr ?_; (case hd => rfl); (case hg => rfl); (case hr => first | (go_simp; done) | (go_simp; rfl)); intro gb320 hg w5 hbox hb; have n0_ := Aside0.mk (bB (g := gb319) (o := .cells #[.int .i64 a0_0, .int .i64 a0_1, .int .i64 a0_2, .slice A0_3 l0_3.length c0_3, .slice A0_4 l0_4.length c0_4] 28 (0, 0)) (by (with_reducible repeat (first | refine bN ?_ _ | refine bD ?_ | refine bA ?_ _)); exact BK319.out) hb); have n1_ := Aside0.mk (below_step (by repeat (first | (with_reducible first | exact HB.out | apply wA | apply wN | apply wD | refine wS ?_ GE319.out) | exact HB.out)) hb); have n2_ := Aside0.mk (hbox); have n3_ := Aside0.mk ((by rw [hg]; exact (below_size (by repeat (first | (with_reducible first | exact HB.out | apply wA | apply wN | apply wD | refine wS ?_ GE319.out) | exact HB.out))) : w.heap.size ≤ gb320)); have n4_ := Aside0.mk ((by rw [hg]; exact (below_size (by repeat (first | (with_reducible first | exact HB.out | apply wA | apply wN | apply wD | refine wS ?_ GE319.out) | exact HB.out))) : w.heap.size ≤ gb320)); have n5_ := Aside0.mk ((by rw [hg]; exact Nat.ne_of_lt (blk_lt (g := gb319) (o := .cells #[.int .i64 a0_0, .int .i64 a0_1, .int .i64 a0_2, .slice A0_3 l0_3.length c0_3, .slice A0_4 l0_4.length c0_4] 28 (0, 0)) (by (with_reducible repeat (first | refine bN ?_ _ | refine bD ?_ | refine bA ?_ _)); exact BK319.out)) : gb319 ≠ gb320)); have n6_ := Aside0.mk ((by rw [hg]; exact Nat.ne_of_gt (blk_lt (g := gb319) (o := .cells #[.int .i64 a0_0, .int .i64 a0_1, .int .i64 a0_2, .slice A0_3 l0_3.length c0_3, .slice A0_4 l0_4.length c0_4] 28 (0, 0)) (by (with_reducible repeat (first | refine bN ?_ _ | refine bD ?_ | refine bA ?_ _)); exact BK319.out)) : gb320 ≠ gb319)); clear BK319; clear HB; have BK319 := n0_; have HB := n1_; have BK320 := n2_; have GW320 := n3_; have GE320 := n4_; have NB319_320 := n5_; have NB320_319 := n6_; clear n0_ n1_ n2_ n3_ n4_ n5_ n6_; clear hb hbox hg))
   have n0_ := Aside0.mk (bD BK319.out); have n1_ := Aside0.mk (bD BK320.out); have n2_ := Aside0.mk (wD HB.out); clear BK319; clear BK320; clear HB; have BK319 := n0_; have BK320 := n1_; have HB := n2_; clear n0_ n1_ n2_; refine start_ (n := 10) (S := fun w' => w'.cell? ⟨gb319, 0, none⟩ = some (.int .i64 a0_0) ∧ w'.cell? ⟨gb319, 1, none⟩ = some (.int .i64 a0_1) ∧ w'.cell? ⟨gb319, 2, none⟩ = some (.int .i64 a0_2) ∧ w'.cell? ⟨gb319, 3, none⟩ = some (.slice A0_3 l0_3.length c0_3) ∧ w'.cell? ⟨gb319, 4, none⟩ = some (.slice A0_4 l0_4.length c0_4)) (ds := [7, 9]) B18_0 (by kernel_rfl) rfl rfl ⟨(bC BK319.out 0).trans rfl, (bC BK319.out 1).trans rfl, (bC BK319.out 2).trans rfl, (bC BK319.out 3).trans rfl, (bC BK319.out 4).trans rfl⟩ (fun hHeld => ?_); refine with_tabW potsherdref12_CopyNode.tab1 potsherdref12_CopyNode.bits1 (fun HT_ HW_ => ?_); generalize w5.drew = w6 at BK319 BK320 HB hHeld ⊢; refine pure_ (i := 0) (N := some 3) (v := ?_) (a' := ?_) B18_1 rfl rfl (any_of HT_.out (by kernel_rfl)) (fun _ _ _ h => h) (Or.inl ⟨by rfl, ?_⟩) ?_ ?_; rotate_left
   ·
    intro w'; go_simp; with_reducible rfl
   rotate_left
   ·
    simp only [Act.put, lT, l0_, lS, i64_w, i32_w]; rfl
   refine pure_ (i := 3) (N := some 6) (v := ?_) (a' := ?_) B18_2 rfl rfl (any_of HT_.out (by kernel_rfl)) (fun _ _ _ h => h) (Or.inl ⟨by rfl, ?_⟩) ?_ ?_; rotate_left
   ·
    intro w'; go_simp; with_reducible rfl
   rotate_left
   ·
    simp only [Act.put, lT, l0_, lS, i64_w, i32_w]; rfl
   refine take_ (i := 1) (N := some 4) (v := ?_) (a' := ?_) B18_3 rfl rfl (take_ofW HT_.out HW_.out (by kernel_rfl)) (fun _ _ _ h => h) (Or.inl ⟨by rfl, ?_⟩) hHeld ?_ ?_; rotate_left
   ·
    rintro w' ⟨s0, s1, s2, s3, s4⟩; go_simp; with_reducible rfl
   rotate_left
   ·
    simp only [Act.put, lT, l0_, lS, i64_w, i32_w]; rfl
   refine take_ (i := 4) (N := some 7) (v := ?_) (a' := ?_) B18_4 rfl rfl (take_ofW HT_.out HW_.out (by kernel_rfl)) (fun _ _ _ h => h) (Or.inl ⟨by rfl, ?_⟩) hHeld ?_ ?_; rotate_left
   ·
    rintro w' ⟨s0, s1, s2, s3, s4⟩; go_simp; with_reducible rfl
   rotate_left
   ·
    simp only [Act.put, lT, l0_, lS, i64_w, i32_w]; rfl
   refine one_ (i := 2) (N := some 5) B18_5 rfl rfl (one_of HT_.out (by kernel_rfl)) (by decide) (fun K hK => ?_); refine Kd.R_append_rows_step (Kd.int .i64) (w0 := w) w.heap.size rfl (.const (.slice none 0 0)) (.tmp 4) 25 3 (.int .i64 0) 8 rfl Try.underlying25 info3 rfl (by decide) (by omega) (.slice none 0 0) ([] : List Int) l0_3 _ _ _ (fun _ => True) (fun _ => False) rfl rfl ?aO ?aR (fun _ _ h => h) (fun _ h => h.elim) ?aF ?aB ?aS ?aL ?_
   (case aR => repeat (first | exact (Kd.C_below HR0_3.out HB.out) | (with_reducible refine Kd.C_alloc ?_ _) | (with_reducible refine Kd.C_drewN ?_ _) | (with_reducible refine Kd.C_drew ?_)))
   (case aB => exact (by repeat (first | (with_reducible first | exact HB.out | apply wA | apply wN | apply wD | refine wS ?_ GE319.out | refine wS ?_ GE320.out) | exact HB.out)))
   (case aF => exact (fun _ _ => trivial))
   (case aO => exact ((Kd.R_nil _ _ _ _ (fun _ => True))))
   (case aS => exact (below_size (by repeat (first | (with_reducible first | exact HB.out | apply wA | apply wN | apply wD | refine wS ?_ GE319.out | refine wS ?_ GE320.out) | exact HB.out))))
   (case aL => have := LMc2.out; omega)
   intro v322 w7 ho hb hg hat; rw [← Ny321.out] at ho; have n0_ := Aside0.mk (blk_grown (g := gb319) (o := .cells #[.int .i64 a0_0, .int .i64 a0_1, .int .i64 a0_2, .slice A0_3 l0_3.length c0_3, .slice A0_4 l0_4.length c0_4] 28 (0, 0)) (by (with_reducible repeat (first | refine bN ?_ _ | refine bD ?_ | refine bA ?_ _)); exact BK319.out) hg (by simp [Value.ownBlock]))
   have n1_ := Aside0.mk (blk_grown (g := gb320) (o := .cells #[.int .i64 0, .int .i64 0, .int .i64 0, .slice none 0 0, .slice none 0 0] 28 (0, 0)) (by (with_reducible repeat (first | refine bN ?_ _ | refine bD ?_ | refine bA ?_ _)); exact BK320.out) hg (by simp [Value.ownBlock]))
   have n2_ := Aside0.mk (hb); have n3_ := Aside0.mk (ho); clear BK319; clear BK320; clear HB; have BK319 := n0_; have BK320 := n1_; have HB := n2_; have HO323 := n3_; clear n0_ n1_ n2_ n3_; clear ho hb hg hat; refine hK.out _ _ ⟨(bC BK319.out 0).trans rfl, (bC BK319.out 1).trans rfl, (bC BK319.out 2).trans rfl, (bC BK319.out 3).trans rfl, (bC BK319.out 4).trans rfl⟩ (fun hHeld => ?_); clear hK K; refine norm_ (a' := ?_) ?_ ?_; rotate_left
   ·
    show Act.put _ (some 5) _ = _
    simp only [Act.put, lT, l0_, lS, i64_w, i32_w]; rfl
   refine pure_ (i := 6) (N := some 9) (v := ?_) (a' := ?_) B18_6 rfl rfl (any_of HT_.out (by kernel_rfl)) (fun _ _ _ h => h) (Or.inl ⟨by rfl, ?_⟩) ?_ ?_; rotate_left
   ·
    intro w'; go_simp; with_reducible rfl
   rotate_left
   ·
    simp only [Act.put, lT, l0_, lS, i64_w, i32_w]; rfl
   refine one_ (i := 5) (N := some 8) B18_7 rfl rfl (one_of HT_.out (by kernel_rfl)) (by decide) (fun K hK => ?_); refine Kd.R_append_rows_step k78 (w0 := w) w.heap.size rfl (.const (.slice none 0 0)) (.tmp 7) 26 78 (.agg #[(.string ⟨#[]⟩), (.int .i64 0)]) 24 rfl Try.underlying26 info78 rfl (by decide) (by omega) (.slice none 0 0) ([] : List (S78)) l0_4 _ _ _ (fun _ => True) (fun _ => False) rfl rfl ?aO ?aR (fun _ _ h => h) (fun _ h => h.elim) ?aF ?aB ?aS ?aL ?_
   (case aR => repeat (first | exact (Kd.C_below HR0_4.out HB.out) | (with_reducible refine Kd.C_alloc ?_ _) | (with_reducible refine Kd.C_drewN ?_ _) | (with_reducible refine Kd.C_drew ?_)))
   (case aB => exact (by repeat (first | (with_reducible first | exact HB.out | apply wA | apply wN | apply wD | refine wS ?_ GE319.out | refine wS ?_ GE320.out) | exact HB.out)))
   (case aF => exact (fun _ _ => trivial))
   (case aO => exact ((Kd.R_nil _ _ _ _ (fun _ => True))))
   (case aS => exact (below_size (by repeat (first | (with_reducible first | exact HB.out | apply wA | apply wN | apply wD | refine wS ?_ GE319.out | refine wS ?_ GE320.out) | exact HB.out))))
   (case aL => have := LMc3.out; omega)
   intro v325 w8 ho hb hg hat; rw [← Ny324.out] at ho; have n0_ := Aside0.mk (blk_grown (g := gb319) (o := .cells #[.int .i64 a0_0, .int .i64 a0_1, .int .i64 a0_2, .slice A0_3 l0_3.length c0_3, .slice A0_4 l0_4.length c0_4] 28 (0, 0)) (by (with_reducible repeat (first | refine bN ?_ _ | refine bD ?_ | refine bA ?_ _)); exact BK319.out) hg (by simp [Value.ownBlock]))
   have n1_ := Aside0.mk (blk_grown (g := gb320) (o := .cells #[.int .i64 0, .int .i64 0, .int .i64 0, .slice none 0 0, .slice none 0 0] 28 (0, 0)) (by (with_reducible repeat (first | refine bN ?_ _ | refine bD ?_ | refine bA ?_ _)); exact BK320.out) hg (by simp [Value.ownBlock]))
   have n2_ := Aside0.mk (Kd.R_grown (by (with_reducible repeat (first | apply Kd.R_alloc | apply Kd.R_drewN | apply Kd.R_drew)); exact HO323.out) hg (fun _ _ => by simp [Value.ownBlock]))
   have n3_ := Aside0.mk (hb); have n4_ := Aside0.mk (ho); clear BK319; clear BK320; clear HO323; clear HB; have BK319 := n0_; have BK320 := n1_; have HO323 := n2_; have HB := n3_; have HO326 := n4_; clear n0_ n1_ n2_ n3_ n4_; clear ho hb hg hat; obtain ⟨Ao9, co9, eo9⟩ := Kd.R_slice HO323.out
   (first | subst eo9 | (injection eo9 with f1_ f2_ f3_; have f4_ := f1_.symm; have f5_ := f3_.symm; clear f1_ f2_ f3_; subst f4_; subst f5_))
   obtain ⟨Ao11, co11, eo11⟩ := Kd.R_slice HO326.out
   (first | subst eo11 | (injection eo11 with f1_ f2_ f3_; have f4_ := f1_.symm; have f5_ := f3_.symm; clear f1_ f2_ f3_; subst f4_; subst f5_))
   refine hK.out _ _ ⟨(bC BK319.out 0).trans rfl, (bC BK319.out 1).trans rfl, (bC BK319.out 2).trans rfl, (bC BK319.out 3).trans rfl, (bC BK319.out 4).trans rfl⟩ (fun hHeld => ?_); clear hK K; refine norm_ (a' := ?_) ?_ ?_; rotate_left
   ·
    show Act.put _ (some 8) _ = _
    simp only [Act.put, lT, l0_, lS, i64_w, i32_w]; rfl
   refine last_ (i := 7) (N := none) B18_8 rfl rfl (one_of HT_.out (by kernel_rfl)) (by decide) (fun K hK => ?_); have hs10 : w8.cell? ⟨gb319, 3, none⟩ = some (.slice A0_3 l0_3.length c0_3) := (bC BK319.out 3).trans rfl; have hfs10 := bZ BK319.out 3; have hns10_1 := NB320_319.out; have hms10_1 := NB319_320.out; refine skip_ (w1 := ?_) (by rfl) rfl ?_ ?_; rotate_left
   ·
    go_simp; rfl
   refine hK.out _ _ ?_; clear hK K; refine pure_ (i := 8) (N := some 10) (v := ?_) (a' := ?_) B18_9 rfl rfl (any_of HT_.out (by kernel_rfl)) (fun _ _ _ h => h) (Or.inl ⟨by rfl, ?_⟩) ?_ ?_; rotate_left
   ·
    intro w'; go_simp; with_reducible rfl
   rotate_left
   ·
    simp only [Act.put, lT, l0_, lS, i64_w, i32_w]; rfl
   refine last_ (i := 9) (N := none) B18_10 rfl rfl (one_of HT_.out (by kernel_rfl)) (by decide) (fun K hK => ?_); have hs12 : w8.cell? ⟨gb319, 4, none⟩ = some (.slice A0_4 l0_4.length c0_4) := (bC BK319.out 4).trans rfl; have hfs12 := bZ BK319.out 4; have hns12_1 := NB320_319.out; have hms12_1 := NB319_320.out; refine skip_ (w1 := ?_) (by rfl) rfl ?_ ?_; rotate_left
   ·
    go_simp; rfl
   refine hK.out _ _ ?_; clear hK K; refine done_ (done_of HT_.out (by kernel_rfl)) ?_; have hnb13 := NB319_320.out; have hnc13 := NB320_319.out; have hcz14_0 : w8.cell? ⟨gb319, 0, none⟩ = some (.int .i64 a0_0) := (bC BK319.out 0).trans rfl; have hcz14_1 : w8.cell? ⟨gb319, 1, none⟩ = some (.int .i64 a0_1) := (bC BK319.out 1).trans rfl; have hcz14_2 : w8.cell? ⟨gb319, 2, none⟩ = some (.int .i64 a0_2) := (bC BK319.out 2).trans rfl; have hcz14_3 : w8.cell? ⟨gb319, 3, none⟩ = some (.slice A0_3 l0_3.length c0_3) := (bC BK319.out 3).trans rfl; have hcz14_4 : w8.cell? ⟨gb319, 4, none⟩ = some (.slice A0_4 l0_4.length c0_4) := (bC BK319.out 4).trans rfl; have hfz14_0 := bZ BK319.out 0; have hfz14_1 := bZ BK319.out 1; have hfz14_2 := bZ BK319.out 2; have hfz14_3 := bZ BK319.out 3; have hfz14_4 := bZ BK319.out 4; have hcz15_0 : w8.cell? ⟨gb320, 0, none⟩ = some (.int .i64 0) := (bC BK320.out 0).trans rfl; have hcz15_1 : w8.cell? ⟨gb320, 1, none⟩ = some (.int .i64 0) := (bC BK320.out 1).trans rfl; have hcz15_2 : w8.cell? ⟨gb320, 2, none⟩ = some (.int .i64 0) := (bC BK320.out 2).trans rfl; have hcz15_3 : w8.cell? ⟨gb320, 3, none⟩ = some (.slice none 0 0) := (bC BK320.out 3).trans rfl; have hcz15_4 : w8.cell? ⟨gb320, 4, none⟩ = some (.slice none 0 0) := (bC BK320.out 4).trans rfl; have hfz15_0 := bZ BK320.out 0; have hfz15_1 := bZ BK320.out 1; have hfz15_2 := bZ BK320.out 2; have hfz15_3 := bZ BK320.out 3; have hfz15_4 := bZ BK320.out 4
   try go_wp2
   refine bodyPost_ret (results_cell_row rfl _ _ gb320 28 #[.int .i64 a0_0, .int .i64 a0_1, .int .i64 a0_2, .slice Ao9 y321.length co9, .slice Ao11 y324.length co11] (0, 0) _ rfl (by (with_reducible repeat (first | refine bN ?_ _ | refine bD ?_ | refine bA ?_ _)); refine blk_put (cs := #[.int .i64 a0_0, .int .i64 a0_1, .int .i64 a0_2, .slice Ao9 y321.length co9, .slice none 0 0]) ?_ 4 _ rfl; (with_reducible repeat (first | refine bN ?_ _ | refine bD ?_ | refine bA ?_ _)); refine blk_put (cs := #[.int .i64 a0_0, .int .i64 a0_1, .int .i64 a0_2, .slice none 0 0, .slice none 0 0]) ?_ 3 _ rfl; (with_reducible repeat (first | refine bN ?_ _ | refine bD ?_ | refine bA ?_ _)); refine blk_put (cs := #[.int .i64 a0_0, .int .i64 a0_1, .int .i64 0, .slice none 0 0, .slice none 0 0]) ?_ 2 _ rfl; (with_reducible repeat (first | refine bN ?_ _ | refine bD ?_ | refine bA ?_ _)); refine blk_put (cs := #[.int .i64 a0_0, .int .i64 0, .int .i64 0, .slice none 0 0, .slice none 0 0]) ?_ 1 _ rfl; (with_reducible repeat (first | refine bN ?_ _ | refine bD ?_ | refine bA ?_ _)); refine blk_put (cs := #[.int .i64 0, .int .i64 0, .int .i64 0, .slice none 0 0, .slice none 0 0]) ?_ 0 _ rfl; (with_reducible repeat (first | refine bN ?_ _ | refine bD ?_ | refine bA ?_ _)); refine bF ?_ NB320_319.out _; (with_reducible repeat (first | refine bN ?_ _ | refine bD ?_ | refine bA ?_ _)); refine bF ?_ NB320_319.out _; (with_reducible repeat (first | refine bN ?_ _ | refine bD ?_ | refine bA ?_ _)); exact BK320.out) Try.underlying28 rfl (by kernel_rfl)) rfl ?_
   exact ⟨_, _, by first | rfl | exact congrArg (fun b_ => Ending.returned (Value.bool b_)) HRET.out | (rw [HRET.out]) | (simp [errW_none, errW_some] <;> rfl) | (simp [*, errW_none, errW_some] <;> rfl), by (with_reducible repeat (first | apply Kd.R_alloc | apply Kd.R_drewN | apply Kd.R_drew)); exact Kd.R_mono (Kd.R_far (p := ⟨gb320, 4, none⟩) (Kd.R_far (p := ⟨gb320, 3, none⟩) (Kd.R_far (p := ⟨gb320, 2, none⟩) (Kd.R_far (p := ⟨gb320, 1, none⟩) (Kd.R_far (p := ⟨gb320, 0, none⟩) (Kd.R_far (p := ⟨gb319, 4, none⟩) (Kd.R_far (p := ⟨gb319, 3, none⟩) (Kd.R_types (Kd.R_types HO323.out BK319.out (by decide)) BK320.out (by decide)) (fun _ hk => hk.1.2) (.slice Ao9 y321.length co9)) (fun _ hk => hk.1.2) (.slice Ao11 y324.length co11)) (fun _ hk => hk.2) (.int .i64 a0_0)) (fun _ hk => hk.2) (.int .i64 a0_1)) (fun _ hk => hk.2) (.int .i64 a0_2)) (fun _ hk => hk.2) (.slice Ao9 y321.length co9)) (fun _ hk => hk.2) (.slice Ao11 y324.length co11)) (fun _ hk => trivial), by (with_reducible repeat (first | apply Kd.R_alloc | apply Kd.R_drewN | apply Kd.R_drew)); exact Kd.R_mono (Kd.R_far (p := ⟨gb320, 4, none⟩) (Kd.R_far (p := ⟨gb320, 3, none⟩) (Kd.R_far (p := ⟨gb320, 2, none⟩) (Kd.R_far (p := ⟨gb320, 1, none⟩) (Kd.R_far (p := ⟨gb320, 0, none⟩) (Kd.R_far (p := ⟨gb319, 4, none⟩) (Kd.R_far (p := ⟨gb319, 3, none⟩) (Kd.R_types (Kd.R_types HO326.out BK319.out (by decide)) BK320.out (by decide)) (fun _ hk => hk.1.2) (.slice Ao9 y321.length co9)) (fun _ hk => hk.1.2) (.slice Ao11 y324.length co11)) (fun _ hk => hk.2) (.int .i64 a0_0)) (fun _ hk => hk.2) (.int .i64 a0_1)) (fun _ hk => hk.2) (.int .i64 a0_2)) (fun _ hk => hk.2) (.slice Ao9 y321.length co9)) (fun _ hk => hk.2) (.slice Ao11 y324.length co11)) (fun _ hk => trivial), by repeat (first | (with_reducible first | exact HB.out | apply wA | apply wN | apply wD | refine wS ?_ GE319.out | refine wS ?_ GE320.out) | exact HB.out)⟩
  ·
   rw [if_neg c3] at H; exact absurd H (by simp)
 ·
  rw [if_neg c2] at H; exact absurd H (by simp)
end Go.Proofs.Ytkigiehkckjlhaa.PMakes
