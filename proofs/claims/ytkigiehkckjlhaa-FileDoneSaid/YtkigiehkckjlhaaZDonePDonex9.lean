/- The Go functions that these laws reach, each as a Lean function with the same answers (a law itself where it answers true), and the proof that the code comes to them; conditions: those of each theorem. Laid by a program of this session over the print. -/
import Derived.Test.YtkigiehkckjlhaaZDonePDoneShort
import Derived.Test.YtkigiehkckjlhaaZDonePDonex0
namespace Go.Proofs.Ytkigiehkckjlhaa.PDone
open Go.RowKit Go.Proofs.YtkigiehkckjlhaaW.PrintWords Go.Proofs.YtkigiehkckjlhaaW.PrintLast Go.Proofs.YtkigiehkckjlhaaW.PrintMore
attribute [local go_sem] max2_int min2_int max_two min_two max_three min_three max_four min_four   -- for this text's walks alone
set_option linter.unusedVariables false
set_option linter.unusedSimpArgs false
open Go.Proofs.YtkigiehkckjlhaaW.PrintWords renaming blk_drewN → bN, blk_drew → bD, blk_alloc → bA, below_set → wS, below_alloc → wA, pw_below_drewN → wN, below_drew1 → wD, blk_below → bB, blk_far → bF, blk_cell → bC, blk_frozen → bZ
open List renaming setIfInBounds_toArray → lT, set_cons_zero → l0_, set_cons_succ → lS
abbrev B9_0 : Array Bool := #[false, false, false, false, false, false, false, false, false, false]
abbrev B9_1 := B9_0.set! 0 true
abbrev B9_2 := B9_1.set! 3 true
abbrev B9_3 := B9_2.set! 1 true
abbrev B9_4 := B9_3.set! 4 true
abbrev B9_5 := B9_4.set! 2 true
abbrev B9_6 := B9_5.set! 6 true
abbrev B9_7 := B9_6.set! 5 true
abbrev B9_8 := B9_7.set! 7 true
abbrev B9_9 := B9_8.set! 8 true
abbrev B9_10 := B9_9.set! 9 true
def potsherdref12_CopyNode.f (a0_0 : Int) (a0_1 : Int) (a0_2 : Int) (l0_3 : List Int) (l0_4 : List (S78)) : Option (Int × Int × Int × List Int × (List (S78))) := if ([] : List Int).length + l0_3.length < 17592186044416 then (if ([] : List (S78)).length + l0_4.length < 5864062014805 then (some (a0_0, a0_1, a0_2, (([] : List Int) ++ l0_3), (([] : List (S78)) ++ l0_4))) else (none)) else (none)
def potsherdref12_CopyNode.T1 : Bool × List (List Nat × List Nat) := (true, [([], []), ([0], [0]), ([1], [1]), ([], []), ([3], [3]), ([4, 2], [4]), ([0, 1, 2, 3, 4], []), ([6, 2, 5, 0, 1, 2, 3, 4], [2, 6]), ([0, 1, 2, 3, 4, 5, 6, 7], []), ([8, 5, 7, 0, 1, 2, 3, 4, 5, 6, 7], [5, 8])])
def potsherdref12_CopyNode.B1 : List Nat := [0, 1, 3, 0, 8, 31, 31, 127, 255, 511]
theorem potsherdref12_CopyNode.tab1 : rtab .any (opsOf Try.f26 1) = potsherdref12_CopyNode.T1 := by kernel_rfl
theorem potsherdref12_CopyNode.bits1 : waitsOk potsherdref12_CopyNode.T1.2 potsherdref12_CopyNode.B1 = true := by kernel_rfl
set_option maxHeartbeats 8000000 in
set_option maxRecDepth 100000 in
theorem potsherdref12_CopyNode.calls (a0_0 : Int) (a0_1 : Int) (a0_2 : Int) (A0_3 : Option Addr) (c0_3 : Nat) (l0_3 : List Int) (A0_4 : Option Addr) (c0_4 : Nat) (l0_4 : List (S78)) (r1 : Int) (r2 : Int) (r3 : Int) (r4 : List Int) (r5 : List (S78)) (w : World) (hr0_3 : Kd.C (Kd.int .i64) w A0_3 l0_3.length l0_3) (hc0_3 : l0_3.length ≤ c0_3) (hr0_4 : Kd.C k78 w A0_4 l0_4.length l0_4) (hc0_4 : l0_4.length ≤ c0_4) (h : potsherdref12_CopyNode.f a0_0 a0_1 a0_2 l0_3 l0_4 = some (r1, r2, r3, r4, r5)) :
 Calls Try.prog 26 #[.agg #[.int .i64 a0_0, .int .i64 a0_1, .int .i64 a0_2, .slice A0_3 l0_3.length c0_3, .slice A0_4 l0_4.length c0_4]] w fun e w' => ∃ v3_ v4_ : Value, e = .returned (.agg #[.int .i64 r1, .int .i64 r2, .int .i64 r3, v3_, v4_]) ∧ Kd.R (Kd.int .i64) 3 w' w.heap.size (fun _ => True) v3_ r4 ∧ Kd.R k78 78 w' w.heap.size (fun _ => True) v4_ r5 ∧ Below w.heap.size w w' := by
 have hu28 := Try.underlying28; have HR0_3 := Aside0.mk hr0_3; have HC0_3 := Aside0.mk hc0_3; clear hr0_3 hc0_3; have HR0_4 := Aside0.mk hr0_4; have HC0_4 := Aside0.mk hc0_4; clear hr0_4 hc0_4; have HB := Aside0.mk (Below.refl w.heap.size w); have H : (if ([] : List Int).length + l0_3.length < 17592186044416 then (if ([] : List (S78)).length + l0_4.length < 5864062014805 then (some (a0_0, a0_1, a0_2, (([] : List Int) ++ l0_3), (([] : List (S78)) ++ l0_4))) else (none)) else (none)) = some (r1, r2, r3, r4, r5) := h; clear h
 replace H := nP H; obtain ⟨c2, H⟩ := H; have LMc2 := Aside0.mk c2; clear c2; obtain ⟨y136, hy136⟩ : ∃ y_ : List Int, y_ = (([] : List Int) ++ l0_3) := ⟨_, rfl⟩
 replace H : (if ([] : List (S78)).length + l0_4.length < 5864062014805 then (some (a0_0, a0_1, a0_2, y136, (([] : List (S78)) ++ l0_4))) else (none)) = some (r1, r2, r3, r4, r5) := rH H hy136
 have Ny136 := Aside0.mk hy136; clear hy136
 replace H := nP H; obtain ⟨c3, H⟩ := H; have LMc3 := Aside0.mk c3; clear c3; obtain ⟨y139, hy139⟩ : ∃ y_ : List (S78), y_ = (([] : List (S78)) ++ l0_4) := ⟨_, rfl⟩
 replace H : (some (a0_0, a0_1, a0_2, y136, y139)) = some (r1, r2, r3, r4, r5) := rH H hy139
 have Ny139 := Aside0.mk hy139; clear hy139; simp only [Option.some.injEq, Prod.mk.injEq] at H; obtain ⟨rfl, rfl, rfl, rfl, rfl⟩ := H
 go_enter Try.func26, Try.ntmps26
 try go_wp2_with (first | ((with_reducible refine gate_dst (N := 1) rfl ?_); refine bxE 28 (cs := #[.int .i64 a0_0, .int .i64 a0_1, .int .i64 a0_2, .slice A0_3 l0_3.length c0_3, .slice A0_4 l0_4.length c0_4]) ?_; intro gb134 hg w4 hbox hb; have BK134 := Aside0.mk hbox; have GW134 := kG HB hg; have GE134 := kG HB hg; replace HB := kH HB hb; clear hb hbox hg) | ((with_reducible refine gate_dst (N := 2) rfl ?_); refine bxE 28 (cs := #[.int .i64 0, .int .i64 0, .int .i64 0, .slice none 0 0, .slice none 0 0]) ?_; intro gb135 hg w5 hbox hb; have BK135 := Aside0.mk hbox; have GW135 := kG HB hg; have GE135 := kG HB hg; replace HB := kH HB hb; have NB134_135 := kL BK134 hg; have NB135_134 := kQ BK134 hg; replace BK134 := kB BK134 hb; clear hb hbox hg))
 replace BK134 := Aside0.mk (bD BK134.out); replace BK135 := Aside0.mk (bD BK135.out); replace HB := Aside0.mk (wD HB.out); refine start_ (n := 10) (S := fun w' => w'.cell? ⟨gb134, 0, none⟩ = some (.int .i64 a0_0) ∧ w'.cell? ⟨gb134, 1, none⟩ = some (.int .i64 a0_1) ∧ w'.cell? ⟨gb134, 2, none⟩ = some (.int .i64 a0_2) ∧ w'.cell? ⟨gb134, 3, none⟩ = some (.slice A0_3 l0_3.length c0_3) ∧ w'.cell? ⟨gb134, 4, none⟩ = some (.slice A0_4 l0_4.length c0_4)) (ds := [7, 9]) B9_0 (by kernel_rfl) rfl rfl ⟨cZ0 BK134, cZ1 BK134, cZ2 BK134, cZ3 BK134, cZ4 BK134⟩ (fun hHeld => ?_); refine with_tabW potsherdref12_CopyNode.tab1 potsherdref12_CopyNode.bits1 (fun HT_ HW_ => ?_); generalize w5.drew = w6 at BK134 BK135 HB hHeld ⊢; refine pE 0 3 B9_1 HT_ ?_
 refine pE 3 6 B9_2 HT_ ?_
 refine tE 1 4 B9_3 HT_ HW_ hHeld ?_
 refine tE 4 7 B9_4 HT_ HW_ hHeld ?_
 refine one_ (i := 2) (N := some 5) B9_5 rfl rfl (one_of HT_.out (by kernel_rfl)) (by decide) (fun K hK => ?_); refine Kd.R_append_rows_step (Kd.int .i64) (w0 := w) w.heap.size rfl (.const (.slice none 0 0)) (.tmp 4) 25 3 (.int .i64 0) 8 rfl Try.underlying25 info3 rfl (by decide) (by omega) (.slice none 0 0) ([] : List Int) l0_3 _ _ _ (fun _ => True) (fun _ => False) rfl rfl ?aO ?aR (fun _ _ h => h) (fun _ h => h.elim) ?aF ?aB ?aS ?aL ?_
 (case aR => repeat (first | exact (Kd.C_below HR0_3.out HB.out) | (with_reducible refine Kd.C_alloc ?_ _) | (with_reducible refine Kd.C_drewN ?_ _) | (with_reducible refine Kd.C_drew ?_)))
 (case aB => exact (mH HB))
 (case aF => exact (fun _ _ => trivial))
 (case aO => exact ((Kd.R_nil _ _ _ _ (fun _ => True))))
 (case aS => exact (below_size (mH HB)))
 (case aL => have := LMc2.out; omega)
 intro v137 w7 ho hb hg hat; rw [← Ny136.out] at ho; replace BK134 := Aside0.mk (blk_grown (g := gb134) (o := .cells #[.int .i64 a0_0, .int .i64 a0_1, .int .i64 a0_2, .slice A0_3 l0_3.length c0_3, .slice A0_4 l0_4.length c0_4] 28 (0, 0)) (mB BK134) hg (by simp [Value.ownBlock])); replace BK135 := Aside0.mk (blk_grown (g := gb135) (o := .cells #[.int .i64 0, .int .i64 0, .int .i64 0, .slice none 0 0, .slice none 0 0] 28 (0, 0)) (mB BK135) hg (by simp [Value.ownBlock])); replace HB := Aside0.mk (hb); have HO138 := Aside0.mk (ho); clear ho hb hg hat; refine hK.out _ _ ⟨cZ0 BK134, cZ1 BK134, cZ2 BK134, cZ3 BK134, cZ4 BK134⟩ (fun hHeld => ?_); clear hK K; refine norm_ (a' := ?_) ?_ ?_; rotate_left
 ·
  show Act.put _ (some 5) _ = _
  simp only [Act.put, lT, l0_, lS, i64_w, i32_w]; rfl
 refine pE 6 9 B9_6 HT_ ?_
 refine one_ (i := 5) (N := some 8) B9_7 rfl rfl (one_of HT_.out (by kernel_rfl)) (by decide) (fun K hK => ?_); refine Kd.R_append_rows_step k78 (w0 := w) w.heap.size rfl (.const (.slice none 0 0)) (.tmp 7) 26 78 (.agg #[(.string ⟨#[]⟩), (.int .i64 0)]) 24 rfl Try.underlying26 info78 rfl (by decide) (by omega) (.slice none 0 0) ([] : List (S78)) l0_4 _ _ _ (fun _ => True) (fun _ => False) rfl rfl ?aO ?aR (fun _ _ h => h) (fun _ h => h.elim) ?aF ?aB ?aS ?aL ?_
 (case aR => repeat (first | exact (Kd.C_below HR0_4.out HB.out) | (with_reducible refine Kd.C_alloc ?_ _) | (with_reducible refine Kd.C_drewN ?_ _) | (with_reducible refine Kd.C_drew ?_)))
 (case aB => exact (mH HB))
 (case aF => exact (fun _ _ => trivial))
 (case aO => exact ((Kd.R_nil _ _ _ _ (fun _ => True))))
 (case aS => exact (below_size (mH HB)))
 (case aL => have := LMc3.out; omega)
 intro v140 w8 ho hb hg hat; rw [← Ny139.out] at ho; replace BK134 := Aside0.mk (blk_grown (g := gb134) (o := .cells #[.int .i64 a0_0, .int .i64 a0_1, .int .i64 a0_2, .slice A0_3 l0_3.length c0_3, .slice A0_4 l0_4.length c0_4] 28 (0, 0)) (mB BK134) hg (by simp [Value.ownBlock])); replace BK135 := Aside0.mk (blk_grown (g := gb135) (o := .cells #[.int .i64 0, .int .i64 0, .int .i64 0, .slice none 0 0, .slice none 0 0] 28 (0, 0)) (mB BK135) hg (by simp [Value.ownBlock])); replace HO138 := Aside0.mk (Kd.R_grown (mR HO138) hg (fun _ _ => by simp [Value.ownBlock])); replace HB := Aside0.mk (hb); have HO141 := Aside0.mk (ho); clear ho hb hg hat; obtain ⟨Ao9, co9, eo9⟩ := Kd.R_slice HO138.out
 (first | subst eo9 | (injection eo9 with f1_ f2_ f3_; have f4_ := f1_.symm; have f5_ := f3_.symm; clear f1_ f2_ f3_; subst f4_; subst f5_))
 obtain ⟨Ao11, co11, eo11⟩ := Kd.R_slice HO141.out
 (first | subst eo11 | (injection eo11 with f1_ f2_ f3_; have f4_ := f1_.symm; have f5_ := f3_.symm; clear f1_ f2_ f3_; subst f4_; subst f5_))
 refine hK.out _ _ ⟨cZ0 BK134, cZ1 BK134, cZ2 BK134, cZ3 BK134, cZ4 BK134⟩ (fun hHeld => ?_); clear hK K; refine norm_ (a' := ?_) ?_ ?_; rotate_left
 ·
  show Act.put _ (some 8) _ = _
  simp only [Act.put, lT, l0_, lS, i64_w, i32_w]; rfl
 refine last_ (i := 7) (N := none) B9_8 rfl rfl (one_of HT_.out (by kernel_rfl)) (by decide) (fun K hK => ?_); have hs10 := cZ3 BK134; have hfs10 := bZ BK134.out 3; have hns10_1 := NB135_134.out; have hms10_1 := NB134_135.out; refine skip_ (w1 := ?_) (by rfl) rfl ?_ ?_; rotate_left
 ·
  go_simp; rfl
 refine hK.out _ _ ?_; clear hK K; refine pE 8 10 B9_9 HT_ ?_
 refine last_ (i := 9) (N := none) B9_10 rfl rfl (one_of HT_.out (by kernel_rfl)) (by decide) (fun K hK => ?_); have hs12 := cZ4 BK134; have hfs12 := bZ BK134.out 4; have hns12_1 := NB135_134.out; have hms12_1 := NB134_135.out; refine skip_ (w1 := ?_) (by rfl) rfl ?_ ?_; rotate_left
 ·
  go_simp; rfl
 refine hK.out _ _ ?_; clear hK K; refine done_ (done_of HT_.out (by kernel_rfl)) ?_; have hnb13 := NB134_135.out; have hnc13 := NB135_134.out; obtain ⟨hcz14_0, hfz14_0⟩ := cY0 BK134; obtain ⟨hcz14_1, hfz14_1⟩ := cY1 BK134; obtain ⟨hcz14_2, hfz14_2⟩ := cY2 BK134; obtain ⟨hcz14_3, hfz14_3⟩ := cY3 BK134; obtain ⟨hcz14_4, hfz14_4⟩ := cY4 BK134; obtain ⟨hcz15_0, hfz15_0⟩ := cY0 BK135; obtain ⟨hcz15_1, hfz15_1⟩ := cY1 BK135; obtain ⟨hcz15_2, hfz15_2⟩ := cY2 BK135; obtain ⟨hcz15_3, hfz15_3⟩ := cY3 BK135; obtain ⟨hcz15_4, hfz15_4⟩ := cY4 BK135
 try go_wp2
 refine bodyPost_ret (results_cell_row rfl _ _ gb135 28 #[.int .i64 a0_0, .int .i64 a0_1, .int .i64 a0_2, .slice Ao9 y136.length co9, .slice Ao11 y139.length co11] (0, 0) _ rfl (by (with_reducible repeat (first | refine bN ?_ _ | refine bD ?_ | refine bA ?_ _)); refine blk_put (cs := #[.int .i64 a0_0, .int .i64 a0_1, .int .i64 a0_2, .slice Ao9 y136.length co9, .slice none 0 0]) ?_ 4 _ rfl; (with_reducible repeat (first | refine bN ?_ _ | refine bD ?_ | refine bA ?_ _)); refine blk_put (cs := #[.int .i64 a0_0, .int .i64 a0_1, .int .i64 a0_2, .slice none 0 0, .slice none 0 0]) ?_ 3 _ rfl; (with_reducible repeat (first | refine bN ?_ _ | refine bD ?_ | refine bA ?_ _)); refine blk_put (cs := #[.int .i64 a0_0, .int .i64 a0_1, .int .i64 0, .slice none 0 0, .slice none 0 0]) ?_ 2 _ rfl; (with_reducible repeat (first | refine bN ?_ _ | refine bD ?_ | refine bA ?_ _)); refine blk_put (cs := #[.int .i64 a0_0, .int .i64 0, .int .i64 0, .slice none 0 0, .slice none 0 0]) ?_ 1 _ rfl; (with_reducible repeat (first | refine bN ?_ _ | refine bD ?_ | refine bA ?_ _)); refine blk_put (cs := #[.int .i64 0, .int .i64 0, .int .i64 0, .slice none 0 0, .slice none 0 0]) ?_ 0 _ rfl; (with_reducible repeat (first | refine bN ?_ _ | refine bD ?_ | refine bA ?_ _)); refine bF ?_ NB135_134.out _; (with_reducible repeat (first | refine bN ?_ _ | refine bD ?_ | refine bA ?_ _)); refine bF ?_ NB135_134.out _; (with_reducible repeat (first | refine bN ?_ _ | refine bD ?_ | refine bA ?_ _)); exact BK135.out) Try.underlying28 rfl (by kernel_rfl)) rfl ?_
 exact ⟨_, _, rT, by (with_reducible repeat (first | apply Kd.R_alloc | apply Kd.R_drewN | apply Kd.R_drew)); exact Kd.R_mono (Kd.R_far (p := ⟨gb135, 4, none⟩) (Kd.R_far (p := ⟨gb135, 3, none⟩) (Kd.R_far (p := ⟨gb135, 2, none⟩) (Kd.R_far (p := ⟨gb135, 1, none⟩) (Kd.R_far (p := ⟨gb135, 0, none⟩) (Kd.R_far (p := ⟨gb134, 4, none⟩) (Kd.R_far (p := ⟨gb134, 3, none⟩) (Kd.R_types (Kd.R_types HO138.out BK134.out (by decide)) BK135.out (by decide)) (fun _ hk => hk.1.2) (.slice Ao9 y136.length co9)) (fun _ hk => hk.1.2) (.slice Ao11 y139.length co11)) (fun _ hk => hk.2) (.int .i64 a0_0)) (fun _ hk => hk.2) (.int .i64 a0_1)) (fun _ hk => hk.2) (.int .i64 a0_2)) (fun _ hk => hk.2) (.slice Ao9 y136.length co9)) (fun _ hk => hk.2) (.slice Ao11 y139.length co11)) (fun _ hk => trivial), by (with_reducible repeat (first | apply Kd.R_alloc | apply Kd.R_drewN | apply Kd.R_drew)); exact Kd.R_mono (Kd.R_far (p := ⟨gb135, 4, none⟩) (Kd.R_far (p := ⟨gb135, 3, none⟩) (Kd.R_far (p := ⟨gb135, 2, none⟩) (Kd.R_far (p := ⟨gb135, 1, none⟩) (Kd.R_far (p := ⟨gb135, 0, none⟩) (Kd.R_far (p := ⟨gb134, 4, none⟩) (Kd.R_far (p := ⟨gb134, 3, none⟩) (Kd.R_types (Kd.R_types HO141.out BK134.out (by decide)) BK135.out (by decide)) (fun _ hk => hk.1.2) (.slice Ao9 y136.length co9)) (fun _ hk => hk.1.2) (.slice Ao11 y139.length co11)) (fun _ hk => hk.2) (.int .i64 a0_0)) (fun _ hk => hk.2) (.int .i64 a0_1)) (fun _ hk => hk.2) (.int .i64 a0_2)) (fun _ hk => hk.2) (.slice Ao9 y136.length co9)) (fun _ hk => hk.2) (.slice Ao11 y139.length co11)) (fun _ hk => trivial), mH HB⟩
abbrev B10_0 : Array Bool := #[false, false, false, false, false, false, false, false]
abbrev B10_1 := B10_0.set! 0 true
abbrev B10_2 := B10_1.set! 1 true
abbrev B10_3 := B10_2.set! 2 true
abbrev B10_4 := B10_3.set! 3 true
abbrev B10_5 := B10_4.set! 4 true
abbrev B10_6 := B10_5.set! 5 true
abbrev B10_7 := B10_6.set! 6 true
abbrev B10_8 := B10_7.set! 7 true
def potsherdref12_CopyTree.l0 : Nat → List (S28) → Int → Int → List (S28) → Option ((List (S28)))
 | 0, _, _, _, _ => none
 | k + 1, x7, x8, x9, x145000 => if x9 < x8 then (if 0 ≤ x9 then (if x9 < (x7.length : Int) then ((potsherdref12_CopyNode.f ((rd_T28 x7 x9).f0) ((rd_T28 x7 x9).f1) ((rd_T28 x7 x9).f2) ((rd_T28 x7 x9).f3) ((rd_T28 x7 x9).f4)).bind fun bt147 => (if x145000.length < 1954687338268 then (potsherdref12_CopyTree.l0 k x7 x8 (wrap64 (x9 + 1)) (x145000 ++ [(⟨bt147.1, bt147.2.1, bt147.2.2.1, bt147.2.2.2.1, bt147.2.2.2.2⟩ : S28)])) else (none))) else (none)) else (none)) else (some x145000)
def potsherdref12_CopyTree.f (k : Nat) (l0_0 : List (S28)) : Option ((List (S28))) := potsherdref12_CopyTree.l0 k l0_0 (l0_0.length : Int) 0 ([] : List (S28))
theorem potsherdref12_CopyTree.mono_l : ∀ k, (∀ y0 y1 y2 y3, LeO (potsherdref12_CopyTree.l0 k y0 y1 y2 y3) (potsherdref12_CopyTree.l0 (k + 1) y0 y1 y2 y3))
 | 0 => fun _ _ _ _ r h => by simp [potsherdref12_CopyTree.l0] at h
 | k + 1 => by
  have ih0 := potsherdref12_CopyTree.mono_l k
  ·
   intro y0 y1 y2 y3
   unfold potsherdref12_CopyTree.l0
   repeat' with_reducible first | apply ih0 | exact LeO.refl _ | exact LeO.none _ | refine LeO.ite ?_ ?_ | refine LeO.bind ?_ (fun _ => ?_)
theorem potsherdref12_CopyTree.mono : ∀ a0 k, LeO (potsherdref12_CopyTree.f k a0) (potsherdref12_CopyTree.f (k + 1) a0) := by
 intro a0 k; have ih0 := potsherdref12_CopyTree.mono_l k
 unfold potsherdref12_CopyTree.f
 repeat' with_reducible first | apply ih0 | exact LeO.refl _ | exact LeO.none _ | refine LeO.ite ?_ ?_ | refine LeO.bind ?_ (fun _ => ?_)
def potsherdref12_CopyTree.T5 : Bool × List (List Nat × List Nat) := (true, [([], []), ([0], [0]), ([], []), ([2], [2]), ([3], [3]), ([1, 4, 3], [1, 4]), ([0, 1, 2, 3, 4, 5], []), ([6, 5, 5, 0, 1, 2, 3, 4, 5], [5, 6])])
def potsherdref12_CopyTree.B5 : List Nat := [0, 1, 0, 4, 12, 31, 63, 127]
theorem potsherdref12_CopyTree.tab5 : rtab .any (opsOf Try.f32 5) = potsherdref12_CopyTree.T5 := by kernel_rfl
theorem potsherdref12_CopyTree.bits5 : waitsOk potsherdref12_CopyTree.T5.2 potsherdref12_CopyTree.B5 = true := by kernel_rfl
set_option maxHeartbeats 8000000 in
set_option maxRecDepth 100000 in
theorem potsherdref12_CopyTree.calls (k : Nat) (A0_0 : Option Addr) (c0_0 : Nat) (l0_0 : List (S28)) (r : List (S28)) (w : World) (hr0_0 : Kd.C k28 w A0_0 l0_0.length l0_0) (hc0_0 : l0_0.length ≤ c0_0) (h : potsherdref12_CopyTree.f k l0_0 = some r) :
 Calls Try.prog 32 #[.agg #[.slice A0_0 l0_0.length c0_0]] w fun e w' => ∃ v0_ : Value, e = .returned (.agg #[v0_]) ∧ Kd.S k28 28 w' w.heap.size (fun _ => True) v0_ r ∧ Below w.heap.size w w' := by
 have hu24 := Try.underlying24; have hu28 := Try.underlying28; have HR0_0 := Aside0.mk hr0_0; have HC0_0 := Aside0.mk hc0_0; clear hr0_0 hc0_0; have HB := Aside0.mk (Below.refl w.heap.size w); have H : (potsherdref12_CopyTree.l0 k l0_0 (l0_0.length : Int) 0 ([] : List (S28))) = some r := h; clear h; have H' := Aside0.mk H; clear H
 go_enter Try.func32, Try.ntmps32
 go_wp2_with (first | ((with_reducible refine gate_dst (N := 1) rfl ?_); refine bxE 24 (cs := #[.slice A0_0 l0_0.length c0_0]) ?_; intro gb142 hg w2 hbox hb; have BK142 := Aside0.mk hbox; have GW142 := kG HB hg; have GE142 := kG HB hg; replace HB := kH HB hb; clear hb hbox hg) | ((with_reducible refine gate_dst (N := 2) rfl ?_); refine bxE 24 (cs := #[.slice none 0 0]) ?_; intro gb143 hg w3 hbox hb; have BK143 := Aside0.mk hbox; have GW143 := kG HB hg; have GE143 := kG HB hg; replace HB := kH HB hb; have NB142_143 := kL BK142 hg; have NB143_142 := kQ BK142 hg; replace BK142 := kB BK142 hb; clear hb hbox hg) | ((with_reducible refine gate_dst (N := 3) rfl ?_); refine bxE 24 (cs := #[.slice none 0 0]) ?_; intro gb144 hg w4 hbox hb; have BK144 := Aside0.mk hbox; have GW144 := kG HB hg; have GE144 := kG HB hg; replace HB := kH HB hb; have NB142_144 := kL BK142 hg; have NB144_142 := kQ BK142 hg; replace BK142 := kB BK142 hb; have NB143_144 := kL BK143 hg; have NB144_143 := kQ BK143 hg; replace BK143 := kB BK143 hb; clear hb hbox hg; have hnb5 := NB142_143.out; have hnc5 := NB143_142.out; have hnb6 := NB142_144.out; have hnc6 := NB144_142.out; obtain ⟨hcz7_0, hfz7_0⟩ := cY0 BK142))
 go_loopg [9] k (fun kq v9 w' => ∃ (x9_1 : Int) (x145000_1 : List (S28)) (u145000 : Value), v9 = .int .i64 x9_1 ∧ Aside0 (potsherdref12_CopyTree.l0 kq l0_0 (l0_0.length : Int) x9_1 x145000_1 = some r) ∧ Aside0 (kq ≤ k) ∧ Aside0 (Kd.S k28 28 w' w.heap.size (fun _ => True) u145000 x145000_1) ∧ Aside0 (w'.heap[gb142]? = some (.cells #[(.slice A0_0 l0_0.length c0_0)] 24 (0, 0))) ∧ Aside0 (w'.heap[gb143]? = some (.cells #[(.slice none 0 0)] 24 (0, 0))) ∧ Aside0 (w'.heap[gb144]? = some (.cells #[u145000] 24 (0, 0))) ∧ Aside0 (Below w.heap.size w w'))
 case atStart => exact ⟨(0), (([] : List (S28))), (.slice none 0 0), sI, H', ⟨Nat.le_refl _⟩, ⟨by first | exact Kd.S_nil _ _ _ _ _ | exact Kd.N_nil _ _ _ _ _ | exact Kd.V_nil _ _ _ _ _ | exact Kd.Q_nil _ _ _ _ _ | exact Kd.R_nil _ _ _ _ _⟩, ⟨mB BK142⟩, ⟨mB BK143⟩, ⟨mB BK144⟩, ⟨mH HB⟩⟩
 case round =>
  clear H'
  (try clear hcz7_0); (try clear hfz7_0)
  obtain ⟨x9_1, x145000_1, u145000, rfl, HA, HK1, HO_145000, BK142, BK143, BK144, HB⟩ := hrel
  cases gk with
  | zero => exact absurd HA.out (by simp [potsherdref12_CopyTree.l0])
  | succ k1 =>
   have H := HA.out; clear HA; simp only [potsherdref12_CopyTree.l0] at H
   by_cases c8 : x9_1 < (l0_0.length : Int)
   ·
    rw [if_pos c8] at H; have c8b0 := decide_eq_true c8; clear c8
    replace H := nP H; obtain ⟨c9, H⟩ := H; have c9b0 := decide_eq_true c9; clear c9
    replace H := nP H; obtain ⟨c10, H⟩ := H; have c10b0 := decide_eq_true c10; clear c10; replace H := Option.bind_eq_some_iff.mp H; obtain ⟨⟨t147, t148, t149, t150, t153⟩, A110, H⟩ := H; replace H : (if x145000_1.length < 1954687338268 then (potsherdref12_CopyTree.l0 k1 l0_0 (l0_0.length : Int) (wrap64 (x9_1 + 1)) (x145000_1 ++ [(⟨t147, t148, t149, t150, t153⟩ : S28)])) else (none)) = some r := H; have A11 := Aside0.mk A110; clear A110
    replace H := nP H; obtain ⟨c12, H⟩ := H; have LMc12 := Aside0.mk c12; clear c12; obtain ⟨y156, hy156⟩ : ∃ y_ : List (S28), y_ = (x145000_1 ++ [(⟨t147, t148, t149, t150, t153⟩ : S28)]) := ⟨_, rfl⟩
    replace H : (potsherdref12_CopyTree.l0 k1 l0_0 (l0_0.length : Int) (wrap64 (x9_1 + 1)) y156) = some r := rH H hy156
    have Ny156 := Aside0.mk hy156; clear hy156; have H' := Aside0.mk H; clear H; have p145 : 0 ≤ (x9_1 : Int) := dT; have q145 : x9_1 < (l0_0.length : Int) := dT; obtain ⟨ad145, A145_3, c145_3, A145_4, c145_4, e145, hx145_0, hx145_1, hx145_2, hx145_3, hx145_4, hl145_3, hi145_3, hl145_4, hi145_4⟩ := at_T28 HR0_0.out x9_1 p145 q145
    cases e145
    replace hx145_0 := xC HB hx145_0; replace hx145_1 := xC HB hx145_1; replace hx145_2 := xC HB hx145_2; replace hx145_3 := xC HB hx145_3; replace hx145_4 := xC HB hx145_4; have HR145_3 := Aside0.mk hi145_3; have HC145_3 := Aside0.mk hl145_3; clear hi145_3 hl145_3; have HR145_4 := Aside0.mk hi145_4; have HC145_4 := Aside0.mk hl145_4; clear hi145_4 hl145_4; replace p145 := eq_true p145; replace q145 := eq_true q145
    try go_wp2_with (first | ((with_reducible refine gate_dst (N := 5) rfl ?_); refine bxE 28 (cs := #[.int .i64 0, .int .i64 0, .int .i64 0, .slice none 0 0, .slice none 0 0]) ?_; intro gb146 hg w13 hbox hb; replace HO_145000 := Aside0.mk (Kd.S_below (Kd.S_elderB (mS HO_145000) gb146 (Nat.le_of_eq hg.symm)) hb); have BK146 := Aside0.mk hbox; have GW146 := kG HB hg; have GE146 := kG HB hg; replace HB := kH HB hb; have NB142_146 := kL BK142 hg; have NB146_142 := kQ BK142 hg; replace BK142 := kB BK142 hb; have NB143_146 := kL BK143 hg; have NB146_143 := kQ BK143 hg; replace BK143 := kB BK143 hb; have NB144_146 := kL BK144 hg; have NB146_144 := kQ BK144 hg; replace BK144 := kB BK144 hb; clear hb hbox hg; have hnb14 := NB146_142.out; have hnc14 := NB142_146.out; have hnb15 := NB146_143.out; have hnc15 := NB143_146.out; have hnb16 := NB146_144.out; have hnc16 := NB144_146.out; obtain ⟨hcz17_0, hfz17_0⟩ := cY0 BK146; obtain ⟨hcz17_1, hfz17_1⟩ := cY1 BK146; obtain ⟨hcz17_2, hfz17_2⟩ := cY2 BK146; obtain ⟨hcz17_3, hfz17_3⟩ := cY3 BK146; obtain ⟨hcz17_4, hfz17_4⟩ := cY4 BK146))
    obtain ⟨w18, hw_, n_⟩ : ∃ W_, ((((w13.setCell ⟨gb146, 0, none⟩ (.int .i64 ((rd_T28 l0_0 x9_1).f0))).setCell ⟨gb146, 1, none⟩ (.int .i64 ((rd_T28 l0_0 x9_1).f1))).setCell ⟨gb146, 2, none⟩ (.int .i64 ((rd_T28 l0_0 x9_1).f2))).setCell ⟨gb146, 3, none⟩ (.slice A145_3 ((rd_T28 l0_0 x9_1).f3).length c145_3)).setCell ⟨gb146, 4, none⟩ (.slice A145_4 ((rd_T28 l0_0 x9_1).f4).length c145_4) = W_ ∧ Aside0 (Kd.S k28 28 W_ w.heap.size (fun k_ => k_ ≠ gb146) u145000 x145000_1) ∧ Aside0 (W_.heap[gb142]? = some (.cells #[.slice (some ad145) l0_0.length c0_0] 24 (0, 0))) ∧ Aside0 (W_.heap[gb143]? = some (.cells #[.slice none 0 0] 24 (0, 0))) ∧ Aside0 (W_.heap[gb144]? = some (.cells #[u145000] 24 (0, 0))) ∧ Aside0 (W_.heap[gb146]? = some (.cells #[.int .i64 ((rd_T28 l0_0 x9_1).f0), .int .i64 ((rd_T28 l0_0 x9_1).f1), .int .i64 ((rd_T28 l0_0 x9_1).f2), .slice A145_3 ((rd_T28 l0_0 x9_1).f3).length c145_3, .slice A145_4 ((rd_T28 l0_0 x9_1).f4).length c145_4] 28 (0, 0))) ∧ Aside0 (Below w.heap.size w W_) := ⟨_, rfl, ⟨fS HO_145000 (fun _ hk => hk.2)⟩, ⟨mF BK142⟩, ⟨mF BK143⟩, ⟨mF BK144⟩, ⟨pP BK146⟩, ⟨mH HB⟩⟩
    (try clear HO_145000); (try clear BK142); (try clear BK143); (try clear BK144); (try clear BK146); (try clear HB); rewrite [hw_]; clear hw_; obtain ⟨HO_145000, BK142, BK143, BK144, BK146, HB⟩ := n_; replace HO_145000 := Aside0.mk (Kd.S_drew HO_145000.out); replace BK142 := Aside0.mk (bD BK142.out); replace BK143 := Aside0.mk (bD BK143.out); replace BK144 := Aside0.mk (bD BK144.out); replace BK146 := Aside0.mk (bD BK146.out); replace HB := Aside0.mk (wD HB.out); refine start_ (n := 8) (S := fun w' => w'.cell? ⟨gb144, 0, none⟩ = some (u145000) ∧ w'.cell? ⟨gb146, 0, none⟩ = some (.int .i64 ((rd_T28 l0_0 x9_1).f0)) ∧ w'.cell? ⟨gb146, 1, none⟩ = some (.int .i64 ((rd_T28 l0_0 x9_1).f1)) ∧ w'.cell? ⟨gb146, 2, none⟩ = some (.int .i64 ((rd_T28 l0_0 x9_1).f2)) ∧ w'.cell? ⟨gb146, 3, none⟩ = some (.slice A145_3 ((rd_T28 l0_0 x9_1).f3).length c145_3) ∧ w'.cell? ⟨gb146, 4, none⟩ = some (.slice A145_4 ((rd_T28 l0_0 x9_1).f4).length c145_4)) (ds := [7]) B10_0 (by kernel_rfl) rfl rfl ⟨cZ0 BK144, cZ0 BK146, cZ1 BK146, cZ2 BK146, cZ3 BK146, cZ4 BK146⟩ (fun hHeld => ?_); refine with_tabW potsherdref12_CopyTree.tab5 potsherdref12_CopyTree.bits5 (fun HT_ HW_ => ?_); generalize w18.drew = w19 at HO_145000 BK142 BK143 BK144 BK146 HB hHeld ⊢; refine pure_ (i := 0) (N := some 13) (v := ?_) (a' := ?_) B10_1 rfl rfl (any_of HT_.out (by kernel_rfl)) (fun _ _ _ h => h) (Or.inl ⟨by rfl, ?_⟩) ?_ ?_; rotate_left
    ·
     intro w'; go_simp; with_reducible rfl
    rotate_left
    ·
     simp only [Act.put, lT, l0_, lS, i64_w, i32_w]; rfl
    refine tE 1 14 B10_2 HT_ HW_ hHeld ?_
    refine tE 2 15 B10_3 HT_ HW_ hHeld ?_
    refine one_ (i := 3) (N := some 16) B10_4 rfl rfl (one_of HT_.out (by kernel_rfl)) (by decide) (fun K hK => ?_); refine goes_ Try.func26 (by kernel_rfl) rfl #[.agg #[.int .i64 ((rd_T28 l0_0 x9_1).f0), .int .i64 ((rd_T28 l0_0 x9_1).f1), .int .i64 ((rd_T28 l0_0 x9_1).f2), .slice A145_3 ((rd_T28 l0_0 x9_1).f3).length c145_3, .slice A145_4 ((rd_T28 l0_0 x9_1).f4).length c145_4]] (by rfl) rfl rfl (by (try simp only [List.map_toArray, List.map_cons, List.map_nil]); first | done | rfl | (simp only [List.length_drop, List.length_take]; rfl)) ?_
    with_reducible refine (potsherdref12_CopyNode.calls ((rd_T28 l0_0 x9_1).f0) ((rd_T28 l0_0 x9_1).f1) ((rd_T28 l0_0 x9_1).f2) _ _ ((rd_T28 l0_0 x9_1).f3) _ _ ((rd_T28 l0_0 x9_1).f4) t147 t148 t149 t150 t153 _ ?side1 ?side2 ?side3 ?side4 A11.out).mono ?_
    (case side1 => exact mC HR145_3 HB)
    (case side2 => exact HC145_3.out)
    (case side3 => exact mC HR145_4 HB)
    (case side4 => exact HC145_4.out)
    rintro e w20 ⟨v151, v154, rfl, ho0, ho1, hb⟩; refine ⟨_, rfl, ?_⟩; replace HO_145000 := Aside0.mk (Kd.S_mono (Kd.S_told (Kd.S_told (Kd.S_old (mS HO_145000) hb) (Kd.R_base ho0)) (Kd.R_base ho1)) (fun _ h_ => h_.1)); have HO152 := Aside0.mk (Kd.R_lower ho0 (below_size (mH HB))); have HO155 := Aside0.mk (Kd.R_lower ho1 (below_size (mH HB))); replace BK142 := kB BK142 hb; replace BK143 := kB BK143 hb; replace BK144 := kB BK144 hb; replace BK146 := kB BK146 hb; replace HB := kH HB hb
    (try clear hb); (try clear hk); (try clear ho0); (try clear ho1)
    obtain ⟨Ao22, co22, eo22⟩ := Kd.R_slice HO152.out
    (first | subst eo22 | (injection eo22 with f1_ f2_ f3_; have f4_ := f1_.symm; have f5_ := f3_.symm; clear f1_ f2_ f3_; subst f4_; subst f5_))
    obtain ⟨Ao23, co23, eo23⟩ := Kd.R_slice HO155.out
    (first | subst eo23 | (injection eo23 with f1_ f2_ f3_; have f4_ := f1_.symm; have f5_ := f3_.symm; clear f1_ f2_ f3_; subst f4_; subst f5_))
    refine hK.out _ _ ⟨cZ0 BK144, cZ0 BK146, cZ1 BK146, cZ2 BK146, cZ3 BK146, cZ4 BK146⟩ (fun hHeld => ?_); clear hK K; refine norm_ (a' := ?_) ?_ ?_; rotate_left
    ·
     show Act.put _ (some 16) _ = _
     simp only [Act.put, lT, l0_, lS, i64_w, i32_w]; rfl
    refine one_ (i := 4) (N := some 17) B10_5 rfl rfl (one_of HT_.out (by kernel_rfl)) (by decide) (fun K hK => ?_); refine value_ (w1 := ?_) (v := ?_) (by rfl) rfl ?_ ?_; rotate_left 2
    ·
     go_simp
     constructor
     ·
      rfl
     ·
      rfl
    refine hK.out _ _ ⟨(bC (bA BK144.out _) 0).trans rfl, (bC (bA BK146.out _) 0).trans rfl, (bC (bA BK146.out _) 1).trans rfl, (bC (bA BK146.out _) 2).trans rfl, (bC (bA BK146.out _) 3).trans rfl, (bC (bA BK146.out _) 4).trans rfl⟩ (fun hHeld => ?_); clear hK K; refine norm_ (a' := ?_) ?_ ?_; rotate_left
    ·
     show Act.put _ (some 17) _ = _
     simp only [Act.put, lT, l0_, lS, i64_w, i32_w]; rfl
    refine one_ (i := 5) (N := some 18) B10_6 rfl rfl (one_of HT_.out (by kernel_rfl)) (by decide) (fun K hK => ?_); refine Kd.S_append_step k28 (w0 := w) w.heap.size (by rfl) (.tmp 14) (.tmp 17) 22 28 (.agg #[(.int .i64 0), (.int .i64 0), (.int .i64 0), (.slice none 0 0), (.slice none 0 0)]) 72 rfl Try.underlying22 info28 rfl (by decide) (by omega) u145000 x145000_1 (⟨t147, t148, t149, t150, t153⟩ : S28) [.int .i64 t147, .int .i64 t148, .int .i64 t149, .slice Ao22 t150.length co22, .slice Ao23 t153.length co23] (fun k_ => k_ ≠ gb146) (fun k_ => some k_ = (.slice Ao22 t150.length co22 : Value).ownBlock ∨ some k_ = (.slice Ao23 t153.length co23 : Value).ownBlock) rfl rfl ?aP (fun k_ hk_ => hk_.elim (fun h_ => ((Kd.R_mono (ok' := fun k_ => ((fun k_ => k_ ≠ gb146)) k_ ∧ some k_ ≠ (u145000 : Value).ownBlock) (Kd.R_types (Kd.R_apart' (HO152.out) (Kd.S_typed HO_145000.out) (by decide)) BK146.out (by decide)) (fun k_ hk => ⟨hk.2, hk.1.2⟩))).1 k_ h_.symm) (fun h_ => ((Kd.R_mono (ok' := fun k_ => ((fun k_ => k_ ≠ gb146)) k_ ∧ some k_ ≠ (u145000 : Value).ownBlock) (Kd.R_types (Kd.R_apart' (HO155.out) (Kd.S_typed HO_145000.out) (by decide)) BK146.out (by decide)) (fun k_ hk => ⟨hk.2, hk.1.2⟩))).1 k_ h_.symm)) ?aF ?aO ?aB ?aS ?aL ?_
    (case aP => exact k28_mkM _ _ _ (⟨t147, t148, t149, t150, t153⟩ : S28) (Kd.R_mono (Kd.R_tight rfl (Kd.R_mono (ok' := fun k_ => ((fun k_ => k_ ≠ gb146)) k_ ∧ some k_ ≠ (u145000 : Value).ownBlock) (Kd.R_types (Kd.R_apart' (HO152.out) (Kd.S_typed HO_145000.out) (by decide)) BK146.out (by decide)) (fun k_ hk => ⟨hk.2, hk.1.2⟩))) (fun _ h_ => Or.inl h_)) (Kd.R_mono (Kd.R_tight rfl (Kd.R_mono (ok' := fun k_ => ((fun k_ => k_ ≠ gb146)) k_ ∧ some k_ ≠ (u145000 : Value).ownBlock) (Kd.R_types (Kd.R_apart' (HO155.out) (Kd.S_typed HO_145000.out) (by decide)) BK146.out (by decide)) (fun k_ hk => ⟨hk.2, hk.1.2⟩))) (fun _ h_ => Or.inr (h_))))
    (case aB => exact (mH HB))
    (case aF => exact (fun k_ hk => Kd.freshB (g := gb146) (o := .cells #[.int .i64 ((rd_T28 l0_0 x9_1).f0), .int .i64 ((rd_T28 l0_0 x9_1).f1), .int .i64 ((rd_T28 l0_0 x9_1).f2), .slice A145_3 ((rd_T28 l0_0 x9_1).f3).length c145_3, .slice A145_4 ((rd_T28 l0_0 x9_1).f4).length c145_4] 28 (0, 0)) (mB BK146) k_ hk))
    (case aO => exact (by (with_reducible repeat (first | apply Kd.S_alloc | apply Kd.S_drewN | apply Kd.S_drew)); exact Kd.S_mono HO_145000.out (fun k_ hk => ⟨hk.1.1, fun e_ => e_.elim (fun h_ => hk.1.2 h_) (fun h_ => hk.2 h_)⟩)))
    (case aS => exact (below_size (mH HB)))
    (case aL => have := LMc12.out; omega)
    intro v157 w21 ho hb hg hat; rw [← Ny156.out] at ho; replace BK142 := Aside0.mk (blk_grown (g := gb142) (o := .cells #[.slice (some ad145) l0_0.length c0_0] 24 (0, 0)) (mB BK142) hg (Kd.S_ne HO_145000.out BK142.out (by decide))); replace BK143 := Aside0.mk (blk_grown (g := gb143) (o := .cells #[.slice none 0 0] 24 (0, 0)) (mB BK143) hg (Kd.S_ne HO_145000.out BK143.out (by decide))); replace BK144 := Aside0.mk (blk_grown (g := gb144) (o := .cells #[u145000] 24 (0, 0)) (mB BK144) hg (Kd.S_ne HO_145000.out BK144.out (by decide))); replace BK146 := Aside0.mk (blk_grown (g := gb146) (o := .cells #[.int .i64 ((rd_T28 l0_0 x9_1).f0), .int .i64 ((rd_T28 l0_0 x9_1).f1), .int .i64 ((rd_T28 l0_0 x9_1).f2), .slice A145_3 ((rd_T28 l0_0 x9_1).f3).length c145_3, .slice A145_4 ((rd_T28 l0_0 x9_1).f4).length c145_4] 28 (0, 0)) (mB BK146) hg (Kd.S_away HO_145000.out (fun _ hk => hk.1.1))); replace HB := Aside0.mk (hb); have HO158 := Aside0.mk (ho); clear HO_145000 HO152 HO155; clear ho hb hg hat; obtain ⟨Ao24, co24, eo24⟩ := Kd.S_slice HO158.out
    (first | subst eo24 | (injection eo24 with f1_ f2_ f3_; have f4_ := f1_.symm; have f5_ := f3_.symm; clear f1_ f2_ f3_; subst f4_; subst f5_))
    refine hK.out _ _ ⟨cZ0 BK144, cZ0 BK146, cZ1 BK146, cZ2 BK146, cZ3 BK146, cZ4 BK146⟩ (fun hHeld => ?_); clear hK K; refine norm_ (a' := ?_) ?_ ?_; rotate_left
    ·
     show Act.put _ (some 18) _ = _
     simp only [Act.put, lT, l0_, lS, i64_w, i32_w]; rfl
    refine pE 6 19 B10_7 HT_ ?_
    refine last_ (i := 7) (N := none) B10_8 rfl rfl (one_of HT_.out (by kernel_rfl)) (by decide) (fun K hK => ?_); have hs25 := cZ0 BK144; have hfs25 := bZ BK144.out 0; have hns25_0 := NB142_144.out; have hns25_1 := NB143_144.out; have hns25_3 := NB146_144.out; have hms25_0 := NB144_142.out; have hms25_1 := NB144_143.out; have hms25_3 := NB144_146.out; refine skip_ (w1 := ?_) (by rfl) rfl ?_ ?_; rotate_left
    ·
     go_simp; rfl
    refine hK.out _ _ ?_; clear hK K; refine done_ (done_of HT_.out (by kernel_rfl)) ?_
    try go_wp2
    go_roundg k1
    case measure => have := HK1.out; omega
    case rel => exact ⟨(wrap64 (x9_1 + 1)), (y156), (.slice Ao24 y156.length co24), sI, H', ⟨oK HK1⟩, ⟨fS ⟨Kd.S_types HO158.out BK144.out (by decide)⟩⟩, ⟨mF BK142⟩, ⟨mF BK143⟩, ⟨pP BK144⟩, ⟨mH HB⟩⟩
   ·
    rw [if_neg c8] at H; have c8b0 := decide_eq_false c8; clear c8; obtain rfl := Option.some.inj H; have hnb26 := NB144_142.out; have hnc26 := NB142_144.out; have hnb27 := NB144_143.out; have hnc27 := NB143_144.out; obtain ⟨hcz28_0, hfz28_0⟩ := cY0 BK144; obtain ⟨Ao29, co29, eo29⟩ := Kd.S_slice HO_145000.out; subst eo29; have hnb30 := NB143_142.out; have hnc30 := NB142_143.out; obtain ⟨hcz31_0, hfz31_0⟩ := cY0 BK143
    go_wp2
    refine bodyPost_ret (results_cell_row rfl _ _ gb143 24 #[.slice Ao29 x145000_1.length co29] (0, 0) _ rfl (pP BK143) Try.underlying24 rfl (by kernel_rfl)) rfl ?_
    exact ⟨_, rT, fS ⟨Kd.S_types HO_145000.out BK143.out (by decide)⟩, mH HB⟩
def node_within.f (a0 : Int) (a1 : Int) : Option (Bool) := if a0 ≥ 0 then (some (decide (a0 ≤ a1))) else (some false)
set_option maxHeartbeats 8000000 in
set_option maxRecDepth 100000 in
theorem node_within.calls (a0 : Int) (a1 : Int) (r : Bool) (w : World) (h : node_within.f a0 a1 = some r) :
 Calls Try.prog 81 #[.int .i64 a0, .int .i64 a1] w fun e w' => e = .returned (.bool r) ∧ Drawn0 w w' := by
 have H : (if a0 ≥ 0 then (some (decide (a0 ≤ a1))) else (some false)) = some r := h; clear h
 by_cases c3 : a0 ≥ 0
 ·
  rw [if_pos c3] at H; have c3b0 : decide (0 ≤ a0) = true := decide_eq_true c3; clear c3; obtain rfl := Option.some.inj H
  go_enter Try.func81, Try.ntmps81
  go_wp2
  go_ret
  exact ⟨sI, by repeat (first | exact Drawn0.refl _ | apply Drawn0.step)⟩
 ·
  rw [if_neg c3] at H; have c3b0 : decide (0 ≤ a0) = false := decide_eq_false c3; clear c3; obtain rfl := Option.some.inj H
  go_enter Try.func81, Try.ntmps81
  go_wp2
  go_ret
  exact ⟨sI, by repeat (first | exact Drawn0.refl _ | apply Drawn0.step)⟩
mutual
def node_file.j0 : Nat → Bool → Int → Int → Int → List Int → List (S78) → Option (Bool)
 | 0, _, _, _, _, _, _ => none
 | k + 1, x26, x160000, x160001, x160002, x160003, x160004 => if x26 = true then (some false) else (node_file.l0 k x160003 (x160003.length : Int) 0 x160000 x160001 x160002 x160003 x160004)
def node_file.l0 : Nat → List Int → Int → Int → Int → Int → Int → List Int → List (S78) → Option (Bool)
 | 0, _, _, _, _, _, _, _, _ => none
 | k + 1, x28, x29, x30, x160000, x160001, x160002, x160003, x160004 => if x30 < x29 then (if 0 ≤ x30 then (if x30 < (x28.length : Int) then ((node_within.f (rd x28 x30) 1099511627776).bind fun t163 => (if t163 = true then (if (wrap64 (x30 * 16)) ≥ x160002 then (if (rd x28 x30) = 0 then (node_file.l0 k x28 x29 (wrap64 (x30 + 1)) x160000 x160001 x160002 x160003 x160004) else (some false)) else (node_file.l0 k x28 x29 (wrap64 (x30 + 1)) x160000 x160001 x160002 x160003 x160004)) else (some false))) else (none)) else (none)) else (some true)
end
def node_file.f (k : Nat) (a0_0 : Int) (a0_1 : Int) (a0_2 : Int) (l0_3 : List Int) (l0_4 : List (S78)) : Option (Bool) := (node_within.f a0_1 120).bind fun t160 => (if t160 = true then ((node_within.f a0_2 80).bind fun t161 => (if t161 = true then (if (l0_3.length : Int) = 5 then (node_file.j0 k (decide ((l0_4.length : Int) > 0)) a0_0 a0_1 a0_2 l0_3 l0_4) else (node_file.j0 k true a0_0 a0_1 a0_2 l0_3 l0_4)) else (node_file.j0 k true a0_0 a0_1 a0_2 l0_3 l0_4))) else (node_file.j0 k true a0_0 a0_1 a0_2 l0_3 l0_4))
theorem node_file.mono_l : ∀ k, (∀ y0 y1 y2 y3 y4 y5, LeO (node_file.j0 k y0 y1 y2 y3 y4 y5) (node_file.j0 (k + 1) y0 y1 y2 y3 y4 y5)) ∧ (∀ y0 y1 y2 y3 y4 y5 y6 y7, LeO (node_file.l0 k y0 y1 y2 y3 y4 y5 y6 y7) (node_file.l0 (k + 1) y0 y1 y2 y3 y4 y5 y6 y7))
 | 0 => ⟨fun _ _ _ _ _ _ r h => by simp [node_file.j0] at h, fun _ _ _ _ _ _ _ _ r h => by simp [node_file.l0] at h⟩
 | k + 1 => by
  obtain ⟨ih0, ih1⟩ := node_file.mono_l k; refine ⟨?_, ?_⟩
  ·
   intro y0 y1 y2 y3 y4 y5
   unfold node_file.j0
   repeat' with_reducible first | apply ih0 | apply ih1 | exact LeO.refl _ | exact LeO.none _ | refine LeO.ite ?_ ?_ | refine LeO.bind ?_ (fun _ => ?_)
  ·
   intro y0 y1 y2 y3 y4 y5 y6 y7
   unfold node_file.l0
   repeat' with_reducible first | apply ih0 | apply ih1 | exact LeO.refl _ | exact LeO.none _ | refine LeO.ite ?_ ?_ | refine LeO.bind ?_ (fun _ => ?_)
theorem node_file.mono : ∀ a0 a1 a2 a3 a4 k, LeO (node_file.f k a0 a1 a2 a3 a4) (node_file.f (k + 1) a0 a1 a2 a3 a4) := by
 intro a0 a1 a2 a3 a4 k; obtain ⟨ih0, ih1⟩ := node_file.mono_l k
 unfold node_file.f
 repeat' with_reducible first | apply ih0 | apply ih1 | exact LeO.refl _ | exact LeO.none _ | refine LeO.ite ?_ ?_ | refine LeO.bind ?_ (fun _ => ?_)
set_option maxHeartbeats 8000000 in
set_option maxRecDepth 100000 in
theorem node_file.calls (k : Nat) (a0_0 : Int) (a0_1 : Int) (a0_2 : Int) (A0_3 : Option Addr) (c0_3 : Nat) (l0_3 : List Int) (A0_4 : Option Addr) (c0_4 : Nat) (l0_4 : List (S78)) (r : Bool) (w : World) (hr0_3 : Kd.C (Kd.int .i64) w A0_3 l0_3.length l0_3) (hc0_3 : l0_3.length ≤ c0_3) (hr0_4 : Kd.C k78 w A0_4 l0_4.length l0_4) (hc0_4 : l0_4.length ≤ c0_4) (h : node_file.f k a0_0 a0_1 a0_2 l0_3 l0_4 = some r) :
 Calls Try.prog 67 #[.agg #[.int .i64 a0_0, .int .i64 a0_1, .int .i64 a0_2, .slice A0_3 l0_3.length c0_3, .slice A0_4 l0_4.length c0_4]] w fun e w' => e = .returned (.bool r) ∧ Below w.heap.size w w' := by
 have hu28 := Try.underlying28; have HR0_3 := Aside0.mk hr0_3; have HC0_3 := Aside0.mk hc0_3; clear hr0_3 hc0_3; have HR0_4 := Aside0.mk hr0_4; have HC0_4 := Aside0.mk hc0_4; clear hr0_4 hc0_4; have HB := Aside0.mk (Below.refl w.heap.size w); have H : ((node_within.f a0_1 120).bind fun t160 => (if t160 = true then ((node_within.f a0_2 80).bind fun t161 => (if t161 = true then (if (l0_3.length : Int) = 5 then (node_file.j0 k (decide ((l0_4.length : Int) > 0)) a0_0 a0_1 a0_2 l0_3 l0_4) else (node_file.j0 k true a0_0 a0_1 a0_2 l0_3 l0_4)) else (node_file.j0 k true a0_0 a0_1 a0_2 l0_3 l0_4))) else (node_file.j0 k true a0_0 a0_1 a0_2 l0_3 l0_4))) = some r := h; clear h; have HC2 := Aside0.mk H; clear H
 go_enter Try.func67, Try.ntmps67
 go_upto_region 1 with (first | ((with_reducible refine gate_dst (N := 1) rfl ?_); (try (refine gate_guard (by rfl) ?_; dsimp only)); refine bxE 28 (cs := #[.int .i64 a0_0, .int .i64 a0_1, .int .i64 a0_2, .slice A0_3 l0_3.length c0_3, .slice A0_4 l0_4.length c0_4]) ?_; intro gb159 hg w3 hbox hb; have BK159 := Aside0.mk hbox; have GW159 := kG HB hg; have GE159 := kG HB hg; replace HB := kH HB hb; clear hb hbox hg))
 (try simp only [Act.put, lT, l0_, lS])
 go_cut [26] (fun v26 wc => ∃ (kq : Nat) (x26_1 : Bool), v26 = .bool x26_1 ∧ Aside0 (node_file.j0 kq x26_1 a0_0 a0_1 a0_2 l0_3 l0_4 = some r) ∧ Aside0 (kq ≤ k) ∧ Aside0 (wc.heap[gb159]? = some (.cells #[.int .i64 a0_0, .int .i64 a0_1, .int .i64 a0_2, (.slice A0_3 l0_3.length c0_3), (.slice A0_4 l0_4.length c0_4)] 28 (0, 0))) ∧ Aside0 (Below w.heap.size w wc))
 case first =>
  have H := HC2.out; clear HC2; replace H := Option.bind_eq_some_iff.mp H; obtain ⟨t160, A40, H⟩ := H; have A4 := Aside0.mk A40; clear A40
  by_cases c5 : t160 = true
  ·
   subst c5
   have H1 : ((node_within.f a0_2 80).bind fun t161 => (if t161 = true then (if (l0_3.length : Int) = 5 then (node_file.j0 k (decide ((l0_4.length : Int) > 0)) a0_0 a0_1 a0_2 l0_3 l0_4) else (node_file.j0 k true a0_0 a0_1 a0_2 l0_3 l0_4)) else (node_file.j0 k true a0_0 a0_1 a0_2 l0_3 l0_4))) = some r := by rw [if_pos rfl] at H; exact H
   clear H; have H := H1; clear H1; replace H := Option.bind_eq_some_iff.mp H; obtain ⟨t161, A60, H⟩ := H; have A6 := Aside0.mk A60; clear A60
   by_cases c7 : t161 = true
   ·
    subst c7
    have H1 : (if (l0_3.length : Int) = 5 then (node_file.j0 k (decide ((l0_4.length : Int) > 0)) a0_0 a0_1 a0_2 l0_3 l0_4) else (node_file.j0 k true a0_0 a0_1 a0_2 l0_3 l0_4)) = some r := by rw [if_pos rfl] at H; exact H
    clear H; have H := H1; clear H1
    by_cases c8 : (l0_3.length : Int) = 5
    ·
     rw [if_pos c8] at H; obtain ⟨c8b0, c8b1⟩ := eP c8; clear c8
     (first | rw [c8b0] | (simp only [i64_w, i32_w]; rw [c8b0]) | skip)
     have H' := Aside0.mk H; clear H; obtain ⟨hcz9_0, hfz9_0⟩ := cY0 BK159; obtain ⟨hcz9_1, hfz9_1⟩ := cY1 BK159; obtain ⟨hcz9_2, hfz9_2⟩ := cY2 BK159; obtain ⟨hcz9_3, hfz9_3⟩ := cY3 BK159; obtain ⟨hcz9_4, hfz9_4⟩ := cY4 BK159
     go_wp2_with (first | ((with_reducible refine gate_callee (f := 81) rfl ?_); refine goesK (some 7) Try.func81 #[.int .i64 a0_1, .int .i64 120] ?_; (with_reducible refine (node_within.calls a0_1 120 true _ A4.out).mono ?_); rintro e w' ⟨rfl, ⟨nd, rfl⟩⟩; refine ⟨_, rfl, ?_⟩) | (go_at_call 81; (with_reducible refine (node_within.calls a0_2 80 true _ A6.out).mono ?_); rintro e w' ⟨rfl, ⟨nd, rfl⟩⟩))
     go_meet
     case rel => exact ⟨_, (decide ((l0_4.length : Int) > 0)), sI, H', ⟨by first | omega | exact Nat.le_refl _⟩, ⟨mB BK159⟩, ⟨mH HB⟩⟩
    ·
     rw [if_neg c8] at H; obtain ⟨c8b0, c8b1⟩ := eN c8
     (first | rw [c8b0] | (simp only [i64_w, i32_w]; rw [c8b0]) | skip)
     have H' := Aside0.mk H; clear H; obtain ⟨hcz10_0, hfz10_0⟩ := cY0 BK159; obtain ⟨hcz10_1, hfz10_1⟩ := cY1 BK159; obtain ⟨hcz10_2, hfz10_2⟩ := cY2 BK159; obtain ⟨hcz10_3, hfz10_3⟩ := cY3 BK159; obtain ⟨hcz10_4, hfz10_4⟩ := cY4 BK159
     go_wp2_with (first | ((with_reducible refine gate_callee (f := 81) rfl ?_); refine goesK (some 7) Try.func81 #[.int .i64 a0_1, .int .i64 120] ?_; (with_reducible refine (node_within.calls a0_1 120 true _ A4.out).mono ?_); rintro e w' ⟨rfl, ⟨nd, rfl⟩⟩; refine ⟨_, rfl, ?_⟩) | (go_at_call 81; (with_reducible refine (node_within.calls a0_2 80 true _ A6.out).mono ?_); rintro e w' ⟨rfl, ⟨nd, rfl⟩⟩))
     go_meet
     case rel => exact ⟨_, (true), sI, H', ⟨by first | omega | exact Nat.le_refl _⟩, ⟨mB BK159⟩, ⟨mH HB⟩⟩
   ·
    replace c7 := Bool.eq_false_iff.mpr c7; subst c7
    have H1 : (node_file.j0 k true a0_0 a0_1 a0_2 l0_3 l0_4) = some r := by rw [if_neg (show ¬ (false = true) by decide)] at H; exact H
    clear H; have H := H1; clear H1; have H' := Aside0.mk H; clear H; obtain ⟨hcz11_0, hfz11_0⟩ := cY0 BK159; obtain ⟨hcz11_1, hfz11_1⟩ := cY1 BK159; obtain ⟨hcz11_2, hfz11_2⟩ := cY2 BK159; obtain ⟨hcz11_3, hfz11_3⟩ := cY3 BK159; obtain ⟨hcz11_4, hfz11_4⟩ := cY4 BK159
    go_wp2_with (first | ((with_reducible refine gate_callee (f := 81) rfl ?_); refine goesK (some 7) Try.func81 #[.int .i64 a0_1, .int .i64 120] ?_; (with_reducible refine (node_within.calls a0_1 120 true _ A4.out).mono ?_); rintro e w' ⟨rfl, ⟨nd, rfl⟩⟩; refine ⟨_, rfl, ?_⟩) | (go_at_call 81; (with_reducible refine (node_within.calls a0_2 80 false _ A6.out).mono ?_); rintro e w' ⟨rfl, ⟨nd, rfl⟩⟩))
    go_meet
    case rel => exact ⟨_, (true), sI, H', ⟨by first | omega | exact Nat.le_refl _⟩, ⟨mB BK159⟩, ⟨mH HB⟩⟩
  ·
   replace c5 := Bool.eq_false_iff.mpr c5; subst c5
   have H1 : (node_file.j0 k true a0_0 a0_1 a0_2 l0_3 l0_4) = some r := by rw [if_neg (show ¬ (false = true) by decide)] at H; exact H
   clear H; have H := H1; clear H1; have H' := Aside0.mk H; clear H; obtain ⟨hcz12_0, hfz12_0⟩ := cY0 BK159; obtain ⟨hcz12_1, hfz12_1⟩ := cY1 BK159; obtain ⟨hcz12_2, hfz12_2⟩ := cY2 BK159; obtain ⟨hcz12_3, hfz12_3⟩ := cY3 BK159; obtain ⟨hcz12_4, hfz12_4⟩ := cY4 BK159
   go_wp2_with (first | ((with_reducible refine gate_callee (f := 81) rfl ?_); refine goesK (some 7) Try.func81 #[.int .i64 a0_1, .int .i64 120] ?_; (with_reducible refine (node_within.calls a0_1 120 false _ A4.out).mono ?_); rintro e w' ⟨rfl, ⟨nd, rfl⟩⟩; refine ⟨_, rfl, ?_⟩))
   go_meet
   case rel => exact ⟨_, (true), sI, H', ⟨by first | omega | exact Nat.le_refl _⟩, ⟨mB BK159⟩, ⟨mH HB⟩⟩
 case rest =>
  clear HC2
  obtain ⟨kq, x26_1, rfl, HA, HJ1, BK159, HB⟩ := hcut
  cases kq with
  | zero => exact absurd HA.out (by simp [node_file.j0])
  | succ kj1 =>
   have H := HA.out; clear HA; simp only [node_file.j0] at H
   by_cases c13 : x26_1 = true
   ·
    subst c13
    have H1 : (some false) = some r := by rw [if_pos rfl] at H; exact H
    clear H; have H := H1; clear H1; obtain rfl := Option.some.inj H
    go_wp2
    go_ret
    exact ⟨rT, mH HB⟩
   ·
    replace c13 := Bool.eq_false_iff.mpr c13; subst c13
    have H1 : (node_file.l0 kj1 l0_3 (l0_3.length : Int) 0 a0_0 a0_1 a0_2 l0_3 l0_4) = some r := by rw [if_neg (show ¬ (false = true) by decide)] at H; exact H
    clear H; have H := H1; clear H1; have H' := Aside0.mk H; clear H; obtain ⟨hcz14_0, hfz14_0⟩ := cY0 BK159; obtain ⟨hcz14_1, hfz14_1⟩ := cY1 BK159; obtain ⟨hcz14_2, hfz14_2⟩ := cY2 BK159; obtain ⟨hcz14_3, hfz14_3⟩ := cY3 BK159; obtain ⟨hcz14_4, hfz14_4⟩ := cY4 BK159
    go_wp2
    go_loopg [30] kj1 (fun kq v30 w' => ∃ (x30_2 : Int), v30 = .int .i64 x30_2 ∧ Aside0 (node_file.l0 kq l0_3 (l0_3.length : Int) x30_2 a0_0 a0_1 a0_2 l0_3 l0_4 = some r) ∧ Aside0 (kq ≤ kj1) ∧ Aside0 (w'.heap[gb159]? = some (.cells #[.int .i64 a0_0, .int .i64 a0_1, .int .i64 a0_2, (.slice A0_3 l0_3.length c0_3), (.slice A0_4 l0_4.length c0_4)] 28 (0, 0))) ∧ Aside0 (Below w.heap.size w w'))
    case atStart => exact ⟨(0), sI, H', ⟨Nat.le_refl _⟩, ⟨mB BK159⟩, ⟨mH HB⟩⟩
    case round =>
     clear H'
     (try clear c13); (try clear hcz14_0); (try clear hcz14_1); (try clear hcz14_2); (try clear hcz14_3); (try clear hcz14_4); (try clear hfz14_0); (try clear hfz14_1); (try clear hfz14_2); (try clear hfz14_3); (try clear hfz14_4)
     obtain ⟨x30_2, rfl, HA, HK2, BK159, HB⟩ := hrel
     cases gk with
     | zero => exact absurd HA.out (by simp [node_file.l0])
     | succ k2 =>
      have H := HA.out; clear HA; simp only [node_file.l0] at H
      by_cases c15 : x30_2 < (l0_3.length : Int)
      ·
       rw [if_pos c15] at H; have c15b0 := decide_eq_true c15; clear c15
       replace H := nP H; obtain ⟨c16, H⟩ := H; have c16b0 := decide_eq_true c16; clear c16
       replace H := nP H; obtain ⟨c17, H⟩ := H; have c17b0 := decide_eq_true c17; clear c17; replace H := Option.bind_eq_some_iff.mp H; obtain ⟨t163, A180, H⟩ := H; have A18 := Aside0.mk A180; clear A180
       by_cases c19 : t163 = true
       ·
        subst c19
        have H1 : (if (wrap64 (x30_2 * 16)) ≥ a0_2 then (if (rd l0_3 x30_2) = 0 then (node_file.l0 k2 l0_3 (l0_3.length : Int) (wrap64 (x30_2 + 1)) a0_0 a0_1 a0_2 l0_3 l0_4) else (some false)) else (node_file.l0 k2 l0_3 (l0_3.length : Int) (wrap64 (x30_2 + 1)) a0_0 a0_1 a0_2 l0_3 l0_4)) = some r := by rw [if_pos rfl] at H; exact H
        clear H; have H := H1; clear H1
        by_cases c20 : (wrap64 (x30_2 * 16)) ≥ a0_2
        ·
         rw [if_pos c20] at H; have c20b0 : decide (a0_2 ≤ (wrap64 (x30_2 * 16))) = true := decide_eq_true c20; clear c20
         by_cases c21 : (rd l0_3 x30_2) = 0
         ·
          rw [if_pos c21] at H; obtain ⟨c21b0, c21b1⟩ := eP c21; clear c21; have H' := Aside0.mk H; clear H; have p162 : 0 ≤ (x30_2 : Int) := dT; have q162 : x30_2 < (l0_3.length : Int) := dT; obtain ⟨ad162, e162, hx162_0⟩ := Kd.at_int HR0_3.out x30_2 p162 q162
          cases e162
          replace hx162_0 := xC HB hx162_0; replace p162 := eq_true p162; replace q162 := eq_true q162
          go_wp2_with (first | ((with_reducible refine gate_callee (f := 81) rfl ?_); refine goesK (some 36) Try.func81 #[.int .i64 (rd l0_3 x30_2), .int .i64 1099511627776] ?_; (with_reducible refine (node_within.calls (rd l0_3 x30_2) 1099511627776 true _ A18.out).mono ?_); rintro e w' ⟨rfl, ⟨nd, rfl⟩⟩; refine ⟨_, rfl, ?_⟩; obtain ⟨hcz22_0, hfz22_0⟩ := cY0 BK159; obtain ⟨hcz22_1, hfz22_1⟩ := cY1 BK159; obtain ⟨hcz22_2, hfz22_2⟩ := cY2 BK159; obtain ⟨hcz22_3, hfz22_3⟩ := cY3 BK159; obtain ⟨hcz22_4, hfz22_4⟩ := cY4 BK159))
          go_roundg k2
          case measure => have := HJ1.out; have := HK2.out; omega
          case rel => exact ⟨(wrap64 (x30_2 + 1)), sI, H', ⟨oM HJ1 HK2⟩, ⟨mB BK159⟩, ⟨mH HB⟩⟩
         ·
          rw [if_neg c21] at H; obtain ⟨c21b0, c21b1⟩ := eN c21; obtain rfl := Option.some.inj H; have p162 : 0 ≤ (x30_2 : Int) := dT; have q162 : x30_2 < (l0_3.length : Int) := dT; obtain ⟨ad162, e162, hx162_0⟩ := Kd.at_int HR0_3.out x30_2 p162 q162
          cases e162
          replace hx162_0 := xC HB hx162_0; replace p162 := eq_true p162; replace q162 := eq_true q162
          go_wp2_with (first | ((with_reducible refine gate_callee (f := 81) rfl ?_); refine goesK (some 36) Try.func81 #[.int .i64 (rd l0_3 x30_2), .int .i64 1099511627776] ?_; (with_reducible refine (node_within.calls (rd l0_3 x30_2) 1099511627776 true _ A18.out).mono ?_); rintro e w' ⟨rfl, ⟨nd, rfl⟩⟩; refine ⟨_, rfl, ?_⟩; obtain ⟨hcz23_0, hfz23_0⟩ := cY0 BK159; obtain ⟨hcz23_1, hfz23_1⟩ := cY1 BK159; obtain ⟨hcz23_2, hfz23_2⟩ := cY2 BK159; obtain ⟨hcz23_3, hfz23_3⟩ := cY3 BK159; obtain ⟨hcz23_4, hfz23_4⟩ := cY4 BK159))
          go_ret
          exact ⟨rT, mH HB⟩
        ·
         rw [if_neg c20] at H; have c20b0 : decide (a0_2 ≤ (wrap64 (x30_2 * 16))) = false := decide_eq_false c20; clear c20; have H' := Aside0.mk H; clear H; have p162 : 0 ≤ (x30_2 : Int) := dT; have q162 : x30_2 < (l0_3.length : Int) := dT; obtain ⟨ad162, e162, hx162_0⟩ := Kd.at_int HR0_3.out x30_2 p162 q162
         cases e162
         replace hx162_0 := xC HB hx162_0; replace p162 := eq_true p162; replace q162 := eq_true q162
         go_wp2_with (first | ((with_reducible refine gate_callee (f := 81) rfl ?_); refine goesK (some 36) Try.func81 #[.int .i64 (rd l0_3 x30_2), .int .i64 1099511627776] ?_; (with_reducible refine (node_within.calls (rd l0_3 x30_2) 1099511627776 true _ A18.out).mono ?_); rintro e w' ⟨rfl, ⟨nd, rfl⟩⟩; refine ⟨_, rfl, ?_⟩; obtain ⟨hcz24_0, hfz24_0⟩ := cY0 BK159; obtain ⟨hcz24_1, hfz24_1⟩ := cY1 BK159; obtain ⟨hcz24_2, hfz24_2⟩ := cY2 BK159; obtain ⟨hcz24_3, hfz24_3⟩ := cY3 BK159; obtain ⟨hcz24_4, hfz24_4⟩ := cY4 BK159))
         go_roundg k2
         case measure => have := HJ1.out; have := HK2.out; omega
         case rel => exact ⟨(wrap64 (x30_2 + 1)), sI, H', ⟨oM HJ1 HK2⟩, ⟨mB BK159⟩, ⟨mH HB⟩⟩
       ·
        replace c19 := Bool.eq_false_iff.mpr c19; subst c19
        have H1 : (some false) = some r := by rw [if_neg (show ¬ (false = true) by decide)] at H; exact H
        clear H; have H := H1; clear H1; obtain rfl := Option.some.inj H; have p162 : 0 ≤ (x30_2 : Int) := dT; have q162 : x30_2 < (l0_3.length : Int) := dT; obtain ⟨ad162, e162, hx162_0⟩ := Kd.at_int HR0_3.out x30_2 p162 q162
        cases e162
        replace hx162_0 := xC HB hx162_0; replace p162 := eq_true p162; replace q162 := eq_true q162
        go_wp2_with (first | ((with_reducible refine gate_callee (f := 81) rfl ?_); refine goesK (some 36) Try.func81 #[.int .i64 (rd l0_3 x30_2), .int .i64 1099511627776] ?_; (with_reducible refine (node_within.calls (rd l0_3 x30_2) 1099511627776 false _ A18.out).mono ?_); rintro e w' ⟨rfl, ⟨nd, rfl⟩⟩; refine ⟨_, rfl, ?_⟩))
        go_ret
        exact ⟨rT, mH HB⟩
      ·
       rw [if_neg c15] at H; have c15b0 := decide_eq_false c15; clear c15; obtain rfl := Option.some.inj H
       go_wp2
       go_ret
       exact ⟨rT, mH HB⟩
def path_May.l0 : Nat → ByteArray → Int → Int → Option (Bool)
 | 0, _, _, _ => none
 | k + 1, x0, x6, x7 => if x7 < x6 then (if 0 ≤ x7 then (if x7 < (x0.size : Int) then (if (bt x0 x7) ≥ 97 then (if (bt x0 x7) ≤ 122 then (path_May.l0 k x0 x6 (wrap64 (x7 + 1))) else (if (bt x0 x7) ≥ 48 then (if (bt x0 x7) ≤ 57 then (path_May.l0 k x0 x6 (wrap64 (x7 + 1))) else (if (bt x0 x7) = 46 then (path_May.l0 k x0 x6 (wrap64 (x7 + 1))) else (if (bt x0 x7) = 95 then (path_May.l0 k x0 x6 (wrap64 (x7 + 1))) else (if ((bt x0 x7) = 45) then (path_May.l0 k x0 x6 (wrap64 (x7 + 1))) else (some false))))) else (if (bt x0 x7) = 46 then (path_May.l0 k x0 x6 (wrap64 (x7 + 1))) else (if (bt x0 x7) = 95 then (path_May.l0 k x0 x6 (wrap64 (x7 + 1))) else (if ((bt x0 x7) = 45) then (path_May.l0 k x0 x6 (wrap64 (x7 + 1))) else (some false)))))) else (if (bt x0 x7) ≥ 48 then (if (bt x0 x7) ≤ 57 then (path_May.l0 k x0 x6 (wrap64 (x7 + 1))) else (if (bt x0 x7) = 46 then (path_May.l0 k x0 x6 (wrap64 (x7 + 1))) else (if (bt x0 x7) = 95 then (path_May.l0 k x0 x6 (wrap64 (x7 + 1))) else (if ((bt x0 x7) = 45) then (path_May.l0 k x0 x6 (wrap64 (x7 + 1))) else (some false))))) else (if (bt x0 x7) = 46 then (path_May.l0 k x0 x6 (wrap64 (x7 + 1))) else (if (bt x0 x7) = 95 then (path_May.l0 k x0 x6 (wrap64 (x7 + 1))) else (if ((bt x0 x7) = 45) then (path_May.l0 k x0 x6 (wrap64 (x7 + 1))) else (some false)))))) else (none)) else (none)) else (if (x0.size : Int) ≥ 1 then (if (x0.size : Int) ≤ 8 then (if x0.toList = ([46] : List UInt8) then (some false) else (some (x0.toList != ([46, 46] : List UInt8)))) else (some false)) else (some false))
def path_May.f (k : Nat) (a0 : ByteArray) : Option (Bool) := path_May.l0 k a0 (a0.size : Int) 0
theorem path_May.mono_l : ∀ k, (∀ y0 y1 y2, LeO (path_May.l0 k y0 y1 y2) (path_May.l0 (k + 1) y0 y1 y2))
 | 0 => fun _ _ _ r h => by simp [path_May.l0] at h
 | k + 1 => by
  have ih0 := path_May.mono_l k
  ·
   intro y0 y1 y2
   unfold path_May.l0
   repeat' with_reducible first | apply ih0 | exact LeO.refl _ | exact LeO.none _ | refine LeO.ite ?_ ?_ | refine LeO.bind ?_ (fun _ => ?_)
theorem path_May.mono : ∀ a0 k, LeO (path_May.f k a0) (path_May.f (k + 1) a0) := by
 intro a0 k; have ih0 := path_May.mono_l k
 unfold path_May.f
 repeat' with_reducible first | apply ih0 | exact LeO.refl _ | exact LeO.none _ | refine LeO.ite ?_ ?_ | refine LeO.bind ?_ (fun _ => ?_)
set_option maxHeartbeats 8000000 in
set_option maxRecDepth 100000 in
theorem path_May.calls (k : Nat) (a0 : ByteArray) (r : Bool) (w : World) (h : path_May.f k a0 = some r) :
 Calls Try.prog 89 #[.string a0] w fun e w' => e = .returned (.bool r) ∧ Drawn0 w w' := by
 have H : (path_May.l0 k a0 (a0.size : Int) 0) = some r := h; clear h; have H' := Aside0.mk H; clear H
 go_enter Try.func89, Try.ntmps89
 go_wp2
 go_loopg [7] k (fun kq v7 w' => ∃ (x7_1 : Int), v7 = .int .i64 x7_1 ∧ Aside0 (path_May.l0 kq a0 (a0.size : Int) x7_1 = some r) ∧ Aside0 (kq ≤ k) ∧ Drawn0 w w')
 case atStart => exact ⟨(0), sI, H', ⟨Nat.le_refl _⟩, by repeat (first | exact Drawn0.refl _ | apply Drawn0.step)⟩
 case round =>
  clear H'; obtain ⟨x7_1, rfl, HA, HK1, ⟨m1, rfl⟩⟩ := hrel
  cases gk with
  | zero => exact absurd HA.out (by simp [path_May.l0])
  | succ k1 =>
   have H := HA.out; clear HA; simp only [path_May.l0] at H
   by_cases c2 : x7_1 < (a0.size : Int)
   ·
    rw [if_pos c2] at H; have c2b0 := decide_eq_true c2; clear c2
    replace H := nP H; obtain ⟨c3, H⟩ := H; have c3b0 := decide_eq_true c3; clear c3
    replace H := nP H; obtain ⟨c4, H⟩ := H; have c4b0 := decide_eq_true c4; clear c4
    by_cases c6 : (bt a0 x7_1) ≥ 97
    ·
     rw [if_pos c6] at H; have c6b0 : decide (97 ≤ (bt a0 x7_1)) = true := decide_eq_true c6; clear c6
     by_cases c7 : (bt a0 x7_1) ≤ 122
     ·
      rw [if_pos c7] at H; have c7b0 := decide_eq_true c7; clear c7; have H' := Aside0.mk H; clear H; have p5 : 0 ≤ (x7_1 : Int) := dT; have q5 : x7_1 < (a0.size : Int) := dT; have hx5 := bt_at a0 x7_1; replace p5 := eq_true p5; replace q5 := eq_true q5
      go_wp2
      go_roundg k1
      case measure => have := HK1.out; omega
      case rel => exact ⟨(wrap64 (x7_1 + 1)), sI, H', ⟨oK HK1⟩, by repeat (first | exact Drawn0.refl _ | apply Drawn0.step)⟩
     ·
      rw [if_neg c7] at H; have c7b0 := decide_eq_false c7; clear c7
      by_cases c8 : (bt a0 x7_1) ≥ 48
      ·
       rw [if_pos c8] at H; have c8b0 : decide (48 ≤ (bt a0 x7_1)) = true := decide_eq_true c8; clear c8
       by_cases c9 : (bt a0 x7_1) ≤ 57
       ·
        rw [if_pos c9] at H; have c9b0 := decide_eq_true c9; clear c9; have H' := Aside0.mk H; clear H; have p5 : 0 ≤ (x7_1 : Int) := dT; have q5 : x7_1 < (a0.size : Int) := dT; have hx5 := bt_at a0 x7_1; replace p5 := eq_true p5; replace q5 := eq_true q5
        go_wp2
        go_roundg k1
        case measure => have := HK1.out; omega
        case rel => exact ⟨(wrap64 (x7_1 + 1)), sI, H', ⟨oK HK1⟩, by repeat (first | exact Drawn0.refl _ | apply Drawn0.step)⟩
       ·
        rw [if_neg c9] at H; have c9b0 := decide_eq_false c9; clear c9
        by_cases c10 : (bt a0 x7_1) = 46
        ·
         rw [if_pos c10] at H; obtain ⟨c10b0, c10b1⟩ := eP c10; clear c10; have H' := Aside0.mk H; clear H; have p5 : 0 ≤ (x7_1 : Int) := dT; have q5 : x7_1 < (a0.size : Int) := dT; have hx5 := bt_at a0 x7_1; replace p5 := eq_true p5; replace q5 := eq_true q5
         go_wp2
         go_roundg k1
         case measure => have := HK1.out; omega
         case rel => exact ⟨(wrap64 (x7_1 + 1)), sI, H', ⟨oK HK1⟩, by repeat (first | exact Drawn0.refl _ | apply Drawn0.step)⟩
        ·
         rw [if_neg c10] at H; obtain ⟨c10b0, c10b1⟩ := eN c10
         by_cases c11 : (bt a0 x7_1) = 95
         ·
          rw [if_pos c11] at H; obtain ⟨c11b0, c11b1⟩ := eP c11; clear c11; have H' := Aside0.mk H; clear H; have p5 : 0 ≤ (x7_1 : Int) := dT; have q5 : x7_1 < (a0.size : Int) := dT; have hx5 := bt_at a0 x7_1; replace p5 := eq_true p5; replace q5 := eq_true q5
          go_wp2
          go_roundg k1
          case measure => have := HK1.out; omega
          case rel => exact ⟨(wrap64 (x7_1 + 1)), sI, H', ⟨oK HK1⟩, by repeat (first | exact Drawn0.refl _ | apply Drawn0.step)⟩
         ·
          rw [if_neg c11] at H; obtain ⟨c11b0, c11b1⟩ := eN c11
          by_cases c12 : ((bt a0 x7_1) = 45)
          ·
           rw [if_pos c12] at H; obtain ⟨c12b0, c12b1⟩ := eP c12; clear c12; have H' := Aside0.mk H; clear H; have p5 : 0 ≤ (x7_1 : Int) := dT; have q5 : x7_1 < (a0.size : Int) := dT; have hx5 := bt_at a0 x7_1; replace p5 := eq_true p5; replace q5 := eq_true q5
           go_wp2
           go_roundg k1
           case measure => have := HK1.out; omega
           case rel => exact ⟨(wrap64 (x7_1 + 1)), sI, H', ⟨oK HK1⟩, by repeat (first | exact Drawn0.refl _ | apply Drawn0.step)⟩
          ·
           rw [if_neg c12] at H; obtain ⟨c12b0, c12b1⟩ := eN c12; obtain rfl := Option.some.inj H; have p5 : 0 ≤ (x7_1 : Int) := dT; have q5 : x7_1 < (a0.size : Int) := dT; have hx5 := bt_at a0 x7_1; replace p5 := eq_true p5; replace q5 := eq_true q5
           go_wp2
           go_ret
           exact ⟨sI, by repeat (first | exact Drawn0.refl _ | apply Drawn0.step)⟩
      ·
       rw [if_neg c8] at H; have c8b0 : decide (48 ≤ (bt a0 x7_1)) = false := decide_eq_false c8; clear c8
       by_cases c13 : (bt a0 x7_1) = 46
       ·
        rw [if_pos c13] at H; obtain ⟨c13b0, c13b1⟩ := eP c13; clear c13; have H' := Aside0.mk H; clear H; have p5 : 0 ≤ (x7_1 : Int) := dT; have q5 : x7_1 < (a0.size : Int) := dT; have hx5 := bt_at a0 x7_1; replace p5 := eq_true p5; replace q5 := eq_true q5
        go_wp2
        go_roundg k1
        case measure => have := HK1.out; omega
        case rel => exact ⟨(wrap64 (x7_1 + 1)), sI, H', ⟨oK HK1⟩, by repeat (first | exact Drawn0.refl _ | apply Drawn0.step)⟩
       ·
        rw [if_neg c13] at H; obtain ⟨c13b0, c13b1⟩ := eN c13
        by_cases c14 : (bt a0 x7_1) = 95
        ·
         rw [if_pos c14] at H; obtain ⟨c14b0, c14b1⟩ := eP c14; clear c14; have H' := Aside0.mk H; clear H; have p5 : 0 ≤ (x7_1 : Int) := dT; have q5 : x7_1 < (a0.size : Int) := dT; have hx5 := bt_at a0 x7_1; replace p5 := eq_true p5; replace q5 := eq_true q5
         go_wp2
         go_roundg k1
         case measure => have := HK1.out; omega
         case rel => exact ⟨(wrap64 (x7_1 + 1)), sI, H', ⟨oK HK1⟩, by repeat (first | exact Drawn0.refl _ | apply Drawn0.step)⟩
        ·
         rw [if_neg c14] at H; obtain ⟨c14b0, c14b1⟩ := eN c14
         by_cases c15 : ((bt a0 x7_1) = 45)
         ·
          rw [if_pos c15] at H; obtain ⟨c15b0, c15b1⟩ := eP c15; clear c15; have H' := Aside0.mk H; clear H; have p5 : 0 ≤ (x7_1 : Int) := dT; have q5 : x7_1 < (a0.size : Int) := dT; have hx5 := bt_at a0 x7_1; replace p5 := eq_true p5; replace q5 := eq_true q5
          go_wp2
          go_roundg k1
          case measure => have := HK1.out; omega
          case rel => exact ⟨(wrap64 (x7_1 + 1)), sI, H', ⟨oK HK1⟩, by repeat (first | exact Drawn0.refl _ | apply Drawn0.step)⟩
         ·
          rw [if_neg c15] at H; obtain ⟨c15b0, c15b1⟩ := eN c15; obtain rfl := Option.some.inj H; have p5 : 0 ≤ (x7_1 : Int) := dT; have q5 : x7_1 < (a0.size : Int) := dT; have hx5 := bt_at a0 x7_1; replace p5 := eq_true p5; replace q5 := eq_true q5
          go_wp2
          go_ret
          exact ⟨sI, by repeat (first | exact Drawn0.refl _ | apply Drawn0.step)⟩
    ·
     rw [if_neg c6] at H; have c6b0 : decide (97 ≤ (bt a0 x7_1)) = false := decide_eq_false c6; clear c6
     by_cases c16 : (bt a0 x7_1) ≥ 48
     ·
      rw [if_pos c16] at H; have c16b0 : decide (48 ≤ (bt a0 x7_1)) = true := decide_eq_true c16; clear c16
      by_cases c17 : (bt a0 x7_1) ≤ 57
      ·
       rw [if_pos c17] at H; have c17b0 := decide_eq_true c17; clear c17; have H' := Aside0.mk H; clear H; have p5 : 0 ≤ (x7_1 : Int) := dT; have q5 : x7_1 < (a0.size : Int) := dT; have hx5 := bt_at a0 x7_1; replace p5 := eq_true p5; replace q5 := eq_true q5
       go_wp2
       go_roundg k1
       case measure => have := HK1.out; omega
       case rel => exact ⟨(wrap64 (x7_1 + 1)), sI, H', ⟨oK HK1⟩, by repeat (first | exact Drawn0.refl _ | apply Drawn0.step)⟩
      ·
       rw [if_neg c17] at H; have c17b0 := decide_eq_false c17; clear c17
       by_cases c18 : (bt a0 x7_1) = 46
       ·
        rw [if_pos c18] at H; obtain ⟨c18b0, c18b1⟩ := eP c18; clear c18; have H' := Aside0.mk H; clear H; have p5 : 0 ≤ (x7_1 : Int) := dT; have q5 : x7_1 < (a0.size : Int) := dT; have hx5 := bt_at a0 x7_1; replace p5 := eq_true p5; replace q5 := eq_true q5
        go_wp2
        go_roundg k1
        case measure => have := HK1.out; omega
        case rel => exact ⟨(wrap64 (x7_1 + 1)), sI, H', ⟨oK HK1⟩, by repeat (first | exact Drawn0.refl _ | apply Drawn0.step)⟩
       ·
        rw [if_neg c18] at H; obtain ⟨c18b0, c18b1⟩ := eN c18
        by_cases c19 : (bt a0 x7_1) = 95
        ·
         rw [if_pos c19] at H; obtain ⟨c19b0, c19b1⟩ := eP c19; clear c19; have H' := Aside0.mk H; clear H; have p5 : 0 ≤ (x7_1 : Int) := dT; have q5 : x7_1 < (a0.size : Int) := dT; have hx5 := bt_at a0 x7_1; replace p5 := eq_true p5; replace q5 := eq_true q5
         go_wp2
         go_roundg k1
         case measure => have := HK1.out; omega
         case rel => exact ⟨(wrap64 (x7_1 + 1)), sI, H', ⟨oK HK1⟩, by repeat (first | exact Drawn0.refl _ | apply Drawn0.step)⟩
        ·
         rw [if_neg c19] at H; obtain ⟨c19b0, c19b1⟩ := eN c19
         by_cases c20 : ((bt a0 x7_1) = 45)
         ·
          rw [if_pos c20] at H; obtain ⟨c20b0, c20b1⟩ := eP c20; clear c20; have H' := Aside0.mk H; clear H; have p5 : 0 ≤ (x7_1 : Int) := dT; have q5 : x7_1 < (a0.size : Int) := dT; have hx5 := bt_at a0 x7_1; replace p5 := eq_true p5; replace q5 := eq_true q5
          go_wp2
          go_roundg k1
          case measure => have := HK1.out; omega
          case rel => exact ⟨(wrap64 (x7_1 + 1)), sI, H', ⟨oK HK1⟩, by repeat (first | exact Drawn0.refl _ | apply Drawn0.step)⟩
         ·
          rw [if_neg c20] at H; obtain ⟨c20b0, c20b1⟩ := eN c20; obtain rfl := Option.some.inj H; have p5 : 0 ≤ (x7_1 : Int) := dT; have q5 : x7_1 < (a0.size : Int) := dT; have hx5 := bt_at a0 x7_1; replace p5 := eq_true p5; replace q5 := eq_true q5
          go_wp2
          go_ret
          exact ⟨sI, by repeat (first | exact Drawn0.refl _ | apply Drawn0.step)⟩
     ·
      rw [if_neg c16] at H; have c16b0 : decide (48 ≤ (bt a0 x7_1)) = false := decide_eq_false c16; clear c16
      by_cases c21 : (bt a0 x7_1) = 46
      ·
       rw [if_pos c21] at H; obtain ⟨c21b0, c21b1⟩ := eP c21; clear c21; have H' := Aside0.mk H; clear H; have p5 : 0 ≤ (x7_1 : Int) := dT; have q5 : x7_1 < (a0.size : Int) := dT; have hx5 := bt_at a0 x7_1; replace p5 := eq_true p5; replace q5 := eq_true q5
       go_wp2
       go_roundg k1
       case measure => have := HK1.out; omega
       case rel => exact ⟨(wrap64 (x7_1 + 1)), sI, H', ⟨oK HK1⟩, by repeat (first | exact Drawn0.refl _ | apply Drawn0.step)⟩
      ·
       rw [if_neg c21] at H; obtain ⟨c21b0, c21b1⟩ := eN c21
       by_cases c22 : (bt a0 x7_1) = 95
       ·
        rw [if_pos c22] at H; obtain ⟨c22b0, c22b1⟩ := eP c22; clear c22; have H' := Aside0.mk H; clear H; have p5 : 0 ≤ (x7_1 : Int) := dT; have q5 : x7_1 < (a0.size : Int) := dT; have hx5 := bt_at a0 x7_1; replace p5 := eq_true p5; replace q5 := eq_true q5
        go_wp2
        go_roundg k1
        case measure => have := HK1.out; omega
        case rel => exact ⟨(wrap64 (x7_1 + 1)), sI, H', ⟨oK HK1⟩, by repeat (first | exact Drawn0.refl _ | apply Drawn0.step)⟩
       ·
        rw [if_neg c22] at H; obtain ⟨c22b0, c22b1⟩ := eN c22
        by_cases c23 : ((bt a0 x7_1) = 45)
        ·
         rw [if_pos c23] at H; obtain ⟨c23b0, c23b1⟩ := eP c23; clear c23; have H' := Aside0.mk H; clear H; have p5 : 0 ≤ (x7_1 : Int) := dT; have q5 : x7_1 < (a0.size : Int) := dT; have hx5 := bt_at a0 x7_1; replace p5 := eq_true p5; replace q5 := eq_true q5
         go_wp2
         go_roundg k1
         case measure => have := HK1.out; omega
         case rel => exact ⟨(wrap64 (x7_1 + 1)), sI, H', ⟨oK HK1⟩, by repeat (first | exact Drawn0.refl _ | apply Drawn0.step)⟩
        ·
         rw [if_neg c23] at H; obtain ⟨c23b0, c23b1⟩ := eN c23; obtain rfl := Option.some.inj H; have p5 : 0 ≤ (x7_1 : Int) := dT; have q5 : x7_1 < (a0.size : Int) := dT; have hx5 := bt_at a0 x7_1; replace p5 := eq_true p5; replace q5 := eq_true q5
         go_wp2
         go_ret
         exact ⟨sI, by repeat (first | exact Drawn0.refl _ | apply Drawn0.step)⟩
   ·
    rw [if_neg c2] at H; have c2b0 := decide_eq_false c2; clear c2
    by_cases c24 : (a0.size : Int) ≥ 1
    ·
     rw [if_pos c24] at H; have c24b0 : decide (1 ≤ (a0.size : Int)) = true := decide_eq_true c24; have c24b1 : decide (1 ≤ a0.size) = true := decide_eq_true (by omega); clear c24
     by_cases c25 : (a0.size : Int) ≤ 8
     ·
      rw [if_pos c25] at H; have c25b0 := decide_eq_true c25; have c25b1 : decide (a0.size ≤ 8) = true := decide_eq_true (by omega); clear c25
      by_cases c26 : a0.toList = ([46] : List UInt8)
      ·
       rw [if_pos c26] at H; obtain ⟨c26b0, c26b1⟩ := eP c26; clear c26; obtain rfl := Option.some.inj H
       go_wp2
       go_ret
       exact ⟨sI, by repeat (first | exact Drawn0.refl _ | apply Drawn0.step)⟩
      ·
       rw [if_neg c26] at H; obtain ⟨c26b0, c26b1⟩ := eN c26; obtain rfl := Option.some.inj H
       go_wp2
       go_ret
       exact ⟨sI, by repeat (first | exact Drawn0.refl _ | apply Drawn0.step)⟩
     ·
      rw [if_neg c25] at H; have c25b0 := decide_eq_false c25; have c25b1 : decide (a0.size ≤ 8) = false := decide_eq_false (by omega); clear c25; obtain rfl := Option.some.inj H
      go_wp2
      go_ret
      exact ⟨sI, by repeat (first | exact Drawn0.refl _ | apply Drawn0.step)⟩
    ·
     rw [if_neg c24] at H; have c24b0 : decide (1 ≤ (a0.size : Int)) = false := decide_eq_false c24; have c24b1 : decide (1 ≤ a0.size) = false := decide_eq_false (by omega); clear c24; obtain rfl := Option.some.inj H
     go_wp2
     go_ret
     exact ⟨sI, by repeat (first | exact Drawn0.refl _ | apply Drawn0.step)⟩
end Go.Proofs.Ytkigiehkckjlhaa.PDone
