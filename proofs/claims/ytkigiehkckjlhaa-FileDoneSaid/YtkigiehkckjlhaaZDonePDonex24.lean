/- The Go functions that these laws reach, each as a Lean function with the same answers (a law itself where it answers true), and the proof that the code comes to them; conditions: those of each theorem. Laid by a program of this session over the print. -/
import Derived.Test.YtkigiehkckjlhaaZDonePDoneShort
import Derived.Test.YtkigiehkckjlhaaZDonePDonex0
import Derived.Test.YtkigiehkckjlhaaZDonePDonex20
import Derived.Test.YtkigiehkckjlhaaZDonePDonex14
namespace Go.Proofs.Ytkigiehkckjlhaa.PDone
open Go.RowKit Go.Proofs.YtkigiehkckjlhaaW.PrintWords Go.Proofs.YtkigiehkckjlhaaW.PrintLast Go.Proofs.YtkigiehkckjlhaaW.PrintMore
attribute [local go_sem] max2_int min2_int max_two min_two max_three min_three max_four min_four   -- for this text's walks alone
set_option linter.unusedVariables false
set_option linter.unusedSimpArgs false
open Go.Proofs.YtkigiehkckjlhaaW.PrintWords renaming blk_drewN → bN, blk_drew → bD, blk_alloc → bA, below_set → wS, below_alloc → wA, pw_below_drewN → wN, below_drew1 → wD, blk_below → bB, blk_far → bF, blk_cell → bC, blk_frozen → bZ
open List renaming setIfInBounds_toArray → lT, set_cons_zero → l0_, set_cons_succ → lS
abbrev B24_0 : Array Bool := #[false, false, false, false, false, false, false, false]
abbrev B24_1 := B24_0.set! 0 true
abbrev B24_2 := B24_1.set! 1 true
abbrev B24_3 := B24_2.set! 2 true
abbrev B24_4 := B24_3.set! 3 true
abbrev B24_5 := B24_4.set! 4 true
abbrev B24_6 := B24_5.set! 5 true
abbrev B24_7 := B24_6.set! 6 true
abbrev B24_8 := B24_7.set! 7 true
def dir_Copy.l0 : Nat → List (S28) → Int → Int → List (S28) → Option ((List (S28)))
 | 0, _, _, _, _ => none
 | k + 1, x7, x8, x9, x261000 => if x9 < x8 then (if 0 ≤ x9 then (if x9 < (x7.length : Int) then ((node_Copy.f ((rd_T28 x7 x9).f0) ((rd_T28 x7 x9).f1) ((rd_T28 x7 x9).f2) ((rd_T28 x7 x9).f3) ((rd_T28 x7 x9).f4)).bind fun bt263 => (if x261000.length < 1954687338268 then (dir_Copy.l0 k x7 x8 (wrap64 (x9 + 1)) (x261000 ++ [(⟨bt263.1, bt263.2.1, bt263.2.2.1, bt263.2.2.2.1, bt263.2.2.2.2⟩ : S28)])) else (none))) else (none)) else (none)) else (some x261000)
def dir_Copy.f (k : Nat) (l0_0 : List (S28)) : Option ((List (S28))) := dir_Copy.l0 k l0_0 (l0_0.length : Int) 0 ([] : List (S28))
theorem dir_Copy.mono_l : ∀ k, (∀ y0 y1 y2 y3, LeO (dir_Copy.l0 k y0 y1 y2 y3) (dir_Copy.l0 (k + 1) y0 y1 y2 y3))
 | 0 => fun _ _ _ _ r h => by simp [dir_Copy.l0] at h
 | k + 1 => by
  have ih0 := dir_Copy.mono_l k
  ·
   intro y0 y1 y2 y3
   unfold dir_Copy.l0
   repeat' with_reducible first | apply ih0 | exact LeO.refl _ | exact LeO.none _ | refine LeO.ite ?_ ?_ | refine LeO.bind ?_ (fun _ => ?_)
theorem dir_Copy.mono : ∀ a0 k, LeO (dir_Copy.f k a0) (dir_Copy.f (k + 1) a0) := by
 intro a0 k; have ih0 := dir_Copy.mono_l k
 unfold dir_Copy.f
 repeat' with_reducible first | apply ih0 | exact LeO.refl _ | exact LeO.none _ | refine LeO.ite ?_ ?_ | refine LeO.bind ?_ (fun _ => ?_)
def dir_Copy.T5 : Bool × List (List Nat × List Nat) := (true, [([], []), ([0], [0]), ([], []), ([2], [2]), ([3], [3]), ([1, 4, 3], [1, 4]), ([0, 1, 2, 3, 4, 5], []), ([6, 5, 5, 0, 1, 2, 3, 4, 5], [5, 6])])
def dir_Copy.B5 : List Nat := [0, 1, 0, 4, 12, 31, 63, 127]
theorem dir_Copy.tab5 : rtab .any (opsOf Try.f57 5) = dir_Copy.T5 := by kernel_rfl
theorem dir_Copy.bits5 : waitsOk dir_Copy.T5.2 dir_Copy.B5 = true := by kernel_rfl
set_option maxHeartbeats 8000000 in
set_option maxRecDepth 100000 in
theorem dir_Copy.calls (k : Nat) (A0_0 : Option Addr) (c0_0 : Nat) (l0_0 : List (S28)) (r : List (S28)) (w : World) (hr0_0 : Kd.C k28 w A0_0 l0_0.length l0_0) (hc0_0 : l0_0.length ≤ c0_0) (h : dir_Copy.f k l0_0 = some r) :
 Calls Try.prog 57 #[.agg #[.slice A0_0 l0_0.length c0_0]] w fun e w' => ∃ v0_ : Value, e = .returned (.agg #[v0_]) ∧ Kd.S k28 28 w' w.heap.size (fun _ => True) v0_ r ∧ Below w.heap.size w w' := by
 have hu24 := Try.underlying24; have hu28 := Try.underlying28; have HR0_0 := Aside0.mk hr0_0; have HC0_0 := Aside0.mk hc0_0; clear hr0_0 hc0_0; have HB := Aside0.mk (Below.refl w.heap.size w); have H : (dir_Copy.l0 k l0_0 (l0_0.length : Int) 0 ([] : List (S28))) = some r := h; clear h; have H' := Aside0.mk H; clear H
 go_enter Try.func57, Try.ntmps57
 go_wp2_with (first | ((with_reducible refine gate_dst (N := 1) rfl ?_); refine bxE 24 (cs := #[.slice A0_0 l0_0.length c0_0]) ?_; intro gb258 hg w2 hbox hb; have BK258 := Aside0.mk hbox; have GW258 := kG HB hg; have GE258 := kG HB hg; replace HB := kH HB hb; clear hb hbox hg) | ((with_reducible refine gate_dst (N := 2) rfl ?_); refine bxE 24 (cs := #[.slice none 0 0]) ?_; intro gb259 hg w3 hbox hb; have BK259 := Aside0.mk hbox; have GW259 := kG HB hg; have GE259 := kG HB hg; replace HB := kH HB hb; have NB258_259 := kL BK258 hg; have NB259_258 := kQ BK258 hg; replace BK258 := kB BK258 hb; clear hb hbox hg) | ((with_reducible refine gate_dst (N := 3) rfl ?_); refine bxE 24 (cs := #[.slice none 0 0]) ?_; intro gb260 hg w4 hbox hb; have BK260 := Aside0.mk hbox; have GW260 := kG HB hg; have GE260 := kG HB hg; replace HB := kH HB hb; have NB258_260 := kL BK258 hg; have NB260_258 := kQ BK258 hg; replace BK258 := kB BK258 hb; have NB259_260 := kL BK259 hg; have NB260_259 := kQ BK259 hg; replace BK259 := kB BK259 hb; clear hb hbox hg; have hnb5 := NB258_259.out; have hnc5 := NB259_258.out; have hnb6 := NB258_260.out; have hnc6 := NB260_258.out; obtain ⟨hcz7_0, hfz7_0⟩ := cY0 BK258))
 go_loopg [9] k (fun kq v9 w' => ∃ (x9_1 : Int) (x261000_1 : List (S28)) (u261000 : Value), v9 = .int .i64 x9_1 ∧ Aside0 (dir_Copy.l0 kq l0_0 (l0_0.length : Int) x9_1 x261000_1 = some r) ∧ Aside0 (kq ≤ k) ∧ Aside0 (Kd.S k28 28 w' w.heap.size (fun _ => True) u261000 x261000_1) ∧ Aside0 (w'.heap[gb258]? = some (.cells #[(.slice A0_0 l0_0.length c0_0)] 24 (0, 0))) ∧ Aside0 (w'.heap[gb259]? = some (.cells #[(.slice none 0 0)] 24 (0, 0))) ∧ Aside0 (w'.heap[gb260]? = some (.cells #[u261000] 24 (0, 0))) ∧ Aside0 (Below w.heap.size w w'))
 case atStart => exact ⟨(0), (([] : List (S28))), (.slice none 0 0), sI, H', ⟨Nat.le_refl _⟩, ⟨by first | exact Kd.S_nil _ _ _ _ _ | exact Kd.N_nil _ _ _ _ _ | exact Kd.V_nil _ _ _ _ _ | exact Kd.Q_nil _ _ _ _ _ | exact Kd.R_nil _ _ _ _ _⟩, ⟨mB BK258⟩, ⟨mB BK259⟩, ⟨mB BK260⟩, ⟨mH HB⟩⟩
 case round =>
  clear H'
  (try clear hcz7_0); (try clear hfz7_0)
  obtain ⟨x9_1, x261000_1, u261000, rfl, HA, HK1, HO_261000, BK258, BK259, BK260, HB⟩ := hrel
  cases gk with
  | zero => exact absurd HA.out (by simp [dir_Copy.l0])
  | succ k1 =>
   have H := HA.out; clear HA; simp only [dir_Copy.l0] at H
   by_cases c8 : x9_1 < (l0_0.length : Int)
   ·
    rw [if_pos c8] at H; have c8b0 := decide_eq_true c8; clear c8
    replace H := nP H; obtain ⟨c9, H⟩ := H; have c9b0 := decide_eq_true c9; clear c9
    replace H := nP H; obtain ⟨c10, H⟩ := H; have c10b0 := decide_eq_true c10; clear c10; replace H := Option.bind_eq_some_iff.mp H; obtain ⟨⟨t263, t264, t265, t266, t269⟩, A110, H⟩ := H; replace H : (if x261000_1.length < 1954687338268 then (dir_Copy.l0 k1 l0_0 (l0_0.length : Int) (wrap64 (x9_1 + 1)) (x261000_1 ++ [(⟨t263, t264, t265, t266, t269⟩ : S28)])) else (none)) = some r := H; have A11 := Aside0.mk A110; clear A110
    replace H := nP H; obtain ⟨c12, H⟩ := H; have LMc12 := Aside0.mk c12; clear c12; obtain ⟨y272, hy272⟩ : ∃ y_ : List (S28), y_ = (x261000_1 ++ [(⟨t263, t264, t265, t266, t269⟩ : S28)]) := ⟨_, rfl⟩
    replace H : (dir_Copy.l0 k1 l0_0 (l0_0.length : Int) (wrap64 (x9_1 + 1)) y272) = some r := rH H hy272
    have Ny272 := Aside0.mk hy272; clear hy272; have H' := Aside0.mk H; clear H; have p261 : 0 ≤ (x9_1 : Int) := dT; have q261 : x9_1 < (l0_0.length : Int) := dT; obtain ⟨ad261, A261_3, c261_3, A261_4, c261_4, e261, hx261_0, hx261_1, hx261_2, hx261_3, hx261_4, hl261_3, hi261_3, hl261_4, hi261_4⟩ := at_T28 HR0_0.out x9_1 p261 q261
    cases e261
    replace hx261_0 := xC HB hx261_0; replace hx261_1 := xC HB hx261_1; replace hx261_2 := xC HB hx261_2; replace hx261_3 := xC HB hx261_3; replace hx261_4 := xC HB hx261_4; have HR261_3 := Aside0.mk hi261_3; have HC261_3 := Aside0.mk hl261_3; clear hi261_3 hl261_3; have HR261_4 := Aside0.mk hi261_4; have HC261_4 := Aside0.mk hl261_4; clear hi261_4 hl261_4; replace p261 := eq_true p261; replace q261 := eq_true q261
    try go_wp2_with (first | ((with_reducible refine gate_dst (N := 5) rfl ?_); refine bxE 28 (cs := #[.int .i64 0, .int .i64 0, .int .i64 0, .slice none 0 0, .slice none 0 0]) ?_; intro gb262 hg w13 hbox hb; replace HO_261000 := Aside0.mk (Kd.S_below (Kd.S_elderB (mS HO_261000) gb262 (Nat.le_of_eq hg.symm)) hb); have BK262 := Aside0.mk hbox; have GW262 := kG HB hg; have GE262 := kG HB hg; replace HB := kH HB hb; have NB258_262 := kL BK258 hg; have NB262_258 := kQ BK258 hg; replace BK258 := kB BK258 hb; have NB259_262 := kL BK259 hg; have NB262_259 := kQ BK259 hg; replace BK259 := kB BK259 hb; have NB260_262 := kL BK260 hg; have NB262_260 := kQ BK260 hg; replace BK260 := kB BK260 hb; clear hb hbox hg; have hnb14 := NB262_258.out; have hnc14 := NB258_262.out; have hnb15 := NB262_259.out; have hnc15 := NB259_262.out; have hnb16 := NB262_260.out; have hnc16 := NB260_262.out; obtain ⟨hcz17_0, hfz17_0⟩ := cY0 BK262; obtain ⟨hcz17_1, hfz17_1⟩ := cY1 BK262; obtain ⟨hcz17_2, hfz17_2⟩ := cY2 BK262; obtain ⟨hcz17_3, hfz17_3⟩ := cY3 BK262; obtain ⟨hcz17_4, hfz17_4⟩ := cY4 BK262))
    obtain ⟨w18, hw_, n_⟩ : ∃ W_, ((((w13.setCell ⟨gb262, 0, none⟩ (.int .i64 ((rd_T28 l0_0 x9_1).f0))).setCell ⟨gb262, 1, none⟩ (.int .i64 ((rd_T28 l0_0 x9_1).f1))).setCell ⟨gb262, 2, none⟩ (.int .i64 ((rd_T28 l0_0 x9_1).f2))).setCell ⟨gb262, 3, none⟩ (.slice A261_3 ((rd_T28 l0_0 x9_1).f3).length c261_3)).setCell ⟨gb262, 4, none⟩ (.slice A261_4 ((rd_T28 l0_0 x9_1).f4).length c261_4) = W_ ∧ Aside0 (Kd.S k28 28 W_ w.heap.size (fun k_ => k_ ≠ gb262) u261000 x261000_1) ∧ Aside0 (W_.heap[gb258]? = some (.cells #[.slice (some ad261) l0_0.length c0_0] 24 (0, 0))) ∧ Aside0 (W_.heap[gb259]? = some (.cells #[.slice none 0 0] 24 (0, 0))) ∧ Aside0 (W_.heap[gb260]? = some (.cells #[u261000] 24 (0, 0))) ∧ Aside0 (W_.heap[gb262]? = some (.cells #[.int .i64 ((rd_T28 l0_0 x9_1).f0), .int .i64 ((rd_T28 l0_0 x9_1).f1), .int .i64 ((rd_T28 l0_0 x9_1).f2), .slice A261_3 ((rd_T28 l0_0 x9_1).f3).length c261_3, .slice A261_4 ((rd_T28 l0_0 x9_1).f4).length c261_4] 28 (0, 0))) ∧ Aside0 (Below w.heap.size w W_) := ⟨_, rfl, ⟨fS HO_261000 (fun _ hk => hk.2)⟩, ⟨mF BK258⟩, ⟨mF BK259⟩, ⟨mF BK260⟩, ⟨pP BK262⟩, ⟨mH HB⟩⟩
    (try clear HO_261000); (try clear BK258); (try clear BK259); (try clear BK260); (try clear BK262); (try clear HB); rewrite [hw_]; clear hw_; obtain ⟨HO_261000, BK258, BK259, BK260, BK262, HB⟩ := n_; replace HO_261000 := Aside0.mk (Kd.S_drew HO_261000.out); replace BK258 := Aside0.mk (bD BK258.out); replace BK259 := Aside0.mk (bD BK259.out); replace BK260 := Aside0.mk (bD BK260.out); replace BK262 := Aside0.mk (bD BK262.out); replace HB := Aside0.mk (wD HB.out); refine start_ (n := 8) (S := fun w' => w'.cell? ⟨gb260, 0, none⟩ = some (u261000) ∧ w'.cell? ⟨gb262, 0, none⟩ = some (.int .i64 ((rd_T28 l0_0 x9_1).f0)) ∧ w'.cell? ⟨gb262, 1, none⟩ = some (.int .i64 ((rd_T28 l0_0 x9_1).f1)) ∧ w'.cell? ⟨gb262, 2, none⟩ = some (.int .i64 ((rd_T28 l0_0 x9_1).f2)) ∧ w'.cell? ⟨gb262, 3, none⟩ = some (.slice A261_3 ((rd_T28 l0_0 x9_1).f3).length c261_3) ∧ w'.cell? ⟨gb262, 4, none⟩ = some (.slice A261_4 ((rd_T28 l0_0 x9_1).f4).length c261_4)) (ds := [7]) B24_0 (by kernel_rfl) rfl rfl ⟨cZ0 BK260, cZ0 BK262, cZ1 BK262, cZ2 BK262, cZ3 BK262, cZ4 BK262⟩ (fun hHeld => ?_); refine with_tabW dir_Copy.tab5 dir_Copy.bits5 (fun HT_ HW_ => ?_); generalize w18.drew = w19 at HO_261000 BK258 BK259 BK260 BK262 HB hHeld ⊢; refine pure_ (i := 0) (N := some 13) (v := ?_) (a' := ?_) B24_1 rfl rfl (any_of HT_.out (by kernel_rfl)) (fun _ _ _ h => h) (Or.inl ⟨by rfl, ?_⟩) ?_ ?_; rotate_left
    ·
     intro w'; go_simp; with_reducible rfl
    rotate_left
    ·
     simp only [Act.put, lT, l0_, lS, i64_w, i32_w]; rfl
    refine tE 1 14 B24_2 HT_ HW_ hHeld ?_
    refine tE 2 15 B24_3 HT_ HW_ hHeld ?_
    refine one_ (i := 3) (N := some 16) B24_4 rfl rfl (one_of HT_.out (by kernel_rfl)) (by decide) (fun K hK => ?_); refine goes_ Try.func76 (by kernel_rfl) rfl #[.agg #[.int .i64 ((rd_T28 l0_0 x9_1).f0), .int .i64 ((rd_T28 l0_0 x9_1).f1), .int .i64 ((rd_T28 l0_0 x9_1).f2), .slice A261_3 ((rd_T28 l0_0 x9_1).f3).length c261_3, .slice A261_4 ((rd_T28 l0_0 x9_1).f4).length c261_4]] (by rfl) rfl rfl (by (try simp only [List.map_toArray, List.map_cons, List.map_nil]); first | done | rfl | (simp only [List.length_drop, List.length_take]; rfl)) ?_
    with_reducible refine (node_Copy.calls ((rd_T28 l0_0 x9_1).f0) ((rd_T28 l0_0 x9_1).f1) ((rd_T28 l0_0 x9_1).f2) _ _ ((rd_T28 l0_0 x9_1).f3) _ _ ((rd_T28 l0_0 x9_1).f4) t263 t264 t265 t266 t269 _ ?side1 ?side2 ?side3 ?side4 A11.out).mono ?_
    (case side1 => exact mC HR261_3 HB)
    (case side2 => exact HC261_3.out)
    (case side3 => exact mC HR261_4 HB)
    (case side4 => exact HC261_4.out)
    rintro e w20 ⟨v267, v270, rfl, ho0, ho1, hb⟩; refine ⟨_, rfl, ?_⟩; replace HO_261000 := Aside0.mk (Kd.S_mono (Kd.S_told (Kd.S_told (Kd.S_old (mS HO_261000) hb) (Kd.R_base ho0)) (Kd.R_base ho1)) (fun _ h_ => h_.1)); have HO268 := Aside0.mk (Kd.R_lower ho0 (below_size (mH HB))); have HO271 := Aside0.mk (Kd.R_lower ho1 (below_size (mH HB))); replace BK258 := kB BK258 hb; replace BK259 := kB BK259 hb; replace BK260 := kB BK260 hb; replace BK262 := kB BK262 hb; replace HB := kH HB hb
    (try clear hb); (try clear hk); (try clear ho0); (try clear ho1)
    obtain ⟨Ao22, co22, eo22⟩ := Kd.R_slice HO268.out
    (first | subst eo22 | (injection eo22 with f1_ f2_ f3_; have f4_ := f1_.symm; have f5_ := f3_.symm; clear f1_ f2_ f3_; subst f4_; subst f5_))
    obtain ⟨Ao23, co23, eo23⟩ := Kd.R_slice HO271.out
    (first | subst eo23 | (injection eo23 with f1_ f2_ f3_; have f4_ := f1_.symm; have f5_ := f3_.symm; clear f1_ f2_ f3_; subst f4_; subst f5_))
    refine hK.out _ _ ⟨cZ0 BK260, cZ0 BK262, cZ1 BK262, cZ2 BK262, cZ3 BK262, cZ4 BK262⟩ (fun hHeld => ?_); clear hK K; refine norm_ (a' := ?_) ?_ ?_; rotate_left
    ·
     show Act.put _ (some 16) _ = _
     simp only [Act.put, lT, l0_, lS, i64_w, i32_w]; rfl
    refine one_ (i := 4) (N := some 17) B24_5 rfl rfl (one_of HT_.out (by kernel_rfl)) (by decide) (fun K hK => ?_); refine value_ (w1 := ?_) (v := ?_) (by rfl) rfl ?_ ?_; rotate_left 2
    ·
     go_simp
     constructor
     ·
      rfl
     ·
      rfl
    refine hK.out _ _ ⟨(bC (bA BK260.out _) 0).trans rfl, (bC (bA BK262.out _) 0).trans rfl, (bC (bA BK262.out _) 1).trans rfl, (bC (bA BK262.out _) 2).trans rfl, (bC (bA BK262.out _) 3).trans rfl, (bC (bA BK262.out _) 4).trans rfl⟩ (fun hHeld => ?_); clear hK K; refine norm_ (a' := ?_) ?_ ?_; rotate_left
    ·
     show Act.put _ (some 17) _ = _
     simp only [Act.put, lT, l0_, lS, i64_w, i32_w]; rfl
    refine one_ (i := 5) (N := some 18) B24_6 rfl rfl (one_of HT_.out (by kernel_rfl)) (by decide) (fun K hK => ?_); refine Kd.S_append_step k28 (w0 := w) w.heap.size (by rfl) (.tmp 14) (.tmp 17) 22 28 (.agg #[(.int .i64 0), (.int .i64 0), (.int .i64 0), (.slice none 0 0), (.slice none 0 0)]) 72 rfl Try.underlying22 info28 rfl (by decide) (by omega) u261000 x261000_1 (⟨t263, t264, t265, t266, t269⟩ : S28) [.int .i64 t263, .int .i64 t264, .int .i64 t265, .slice Ao22 t266.length co22, .slice Ao23 t269.length co23] (fun k_ => k_ ≠ gb262) (fun k_ => some k_ = (.slice Ao22 t266.length co22 : Value).ownBlock ∨ some k_ = (.slice Ao23 t269.length co23 : Value).ownBlock) rfl rfl ?aP (fun k_ hk_ => hk_.elim (fun h_ => ((Kd.R_mono (ok' := fun k_ => ((fun k_ => k_ ≠ gb262)) k_ ∧ some k_ ≠ (u261000 : Value).ownBlock) (Kd.R_types (Kd.R_apart' (HO268.out) (Kd.S_typed HO_261000.out) (by decide)) BK262.out (by decide)) (fun k_ hk => ⟨hk.2, hk.1.2⟩))).1 k_ h_.symm) (fun h_ => ((Kd.R_mono (ok' := fun k_ => ((fun k_ => k_ ≠ gb262)) k_ ∧ some k_ ≠ (u261000 : Value).ownBlock) (Kd.R_types (Kd.R_apart' (HO271.out) (Kd.S_typed HO_261000.out) (by decide)) BK262.out (by decide)) (fun k_ hk => ⟨hk.2, hk.1.2⟩))).1 k_ h_.symm)) ?aF ?aO ?aB ?aS ?aL ?_
    (case aP => exact k28_mkM _ _ _ (⟨t263, t264, t265, t266, t269⟩ : S28) (Kd.R_mono (Kd.R_tight rfl (Kd.R_mono (ok' := fun k_ => ((fun k_ => k_ ≠ gb262)) k_ ∧ some k_ ≠ (u261000 : Value).ownBlock) (Kd.R_types (Kd.R_apart' (HO268.out) (Kd.S_typed HO_261000.out) (by decide)) BK262.out (by decide)) (fun k_ hk => ⟨hk.2, hk.1.2⟩))) (fun _ h_ => Or.inl h_)) (Kd.R_mono (Kd.R_tight rfl (Kd.R_mono (ok' := fun k_ => ((fun k_ => k_ ≠ gb262)) k_ ∧ some k_ ≠ (u261000 : Value).ownBlock) (Kd.R_types (Kd.R_apart' (HO271.out) (Kd.S_typed HO_261000.out) (by decide)) BK262.out (by decide)) (fun k_ hk => ⟨hk.2, hk.1.2⟩))) (fun _ h_ => Or.inr (h_))))
    (case aB => exact (mH HB))
    (case aF => exact (fun k_ hk => Kd.freshB (g := gb262) (o := .cells #[.int .i64 ((rd_T28 l0_0 x9_1).f0), .int .i64 ((rd_T28 l0_0 x9_1).f1), .int .i64 ((rd_T28 l0_0 x9_1).f2), .slice A261_3 ((rd_T28 l0_0 x9_1).f3).length c261_3, .slice A261_4 ((rd_T28 l0_0 x9_1).f4).length c261_4] 28 (0, 0)) (mB BK262) k_ hk))
    (case aO => exact (by (with_reducible repeat (first | apply Kd.S_alloc | apply Kd.S_drewN | apply Kd.S_drew)); exact Kd.S_mono HO_261000.out (fun k_ hk => ⟨hk.1.1, fun e_ => e_.elim (fun h_ => hk.1.2 h_) (fun h_ => hk.2 h_)⟩)))
    (case aS => exact (below_size (mH HB)))
    (case aL => have := LMc12.out; omega)
    intro v273 w21 ho hb hg hat; rw [← Ny272.out] at ho; replace BK258 := Aside0.mk (blk_grown (g := gb258) (o := .cells #[.slice (some ad261) l0_0.length c0_0] 24 (0, 0)) (mB BK258) hg (Kd.S_ne HO_261000.out BK258.out (by decide))); replace BK259 := Aside0.mk (blk_grown (g := gb259) (o := .cells #[.slice none 0 0] 24 (0, 0)) (mB BK259) hg (Kd.S_ne HO_261000.out BK259.out (by decide))); replace BK260 := Aside0.mk (blk_grown (g := gb260) (o := .cells #[u261000] 24 (0, 0)) (mB BK260) hg (Kd.S_ne HO_261000.out BK260.out (by decide))); replace BK262 := Aside0.mk (blk_grown (g := gb262) (o := .cells #[.int .i64 ((rd_T28 l0_0 x9_1).f0), .int .i64 ((rd_T28 l0_0 x9_1).f1), .int .i64 ((rd_T28 l0_0 x9_1).f2), .slice A261_3 ((rd_T28 l0_0 x9_1).f3).length c261_3, .slice A261_4 ((rd_T28 l0_0 x9_1).f4).length c261_4] 28 (0, 0)) (mB BK262) hg (Kd.S_away HO_261000.out (fun _ hk => hk.1.1))); replace HB := Aside0.mk (hb); have HO274 := Aside0.mk (ho); clear HO_261000 HO268 HO271; clear ho hb hg hat; obtain ⟨Ao24, co24, eo24⟩ := Kd.S_slice HO274.out
    (first | subst eo24 | (injection eo24 with f1_ f2_ f3_; have f4_ := f1_.symm; have f5_ := f3_.symm; clear f1_ f2_ f3_; subst f4_; subst f5_))
    refine hK.out _ _ ⟨cZ0 BK260, cZ0 BK262, cZ1 BK262, cZ2 BK262, cZ3 BK262, cZ4 BK262⟩ (fun hHeld => ?_); clear hK K; refine norm_ (a' := ?_) ?_ ?_; rotate_left
    ·
     show Act.put _ (some 18) _ = _
     simp only [Act.put, lT, l0_, lS, i64_w, i32_w]; rfl
    refine pE 6 19 B24_7 HT_ ?_
    refine last_ (i := 7) (N := none) B24_8 rfl rfl (one_of HT_.out (by kernel_rfl)) (by decide) (fun K hK => ?_); have hs25 := cZ0 BK260; have hfs25 := bZ BK260.out 0; have hns25_0 := NB258_260.out; have hns25_1 := NB259_260.out; have hns25_3 := NB262_260.out; have hms25_0 := NB260_258.out; have hms25_1 := NB260_259.out; have hms25_3 := NB260_262.out; refine skip_ (w1 := ?_) (by rfl) rfl ?_ ?_; rotate_left
    ·
     go_simp; rfl
    refine hK.out _ _ ?_; clear hK K; refine done_ (done_of HT_.out (by kernel_rfl)) ?_
    try go_wp2
    go_roundg k1
    case measure => have := HK1.out; omega
    case rel => exact ⟨(wrap64 (x9_1 + 1)), (y272), (.slice Ao24 y272.length co24), sI, H', ⟨oK HK1⟩, ⟨fS ⟨Kd.S_types HO274.out BK260.out (by decide)⟩⟩, ⟨mF BK258⟩, ⟨mF BK259⟩, ⟨pP BK260⟩, ⟨mH HB⟩⟩
   ·
    rw [if_neg c8] at H; have c8b0 := decide_eq_false c8; clear c8; obtain rfl := Option.some.inj H; have hnb26 := NB260_258.out; have hnc26 := NB258_260.out; have hnb27 := NB260_259.out; have hnc27 := NB259_260.out; obtain ⟨hcz28_0, hfz28_0⟩ := cY0 BK260; obtain ⟨Ao29, co29, eo29⟩ := Kd.S_slice HO_261000.out; subst eo29; have hnb30 := NB259_258.out; have hnc30 := NB258_259.out; obtain ⟨hcz31_0, hfz31_0⟩ := cY0 BK259
    go_wp2
    refine bodyPost_ret (results_cell_row rfl _ _ gb259 24 #[.slice Ao29 x261000_1.length co29] (0, 0) _ rfl (pP BK259) Try.underlying24 rfl (by kernel_rfl)) rfl ?_
    exact ⟨_, rT, fS ⟨Kd.S_types HO_261000.out BK259.out (by decide)⟩, mH HB⟩
def slices_Clone_byte_byte.f (l0 : List Int) : Option (List Int) := if l0.length < 140737488355328 then some l0 else none
theorem slices_Clone_byte_byte.calls (A0 : Option Addr) (c0 : Nat) (l0 : List Int) (r : List Int) (w : World) (hr0 : Kd.C (Kd.int .u8) w A0 l0.length l0) (hc0 : l0.length ≤ c0) (h : slices_Clone_byte_byte.f l0 = some r) :
 Calls Try.prog 59 #[.slice A0 l0.length c0] w fun e w' => ∃ v0_ : Value, e = .returned (v0_) ∧ Kd.R (Kd.int .u8) 5 w' w.heap.size (fun _ => True) v0_ r ∧ Below w.heap.size w w' := by
 unfold slices_Clone_byte_byte.f at h
 by_cases hlim : l0.length < 140737488355328
 ·
  rw [if_pos hlim] at h; obtain rfl := Option.some.inj h; clear h
  cases A0 with
  | none =>
   have hl : l0 = [] := by
    cases l0 with
    | nil => rfl
    | cons x xs => obtain ⟨ad, he, _⟩ := hr0.2.2 (by simp); cases he
   subst hl; clear hr0 hlim; have HB := Aside0.mk (Below.refl w.heap.size w)
   have hnil : ∀ (W : World), (Go.binOp .eql 50 (.slice none 0 c0) (.slice none 0 0)).run Try.prog W = .ok (.bool true) W := fun W => Lib.run_eql_slice_nil W 50 5 none _ _ _ _ Try.underlying50
   go_enter Try.func59, Try.ntmps59
   go_wp2
   go_ret
   exact ⟨_, rfl, Kd.R_nil _ _ _ _ _, HB.out⟩
  | some ad0 =>
   have HR0 := Aside0.mk hr0; have LMc2 := Aside0.mk hlim; clear hr0 hlim; have HB := Aside0.mk (Below.refl w.heap.size w)
   have hnil : ∀ (W : World), (Go.binOp .eql 50 (.slice (some ad0) l0.length c0) (.slice none 0 0)).run Try.prog W = .ok (.bool false) W := fun W => Lib.run_eql_slice_nil W 50 5 (some ad0) _ _ _ _ Try.underlying50
   obtain ⟨y142, hy142⟩ : ∃ y_ : List (Int), y_ = [] := ⟨_, rfl⟩; have Ny142 := Aside0.mk hy142; clear hy142
   go_enter Try.func59, Try.ntmps59
   go_wp2_with (first | ((with_reducible refine gate_dst (N := 5) rfl ?_); refine Kd.R_lit (Kd.int .u8) _ 5 ?hg (N := 5) ?hd (xs := ([] : List (Int))) (inner := []) (ok := fun _ => True) (okp := fun _ => True) ?hr ?hp (fun _ hk => hk) trivial (Below.refl _ _) (Nat.le_refl _) (by simp) ?_; (case hd => rfl); (case hg => rfl); (case hr => first | (go_simp; done) | (go_simp; rfl)); (case hp => exact (Reps.none _ _)); intro v143 w3 ho4 hb hg_ hnew_; clear hg_ hnew_; (first | rw [← Ny142.out] at ho4 | (simp only [Int.reduceToNat] at ho4; rw [← Ny142.out] at ho4)); have HO144 := Aside0.mk (Kd.R_lower ho4 (below_size (mH HB))); replace HB := kH HB hb; clear hb ho4) | ((with_reducible refine gate_builtin (b := .append) (xs := #[.tmp 5, .tmp 6]) rfl ?_); at_builtin; refine Kd.R_append_rows (Kd.int .u8) (w0 := w) w.heap.size rfl (.tmp 5) (.tmp 6) 50 5 (.int .u8 0) 1 rfl Try.underlying50 info5 rfl (by decide) (by omega) v143 y142 l0 _ _ _ (fun _ => True) (fun _ => False) rfl rfl ?aO ?aR (fun _ _ h => h) (fun _ h => h.elim) ?aF ?aB ?aS ?aL ?_; (case aR => repeat (first | exact (Kd.C_below HR0.out HB.out) | (with_reducible refine Kd.C_alloc ?_ _) | (with_reducible refine Kd.C_drewN ?_ _) | (with_reducible refine Kd.C_drew ?_))); (case aB => exact (mH HB)); (case aF => exact (fun _ _ => trivial)); (case aO => exact (mR HO144)); (case aS => exact (below_size (mH HB))); (case aL => have := LMc2.out; have hz := Ny142.out; subst hz; simp only [List.length_nil]; omega); intro v146 w5 ho hb hg hat; have hz := Ny142.out; rw [hz, List.nil_append] at ho; clear hz; replace HB := Aside0.mk (hb); have HO147 := Aside0.mk (ho); clear HO144; clear ho hb hg hat))
   go_ret
   exact ⟨_, rfl, mR HO147, mH HB⟩
 ·
  rw [if_neg hlim] at h
  cases h
abbrev B25_0 : Array Bool := #[false, false, false, false, false, false, false, false, false, false, false, false, false, false, false]
abbrev B25_1 := B25_0.set! 2 true
abbrev B25_2 := B25_1.set! 4 true
abbrev B25_3 := B25_2.set! 7 true
abbrev B25_4 := B25_3.set! 8 true
abbrev B25_5 := B25_4.set! 9 true
abbrev B25_6 := B25_5.set! 12 true
abbrev B25_7 := B25_6.set! 0 true
abbrev B25_8 := B25_7.set! 3 true
abbrev B25_9 := B25_8.set! 5 true
abbrev B25_10 := B25_9.set! 6 true
abbrev B25_11 := B25_10.set! 1 true
abbrev B25_12 := B25_11.set! 10 true
abbrev B25_13 := B25_12.set! 11 true
abbrev B25_14 := B25_13.set! 13 true
abbrev B25_15 := B25_14.set! 14 true
abbrev B25_16 : Array Bool := #[false, false, false, false, false, false, false, false, false, false, false, false, false, false, false, false, false, false, false, false, false, false, false]
abbrev B25_17 := B25_16.set! 0 true
abbrev B25_18 := B25_17.set! 1 true
abbrev B25_19 := B25_18.set! 2 true
abbrev B25_20 := B25_19.set! 4 true
abbrev B25_21 := B25_20.set! 5 true
abbrev B25_22 := B25_21.set! 6 true
abbrev B25_23 := B25_22.set! 8 true
abbrev B25_24 := B25_23.set! 12 true
abbrev B25_25 := B25_24.set! 14 true
abbrev B25_26 := B25_25.set! 15 true
abbrev B25_27 := B25_26.set! 3 true
abbrev B25_28 := B25_27.set! 7 true
abbrev B25_29 := B25_28.set! 9 true
abbrev B25_30 := B25_29.set! 10 true
abbrev B25_31 := B25_30.set! 11 true
abbrev B25_32 := B25_31.set! 13 true
abbrev B25_33 := B25_32.set! 16 true
abbrev B25_34 := B25_33.set! 17 true
abbrev B25_35 := B25_34.set! 18 true
abbrev B25_36 := B25_35.set! 19 true
abbrev B25_37 := B25_36.set! 20 true
abbrev B25_38 := B25_37.set! 21 true
abbrev B25_39 := B25_38.set! 22 true
mutual
def file_Write.j0 : Nat → Int → Int → Int → List Int → Bool → List (S28) → Option ((List (S28)) × (List (S60)) × Int)
 | 0, _, _, _, _, _, _ => none
 | k + 1, x1, x2, x3, x4, x18, x276000 => if x18 = true then (some (([] : List (S28)), ([] : List (S60)), 1)) else (if (x4.length : Int) = 0 then ((dir_Copy.f k x276000).bind fun t278 => (some (t278, ([] : List (S60)), 0))) else ((span_Fits.f x3 (x4.length : Int)).bind fun t281 => (if t281 = true then ((quota_Used.f k x276000).bind fun t282 => (if 0 ≤ x2 then (if x2 < (x276000.length : Int) then ((quota_More.f k ((rd_T28 x276000 x2).f0) ((rd_T28 x276000 x2).f1) ((rd_T28 x276000 x2).f2) ((rd_T28 x276000 x2).f3) ((rd_T28 x276000 x2).f4) x3 (x4.length : Int)).bind fun t284 => (if (wrap64 (t282 + t284)) > x1 then (some (([] : List (S28)), ([] : List (S60)), 13)) else ((dir_Copy.f k x276000).bind fun t285 => (if x2 < (t285.length : Int) then ((span_Pieces.f k x3 (x4.length : Int)).bind fun t292 => (file_Write.l0 k x2 x4 ([] : List (S60)) t292 (t292.length : Int) 0 (t285.set (x2 : Int).toNat (⟨(rd_T28 t285 x2).f0, (rd_T28 t285 x2).f1, mx ((rd_T28 t285 x2).f2) (wrap64 (x3 + (x4.length : Int))), (rd_T28 t285 x2).f3, (rd_T28 t285 x2).f4⟩ : S28)))) else (none))))) else (none)) else (none))) else (some (([] : List (S28)), ([] : List (S60)), 16)))))
def file_Write.l0 : Nat → Int → List Int → List (S60) → List (S41) → Int → Int → List (S28) → Option ((List (S28)) × (List (S60)) × Int)
 | 0, _, _, _, _, _, _, _ => none
 | k + 1, x2, x4, x15, x78, x79, x80, x289000 => if x80 < x79 then (if 0 ≤ x80 then (if x80 < (x78.length : Int) then (if 0 ≤ x2 then (if x2 < (x289000.length : Int) then (if 0 ≤ ((rd_T41 x78 x80).f0) then (if ((rd_T41 x78 x80).f0) < (((rd_T28 x289000 x2).f3).length : Int) then (if 0 ≤ ((rd_T41 x78 x80).f2) then (if ((rd_T41 x78 x80).f2) ≤ (x4.length : Int) then ((slices_Clone_byte_byte.f (x4.take (((rd_T41 x78 x80).f2) : Int).toNat)).bind fun t304 => (if x15.length < 2199023255552 then (file_Write.l0 k x2 (x4.drop (((rd_T41 x78 x80).f2) : Int).toNat) (x15 ++ [(⟨x2, (rd_T41 x78 x80).f0, rd ((rd_T28 x289000 x2).f3) ((rd_T41 x78 x80).f0), 16, (rd_T41 x78 x80).f1, t304⟩ : S60)]) x78 x79 (wrap64 (x80 + 1)) x289000) else (none))) else (none)) else (none)) else (none)) else (none)) else (none)) else (none)) else (none)) else (none)) else (some (x289000, x15, 0))
end
def file_Write.f (k : Nat) (l0_0 : List (S28)) (a1 : Int) (a2 : Int) (a3 : Int) (l4 : List Int) : Option ((List (S28)) × (List (S60)) × Int) := (file_is.f k l0_0 a2).bind fun t277 => (if t277 = true then (file_Write.j0 k a1 a2 a3 l4 (decide (a3 < 0)) l0_0) else (file_Write.j0 k a1 a2 a3 l4 true l0_0))
theorem file_Write.mono_l : ∀ k, (∀ y0 y1 y2 y3 y4 y5, LeO (file_Write.j0 k y0 y1 y2 y3 y4 y5) (file_Write.j0 (k + 1) y0 y1 y2 y3 y4 y5)) ∧ (∀ y0 y1 y2 y3 y4 y5 y6, LeO (file_Write.l0 k y0 y1 y2 y3 y4 y5 y6) (file_Write.l0 (k + 1) y0 y1 y2 y3 y4 y5 y6))
 | 0 => ⟨fun _ _ _ _ _ _ r h => by simp [file_Write.j0] at h, fun _ _ _ _ _ _ _ r h => by simp [file_Write.l0] at h⟩
 | k + 1 => by
  obtain ⟨ih0, ih1⟩ := file_Write.mono_l k; refine ⟨?_, ?_⟩
  ·
   intro y0 y1 y2 y3 y4 y5
   unfold file_Write.j0
   repeat' with_reducible first | apply ih0 | apply ih1 | apply dir_Copy.mono | apply file_is.mono | apply quota_More.mono | apply quota_Used.mono | apply span_Pieces.mono | exact LeO.refl _ | exact LeO.none _ | refine LeO.ite ?_ ?_ | refine LeO.bind ?_ (fun _ => ?_)
  ·
   intro y0 y1 y2 y3 y4 y5 y6
   unfold file_Write.l0
   repeat' with_reducible first | apply ih0 | apply ih1 | apply dir_Copy.mono | apply file_is.mono | apply quota_More.mono | apply quota_Used.mono | apply span_Pieces.mono | exact LeO.refl _ | exact LeO.none _ | refine LeO.ite ?_ ?_ | refine LeO.bind ?_ (fun _ => ?_)
theorem file_Write.mono : ∀ a0 a1 a2 a3 a4 k, LeO (file_Write.f k a0 a1 a2 a3 a4) (file_Write.f (k + 1) a0 a1 a2 a3 a4) := by
 intro a0 a1 a2 a3 a4 k; obtain ⟨ih0, ih1⟩ := file_Write.mono_l k
 unfold file_Write.f
 repeat' with_reducible first | apply ih0 | apply ih1 | apply dir_Copy.mono | apply file_is.mono | apply quota_More.mono | apply quota_Used.mono | apply span_Pieces.mono | exact LeO.refl _ | exact LeO.none _ | refine LeO.ite ?_ ?_ | refine LeO.bind ?_ (fun _ => ?_)
def file_Write.T7 : Bool × List (List Nat × List Nat) := (true, [([], []), ([0], [0]), ([], []), ([2], [2]), ([], []), ([3, 4], [3, 4]), ([5], [5]), ([], []), ([], []), ([8], [8]), ([6, 7, 9, 1], [6, 7, 9]), ([1, 10], [1, 10]), ([], []), ([11, 12], [11, 12]), ([13, 10], [13])])
def file_Write.B7 : List Nat := [0, 1, 0, 4, 0, 28, 60, 0, 0, 256, 1023, 2047, 0, 8191, 16383]
theorem file_Write.tab7 : rtab .any (opsOf Try.f34 7) = file_Write.T7 := by kernel_rfl
theorem file_Write.bits7 : waitsOk file_Write.T7.2 file_Write.B7 = true := by kernel_rfl
def file_Write.T16 : Bool × List (List Nat × List Nat) := (true, [([], []), ([], []), ([], []), ([2], [2]), ([], []), ([4], [4]), ([5], [5]), ([6], [6]), ([], []), ([8], [8]), ([7, 9], [7, 9]), ([10], [10]), ([], []), ([12], [12]), ([], []), ([], []), ([15], [15]), ([14, 16], [14, 16]), ([17], [17]), ([1, 3, 11, 13, 18], [1, 3, 11, 13, 18]), ([19], [19]), ([0, 20, 18], [0, 20]), ([21, 21, 0, 1, 2, 3, 4, 5, 6, 7, 8, 9, 10, 11, 12, 13, 14, 15, 16, 17, 18, 19, 20, 21], [0, 21])])
def file_Write.B16 : List Nat := [0, 0, 0, 4, 0, 16, 48, 112, 0, 256, 1008, 2032, 0, 4096, 0, 0, 32768, 114688, 245760, 524286, 1048574, 2097151, 4194303]
theorem file_Write.tab16 : rtab .any (opsOf Try.f34 16) = file_Write.T16 := by kernel_rfl
theorem file_Write.bits16 : waitsOk file_Write.T16.2 file_Write.B16 = true := by kernel_rfl
set_option maxHeartbeats 8000000 in
set_option maxRecDepth 100000 in
theorem file_Write.calls (k : Nat) (A0_0 : Option Addr) (c0_0 : Nat) (l0_0 : List (S28)) (a1 : Int) (a2 : Int) (a3 : Int) (P4_ : Nat → Prop) (A4 : Option Addr) (c4 : Nat) (l4 : List Int) (r1 : List (S28)) (r2 : List (S60)) (r3 : Int) (w : World) (hr0_0 : Kd.C k28 w A0_0 l0_0.length l0_0) (hc0_0 : l0_0.length ≤ c0_0) (hs4 : Kd.V (Kd.int .u8) 5 w w.heap.size (fun k_ => P4_ k_) (.slice A4 l4.length c4) l4) (h : file_Write.f k l0_0 a1 a2 a3 l4 = some (r1, r2, r3)) :
 Calls Try.prog 34 #[.agg #[.slice A0_0 l0_0.length c0_0], .int .i64 a1, .int .i64 a2, .int .i64 a3, .slice A4 l4.length c4] w fun e w' => ∃ v0_ v1_ : Value, e = .returned (.tuple #[.agg #[v0_], v1_, .int .i64 r3]) ∧ Kd.S k28 28 w' w.heap.size (fun k_ => (w.heap.size ≤ k_)) v0_ r1 ∧ Kd.S k60 60 w' w.heap.size (fun k_ => (w.heap.size ≤ k_)) v1_ r2 ∧ Below w.heap.size w w' := by
 have hu24 := Try.underlying24; have hu28 := Try.underlying28; have hu41 := Try.underlying41; have hu60 := Try.underlying60; have HR0_0 := Aside0.mk hr0_0; have HC0_0 := Aside0.mk hc0_0; clear hr0_0 hc0_0; have HO4 := Aside0.mk (show Kd.V (Kd.int .u8) 5 w w.heap.size (fun k_ => (P4_ k_ ∨ w.heap.size ≤ k_)) (.slice A4 l4.length c4) l4 from Kd.V_mono hs4 (fun k_ hk => .inl hk)); have HB := Aside0.mk (Below.refl w.heap.size w); have H : ((file_is.f k l0_0 a2).bind fun t277 => (if t277 = true then (file_Write.j0 k a1 a2 a3 l4 (decide (a3 < 0)) l0_0) else (file_Write.j0 k a1 a2 a3 l4 true l0_0))) = some (r1, r2, r3) := h; clear h; have HC6 := Aside0.mk H; clear H
 go_enter Try.func34, Try.ntmps34
 go_upto_region 1 with (first | ((with_reducible refine gate_dst (N := 5) rfl ?_); refine bxE 24 (cs := #[.slice A0_0 l0_0.length c0_0]) ?_; intro gb275 hg w7 hbox hb; replace HO4 := Aside0.mk (Kd.V_below (Kd.V_elderB (mV HO4) gb275 (Nat.le_of_eq hg.symm)) hb); have BK275 := Aside0.mk hbox; have GW275 := kG HB hg; have GE275 := kG HB hg; replace HB := kH HB hb; clear hb hbox hg) | ((with_reducible refine gate_dst (N := 10) rfl ?_); refine bxE 24 (cs := #[.slice none 0 0]) ?_; intro gb276 hg w8 hbox hb; replace HO4 := Aside0.mk (Kd.V_below (Kd.V_elderB (mV HO4) gb276 (Nat.le_of_eq hg.symm)) hb); have BK276 := Aside0.mk hbox; have GW276 := kG HB hg; have GE276 := kG HB hg; replace HB := kH HB hb; have NB275_276 := kL BK275 hg; have NB276_275 := kQ BK275 hg; replace BK275 := kB BK275 hb; clear hb hbox hg))
 (try simp only [Act.put, lT, l0_, lS])
 go_cut [18] (fun v18 wc => ∃ (kq : Nat) (x18_5 : Bool), v18 = .bool x18_5 ∧ Aside0 (file_Write.j0 kq a1 a2 a3 l4 x18_5 l0_0 = some (r1, r2, r3)) ∧ Aside0 (kq ≤ k) ∧ Aside0 (Kd.V (Kd.int .u8) 5 wc w.heap.size (fun k_ => (P4_ k_ ∨ w.heap.size ≤ k_) ∧ k_ ≠ gb275 ∧ k_ ≠ gb276) (.slice A4 l4.length c4) l4) ∧ Aside0 (wc.heap[gb275]? = some (.cells #[(.slice A0_0 l0_0.length c0_0)] 24 (0, 0))) ∧ Aside0 (wc.heap[gb276]? = some (.cells #[(.slice none 0 0)] 24 (0, 0))) ∧ Aside0 (Below w.heap.size w wc))
 case first =>
  have H := HC6.out; clear HC6; replace H := Option.bind_eq_some_iff.mp H; obtain ⟨t277, A90, H⟩ := H; have A9 := Aside0.mk A90; clear A90
  by_cases c10 : t277 = true
  ·
   subst c10
   have H1 : (file_Write.j0 k a1 a2 a3 l4 (decide (a3 < 0)) l0_0) = some (r1, r2, r3) := by rw [if_pos rfl] at H; exact H
   clear H; have H := H1; clear H1; have H' := Aside0.mk H; clear H; have hnb11 := NB275_276.out; have hnc11 := NB276_275.out; obtain ⟨hcz12_0, hfz12_0⟩ := cY0 BK275
   go_wp2_with (first | ((with_reducible refine gate_callee (f := 56) rfl ?_); refine goesK (some 21) Try.func56 #[.agg #[.slice A0_0 l0_0.length c0_0], .int .i64 a2] ?_; (with_reducible refine (file_is.calls k _ _ l0_0 a2 true _ ?side1 ?side2 A9.out).mono ?_); (case side1 => exact mC HR0_0 HB); (case side2 => exact HC0_0.out); rintro e w13 ⟨rfl, hb⟩; refine ⟨_, rfl, ?_⟩; replace HO4 := kV HO4 hb; replace BK275 := kB BK275 hb; replace BK276 := kB BK276 hb; replace HB := kH HB hb; (try clear hb); (try clear hk)))
   go_meet
   case rel => exact ⟨_, (decide (a3 < 0)), sI, H', ⟨by first | omega | exact Nat.le_refl _⟩, ⟨by (with_reducible repeat (first | apply Kd.V_alloc | apply Kd.V_drewN | apply Kd.V_drew)); exact Kd.V_mono HO4.out (fun _ hk => by first | exact ⟨hk.1.1, ⟨hk.1.2, hk.2⟩⟩ | (go_split_ands; and_intros <;> assumption))⟩, ⟨mB BK275⟩, ⟨mB BK276⟩, ⟨mH HB⟩⟩
  ·
   replace c10 := Bool.eq_false_iff.mpr c10; subst c10
   have H1 : (file_Write.j0 k a1 a2 a3 l4 true l0_0) = some (r1, r2, r3) := by rw [if_neg (show ¬ (false = true) by decide)] at H; exact H
   clear H; have H := H1; clear H1; have H' := Aside0.mk H; clear H; have hnb14 := NB275_276.out; have hnc14 := NB276_275.out; obtain ⟨hcz15_0, hfz15_0⟩ := cY0 BK275
   go_wp2_with (first | ((with_reducible refine gate_callee (f := 56) rfl ?_); refine goesK (some 21) Try.func56 #[.agg #[.slice A0_0 l0_0.length c0_0], .int .i64 a2] ?_; (with_reducible refine (file_is.calls k _ _ l0_0 a2 false _ ?side1 ?side2 A9.out).mono ?_); (case side1 => exact mC HR0_0 HB); (case side2 => exact HC0_0.out); rintro e w16 ⟨rfl, hb⟩; refine ⟨_, rfl, ?_⟩; replace HO4 := kV HO4 hb; replace BK275 := kB BK275 hb; replace BK276 := kB BK276 hb; replace HB := kH HB hb; (try clear hb); (try clear hk)))
   go_meet
   case rel => exact ⟨_, (true), sI, H', ⟨by first | omega | exact Nat.le_refl _⟩, ⟨by (with_reducible repeat (first | apply Kd.V_alloc | apply Kd.V_drewN | apply Kd.V_drew)); exact Kd.V_mono HO4.out (fun _ hk => by first | exact ⟨hk.1.1, ⟨hk.1.2, hk.2⟩⟩ | (go_split_ands; and_intros <;> assumption))⟩, ⟨mB BK275⟩, ⟨mB BK276⟩, ⟨mH HB⟩⟩
 case rest =>
  clear HC6
  (try clear c4)
  obtain ⟨kq, x18_5, rfl, HA, HJ5, HO_4, BK275, BK276, HB⟩ := hcut
  cases kq with
  | zero => exact absurd HA.out (by simp [file_Write.j0])
  | succ kj5 =>
   have H := HA.out; clear HA; simp only [file_Write.j0] at H
   by_cases c17 : x18_5 = true
   ·
    subst c17
    have H1 : (some (([] : List (S28)), ([] : List (S60)), 1)) = some (r1, r2, r3) := by rw [if_pos rfl] at H; exact H
    clear H; have H := H1; clear H1; simp only [Option.some.injEq, Prod.mk.injEq] at H; obtain ⟨rfl, rfl, rfl⟩ := H; have hnb18 := NB276_275.out; have hnc18 := NB275_276.out; obtain ⟨hcz19_0, hfz19_0⟩ := cY0 BK276
    go_wp2
    refine bodyPost_ret (results_ctt rfl _ _ gb276 24 #[.slice none 0 0] (0, 0) _ rfl (pP BK276) Try.underlying24 rfl (by kernel_rfl)) rfl ?_
    exact ⟨_, _, rT, by first | exact Kd.S_nil _ _ _ _ _ | exact Kd.N_nil _ _ _ _ _ | exact Kd.V_nil _ _ _ _ _ | exact Kd.Q_nil _ _ _ _ _ | exact Kd.R_nil _ _ _ _ _, by first | exact Kd.S_nil _ _ _ _ _ | exact Kd.N_nil _ _ _ _ _ | exact Kd.V_nil _ _ _ _ _ | exact Kd.Q_nil _ _ _ _ _ | exact Kd.R_nil _ _ _ _ _, mH HB⟩
   ·
    replace c17 := Bool.eq_false_iff.mpr c17; subst c17
    have H1 : (if (l4.length : Int) = 0 then ((dir_Copy.f kj5 l0_0).bind fun t278 => (some (t278, ([] : List (S60)), 0))) else ((span_Fits.f a3 (l4.length : Int)).bind fun t281 => (if t281 = true then ((quota_Used.f kj5 l0_0).bind fun t282 => (if 0 ≤ a2 then (if a2 < (l0_0.length : Int) then ((quota_More.f kj5 ((rd_T28 l0_0 a2).f0) ((rd_T28 l0_0 a2).f1) ((rd_T28 l0_0 a2).f2) ((rd_T28 l0_0 a2).f3) ((rd_T28 l0_0 a2).f4) a3 (l4.length : Int)).bind fun t284 => (if (wrap64 (t282 + t284)) > a1 then (some (([] : List (S28)), ([] : List (S60)), 13)) else ((dir_Copy.f kj5 l0_0).bind fun t285 => (if a2 < (t285.length : Int) then ((span_Pieces.f kj5 a3 (l4.length : Int)).bind fun t292 => (file_Write.l0 kj5 a2 l4 ([] : List (S60)) t292 (t292.length : Int) 0 (t285.set (a2 : Int).toNat (⟨(rd_T28 t285 a2).f0, (rd_T28 t285 a2).f1, mx ((rd_T28 t285 a2).f2) (wrap64 (a3 + (l4.length : Int))), (rd_T28 t285 a2).f3, (rd_T28 t285 a2).f4⟩ : S28)))) else (none))))) else (none)) else (none))) else (some (([] : List (S28)), ([] : List (S60)), 16))))) = some (r1, r2, r3) := by rw [if_neg (show ¬ (false = true) by decide)] at H; exact H
    clear H; have H := H1; clear H1
    by_cases c20 : (l4.length : Int) = 0
    ·
     rw [if_pos c20] at H; obtain ⟨c20b0, c20b1⟩ := eP c20; clear c20; replace H := Option.bind_eq_some_iff.mp H; obtain ⟨t278, A210, H⟩ := H; have A21 := Aside0.mk A210; clear A210; simp only [Option.some.injEq, Prod.mk.injEq] at H; obtain ⟨rfl, rfl, rfl⟩ := H; have hnb22 := NB275_276.out; have hnc22 := NB276_275.out; obtain ⟨hcz23_0, hfz23_0⟩ := cY0 BK275
     go_wp2_with (first | ((with_reducible refine gate_callee (f := 57) rfl ?_); refine goesK (some 33) Try.func57 #[.agg #[.slice A0_0 l0_0.length c0_0]] ?_; (with_reducible refine (dir_Copy.calls kj5 _ _ l0_0 t278 _ ?side1 ?side2 A21.out).mono ?_); (case side1 => exact mC HR0_0 HB); (case side2 => exact HC0_0.out); rintro e w24 ⟨v279, rfl, ho0, hb⟩; refine ⟨_, rfl, ?_⟩; replace HO_4 := Aside0.mk (Kd.V_elder' (mV HO_4) (Kd.S_base ho0) hb); have HO280 := Aside0.mk (Kd.S_lower (Kd.S_newM (M := fun k_ => (w.heap.size ≤ k_)) ho0 (below_size (mH HB)) (fun k_ h_ => h_)) (below_size (mH HB))); replace BK275 := kB BK275 hb; replace BK276 := kB BK276 hb; replace HB := kH HB hb; (try clear hb); (try clear hk); (try clear ho0); obtain ⟨Ao25, co25, eo25⟩ := Kd.S_slice HO280.out; subst eo25; obtain ⟨hcz26_0, hfz26_0⟩ := cY0 BK276))
     refine bodyPost_ret (results_ctt rfl _ _ gb276 24 #[.slice Ao25 t278.length co25] (0, 0) _ rfl (pP BK276) Try.underlying24 rfl (by kernel_rfl)) rfl ?_
     exact ⟨_, _, rT, fS ⟨Kd.S_types HO280.out BK276.out (by decide)⟩ (fun _ hk => hk.1.1), by first | exact Kd.S_nil _ _ _ _ _ | exact Kd.N_nil _ _ _ _ _ | exact Kd.V_nil _ _ _ _ _ | exact Kd.Q_nil _ _ _ _ _ | exact Kd.R_nil _ _ _ _ _, mH HB⟩
    ·
     rw [if_neg c20] at H; obtain ⟨c20b0, c20b1⟩ := eN c20
     have c20b2 : ¬ (l4 = []) := fun h_ => c20 (by rw [h_]; rfl)
     replace H := Option.bind_eq_some_iff.mp H; obtain ⟨t281, A270, H⟩ := H; have A27 := Aside0.mk A270; clear A270
     by_cases c28 : t281 = true
     ·
      subst c28
      have H1 : ((quota_Used.f kj5 l0_0).bind fun t282 => (if 0 ≤ a2 then (if a2 < (l0_0.length : Int) then ((quota_More.f kj5 ((rd_T28 l0_0 a2).f0) ((rd_T28 l0_0 a2).f1) ((rd_T28 l0_0 a2).f2) ((rd_T28 l0_0 a2).f3) ((rd_T28 l0_0 a2).f4) a3 (l4.length : Int)).bind fun t284 => (if (wrap64 (t282 + t284)) > a1 then (some (([] : List (S28)), ([] : List (S60)), 13)) else ((dir_Copy.f kj5 l0_0).bind fun t285 => (if a2 < (t285.length : Int) then ((span_Pieces.f kj5 a3 (l4.length : Int)).bind fun t292 => (file_Write.l0 kj5 a2 l4 ([] : List (S60)) t292 (t292.length : Int) 0 (t285.set (a2 : Int).toNat (⟨(rd_T28 t285 a2).f0, (rd_T28 t285 a2).f1, mx ((rd_T28 t285 a2).f2) (wrap64 (a3 + (l4.length : Int))), (rd_T28 t285 a2).f3, (rd_T28 t285 a2).f4⟩ : S28)))) else (none))))) else (none)) else (none))) = some (r1, r2, r3) := by rw [if_pos rfl] at H; exact H
      clear H; have H := H1; clear H1; replace H := Option.bind_eq_some_iff.mp H; obtain ⟨t282, A290, H⟩ := H; have A29 := Aside0.mk A290; clear A290
      replace H := nP H; obtain ⟨c30, H⟩ := H; have c30b0 := decide_eq_true c30; clear c30
      replace H := nP H; obtain ⟨c31, H⟩ := H; have c31b0 := decide_eq_true c31; clear c31; replace H := Option.bind_eq_some_iff.mp H; obtain ⟨t284, A320, H⟩ := H; have A32 := Aside0.mk A320; clear A320
      by_cases c33 : (wrap64 (t282 + t284)) > a1
      ·
       rw [if_pos c33] at H; have c33b0 : decide (a1 < (wrap64 (t282 + t284))) = true := decide_eq_true c33; clear c33; simp only [Option.some.injEq, Prod.mk.injEq] at H; obtain ⟨rfl, rfl, rfl⟩ := H
       try go_wp2_with (first | ((with_reducible refine gate_callee (f := 58) rfl ?_); refine goesK (some 38) Try.func58 #[.int .i64 a3, .int .i64 (l4.length : Int)] ?_; (with_reducible refine (span_Fits.calls a3 (l4.length : Int) true _ A27.out).mono ?_); rintro e w' ⟨rfl, ⟨nd, rfl⟩⟩; refine ⟨_, rfl, ?_⟩; (try (rw [drewN_self wc]; generalize hq_ : World.drewN wc _ = wc; have n0_ : Aside0 (Kd.V (Kd.int .u8) 5 wc w.heap.size (fun k_ => (P4_ k_ ∨ w.heap.size ≤ k_) ∧ k_ ≠ gb275 ∧ k_ ≠ gb276) (.slice A4 l4.length c4) l4) := ⟨by rw [← hq_]; exact (mV HO_4)⟩; have n1_ : Aside0 (wc.heap[gb275]? = some (.cells #[.slice A0_0 l0_0.length c0_0] 24 (0, 0))) := ⟨by rw [← hq_]; exact (mB BK275)⟩; have n2_ : Aside0 (wc.heap[gb276]? = some (.cells #[.slice none 0 0] 24 (0, 0))) := ⟨by rw [← hq_]; exact (mB BK276)⟩; have n3_ : Aside0 (Below w.heap.size w wc) := ⟨by rw [← hq_]; exact (mH HB)⟩; clear HO_4 BK275 BK276 HB hq_; have HO_4 := n0_; have BK275 := n1_; have BK276 := n2_; have HB := n3_; clear n0_ n1_ n2_ n3_))))
       replace HO_4 := Aside0.mk (Kd.V_drew HO_4.out); replace BK275 := Aside0.mk (bD BK275.out); replace BK276 := Aside0.mk (bD BK276.out); replace HB := Aside0.mk (wD HB.out); have p283 : 0 ≤ (a2 : Int) := dT; have q283 : a2 < (l0_0.length : Int) := dT; obtain ⟨ad283, A283_3, c283_3, A283_4, c283_4, e283, hx283_0, hx283_1, hx283_2, hx283_3, hx283_4, hl283_3, hi283_3, hl283_4, hi283_4⟩ := at_T28 HR0_0.out a2 p283 q283; have hw283_4 := hx283_4; have hw283_3 := hx283_3; have hw283_2 := hx283_2; have hw283_1 := hx283_1; have hw283_0 := hx283_0
       cases e283
       replace hx283_0 := xC HB hx283_0; replace hx283_1 := xC HB hx283_1; replace hx283_2 := xC HB hx283_2; replace hx283_3 := xC HB hx283_3; replace hx283_4 := xC HB hx283_4; have HR283_3 := Aside0.mk hi283_3; have HC283_3 := Aside0.mk hl283_3; clear hi283_3 hl283_3; have HR283_4 := Aside0.mk hi283_4; have HC283_4 := Aside0.mk hl283_4; clear hi283_4 hl283_4; replace p283 := eq_true p283; replace q283 := eq_true q283; refine start_ (n := 15) (S := fun w' => w'.cell? ⟨gb275, 0, none⟩ = some (.slice (some ad283) l0_0.length c0_0) ∧ w'.cell? (ad283.add ((a2).toNat * 5)) = some (.int .i64 ((rd_T28 l0_0 a2).f0)) ∧ w'.cell? ⟨(ad283.add ((a2).toNat * 5)).block, (ad283.add ((a2).toNat * 5)).off + 1, none⟩ = some (.int .i64 ((rd_T28 l0_0 a2).f1)) ∧ w'.cell? ⟨(ad283.add ((a2).toNat * 5)).block, (ad283.add ((a2).toNat * 5)).off + 2, none⟩ = some (.int .i64 ((rd_T28 l0_0 a2).f2)) ∧ w'.cell? ⟨(ad283.add ((a2).toNat * 5)).block, (ad283.add ((a2).toNat * 5)).off + 3, none⟩ = some (.slice A283_3 ((rd_T28 l0_0 a2).f3).length c283_3) ∧ w'.cell? ⟨(ad283.add ((a2).toNat * 5)).block, (ad283.add ((a2).toNat * 5)).off + 4, none⟩ = some (.slice A283_4 ((rd_T28 l0_0 a2).f4).length c283_4)) (ds := []) B25_0 (by kernel_rfl) rfl rfl ⟨cZ0 BK275, (xC HB hw283_0), (xC HB hw283_1), (xC HB hw283_2), (xC HB hw283_3), (xC HB hw283_4)⟩ (fun hHeld => ?_); refine with_tabW file_Write.tab7 file_Write.bits7 (fun HT_ HW_ => ?_); generalize wc.drew = w34 at HO_4 BK275 BK276 HB HR283_3 HR283_4 hx283_0 hx283_1 hx283_2 hx283_3 hx283_4 hHeld ⊢; refine pure_ (i := 2) (N := some 44) (v := ?_) (a' := ?_) B25_1 rfl rfl (any_of HT_.out (by kernel_rfl)) (fun _ _ _ h => h) (Or.inl ⟨by rfl, ?_⟩) ?_ ?_; rotate_left
       ·
        intro w'; go_simp; with_reducible rfl
       rotate_left
       ·
        simp only [Act.put, lT, l0_, lS, i64_w, i32_w]; rfl
       refine pE 4 46 B25_2 HT_ ?_
       refine pE 7 49 B25_3 HT_ ?_
       refine pE 8 50 B25_4 HT_ ?_
       refine pE 9 51 B25_5 HT_ ?_
       refine pE 12 54 B25_6 HT_ ?_
       refine tE 0 42 B25_7 HT_ HW_ hHeld ?_
       refine tE 3 45 B25_8 HT_ HW_ hHeld ?_
       refine pE 5 47 B25_9 HT_ ?_
       refine tE 6 48 B25_10 HT_ HW_ hHeld ?_
       refine one_ (i := 1) (N := some 43) B25_11 rfl rfl (one_of HT_.out (by kernel_rfl)) (by decide) (fun K hK => ?_); refine goes_ Try.func16 (by kernel_rfl) rfl #[.agg #[.slice (some ad283) l0_0.length c0_0]] (by rfl) rfl rfl (by (try simp only [List.map_toArray, List.map_cons, List.map_nil]); first | done | rfl | (simp only [List.length_drop, List.length_take]; rfl)) ?_
       with_reducible refine (quota_Used.calls kj5 _ _ l0_0 t282 _ ?side1 ?side2 A29.out).mono ?_
       (case side1 => exact mC HR0_0 HB)
       (case side2 => exact HC0_0.out)
       rintro e w35 ⟨rfl, hb⟩; refine ⟨_, rfl, ?_⟩; replace HO_4 := kV HO_4 hb; replace BK275 := kB BK275 hb; replace BK276 := kB BK276 hb; replace HB := kH HB hb
       (try clear hb); (try clear hk)
       refine hK.out _ _ ⟨cZ0 BK275, (xC HB hw283_0), (xC HB hw283_1), (xC HB hw283_2), (xC HB hw283_3), (xC HB hw283_4)⟩ (fun hHeld => ?_); clear hK K; refine norm_ (a' := ?_) ?_ ?_; rotate_left
       ·
        show Act.put _ (some 43) _ = _
        simp only [Act.put, lT, l0_, lS, i64_w, i32_w]; rfl
       refine one_ (i := 10) (N := some 52) B25_12 rfl rfl (one_of HT_.out (by kernel_rfl)) (by decide) (fun K hK => ?_); refine goes_ Try.func22 (by kernel_rfl) rfl #[.agg #[.int .i64 ((rd_T28 l0_0 a2).f0), .int .i64 ((rd_T28 l0_0 a2).f1), .int .i64 ((rd_T28 l0_0 a2).f2), .slice A283_3 ((rd_T28 l0_0 a2).f3).length c283_3, .slice A283_4 ((rd_T28 l0_0 a2).f4).length c283_4], .int .i64 a3, .int .i64 (l4.length : Int)] (by rfl) rfl rfl (by (try simp only [List.map_toArray, List.map_cons, List.map_nil]); first | done | rfl | (simp only [List.length_drop, List.length_take]; rfl)) ?_
       with_reducible refine (quota_More.calls kj5 ((rd_T28 l0_0 a2).f0) ((rd_T28 l0_0 a2).f1) ((rd_T28 l0_0 a2).f2) _ _ ((rd_T28 l0_0 a2).f3) _ _ ((rd_T28 l0_0 a2).f4) a3 (l4.length : Int) t284 _ ?side1 ?side2 ?side3 ?side4 A32.out).mono ?_
       (case side1 => exact mC HR283_3 HB)
       (case side2 => exact HC283_3.out)
       (case side3 => exact mC HR283_4 HB)
       (case side4 => exact HC283_4.out)
       rintro e w36 ⟨rfl, hb⟩; refine ⟨_, rfl, ?_⟩; replace HO_4 := kV HO_4 hb; replace BK275 := kB BK275 hb; replace BK276 := kB BK276 hb; replace HB := kH HB hb
       (try clear hb); (try clear hk)
       refine hK.out _ _ ⟨cZ0 BK275, (xC HB hw283_0), (xC HB hw283_1), (xC HB hw283_2), (xC HB hw283_3), (xC HB hw283_4)⟩ (fun hHeld => ?_); clear hK K; refine norm_ (a' := ?_) ?_ ?_; rotate_left
       ·
        show Act.put _ (some 52) _ = _
        simp only [Act.put, lT, l0_, lS, i64_w, i32_w]; rfl
       refine pE 11 53 B25_13 HT_ ?_
       refine pE 13 55 B25_14 HT_ ?_
       refine pE 14 41 B25_15 HT_ ?_
       refine done_ (done_of HT_.out (by kernel_rfl)) ?_; have hnb37 := NB276_275.out; have hnc37 := NB275_276.out; obtain ⟨hcz38_0, hfz38_0⟩ := cY0 BK276
       try go_wp2
       refine bodyPost_ret (results_ctt rfl _ _ gb276 24 #[.slice none 0 0] (0, 0) _ rfl (pP BK276) Try.underlying24 rfl (by kernel_rfl)) rfl ?_
       exact ⟨_, _, rT, by first | exact Kd.S_nil _ _ _ _ _ | exact Kd.N_nil _ _ _ _ _ | exact Kd.V_nil _ _ _ _ _ | exact Kd.Q_nil _ _ _ _ _ | exact Kd.R_nil _ _ _ _ _, by first | exact Kd.S_nil _ _ _ _ _ | exact Kd.N_nil _ _ _ _ _ | exact Kd.V_nil _ _ _ _ _ | exact Kd.Q_nil _ _ _ _ _ | exact Kd.R_nil _ _ _ _ _, mH HB⟩
      ·
       rw [if_neg c33] at H; have c33b0 : decide (a1 < (wrap64 (t282 + t284))) = false := decide_eq_false c33; clear c33; replace H := Option.bind_eq_some_iff.mp H; obtain ⟨t285, A390, H⟩ := H; have A39 := Aside0.mk A390; clear A390
       replace H := nP H; obtain ⟨c40, H⟩ := H; have c40b0 := decide_eq_true c40; clear c40; obtain ⟨ji41, hji41⟩ : ∃ j_ : Int, (mx ((rd_T28 t285 a2).f2) (wrap64 (a3 + (l4.length : Int)))) = j_ := ⟨_, rfl⟩
       replace H : ((span_Pieces.f kj5 a3 (l4.length : Int)).bind fun t292 => (file_Write.l0 kj5 a2 l4 ([] : List (S60)) t292 (t292.length : Int) 0 (t285.set (a2 : Int).toNat (⟨(rd_T28 t285 a2).f0, (rd_T28 t285 a2).f1, ji41, (rd_T28 t285 a2).f3, (rd_T28 t285 a2).f4⟩ : S28)))) = some (r1, r2, r3) := by first | (rw [hji41] at H; exact H) | (simp only [hji41] at H ⊢; exact H)
       (try rw [hji41] at A27)
       (try rw [hji41] at A29)
       (try rw [hji41] at A32)
       (try rw [hji41] at A39)
       have hji41_ : (if ((rd_T28 t285 a2).f2) < (wrap64 (a3 + (l4.length : Int))) then (wrap64 (a3 + (l4.length : Int))) else ((rd_T28 t285 a2).f2)) = ji41 := hji41; obtain ⟨y291, hy291⟩ : ∃ y_ : List (S28), y_ = (t285.set (a2 : Int).toNat (⟨(rd_T28 t285 a2).f0, (rd_T28 t285 a2).f1, ji41, (rd_T28 t285 a2).f3, (rd_T28 t285 a2).f4⟩ : S28)) := ⟨_, rfl⟩
       replace H : ((span_Pieces.f kj5 a3 (l4.length : Int)).bind fun t292 => (file_Write.l0 kj5 a2 l4 ([] : List (S60)) t292 (t292.length : Int) 0 y291)) = some (r1, r2, r3) := rH H hy291
       have Ny291 := Aside0.mk hy291; clear hy291; replace H := Option.bind_eq_some_iff.mp H; obtain ⟨t292, A430, H⟩ := H; have A43 := Aside0.mk A430; clear A430; have H' := Aside0.mk H; clear H
       try go_wp2_with (first | ((with_reducible refine gate_callee (f := 58) rfl ?_); refine goesK (some 38) Try.func58 #[.int .i64 a3, .int .i64 (l4.length : Int)] ?_; (with_reducible refine (span_Fits.calls a3 (l4.length : Int) true _ A27.out).mono ?_); rintro e w' ⟨rfl, ⟨nd, rfl⟩⟩; refine ⟨_, rfl, ?_⟩; (try (rw [drewN_self wc]; generalize hq_ : World.drewN wc _ = wc; have n0_ : Aside0 (Kd.V (Kd.int .u8) 5 wc w.heap.size (fun k_ => (P4_ k_ ∨ w.heap.size ≤ k_) ∧ k_ ≠ gb275 ∧ k_ ≠ gb276) (.slice A4 l4.length c4) l4) := ⟨by rw [← hq_]; exact (mV HO_4)⟩; have n1_ : Aside0 (wc.heap[gb275]? = some (.cells #[.slice A0_0 l0_0.length c0_0] 24 (0, 0))) := ⟨by rw [← hq_]; exact (mB BK275)⟩; have n2_ : Aside0 (wc.heap[gb276]? = some (.cells #[.slice none 0 0] 24 (0, 0))) := ⟨by rw [← hq_]; exact (mB BK276)⟩; have n3_ : Aside0 (Below w.heap.size w wc) := ⟨by rw [← hq_]; exact (mH HB)⟩; clear HO_4 BK275 BK276 HB hq_; have HO_4 := n0_; have BK275 := n1_; have BK276 := n2_; have HB := n3_; clear n0_ n1_ n2_ n3_))))
       replace HO_4 := Aside0.mk (Kd.V_drew HO_4.out); replace BK275 := Aside0.mk (bD BK275.out); replace BK276 := Aside0.mk (bD BK276.out); replace HB := Aside0.mk (wD HB.out); have p283 : 0 ≤ (a2 : Int) := dT; have q283 : a2 < (l0_0.length : Int) := dT; obtain ⟨ad283, A283_3, c283_3, A283_4, c283_4, e283, hx283_0, hx283_1, hx283_2, hx283_3, hx283_4, hl283_3, hi283_3, hl283_4, hi283_4⟩ := at_T28 HR0_0.out a2 p283 q283; have hw283_4 := hx283_4; have hw283_3 := hx283_3; have hw283_2 := hx283_2; have hw283_1 := hx283_1; have hw283_0 := hx283_0
       cases e283
       replace hx283_0 := xC HB hx283_0; replace hx283_1 := xC HB hx283_1; replace hx283_2 := xC HB hx283_2; replace hx283_3 := xC HB hx283_3; replace hx283_4 := xC HB hx283_4; have HR283_3 := Aside0.mk hi283_3; have HC283_3 := Aside0.mk hl283_3; clear hi283_3 hl283_3; have HR283_4 := Aside0.mk hi283_4; have HC283_4 := Aside0.mk hl283_4; clear hi283_4 hl283_4; replace p283 := eq_true p283; replace q283 := eq_true q283; refine start_ (n := 15) (S := fun w' => w'.cell? ⟨gb275, 0, none⟩ = some (.slice (some ad283) l0_0.length c0_0) ∧ w'.cell? (ad283.add ((a2).toNat * 5)) = some (.int .i64 ((rd_T28 l0_0 a2).f0)) ∧ w'.cell? ⟨(ad283.add ((a2).toNat * 5)).block, (ad283.add ((a2).toNat * 5)).off + 1, none⟩ = some (.int .i64 ((rd_T28 l0_0 a2).f1)) ∧ w'.cell? ⟨(ad283.add ((a2).toNat * 5)).block, (ad283.add ((a2).toNat * 5)).off + 2, none⟩ = some (.int .i64 ((rd_T28 l0_0 a2).f2)) ∧ w'.cell? ⟨(ad283.add ((a2).toNat * 5)).block, (ad283.add ((a2).toNat * 5)).off + 3, none⟩ = some (.slice A283_3 ((rd_T28 l0_0 a2).f3).length c283_3) ∧ w'.cell? ⟨(ad283.add ((a2).toNat * 5)).block, (ad283.add ((a2).toNat * 5)).off + 4, none⟩ = some (.slice A283_4 ((rd_T28 l0_0 a2).f4).length c283_4)) (ds := []) B25_0 (by kernel_rfl) rfl rfl ⟨cZ0 BK275, (xC HB hw283_0), (xC HB hw283_1), (xC HB hw283_2), (xC HB hw283_3), (xC HB hw283_4)⟩ (fun hHeld => ?_); refine with_tabW file_Write.tab7 file_Write.bits7 (fun HT_ HW_ => ?_); generalize wc.drew = w44 at HO_4 BK275 BK276 HB HR283_3 HR283_4 hx283_0 hx283_1 hx283_2 hx283_3 hx283_4 hHeld ⊢; refine pure_ (i := 2) (N := some 44) (v := ?_) (a' := ?_) B25_1 rfl rfl (any_of HT_.out (by kernel_rfl)) (fun _ _ _ h => h) (Or.inl ⟨by rfl, ?_⟩) ?_ ?_; rotate_left
       ·
        intro w'; go_simp; with_reducible rfl
       rotate_left
       ·
        simp only [Act.put, lT, l0_, lS, i64_w, i32_w]; rfl
       refine pE 4 46 B25_2 HT_ ?_
       refine pE 7 49 B25_3 HT_ ?_
       refine pE 8 50 B25_4 HT_ ?_
       refine pE 9 51 B25_5 HT_ ?_
       refine pE 12 54 B25_6 HT_ ?_
       refine tE 0 42 B25_7 HT_ HW_ hHeld ?_
       refine tE 3 45 B25_8 HT_ HW_ hHeld ?_
       refine pE 5 47 B25_9 HT_ ?_
       refine tE 6 48 B25_10 HT_ HW_ hHeld ?_
       refine one_ (i := 1) (N := some 43) B25_11 rfl rfl (one_of HT_.out (by kernel_rfl)) (by decide) (fun K hK => ?_); refine goes_ Try.func16 (by kernel_rfl) rfl #[.agg #[.slice (some ad283) l0_0.length c0_0]] (by rfl) rfl rfl (by (try simp only [List.map_toArray, List.map_cons, List.map_nil]); first | done | rfl | (simp only [List.length_drop, List.length_take]; rfl)) ?_
       with_reducible refine (quota_Used.calls kj5 _ _ l0_0 t282 _ ?side1 ?side2 A29.out).mono ?_
       (case side1 => exact mC HR0_0 HB)
       (case side2 => exact HC0_0.out)
       rintro e w45 ⟨rfl, hb⟩; refine ⟨_, rfl, ?_⟩; replace HO_4 := kV HO_4 hb; replace BK275 := kB BK275 hb; replace BK276 := kB BK276 hb; replace HB := kH HB hb
       (try clear hb); (try clear hk)
       refine hK.out _ _ ⟨cZ0 BK275, (xC HB hw283_0), (xC HB hw283_1), (xC HB hw283_2), (xC HB hw283_3), (xC HB hw283_4)⟩ (fun hHeld => ?_); clear hK K; refine norm_ (a' := ?_) ?_ ?_; rotate_left
       ·
        show Act.put _ (some 43) _ = _
        simp only [Act.put, lT, l0_, lS, i64_w, i32_w]; rfl
       refine one_ (i := 10) (N := some 52) B25_12 rfl rfl (one_of HT_.out (by kernel_rfl)) (by decide) (fun K hK => ?_); refine goes_ Try.func22 (by kernel_rfl) rfl #[.agg #[.int .i64 ((rd_T28 l0_0 a2).f0), .int .i64 ((rd_T28 l0_0 a2).f1), .int .i64 ((rd_T28 l0_0 a2).f2), .slice A283_3 ((rd_T28 l0_0 a2).f3).length c283_3, .slice A283_4 ((rd_T28 l0_0 a2).f4).length c283_4], .int .i64 a3, .int .i64 (l4.length : Int)] (by rfl) rfl rfl (by (try simp only [List.map_toArray, List.map_cons, List.map_nil]); first | done | rfl | (simp only [List.length_drop, List.length_take]; rfl)) ?_
       with_reducible refine (quota_More.calls kj5 ((rd_T28 l0_0 a2).f0) ((rd_T28 l0_0 a2).f1) ((rd_T28 l0_0 a2).f2) _ _ ((rd_T28 l0_0 a2).f3) _ _ ((rd_T28 l0_0 a2).f4) a3 (l4.length : Int) t284 _ ?side1 ?side2 ?side3 ?side4 A32.out).mono ?_
       (case side1 => exact mC HR283_3 HB)
       (case side2 => exact HC283_3.out)
       (case side3 => exact mC HR283_4 HB)
       (case side4 => exact HC283_4.out)
       rintro e w46 ⟨rfl, hb⟩; refine ⟨_, rfl, ?_⟩; replace HO_4 := kV HO_4 hb; replace BK275 := kB BK275 hb; replace BK276 := kB BK276 hb; replace HB := kH HB hb
       (try clear hb); (try clear hk)
       refine hK.out _ _ ⟨cZ0 BK275, (xC HB hw283_0), (xC HB hw283_1), (xC HB hw283_2), (xC HB hw283_3), (xC HB hw283_4)⟩ (fun hHeld => ?_); clear hK K; refine norm_ (a' := ?_) ?_ ?_; rotate_left
       ·
        show Act.put _ (some 52) _ = _
        simp only [Act.put, lT, l0_, lS, i64_w, i32_w]; rfl
       refine pE 11 53 B25_13 HT_ ?_
       refine pE 13 55 B25_14 HT_ ?_
       refine pE 14 41 B25_15 HT_ ?_
       refine done_ (done_of HT_.out (by kernel_rfl)) ?_; have hnb47 := NB275_276.out; have hnc47 := NB276_275.out; obtain ⟨hcz48_0, hfz48_0⟩ := cY0 BK275
       try go_wp2_with (first | ((with_reducible refine gate_callee (f := 57) rfl ?_); refine goesK (some 58) Try.func57 #[.agg #[.slice (some ad283) l0_0.length c0_0]] ?_; (with_reducible refine (dir_Copy.calls kj5 _ _ l0_0 t285 _ ?side1 ?side2 A39.out).mono ?_); (case side1 => exact mC HR0_0 HB); (case side2 => exact HC0_0.out); rintro e w49 ⟨v286, rfl, ho0, hb⟩; refine ⟨_, rfl, ?_⟩; replace HO_4 := Aside0.mk (Kd.V_elder' (mV HO_4) (Kd.S_base ho0) hb); have HO287 := Aside0.mk (Kd.S_lower (Kd.S_newM (M := fun k_ => (w.heap.size ≤ k_)) ho0 (below_size (mH HB)) (fun k_ h_ => h_)) (below_size (mH HB))); replace BK275 := kB BK275 hb; replace BK276 := kB BK276 hb; replace HB := kH HB hb; (try clear hb); (try clear hk); (try clear ho0)) | ((with_reducible refine gate_dst (N := 13) rfl ?_); refine bxE 24 (cs := #[.slice none 0 0]) ?_; intro gb288 hg w50 hbox hb; replace HO_4 := Aside0.mk (Kd.V_below (Kd.V_elderB (mV HO_4) gb288 (Nat.le_of_eq hg.symm)) hb); replace HO287 := kS HO287 hb; have BK288 := Aside0.mk hbox; have GW288 := kG HB hg; have GE288 := kG HB hg; replace HB := kH HB hb; have NB275_288 := kL BK275 hg; have NB288_275 := kQ BK275 hg; replace BK275 := kB BK275 hb; have NB276_288 := kL BK276 hg; have NB288_276 := kQ BK276 hg; replace BK276 := kB BK276 hb; clear hb hbox hg; obtain ⟨Ao51, co51, eo51⟩ := Kd.S_slice HO287.out; subst eo51; have hnb52 := NB288_275.out; have hnc52 := NB275_288.out; have hnb53 := NB288_276.out; have hnc53 := NB276_288.out; obtain ⟨hcz54_0, hfz54_0⟩ := cY0 BK288) | ((with_reducible refine gate_store (t := 24) (p := 13) rfl ?_); refine store_event (t := 24) (p := 13) (v := ?vo_w55) (w1 := (w50.setCell ⟨gb288, 0, none⟩ (.slice Ao51 t285.length co51))) ?hg ?ho ?hn ?hr ?_; (case ho => rfl); (case hg => rfl); (case hn => rfl); (case hr => first | (go_simp; done) | (go_simp; rfl)); intro w55 hw; have n0_ : Aside0 (Kd.V (Kd.int .u8) 5 w55 w.heap.size (fun k_ => (P4_ k_ ∨ w.heap.size ≤ k_) ∧ some k_ ≠ (.slice Ao51 t285.length co51 : Value).ownBlock ∧ k_ ≠ gb275 ∧ k_ ≠ gb276 ∧ k_ ≠ gb288) (.slice A4 l4.length c4) l4) := ⟨(by rw [hw]; exact (fV HO_4 (fun _ hk => by first | exact ⟨hk.1.1.1, ⟨hk.1.2, ⟨hk.1.1.2.1, ⟨hk.1.1.2.2, hk.2⟩⟩⟩⟩ | (go_split_ands; and_intros <;> assumption))))⟩; have n1_ : Aside0 (Kd.S k28 28 w55 w.heap.size (fun k_ => (w.heap.size ≤ k_)) (.slice Ao51 t285.length co51) t285) := ⟨(by rw [hw]; exact (fS ⟨Kd.S_types HO287.out BK288.out (by decide)⟩ (fun _ hk => hk.1.1)))⟩; have n2_ : Aside0 (w55.heap[gb275]? = some (.cells #[.slice (some ad283) l0_0.length c0_0] 24 (0, 0))) := ⟨(by rw [hw]; exact (mF BK275))⟩; have n3_ : Aside0 (w55.heap[gb276]? = some (.cells #[.slice none 0 0] 24 (0, 0))) := ⟨(by rw [hw]; exact (mF BK276))⟩; have n4_ : Aside0 (w55.heap[gb288]? = some (.cells #[.slice Ao51 t285.length co51] 24 (0, 0))) := ⟨(by rw [hw]; exact (pP BK288))⟩; have n5_ : Aside0 (Below w.heap.size w w55) := ⟨(by rw [hw]; exact (mH HB))⟩; clear hw; clear HO_4; clear HO287; clear BK275; clear BK276; clear BK288; clear HB; have HO_4 := n0_; have HO287 := n1_; have BK275 := n2_; have BK276 := n3_; have BK288 := n4_; have HB := n5_; clear n0_ n1_ n2_ n3_ n4_ n5_; obtain ⟨hcz56_0, hfz56_0⟩ := cY0 BK288; have p289 : 0 ≤ (a2 : Int) := dT; have q289 : a2 < (t285.length : Int) := dT; obtain ⟨ad289, A289_3, c289_3, A289_4, c289_4, e289, hx289_0, hx289_1, hx289_2, hx289_3, hx289_4, hl289_3, hi289_3, hl289_4, hi289_4⟩ := at_T28 (Kd.S_reads' HO287.out).2.2 a2 p289 q289; cases e289; obtain ⟨ce289, hce289, hMe289, hcc289⟩ := Kd.S_get HO287.out z28 a2 p289 (by first | exact q289 | exact dT | (have e_ := (Kd.S_reads' HO287.out).1; omega)); obtain ⟨ve289_3, ve289_4, rfl, ge289_3, ge289_4⟩ := k28_openM hMe289; have hv289_3 := hcc289 3 _ rfl; rw [add_field _ _ 3 (by omega)] at hv289_3; replace hv289_3 := Option.some.inj (hv289_3.symm.trans hx289_3); rw [hv289_3] at ge289_3; have HL289_3 := Aside0.mk (show Kd.R (Kd.int .i64) 3 _ _ _ _ ((rd_T28 t285 a2).f3) from ge289_3); clear hv289_3 ge289_3; have hv289_4 := hcc289 4 _ rfl; rw [add_field _ _ 4 (by omega)] at hv289_4; replace hv289_4 := Option.some.inj (hv289_4.symm.trans hx289_4); rw [hv289_4] at ge289_4; have HL289_4 := Aside0.mk (show Kd.R k78 78 _ _ _ _ ((rd_T28 t285 a2).f4) from ge289_4); clear hv289_4 ge289_4; clear hcc289 hce289; have HR289_3 := Aside0.mk hi289_3; have HC289_3 := Aside0.mk hl289_3; clear hi289_3 hl289_3; have HR289_4 := Aside0.mk hi289_4; have HC289_4 := Aside0.mk hl289_4; clear hi289_4 hl289_4; replace p289 := eq_true p289; replace q289 := eq_true q289; have p290 : 0 ≤ (a2 : Int) := dT; have q290 : a2 < (t285.length : Int) := dT; obtain ⟨ad290, A290_3, c290_3, A290_4, c290_4, e290, hx290_0, hx290_1, hx290_2, hx290_3, hx290_4, hl290_3, hi290_3, hl290_4, hi290_4⟩ := at_T28 (Kd.S_reads' HO287.out).2.2 a2 p290 q290; obtain rfl : ad289 = ad290 := (by injection e290); obtain ⟨ce290, hce290, hMe290, hcc290⟩ := Kd.S_get HO287.out z28 a2 p290 (by first | exact q290 | exact dT | (have e_ := (Kd.S_reads' HO287.out).1; omega)); obtain ⟨ve290_3, ve290_4, rfl, ge290_3, ge290_4⟩ := k28_openM hMe290; have hv290_3 := hcc290 3 _ rfl; rw [add_field _ _ 3 (by omega)] at hv290_3; replace hv290_3 := Option.some.inj (hv290_3.symm.trans hx290_3); rw [hv290_3] at ge290_3; have HL290_3 := Aside0.mk (show Kd.R (Kd.int .i64) 3 _ _ _ _ ((rd_T28 t285 a2).f3) from ge290_3); clear hv290_3 ge290_3; have hv290_4 := hcc290 4 _ rfl; rw [add_field _ _ 4 (by omega)] at hv290_4; replace hv290_4 := Option.some.inj (hv290_4.symm.trans hx290_4); rw [hv290_4] at ge290_4; have HL290_4 := Aside0.mk (show Kd.R k78 78 _ _ _ _ ((rd_T28 t285 a2).f4) from ge290_4); clear hv290_4 ge290_4; clear hcc290 hce290; have HR290_3 := Aside0.mk hi290_3; have HC290_3 := Aside0.mk hl290_3; clear hi290_3 hl290_3; have HR290_4 := Aside0.mk hi290_4; have HC290_4 := Aside0.mk hl290_4; clear hi290_4 hl290_4; replace p290 := eq_true p290; replace q290 := eq_true q290; have ea_ := Option.some.inj (hx289_3.symm.trans hx290_3); injection ea_ with ea_ en_ ec_; subst ea_; subst ec_; clear en_; have ea_ := Option.some.inj (hx289_4.symm.trans hx290_4); injection ea_ with ea_ en_ ec_; subst ea_; subst ec_; clear en_; have p42 : 0 ≤ (a2 : Int) := dT; have q42 : (a2 : Int) < ((t285.length : Int) : Int) := dT; obtain ⟨go42, co42, eo42, gb42, gl42, cl42, HG42⟩ := Kd.S_form HO287.out (by omega); (first | cases eo42 | (injection eo42 with ea_ en_ ec_; (first | subst ea_ | (injection ea_ with ea_; subst ea_)); subst ec_; clear en_)); have GB42 := Aside0.mk gb42; have GG42 := Aside0.mk HG42; clear gb42 gl42 HG42; (first | simp only [add_plain] at hx289_0 | skip); (first | simp only [add_plain] at hx289_1 | skip); (first | simp only [add_plain] at hx289_2 | skip); (first | simp only [add_plain] at hx289_3 | skip); (first | simp only [add_plain] at hx289_4 | skip); (first | simp only [add_plain] at hx290_0 | skip); (first | simp only [add_plain] at hx290_1 | skip); (first | simp only [add_plain] at hx290_2 | skip); (first | simp only [add_plain] at hx290_3 | skip); (first | simp only [add_plain] at hx290_4 | skip); obtain ⟨_, ce42, hcl42, hM42, hcc42, hfr42, _, _⟩ := Kd.S_elem HO287.out z28 (a2 : Int) p42 q42; obtain ⟨ve42_3, ve42_4, rfl, ge42_3, ge42_4⟩ := k28_openM hM42; have hx42_0 : w55.cell? ⟨go42, (a2 : Int).toNat * 5, none⟩ = some (.int .i64 ((rd_T28 t285 a2).f0)) := hcc42 0 _ rfl; have hx42_1 : w55.cell? ⟨go42, (a2 : Int).toNat * 5 + 1, none⟩ = some (.int .i64 ((rd_T28 t285 a2).f1)) := hcc42 1 _ rfl; have hx42_2 : w55.cell? ⟨go42, (a2 : Int).toNat * 5 + 2, none⟩ = some (.int .i64 ((rd_T28 t285 a2).f2)) := hcc42 2 _ rfl; have hx42_3 : w55.cell? ⟨go42, (a2 : Int).toNat * 5 + 3, none⟩ = some (ve42_3) := hcc42 3 _ rfl; have hx42_4 : w55.cell? ⟨go42, (a2 : Int).toNat * 5 + 4, none⟩ = some (ve42_4) := hcc42 4 _ rfl; have hf42_0 : w55.frozen? ⟨go42, (a2 : Int).toNat * 5, none⟩ = false := hfr42 0; have hf42_1 : w55.frozen? ⟨go42, (a2 : Int).toNat * 5 + 1, none⟩ = false := hfr42 1; have hf42_2 : w55.frozen? ⟨go42, (a2 : Int).toNat * 5 + 2, none⟩ = false := hfr42 2; have hf42_3 : w55.frozen? ⟨go42, (a2 : Int).toNat * 5 + 3, none⟩ = false := hfr42 3; have hf42_4 : w55.frozen? ⟨go42, (a2 : Int).toNat * 5 + 4, none⟩ = false := hfr42 4; clear hcl42 hcc42 hfr42 hM42; replace p42 := eq_true p42; replace q42 := eq_true q42; have HX57 := Aside0.mk (show Kd.S k28 28 w55 w.heap.size (fun k_ => ((fun k_ => (w.heap.size ≤ k_))) k_ ∧ ¬ ((fun _ => False)) k_) (.slice (some ⟨go42, 0, none⟩) t285.length co51) t285 from (by (with_reducible repeat (first | apply Kd.S_alloc | apply Kd.S_drewN | apply Kd.S_drew)); exact Kd.S_mono HO287.out (fun k_ hk => ⟨hk, fun e_ => e_⟩))); obtain ⟨oki57, ce57, hcl57, hM57, hcc57, hfr57, hoki57, hH57⟩ := Kd.S_elem HX57.out z28 (a2 : Int) (dT) (by have h_ : (a2 : Int) < ((t285.length : Int) : Int) := dT; first | exact h_ | (have e_ := (Kd.S_reads' HO287.out).1; omega) | simpa using h_); obtain ⟨ve57_3, ve57_4, rfl, ge57_3, ge57_4⟩ := k28_openM hM57; have HP57 := Kd.S_seg hH57 (dT) (by have h_ : (a2 : Int) < ((t285.length : Int) : Int) := dT; first | exact h_ | (have e_ := (Kd.S_reads' HO287.out).1; omega) | simpa using h_) (seg := [.int .i64 ji41]) (j := 2) (show 3 ≤ 5 from by decide) (x' := (⟨(rd_T28 t285 a2).f0, (rd_T28 t285 a2).f1, ji41, (rd_T28 t285 a2).f3, (rd_T28 t285 a2).f4⟩ : S28)) (k28_mkM _ _ _ (⟨(rd_T28 t285 a2).f0, (rd_T28 t285 a2).f1, ji41, (rd_T28 t285 a2).f3, (rd_T28 t285 a2).f4⟩ : S28) (Kd.R_mono ge57_3 (fun _ h_ => Or.inl h_)) (Kd.R_mono ge57_4 (fun _ h_ => Or.inl h_))) (fun _ hk => hk) (fun k_ hk_ => hk_.elim); have hx57_2 := hcc57 2 _ rfl; (try simp only [show (k28).sz = 5 from rfl, Nat.mul_one, Nat.add_zero] at hx57_2); have hf57_2 := hfr57 2; (try simp only [show (k28).sz = 5 from rfl, Nat.mul_one, Nat.add_zero] at hf57_2); clear hcl57 hcc57 hfr57 hM57 hoki57 hH57) | ((with_reducible refine gate_store (t := 3) (p := 74) rfl ?_); refine store_event (t := 3) (p := 74) (v := ?vo_w58) (w1 := (w55.setCell ⟨go42, (a2 : Int).toNat * 5 + 2, none⟩ (.int .i64 ji41))) ?hg ?ho ?hn ?hr ?_; (case ho => rfl); (case hg => rfl); (case hn => rfl); (case hr => first | (go_simp; done) | (go_simp; rfl)); intro w58 hw; have hg : w55.grownBy w58 (some go42) := (by rw [hw]; exact HP57.2); have hp_ : Kd.S k28 28 w58 w.heap.size (fun k_ => (w.heap.size ≤ k_)) (.slice (some ⟨go42, 0, none⟩) t285.length co51) y291 := (by rw [hw, Ny291.out]; exact HP57.1); clear HP57; replace HO_4 := Aside0.mk (Kd.V_afterv (v := (.slice (some ⟨go42, 0, none⟩) t285.length co51)) (v1 := (.slice (some ⟨go42, 0, none⟩) t285.length co51)) (ok := (fun k_ => (P4_ k_ ∨ w.heap.size ≤ k_) ∧ k_ ≠ gb275 ∧ k_ ≠ gb276 ∧ k_ ≠ gb288)) (by (with_reducible repeat (first | apply Kd.V_alloc | apply Kd.V_drewN | apply Kd.V_drew)); exact Kd.V_mono HO_4.out (fun _ hk => by first | exact ⟨⟨hk.1, ⟨hk.2.2.1, ⟨hk.2.2.2.1, hk.2.2.2.2⟩⟩⟩, hk.2.1⟩ | (go_split_ands; and_intros <;> assumption))) hg (.inl rfl)); replace BK275 := Aside0.mk (blk_grown (g := gb275) (o := .cells #[.slice (some ad283) l0_0.length c0_0] 24 (0, 0)) (mB BK275) hg (Kd.S_ne HO287.out BK275.out (by decide))); replace BK276 := Aside0.mk (blk_grown (g := gb276) (o := .cells #[.slice none 0 0] 24 (0, 0)) (mB BK276) hg (Kd.S_ne HO287.out BK276.out (by decide))); replace BK288 := Aside0.mk (blk_grown (g := gb288) (o := .cells #[.slice (some ⟨go42, 0, none⟩) t285.length co51] 24 (0, 0)) (mB BK288) hg (Kd.S_ne HO287.out BK288.out (by decide))); replace HO287 := Aside0.mk (hp_); replace HL289_3 := Aside0.mk (Kd.R_after (v := (.slice (some ⟨go42, 0, none⟩) t285.length co51)) (v1 := (.slice (some ⟨go42, 0, none⟩) t285.length co51)) (ok := (fun k_ => (w.heap.size ≤ k_))) (mR HL289_3) hg (.inl rfl)); replace HL289_4 := Aside0.mk (Kd.R_after (v := (.slice (some ⟨go42, 0, none⟩) t285.length co51)) (v1 := (.slice (some ⟨go42, 0, none⟩) t285.length co51)) (ok := (fun k_ => (w.heap.size ≤ k_))) (mR HL289_4) hg (.inl rfl)); replace HL290_3 := Aside0.mk (Kd.R_after (v := (.slice (some ⟨go42, 0, none⟩) t285.length co51)) (v1 := (.slice (some ⟨go42, 0, none⟩) t285.length co51)) (ok := (fun k_ => (w.heap.size ≤ k_))) (mR HL290_3) hg (.inl rfl)); replace HL290_4 := Aside0.mk (Kd.R_after (v := (.slice (some ⟨go42, 0, none⟩) t285.length co51)) (v1 := (.slice (some ⟨go42, 0, none⟩) t285.length co51)) (ok := (fun k_ => (w.heap.size ≤ k_))) (mR HL290_4) hg (.inl rfl)); replace HB := Aside0.mk ((by rw [hw]; exact wS (HB.out) GB42.out : Below w.heap.size w w58)); clear hg hw hp_) | ((with_reducible refine gate_callee (f := 49) rfl ?_); refine goesK (some 78) Try.func49 #[.int .i64 a3, .int .i64 (l4.length : Int)] ?_; (with_reducible refine (span_Pieces.calls kj5 a3 (l4.length : Int) t292 _ A43.out).mono ?_); rintro e w59 ⟨v293, rfl, ho0, hb⟩; refine ⟨_, rfl, ?_⟩; replace HO_4 := Aside0.mk (Kd.V_elder' (mV HO_4) (Kd.R_base ho0) hb); replace HO287 := kS HO287 hb; replace HL289_3 := kR HL289_3 hb; replace HL289_4 := kR HL289_4 hb; replace HL290_3 := kR HL290_3 hb; replace HL290_4 := kR HL290_4 hb; have HO294 := Aside0.mk (Kd.R_lower (Kd.R_newM (M := fun k_ => (w.heap.size ≤ k_)) ho0 (below_size (mH HB)) (fun k_ h_ => h_)) (below_size (mH HB))); replace BK275 := kB BK275 hb; replace BK276 := kB BK276 hb; replace BK288 := kB BK288 hb; replace HB := kH HB hb; (try clear hb); (try clear hk); (try clear ho0); obtain ⟨Ao60, co60, eo60⟩ := Kd.R_slice HO294.out; subst eo60))
       go_loopg [4, 15, 80] kj5 (fun kq v4 v15 v80 w' => ∃ (x4_2 : List Int) (x15_2 : List (S60)) (x80_2 : Int), v80 = .int .i64 x80_2 ∧ Aside0 (file_Write.l0 kq a2 x4_2 x15_2 t292 (t292.length : Int) x80_2 y291 = some (r1, r2, r3)) ∧ Aside0 (kq ≤ kj5) ∧ Aside0 (Kd.V (Kd.int .u8) 5 w' w.heap.size (fun k_ => (P4_ k_ ∨ w.heap.size ≤ k_) ∧ some k_ ≠ (v15 : Value).ownBlock ∧ some k_ ≠ ((.slice Ao60 t292.length co60) : Value).ownBlock ∧ some k_ ≠ ((.slice (some ⟨go42, 0, none⟩) t285.length co51) : Value).ownBlock ∧ k_ ≠ gb275 ∧ k_ ≠ gb276 ∧ k_ ≠ gb288) v4 x4_2) ∧ Aside0 (Kd.S k60 60 w' w.heap.size (fun k_ => (w.heap.size ≤ k_)) v15 x15_2) ∧ Aside0 (Kd.R k41 41 w' w.heap.size (fun k_ => (w.heap.size ≤ k_)) (.slice Ao60 t292.length co60) t292) ∧ Aside0 (Kd.S k28 28 w' w.heap.size (fun k_ => (w.heap.size ≤ k_)) (.slice (some ⟨go42, 0, none⟩) t285.length co51) y291) ∧ Aside0 (w'.heap[gb275]? = some (.cells #[(.slice (some ad283) l0_0.length c0_0)] 24 (0, 0))) ∧ Aside0 (w'.heap[gb276]? = some (.cells #[(.slice none 0 0)] 24 (0, 0))) ∧ Aside0 (w'.heap[gb288]? = some (.cells #[(.slice (some ⟨go42, 0, none⟩) t285.length co51)] 24 (0, 0))) ∧ Aside0 (Below w.heap.size w w'))
       case atStart => exact ⟨(l4), (([] : List (S60))), (0), sI, H', ⟨Nat.le_refl _⟩, ⟨by (with_reducible repeat (first | apply Kd.V_alloc | apply Kd.V_drewN | apply Kd.V_drew)); exact Kd.V_mono HO_4.out (fun _ hk => ⟨hk.1.1.1, ⟨(by simp [Value.ownBlock]), ⟨hk.2, ⟨hk.1.2, ⟨hk.1.1.2.1, ⟨hk.1.1.2.2.1, hk.1.1.2.2.2⟩⟩⟩⟩⟩⟩)⟩, ⟨by first | exact Kd.S_nil _ _ _ _ _ | exact Kd.N_nil _ _ _ _ _ | exact Kd.V_nil _ _ _ _ _ | exact Kd.Q_nil _ _ _ _ _ | exact Kd.R_nil _ _ _ _ _⟩, ⟨by (with_reducible repeat (first | apply Kd.R_alloc | apply Kd.R_drewN | apply Kd.R_drew)); exact Kd.R_mono HO294.out (fun _ hk => hk.1)⟩, ⟨mS HO287⟩, ⟨mB BK275⟩, ⟨mB BK276⟩, ⟨mB BK288⟩, ⟨mH HB⟩⟩
       case round =>
        clear H'
        (try clear c4); (try clear c17); (try clear c20); (try clear c20b0); (try clear c20b1); (try clear c20b2); (try clear c28); (try clear c30); (try clear c30b0); (try clear c31); (try clear c31b0); (try clear c33); (try clear c33b0); (try clear c40); (try clear c40b0); (try clear p42); (try clear q42); (try clear hcz48_0); (try clear hcz54_0); (try clear hcz56_0); (try clear hfz48_0); (try clear hfz54_0); (try clear hfz56_0); (try clear hx283_0); (try clear hx283_1); (try clear hx283_2); (try clear hx283_3); (try clear hx283_4); (try clear hx289_0); (try clear hx289_1); (try clear hx289_2); (try clear hx289_3); (try clear hx289_4); (try clear hx290_0); (try clear hx290_1); (try clear hx290_2); (try clear hx290_3); (try clear hx290_4); (try clear hx42_0); (try clear hx42_1); (try clear hx42_2); (try clear hx42_3); (try clear hx42_4); (try clear hx57_2); (try clear p283); (try clear p289); (try clear p290); (try clear p42); (try clear q283); (try clear q289); (try clear q290); (try clear q42)
        obtain ⟨x4_2, x15_2, x80_2, rfl, HA, HK2, HO_4, HO_15, HO_78, HO_289000, BK275, BK276, BK288, HB⟩ := hrel; have hl289000_2 := (Kd.S_reads' HO_289000.out).1; rw [hl289000_2] at HO_289000
        (try simp only [hl289000_2])
        (try simp only [hl289000_2] at BK275)
        (try simp only [hl289000_2] at BK276)
        (try simp only [hl289000_2] at BK288)
        (try simp only [hl289000_2] at HO_4)
        (try simp only [hl289000_2] at HO_15)
        (try simp only [hl289000_2] at HO_78)
        cases gk with
        | zero => exact absurd HA.out (by simp [file_Write.l0])
        | succ k2 =>
         have H := HA.out; clear HA; simp only [file_Write.l0] at H
         by_cases c61 : x80_2 < (t292.length : Int)
         ·
          rw [if_pos c61] at H; have c61b0 := decide_eq_true c61; clear c61
          replace H := nP H; obtain ⟨c62, H⟩ := H; have c62b0 := decide_eq_true c62; clear c62
          replace H := nP H; obtain ⟨c63, H⟩ := H; have c63b0 := decide_eq_true c63; clear c63
          replace H := nP H; obtain ⟨c64, H⟩ := H; have c64b0 := decide_eq_true c64; clear c64
          replace H := nP H; obtain ⟨c65, H⟩ := H; have c65b0 := decide_eq_true c65; clear c65
          replace H := nP H; obtain ⟨c66, H⟩ := H; have c66b0 := decide_eq_true c66; clear c66
          replace H := nP H; obtain ⟨c67, H⟩ := H; have c67b0 := decide_eq_true c67; clear c67
          replace H := nP H; obtain ⟨c68, H⟩ := H; have c68b0 := eq_true c68; have c68b1 := decide_eq_true c68; clear c68
          replace H := nP H; obtain ⟨c69, H⟩ := H; have c69b0 := eq_true c69; have c69b1 := decide_eq_true c69; clear c69; obtain ⟨y299, hy299⟩ : ∃ y_ : List Int, y_ = (x4_2.take (((rd_T41 t292 x80_2).f2) : Int).toNat) := ⟨_, rfl⟩
          replace H : ((slices_Clone_byte_byte.f y299).bind fun t304 => (if x15_2.length < 2199023255552 then (file_Write.l0 k2 a2 (x4_2.drop (((rd_T41 t292 x80_2).f2) : Int).toNat) (x15_2 ++ [(⟨a2, (rd_T41 t292 x80_2).f0, rd ((rd_T28 y291 a2).f3) ((rd_T41 t292 x80_2).f0), 16, (rd_T41 t292 x80_2).f1, t304⟩ : S60)]) t292 (t292.length : Int) (wrap64 (x80_2 + 1)) y291) else (none))) = some (r1, r2, r3) := rH H hy299
          have Ny299 := Aside0.mk hy299; clear hy299; replace H := Option.bind_eq_some_iff.mp H; obtain ⟨t304, A700, H⟩ := H; have A70 := Aside0.mk A700; clear A700
          replace H := nP H; obtain ⟨c71, H⟩ := H; have LMc71 := Aside0.mk c71; clear c71; obtain ⟨y307, hy307⟩ : ∃ y_ : List (S60), y_ = (x15_2 ++ [(⟨a2, (rd_T41 t292 x80_2).f0, rd ((rd_T28 y291 a2).f3) ((rd_T41 t292 x80_2).f0), 16, (rd_T41 t292 x80_2).f1, t304⟩ : S60)]) := ⟨_, rfl⟩
          replace H : (file_Write.l0 k2 a2 (x4_2.drop (((rd_T41 t292 x80_2).f2) : Int).toNat) y307 t292 (t292.length : Int) (wrap64 (x80_2 + 1)) y291) = some (r1, r2, r3) := rH H hy307
          have Ny307 := Aside0.mk hy307; clear hy307; have c72b0 := eq_true (dT : 0 ≤ ((rd_T41 t292 x80_2).f2)); have c73b0 := eq_true (dT : ((rd_T41 t292 x80_2).f2) ≤ (x4_2.length : Int)); obtain ⟨y310, hy310⟩ : ∃ y_ : List Int, y_ = (x4_2.drop (((rd_T41 t292 x80_2).f2) : Int).toNat) := ⟨_, rfl⟩
          replace H : (file_Write.l0 k2 a2 y310 y307 t292 (t292.length : Int) (wrap64 (x80_2 + 1)) y291) = some (r1, r2, r3) := rH H hy310
          have Ny310 := Aside0.mk hy310; clear hy310; have H' := Aside0.mk H; clear H; have p295 : 0 ≤ (x80_2 : Int) := dT; have q295 : x80_2 < (t292.length : Int) := dT; obtain ⟨ad295, e295, hx295_0, hx295_1, hx295_2⟩ := at_T41 (Kd.R_reads' HO_78.out).2.2 x80_2 p295 q295
          cases e295
          replace p295 := eq_true p295; replace q295 := eq_true q295
          try go_wp2_with (first | ((with_reducible refine gate_dst (N := 17) rfl ?_); refine bxE 41 (cs := #[.int .i64 0, .int .i64 0, .int .i64 0]) ?_; intro gb296 hg w74 hbox hb; replace HO_4 := Aside0.mk (Kd.V_below (Kd.V_elderB (mV HO_4) gb296 (Nat.le_of_eq hg.symm)) hb); replace HO_15 := kS HO_15 hb; replace HO_78 := Aside0.mk (Kd.R_below (Kd.R_elderB (mR HO_78) gb296 (Nat.le_of_eq hg.symm)) hb); replace HO_289000 := kS HO_289000 hb; have BK296 := Aside0.mk hbox; have GW296 := kG HB hg; have GE296 := kG HB hg; replace HB := kH HB hb; have NB275_296 := kL BK275 hg; have NB296_275 := kQ BK275 hg; replace BK275 := kB BK275 hb; have NB276_296 := kL BK276 hg; have NB296_276 := kQ BK276 hg; replace BK276 := kB BK276 hb; have NB288_296 := kL BK288 hg; have NB296_288 := kQ BK288 hg; replace BK288 := kB BK288 hb; clear hb hbox hg; have hnb75 := NB296_275.out; have hnc75 := NB275_296.out; have hnb76 := NB296_276.out; have hnc76 := NB276_296.out; have hnb77 := NB296_288.out; have hnc77 := NB288_296.out; obtain ⟨hcz78_0, hfz78_0⟩ := cY0 BK296; obtain ⟨hcz78_1, hfz78_1⟩ := cY1 BK296; obtain ⟨hcz78_2, hfz78_2⟩ := cY2 BK296))
          obtain ⟨w79, hw_, n_⟩ : ∃ W_, ((w74.setCell ⟨gb296, 0, none⟩ (.int .i64 ((rd_T41 t292 x80_2).f0))).setCell ⟨gb296, 1, none⟩ (.int .i64 ((rd_T41 t292 x80_2).f1))).setCell ⟨gb296, 2, none⟩ (.int .i64 ((rd_T41 t292 x80_2).f2)) = W_ ∧ Aside0 (Kd.V (Kd.int .u8) 5 W_ w.heap.size (fun k_ => (P4_ k_ ∨ w.heap.size ≤ k_) ∧ some k_ ≠ (u15 : Value).ownBlock ∧ some k_ ≠ (.slice (some ad295) t292.length co60 : Value).ownBlock ∧ some k_ ≠ (.slice (some ⟨go42, 0, none⟩) y291.length co51 : Value).ownBlock ∧ k_ ≠ gb275 ∧ k_ ≠ gb276 ∧ k_ ≠ gb288 ∧ k_ ≠ gb296) u4 x4_2) ∧ Aside0 (Kd.S k60 60 W_ w.heap.size (fun k_ => (w.heap.size ≤ k_)) u15 x15_2) ∧ Aside0 (Kd.R k41 41 W_ w.heap.size (fun k_ => (w.heap.size ≤ k_) ∧ k_ ≠ gb296) (.slice (some ad295) t292.length co60) t292) ∧ Aside0 (Kd.S k28 28 W_ w.heap.size (fun k_ => (w.heap.size ≤ k_)) (.slice (some ⟨go42, 0, none⟩) y291.length co51) y291) ∧ Aside0 (W_.heap[gb275]? = some (.cells #[.slice (some ad283) l0_0.length c0_0] 24 (0, 0))) ∧ Aside0 (W_.heap[gb276]? = some (.cells #[.slice none 0 0] 24 (0, 0))) ∧ Aside0 (W_.heap[gb288]? = some (.cells #[.slice (some ⟨go42, 0, none⟩) y291.length co51] 24 (0, 0))) ∧ Aside0 (W_.heap[gb296]? = some (.cells #[.int .i64 ((rd_T41 t292 x80_2).f0), .int .i64 ((rd_T41 t292 x80_2).f1), .int .i64 ((rd_T41 t292 x80_2).f2)] 41 (0, 0))) ∧ Aside0 (Below w.heap.size w W_) := ⟨_, rfl, ⟨fV HO_4 (fun _ hk => by first | exact ⟨hk.1.1, ⟨hk.1.2.1, ⟨hk.1.2.2.1, ⟨hk.1.2.2.2.1, ⟨hk.1.2.2.2.2.1, ⟨hk.1.2.2.2.2.2.1, ⟨hk.1.2.2.2.2.2.2, hk.2⟩⟩⟩⟩⟩⟩⟩ | (go_split_ands; and_intros <;> assumption))⟩, ⟨fS ⟨Kd.S_types HO_15.out BK296.out (by decide)⟩⟩, ⟨fR HO_78 (fun _ hk => by first | exact ⟨hk.1, hk.2⟩ | (go_split_ands; and_intros <;> assumption))⟩, ⟨fS ⟨Kd.S_types HO_289000.out BK296.out (by decide)⟩⟩, ⟨mF BK275⟩, ⟨mF BK276⟩, ⟨mF BK288⟩, ⟨pP BK296⟩, ⟨mH HB⟩⟩
          (try clear HO_4); (try clear HO_15); (try clear HO_78); (try clear HO_289000); (try clear BK275); (try clear BK276); (try clear BK288); (try clear BK296); (try clear HB); rewrite [hw_]; clear hw_; obtain ⟨HO_4, HO_15, HO_78, HO_289000, BK275, BK276, BK288, BK296, HB⟩ := n_; replace HO_4 := Aside0.mk (Kd.V_drew HO_4.out); replace HO_15 := Aside0.mk (Kd.S_drew HO_15.out); replace HO_78 := Aside0.mk (Kd.R_drew HO_78.out); replace HO_289000 := Aside0.mk (Kd.S_drew HO_289000.out); replace BK275 := Aside0.mk (bD BK275.out); replace BK276 := Aside0.mk (bD BK276.out); replace BK288 := Aside0.mk (bD BK288.out); replace BK296 := Aside0.mk (bD BK296.out); replace HB := Aside0.mk (wD HB.out); have p297 : 0 ≤ (a2 : Int) := dT; have q297 : a2 < (y291.length : Int) := dT; obtain ⟨ad297, A297_3, c297_3, A297_4, c297_4, e297, hx297_0, hx297_1, hx297_2, hx297_3, hx297_4, hl297_3, hi297_3, hl297_4, hi297_4⟩ := at_T28 (Kd.S_reads' HO_289000.out).2.2 a2 p297 q297; obtain rfl : (⟨go42, 0, none⟩ : Addr) = ad297 := (by injection e297); obtain ⟨ce297, hce297, hMe297, hcc297⟩ := Kd.S_get HO_289000.out z28 a2 p297 (by first | exact q297 | exact dT | (have e_ := (Kd.S_reads' HO_289000.out).1; omega))
          obtain ⟨ve297_3, ve297_4, rfl, ge297_3, ge297_4⟩ := k28_openM hMe297; have hv297_3 := hcc297 3 _ rfl; rw [add_field _ _ 3 (by omega)] at hv297_3; replace hv297_3 := Option.some.inj (hv297_3.symm.trans hx297_3); rw [hv297_3] at ge297_3; have HL297_3 := Aside0.mk (show Kd.R (Kd.int .i64) 3 _ _ _ _ ((rd_T28 y291 a2).f3) from ge297_3); clear hv297_3 ge297_3; have hv297_4 := hcc297 4 _ rfl; rw [add_field _ _ 4 (by omega)] at hv297_4; replace hv297_4 := Option.some.inj (hv297_4.symm.trans hx297_4); rw [hv297_4] at ge297_4; have HL297_4 := Aside0.mk (show Kd.R k78 78 _ _ _ _ ((rd_T28 y291 a2).f4) from ge297_4); clear hv297_4 ge297_4; clear hcc297 hce297
          (first | simp only [add_plain] at hx297_0 | simp only [add_at] at hx297_0 | simp only [Addr.add, Nat.zero_add] at hx297_0 | skip)
          (first | simp only [add_plain] at hx297_1 | simp only [add_at] at hx297_1 | simp only [Addr.add, Nat.zero_add] at hx297_1 | skip)
          (first | simp only [add_plain] at hx297_2 | simp only [add_at] at hx297_2 | simp only [Addr.add, Nat.zero_add] at hx297_2 | skip)
          (first | simp only [add_plain] at hx297_3 | simp only [add_at] at hx297_3 | simp only [Addr.add, Nat.zero_add] at hx297_3 | skip)
          (first | simp only [add_plain] at hx297_4 | simp only [add_at] at hx297_4 | simp only [Addr.add, Nat.zero_add] at hx297_4 | skip)
          have HR297_3 := Aside0.mk hi297_3; have HC297_3 := Aside0.mk hl297_3; clear hi297_3 hl297_3; have HR297_4 := Aside0.mk hi297_4; have HC297_4 := Aside0.mk hl297_4; clear hi297_4 hl297_4; replace p297 := eq_true p297; replace q297 := eq_true q297; have p298 : 0 ≤ (((rd_T41 t292 x80_2).f0) : Int) := dT; have q298 : ((rd_T41 t292 x80_2).f0) < (((rd_T28 y291 a2).f3).length : Int) := dT; obtain ⟨ad298, e298, hx298_0⟩ := Kd.at_int (by repeat (first | (with_reducible exact HR297_3.out) | (with_reducible refine Kd.C_alloc ?_ _) | (with_reducible refine Kd.C_drewN ?_ _) | (with_reducible refine Kd.C_drew ?_) | exact HR297_3.out)) ((rd_T41 t292 x80_2).f0) p298 q298
          cases e298
          replace p298 := eq_true p298; replace q298 := eq_true q298; obtain ⟨Ao82, co82, eo82⟩ := Kd.V_slice HO_4.out
          (first | subst eo82 | (injection eo82 with f1_ f2_ f3_; have f4_ := f1_.symm; have f5_ := f3_.symm; clear f1_ f2_ f3_; subst f4_; subst f5_))
          have q81 : (((rd_T41 t292 x80_2).f2) : Int) ≤ ((x4_2.length : Int) : Int) := dT; obtain ⟨i081, hi081, _, hsz81, _⟩ := info_parts info5; have hroom81 : x4_2.length ≤ co82 := (Kd.V_reads' HO_4.out).2.1; have hC81 : Kd.F (Kd.int .u8) _ _ Ao82 x4_2.length x4_2 := (Kd.V_at (base := w.heap.size) HO_4.out).2.2; have hcut81 := cut_to (P := Try.prog) 50 5 .i64 Try.underlying50 hi081 Ao82 x4_2.length co82 ((rd_T41 t292 x80_2).f2) (dT) q81 hroom81; have hr81 := Kd.F_take (m := (((rd_T41 t292 x80_2).f2) : Int).toNat) hC81 (by omega); have hy81 : y299.length = (((rd_T41 t292 x80_2).f2) : Int).toNat := (by rw [Ny299.out, List.length_take]; omega)
          rw [← Ny299.out] at hr81; rw [← hy81] at hcut81; have HO303 := Aside0.mk (show Kd.V (Kd.int .u8) 5 _ w.heap.size _ (.slice Ao82 y299.length co82) y299 from Kd.V_mk (by omega) hr81); have HC303 := Aside0.mk (show y299.length ≤ co82 from by omega); clear hr81 hC81 hroom81 hi081 hsz81; have KY81 := Aside0.mk hy81; clear hy81; replace q81 := eq_true q81; refine start_ (n := 23) (S := fun w' => w'.cell? ⟨gb296, 0, none⟩ = some (.int .i64 ((rd_T41 t292 x80_2).f0)) ∧ w'.cell? ⟨gb296, 1, none⟩ = some (.int .i64 ((rd_T41 t292 x80_2).f1)) ∧ w'.cell? ⟨gb296, 2, none⟩ = some (.int .i64 ((rd_T41 t292 x80_2).f2)) ∧ w'.cell? ⟨go42, (a2).toNat * 5, none⟩ = some (.int .i64 ((rd_T28 y291 a2).f0)) ∧ w'.cell? ⟨go42, (a2).toNat * 5 + 1, none⟩ = some (.int .i64 ((rd_T28 y291 a2).f1)) ∧ w'.cell? ⟨go42, (a2).toNat * 5 + 2, none⟩ = some (.int .i64 ((rd_T28 y291 a2).f2)) ∧ w'.cell? ⟨go42, (a2).toNat * 5 + 3, none⟩ = some (.slice (some ad298) ((rd_T28 y291 a2).f3).length c297_3) ∧ w'.cell? ⟨go42, (a2).toNat * 5 + 4, none⟩ = some (.slice A297_4 ((rd_T28 y291 a2).f4).length c297_4) ∧ w'.cell? (ad298.add (((rd_T41 t292 x80_2).f0)).toNat) = some (.int .i64 (rd ((rd_T28 y291 a2).f3) ((rd_T41 t292 x80_2).f0)))) (ds := [20, 21]) B25_16 (by kernel_rfl) rfl rfl ⟨cZ0 BK296, cZ1 BK296, cZ2 BK296, hx297_0, hx297_1, hx297_2, hx297_3, hx297_4, hx298_0⟩ (fun hHeld => ?_); refine with_tabW file_Write.tab16 file_Write.bits16 (fun HT_ HW_ => ?_); generalize w79.drew = w80 at HO_4 HO_15 HO_78 HO_289000 BK275 BK276 BK288 BK296 HB HL297_3 HL297_4 HO303 HR297_3 HR297_4 hx297_0 hx297_1 hx297_2 hx297_3 hx297_4 hx298_0 hHeld ⊢; refine pure_ (i := 0) (N := some 84) (v := ?_) (a' := ?_) B25_17 rfl rfl (any_of HT_.out (by kernel_rfl)) (fun _ _ _ h => h) (Or.inl ⟨by rfl, ?_⟩) ?_ ?_; rotate_left
          ·
           intro w'; go_simp; with_reducible rfl
          rotate_left
          ·
           simp only [Act.put, lT, l0_, lS, i64_w, i32_w]; rfl
          refine pE 1 85 B25_18 HT_ ?_
          refine pE 2 86 B25_19 HT_ ?_
          refine pE 4 88 B25_20 HT_ ?_
          refine pE 5 89 B25_21 HT_ ?_
          refine pE 6 90 B25_22 HT_ ?_
          refine pE 8 92 B25_23 HT_ ?_
          refine pE 12 96 B25_24 HT_ ?_
          refine pE 14 98 B25_25 HT_ ?_
          refine pE 15 99 B25_26 HT_ ?_
          refine tE 3 87 B25_27 HT_ HW_ hHeld ?_
          refine tE 7 91 B25_28 HT_ HW_ hHeld ?_
          refine tE 9 93 B25_29 HT_ HW_ hHeld ?_
          refine pE 10 94 B25_30 HT_ ?_
          refine tE 11 95 B25_31 HT_ HW_ hHeld ?_
          refine tE 13 97 B25_32 HT_ HW_ hHeld ?_
          refine tE 16 100 B25_33 HT_ HW_ hHeld ?_
          refine pE 17 101 B25_34 HT_ ?_
          refine one_ (i := 18) (N := some 102) B25_35 rfl rfl (one_of HT_.out (by kernel_rfl)) (by decide) (fun K hK => ?_); refine goes_ Try.func59 (by kernel_rfl) rfl #[.slice Ao82 y299.length co82] (by rfl) rfl rfl (by (try simp only [List.map_toArray, List.map_cons, List.map_nil]); first | done | rfl | (simp only [List.length_drop, List.length_take]; rfl)) ?_
          with_reducible refine (slices_Clone_byte_byte.calls _ _ y299 t304 _ ?side1 ?side2 A70.out).mono ?_
          (case side1 => repeat (first | exact (Kd.V_reads' HO303.out).2.2 | (with_reducible refine Kd.C_alloc ?_ _) | (with_reducible refine Kd.C_drewN ?_ _) | (with_reducible refine Kd.C_drew ?_)))
          (case side2 => exact (Kd.V_reads' HO303.out).2.1)
          rintro e w83 ⟨v305, rfl, ho0, hb⟩; have HS3_ := (hb.cell (World.block_lt_of_cell? _ _ (hHeld.2.2.2.1))).trans (hHeld.2.2.2.1); have HS4_ := (hb.cell (World.block_lt_of_cell? _ _ (hHeld.2.2.2.2.1))).trans (hHeld.2.2.2.2.1); have HS5_ := (hb.cell (World.block_lt_of_cell? _ _ (hHeld.2.2.2.2.2.1))).trans (hHeld.2.2.2.2.2.1); have HS6_ := (hb.cell (World.block_lt_of_cell? _ _ (hHeld.2.2.2.2.2.2.1))).trans (hHeld.2.2.2.2.2.2.1); have HS7_ := (hb.cell (World.block_lt_of_cell? _ _ (hHeld.2.2.2.2.2.2.2.1))).trans (hHeld.2.2.2.2.2.2.2.1); have HS8_ := (hb.cell (World.block_lt_of_cell? _ _ (hHeld.2.2.2.2.2.2.2.2))).trans (hHeld.2.2.2.2.2.2.2.2); refine ⟨_, rfl, ?_⟩; replace HO_4 := Aside0.mk (Kd.V_elder' (mV HO_4) (Kd.R_base ho0) hb); replace HO_15 := Aside0.mk (Kd.S_elder' (mS HO_15) (Kd.R_base ho0) hb); replace HO_78 := kR HO_78 hb; replace HO_289000 := kS HO_289000 hb; replace HL297_3 := kR HL297_3 hb; replace HL297_4 := kR HL297_4 hb; replace HO303 := Aside0.mk (Kd.V_elder' (mV HO303) (Kd.R_base ho0) hb); have HO306 := Aside0.mk (Kd.R_lower (Kd.R_newM (M := fun k_ => (w.heap.size ≤ k_)) ho0 (below_size (mH HB)) (fun k_ h_ => h_)) (below_size (mH HB))); replace BK275 := kB BK275 hb; replace BK276 := kB BK276 hb; replace BK288 := kB BK288 hb; replace BK296 := kB BK296 hb; replace HR297_3 := Aside0.mk (Kd.C_below (by repeat (first | (with_reducible exact HR297_3.out) | (with_reducible refine Kd.C_alloc ?_ _) | (with_reducible refine Kd.C_drewN ?_ _) | (with_reducible refine Kd.C_drew ?_) | exact HR297_3.out)) hb); replace HR297_4 := Aside0.mk (Kd.C_below (by repeat (first | (with_reducible exact HR297_4.out) | (with_reducible refine Kd.C_alloc ?_ _) | (with_reducible refine Kd.C_drewN ?_ _) | (with_reducible refine Kd.C_drew ?_) | exact HR297_4.out)) hb); replace HB := kH HB hb
          (try clear hb); (try clear hk); (try clear ho0)
          obtain ⟨Ao84, co84, eo84⟩ := Kd.R_slice HO306.out
          (first | subst eo84 | (injection eo84 with f1_ f2_ f3_; have f4_ := f1_.symm; have f5_ := f3_.symm; clear f1_ f2_ f3_; subst f4_; subst f5_))
          refine hK.out _ _ ⟨cZ0 BK296, cZ1 BK296, cZ2 BK296, HS3_, HS4_, HS5_, HS6_, HS7_, HS8_⟩ (fun hHeld => ?_); clear hK K; refine norm_ (a' := ?_) ?_ ?_; rotate_left
          ·
           show Act.put _ (some 102) _ = _
           simp only [Act.put, lT, l0_, lS, i64_w, i32_w]; rfl
          refine pE 19 103 B25_36 HT_ ?_
          refine last_ (i := 20) (N := some 104) B25_37 rfl rfl (one_of HT_.out (by kernel_rfl)) (by decide) (fun K hK => ?_); refine value_ (w1 := ?_) (v := ?_) (by rfl) rfl ?_ ?_; rotate_left 2
          ·
           go_simp
           constructor
           ·
            rfl
           ·
            rfl
          refine hK.out _ _ ?_; clear hK K; refine norm_ (a' := ?_) ?_ ?_; rotate_left
          ·
           show Act.put _ (some 104) _ = _
           simp only [Act.put, lT, l0_, lS, i64_w, i32_w]; rfl
          refine last_ (i := 21) (N := some 105) B25_38 rfl rfl (one_of HT_.out (by kernel_rfl)) (by decide) (fun K hK => ?_); refine Kd.S_append_step k60 (w0 := w) w.heap.size (by rfl) (.tmp 84) (.tmp 104) 51 60 (.agg #[(.int .i64 0), (.int .i64 0), (.int .i64 0), (.int .i64 0), (.int .i64 0), (.slice none 0 0)]) 64 rfl Try.underlying51 info60 rfl (by decide) (by omega) u15 x15_2 (⟨a2, (rd_T41 t292 x80_2).f0, rd ((rd_T28 y291 a2).f3) ((rd_T41 t292 x80_2).f0), 16, (rd_T41 t292 x80_2).f1, t304⟩ : S60) [.int .i64 a2, .int .i64 ((rd_T41 t292 x80_2).f0), .int .i64 (rd ((rd_T28 y291 a2).f3) ((rd_T41 t292 x80_2).f0)), .int .i64 16, .int .i64 ((rd_T41 t292 x80_2).f1), .slice Ao84 t304.length co84] (fun k_ => (w.heap.size ≤ k_)) (fun k_ => some k_ = (.slice Ao84 t304.length co84 : Value).ownBlock) rfl rfl ?aP (fun k_ hk_ => ((Kd.R_mono (ok' := fun k_ => ((fun k_ => (w.heap.size ≤ k_))) k_ ∧ some k_ ≠ (u15 : Value).ownBlock) (Kd.R_apart' (HO306.out) (Kd.S_typed HO_15.out) (by decide)) (fun k_ hk => by first | exact ⟨hk.1.1, hk.2⟩ | (go_split_ands; and_intros <;> assumption)))).1 k_ hk_.symm) ?aF ?aO ?aB ?aS ?aL ?_
          (case aP => exact k60_mkM _ _ _ (⟨a2, (rd_T41 t292 x80_2).f0, rd ((rd_T28 y291 a2).f3) ((rd_T41 t292 x80_2).f0), 16, (rd_T41 t292 x80_2).f1, t304⟩ : S60) (Kd.R_mono (Kd.R_tight rfl (Kd.R_mono (ok' := fun k_ => ((fun k_ => (w.heap.size ≤ k_))) k_ ∧ some k_ ≠ (u15 : Value).ownBlock) (Kd.R_apart' (HO306.out) (Kd.S_typed HO_15.out) (by decide)) (fun k_ hk => by first | exact ⟨hk.1.1, hk.2⟩ | (go_split_ands; and_intros <;> assumption)))) (fun _ h_ => h_)))
          (case aB => exact (mH HB))
          (case aF => exact (fun k_ hk => (Nat.le_trans (below_size (mH HB)) hk)))
          (case aO => exact (by (with_reducible repeat (first | apply Kd.S_alloc | apply Kd.S_drewN | apply Kd.S_drew)); exact Kd.S_mono HO_15.out (fun k_ hk => ⟨hk.1, fun e_ => hk.2 e_⟩)))
          (case aS => exact (below_size (mH HB)))
          (case aL => have := LMc71.out; omega)
          intro v308 w85 ho hb hg hat; rw [← Ny307.out] at ho; replace HO_4 := Aside0.mk (Kd.V_afterv (ok := (fun k_ => (P4_ k_ ∨ w.heap.size ≤ k_) ∧ some k_ ≠ (.slice (some ad295) t292.length co60 : Value).ownBlock ∧ some k_ ≠ (.slice (some ⟨go42, 0, none⟩) y291.length co51 : Value).ownBlock ∧ some k_ ≠ (.slice Ao84 t304.length co84 : Value).ownBlock ∧ k_ ≠ gb275 ∧ k_ ≠ gb276 ∧ k_ ≠ gb288 ∧ k_ ≠ gb296)) (by (with_reducible repeat (first | apply Kd.V_alloc | apply Kd.V_drewN | apply Kd.V_drew)); exact Kd.V_mono HO_4.out (fun _ hk => by first | exact ⟨⟨hk.1.1, ⟨hk.1.2.2.1, ⟨hk.1.2.2.2.1, ⟨hk.2, ⟨hk.1.2.2.2.2.1, ⟨hk.1.2.2.2.2.2.1, ⟨hk.1.2.2.2.2.2.2.1, hk.1.2.2.2.2.2.2.2⟩⟩⟩⟩⟩⟩⟩, hk.1.2.1⟩ | (go_split_ands; and_intros <;> assumption))) hg hat); replace HO_78 := Aside0.mk (Kd.R_over' (mR HO_78) (Kd.S_typed (mS HO_15)) (by decide) hg); replace HO_289000 := Aside0.mk (Kd.S_over' (mS HO_289000) (Kd.S_typed (mS HO_15)) (by decide) hg); replace BK275 := Aside0.mk (blk_grown (g := gb275) (o := .cells #[.slice (some ad283) l0_0.length c0_0] 24 (0, 0)) (mB BK275) hg (Kd.S_ne HO_15.out BK275.out (by decide))); replace BK276 := Aside0.mk (blk_grown (g := gb276) (o := .cells #[.slice none 0 0] 24 (0, 0)) (mB BK276) hg (Kd.S_ne HO_15.out BK276.out (by decide))); replace BK288 := Aside0.mk (blk_grown (g := gb288) (o := .cells #[.slice (some ⟨go42, 0, none⟩) y291.length co51] 24 (0, 0)) (mB BK288) hg (Kd.S_ne HO_15.out BK288.out (by decide))); replace BK296 := Aside0.mk (blk_grown (g := gb296) (o := .cells #[.int .i64 ((rd_T41 t292 x80_2).f0), .int .i64 ((rd_T41 t292 x80_2).f1), .int .i64 ((rd_T41 t292 x80_2).f2)] 41 (0, 0)) (mB BK296) hg (Kd.S_ne HO_15.out BK296.out (by decide))); replace HL297_3 := Aside0.mk (Kd.R_over' (mR HL297_3) (Kd.S_typed (mS HO_15)) (by decide) hg); replace HL297_4 := Aside0.mk (Kd.R_over' (mR HL297_4) (Kd.S_typed (mS HO_15)) (by decide) hg); replace HO303 := Aside0.mk (Kd.V_afterv (ok := (fun k_ => (P4_ k_ ∨ w.heap.size ≤ k_) ∧ some k_ ≠ (.slice (some ad295) t292.length co60 : Value).ownBlock ∧ some k_ ≠ (.slice (some ⟨go42, 0, none⟩) y291.length co51 : Value).ownBlock ∧ some k_ ≠ (.slice Ao84 t304.length co84 : Value).ownBlock ∧ k_ ≠ gb275 ∧ k_ ≠ gb276 ∧ k_ ≠ gb288 ∧ k_ ≠ gb296)) (by (with_reducible repeat (first | apply Kd.V_alloc | apply Kd.V_drewN | apply Kd.V_drew)); exact Kd.V_mono HO303.out (fun _ hk => by first | exact ⟨⟨hk.1.1, ⟨hk.1.2.2.1, ⟨hk.1.2.2.2.1, ⟨hk.2, ⟨hk.1.2.2.2.2.1, ⟨hk.1.2.2.2.2.2.1, ⟨hk.1.2.2.2.2.2.2.1, hk.1.2.2.2.2.2.2.2⟩⟩⟩⟩⟩⟩⟩, hk.1.2.1⟩ | (go_split_ands; and_intros <;> assumption))) hg hat); replace HB := Aside0.mk (hb); have HO309 := Aside0.mk (ho); clear HO_15 HO306; clear ho hb hg hat; refine hK.out _ _ ?_; clear hK K; refine norm_ (a' := ?_) ?_ ?_; rotate_left
          ·
           show Act.put _ (some 105) _ = _
           simp only [Act.put, lT, l0_, lS, i64_w, i32_w]; rfl
          refine pE 22 15 B25_39 HT_ ?_
          refine done_ (done_of HT_.out (by kernel_rfl)) ?_; obtain ⟨hcz86_0, hfz86_0⟩ := cY0 BK296; obtain ⟨hcz86_1, hfz86_1⟩ := cY1 BK296; obtain ⟨hcz86_2, hfz86_2⟩ := cY2 BK296; have q87 : (((rd_T41 t292 x80_2).f2) : Int) ≤ ((x4_2.length : Int) : Int) := dT; obtain ⟨i087, hi087, _, hsz87, _⟩ := info_parts info5; have hroom87 : x4_2.length ≤ co82 := (Kd.V_reads' HO_4.out).2.1; have hC87 : Kd.F (Kd.int .u8) _ _ Ao82 x4_2.length x4_2 := (Kd.V_at (base := w.heap.size) HO_4.out).2.2; have q087 : (0 : Int) ≤ (((rd_T41 t292 x80_2).f2) : Int) := dT; have hcut87 := cut_from (P := Try.prog) 50 5 .i64 Try.underlying50 hi087 1 hsz87 Ao82 x4_2.length co82 ((rd_T41 t292 x80_2).f2) q087 q87; have hr87 := Kd.F_cut (m := (((rd_T41 t292 x80_2).f2) : Int).toNat) (c := co82) hC87 (by omega) hroom87; obtain ⟨A87, hA87⟩ : ∃ A1, A1 = (if co82 = (((rd_T41 t292 x80_2).f2) : Int).toNat then Ao82 else (Ao82 : Option Addr).map (·.add ((((rd_T41 t292 x80_2).f2) : Int).toNat * 1))) := ⟨_, rfl⟩; obtain ⟨c87, hc87⟩ : ∃ c1, c1 = co82 - (((rd_T41 t292 x80_2).f2) : Int).toNat := ⟨_, rfl⟩; have hy87 : y310.length = x4_2.length - (((rd_T41 t292 x80_2).f2) : Int).toNat := (by rw [Ny310.out, List.length_drop] <;> omega); rw [show (x4_2).drop (((rd_T41 t292 x80_2).f2) : Int).toNat = y310 from Ny310.out.symm] at hr87; replace hr87 : Kd.F (Kd.int .u8) _ _ A87 y310.length y310 := (by rw [hA87]; exact hr87)
          rw [← hy87, ← hA87, ← hc87] at hcut87; have HO314 := Aside0.mk (show Kd.V (Kd.int .u8) 5 _ w.heap.size _ (.slice A87 y310.length c87) y310 from Kd.V_mk (by rw [hy87, hc87]; exact Nat.sub_le_sub_right hroom87 _) hr87)
          have HC314 := Aside0.mk (show y310.length ≤ c87 from by rw [hy87, hc87]; exact Nat.sub_le_sub_right hroom87 _)
          clear hr87 hC87 hroom87 hi087 hsz87 hc87; have KY87 := Aside0.mk hy87; have KA87 := Aside0.mk hA87; clear hy87 hA87; replace q87 := eq_true q87
          try go_wp2
          (try simp only [← hl289000_2])
          go_roundg k2
          case measure => have := HJ5.out; have := HK2.out; omega
          case rel => exact ⟨(y310), (y307), (wrap64 (x80_2 + 1)), sI, H', ⟨oM HJ5 HK2⟩, ⟨by (try simp only [hl289000_2]); (with_reducible repeat (first | apply Kd.V_alloc | apply Kd.V_drewN | apply Kd.V_drew)); exact Kd.V_mono HO314.out (fun _ hk => by first | exact ⟨hk.1.1, ⟨hk.2, ⟨hk.1.2.1, ⟨hk.1.2.2.1, ⟨hk.1.2.2.2.2.1, ⟨hk.1.2.2.2.2.2.1, hk.1.2.2.2.2.2.2.1⟩⟩⟩⟩⟩⟩ | (go_split_ands; and_intros <;> assumption))⟩, ⟨by (try simp only [hl289000_2]); (with_reducible repeat (first | apply Kd.S_alloc | apply Kd.S_drewN | apply Kd.S_drew)); exact HO309.out⟩, ⟨by (try simp only [hl289000_2]); (with_reducible repeat (first | apply Kd.R_alloc | apply Kd.R_drewN | apply Kd.R_drew)); exact Kd.R_mono HO_78.out (fun _ hk => hk.1)⟩, ⟨by (try simp only [hl289000_2]); (with_reducible repeat (first | apply Kd.S_alloc | apply Kd.S_drewN | apply Kd.S_drew)); exact HO_289000.out⟩, ⟨by (try simp only [hl289000_2]); (with_reducible repeat (first | refine bN ?_ _ | refine bD ?_ | refine bA ?_ _)); exact BK275.out⟩, ⟨by (try simp only [hl289000_2]); (with_reducible repeat (first | refine bN ?_ _ | refine bD ?_ | refine bA ?_ _)); exact BK276.out⟩, ⟨by (try simp only [hl289000_2]); (with_reducible repeat (first | refine bN ?_ _ | refine bD ?_ | refine bA ?_ _)); exact BK288.out⟩, ⟨mH HB⟩⟩
         ·
          rw [if_neg c61] at H; have c61b0 := decide_eq_false c61; clear c61; simp only [Option.some.injEq, Prod.mk.injEq] at H; obtain ⟨rfl, rfl, rfl⟩ := H; have hnb88 := NB288_275.out; have hnc88 := NB275_288.out; have hnb89 := NB288_276.out; have hnc89 := NB276_288.out; obtain ⟨hcz90_0, hfz90_0⟩ := cY0 BK288; have hnb91 := NB276_275.out; have hnc91 := NB275_276.out; obtain ⟨hcz92_0, hfz92_0⟩ := cY0 BK276
          go_wp2
          refine bodyPost_ret (results_ctt rfl _ _ gb276 24 #[.slice (some ⟨go42, 0, none⟩) y291.length co51] (0, 0) _ rfl (pP BK276) Try.underlying24 rfl (by kernel_rfl)) rfl ?_
          exact ⟨_, _, by first | rfl | exact congrArg (fun b_ => Ending.returned (Value.bool b_)) HRET.out | (rw [HRET.out]) | (simp [errW_none, errW_some] <;> rfl) | (simp only [← hji41]; first | rfl | (simp [errW_none, errW_some] <;> rfl)) | (simp [*, errW_none, errW_some] <;> rfl), fS ⟨Kd.S_types HO_289000.out BK276.out (by decide)⟩, fS ⟨Kd.S_types HO_15.out BK276.out (by decide)⟩, mH HB⟩
     ·
      replace c28 := Bool.eq_false_iff.mpr c28; subst c28
      have H1 : (some (([] : List (S28)), ([] : List (S60)), 16)) = some (r1, r2, r3) := by rw [if_neg (show ¬ (false = true) by decide)] at H; exact H
      clear H; have H := H1; clear H1; simp only [Option.some.injEq, Prod.mk.injEq] at H; obtain ⟨rfl, rfl, rfl⟩ := H
      go_wp2_with (first | ((with_reducible refine gate_callee (f := 58) rfl ?_); refine goesK (some 38) Try.func58 #[.int .i64 a3, .int .i64 (l4.length : Int)] ?_; (with_reducible refine (span_Fits.calls a3 (l4.length : Int) false _ A27.out).mono ?_); rintro e w' ⟨rfl, ⟨nd, rfl⟩⟩; refine ⟨_, rfl, ?_⟩; (try (rw [drewN_self wc]; generalize hq_ : World.drewN wc _ = wc; have n0_ : Aside0 (Kd.V (Kd.int .u8) 5 wc w.heap.size (fun k_ => (P4_ k_ ∨ w.heap.size ≤ k_) ∧ k_ ≠ gb275 ∧ k_ ≠ gb276) (.slice A4 l4.length c4) l4) := ⟨by rw [← hq_]; exact (mV HO_4)⟩; have n1_ : Aside0 (wc.heap[gb275]? = some (.cells #[.slice A0_0 l0_0.length c0_0] 24 (0, 0))) := ⟨by rw [← hq_]; exact (mB BK275)⟩; have n2_ : Aside0 (wc.heap[gb276]? = some (.cells #[.slice none 0 0] 24 (0, 0))) := ⟨by rw [← hq_]; exact (mB BK276)⟩; have n3_ : Aside0 (Below w.heap.size w wc) := ⟨by rw [← hq_]; exact (mH HB)⟩; clear HO_4 BK275 BK276 HB hq_; have HO_4 := n0_; have BK275 := n1_; have BK276 := n2_; have HB := n3_; clear n0_ n1_ n2_ n3_)); have hnb93 := NB276_275.out; have hnc93 := NB275_276.out; obtain ⟨hcz94_0, hfz94_0⟩ := cY0 BK276))
      refine bodyPost_ret (results_ctt rfl _ _ gb276 24 #[.slice none 0 0] (0, 0) _ rfl (pP BK276) Try.underlying24 rfl (by kernel_rfl)) rfl ?_
      exact ⟨_, _, rT, by first | exact Kd.S_nil _ _ _ _ _ | exact Kd.N_nil _ _ _ _ _ | exact Kd.V_nil _ _ _ _ _ | exact Kd.Q_nil _ _ _ _ _ | exact Kd.R_nil _ _ _ _ _, by first | exact Kd.S_nil _ _ _ _ _ | exact Kd.N_nil _ _ _ _ _ | exact Kd.V_nil _ _ _ _ _ | exact Kd.Q_nil _ _ _ _ _ | exact Kd.R_nil _ _ _ _ _, mH HB⟩
end Go.Proofs.Ytkigiehkckjlhaa.PDone
