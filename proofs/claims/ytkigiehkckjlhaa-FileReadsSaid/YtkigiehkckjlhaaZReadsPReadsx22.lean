/- The Go functions that these laws reach, each as a Lean function with the same answers (a law itself where it answers true), and the proof that the code comes to them; conditions: those of each theorem. Laid by a program of this session over the print. -/
import Derived.Test.YtkigiehkckjlhaaZReadsPReadsShort
import Derived.Test.YtkigiehkckjlhaaZReadsPReadsx0
import Derived.Test.YtkigiehkckjlhaaZReadsPReadsx18
import Derived.Test.YtkigiehkckjlhaaZReadsPReadsx12
namespace Go.Proofs.Ytkigiehkckjlhaa.PReads
open Go.RowKit Go.Proofs.YtkigiehkckjlhaaW.PrintWords Go.Proofs.YtkigiehkckjlhaaW.PrintLast Go.Proofs.YtkigiehkckjlhaaW.PrintMore
attribute [local go_sem] max2_int min2_int max_two min_two max_three min_three max_four min_four   -- for this text's walks alone
set_option linter.unusedVariables false
set_option linter.unusedSimpArgs false
open Go.Proofs.YtkigiehkckjlhaaW.PrintWords renaming blk_drewN → bN, blk_drew → bD, blk_alloc → bA, below_set → wS, below_alloc → wA, pw_below_drewN → wN, below_drew1 → wD, blk_below → bB, blk_far → bF, blk_cell → bC, blk_frozen → bZ
open List renaming setIfInBounds_toArray → lT, set_cons_zero → l0_, set_cons_succ → lS
abbrev B22_0 : Array Bool := #[false, false, false, false, false, false, false, false]
abbrev B22_1 := B22_0.set! 0 true
abbrev B22_2 := B22_1.set! 1 true
abbrev B22_3 := B22_2.set! 2 true
abbrev B22_4 := B22_3.set! 3 true
abbrev B22_5 := B22_4.set! 4 true
abbrev B22_6 := B22_5.set! 5 true
abbrev B22_7 := B22_6.set! 6 true
abbrev B22_8 := B22_7.set! 7 true
def dir_Copy.l0 : Nat → List (S28) → Int → Int → List (S28) → Option ((List (S28)))
 | 0, _, _, _, _ => none
 | k + 1, x7, x8, x9, x240000 => if x9 < x8 then (if 0 ≤ x9 then (if x9 < (x7.length : Int) then ((node_Copy.f ((rU x7 x9).f0) ((rU x7 x9).f1) ((rU x7 x9).f2) ((rU x7 x9).f3) ((rU x7 x9).f4)).bind fun bt242 => (if x240000.length < 1954687338268 then (dir_Copy.l0 k x7 x8 (wrap64 (x9 + 1)) (x240000 ++ [(⟨bt242.1, bt242.2.1, bt242.2.2.1, bt242.2.2.2.1, bt242.2.2.2.2⟩ : S28)])) else (none))) else (none)) else (none)) else (some x240000)
def dir_Copy.f (k : Nat) (l0_0 : List (S28)) : Option ((List (S28))) := dir_Copy.l0 k l0_0 (l0_0.length : Int) 0 ([] : List (S28))
theorem dir_Copy.mono_l : ∀ k, (∀ y0 y1 y2 y3, LeO (dir_Copy.l0 k y0 y1 y2 y3) (dir_Copy.l0 (k + 1) y0 y1 y2 y3))
 | 0 => fun _ _ _ _ r h => by simp [dir_Copy.l0] at h
 | k + 1 => by
  have ih0 := dir_Copy.mono_l k
  ·
   intro y0 y1 y2 y3
   unfold dir_Copy.l0
   repeat' with_reducible first | apply ih0 | exact LeO.refl _ | exact LeO.none _ | refine LeO.ite ?_ ?_ | refine LeO.bind ?_ (fun _ => ?_)
theorem dir_Copy.mono : ∀ a0 k, LeO (dir_Copy.f k a0) (dir_Copy.f (k + 1) a0) := by
 intro a0 k; have ih0 := dir_Copy.mono_l k
 unfold dir_Copy.f
 repeat' with_reducible first | apply ih0 | exact LeO.refl _ | exact LeO.none _ | refine LeO.ite ?_ ?_ | refine LeO.bind ?_ (fun _ => ?_)
def dir_Copy.T5 : Bool × List (List Nat × List Nat) := (true, [([], []), ([0], [0]), ([], []), ([2], [2]), ([3], [3]), ([1, 4, 3], [1, 4]), ([0, 1, 2, 3, 4, 5], []), ([6, 5, 5, 0, 1, 2, 3, 4, 5], [5, 6])])
def dir_Copy.B5 : List Nat := [0, 1, 0, 4, 12, 31, 63, 127]
theorem dir_Copy.tab5 : rtab .any (opsOf Try.f57 5) = dir_Copy.T5 := by kernel_rfl
theorem dir_Copy.bits5 : waitsOk dir_Copy.T5.2 dir_Copy.B5 = true := by kernel_rfl
set_option maxHeartbeats 8000000 in
set_option maxRecDepth 100000 in
theorem dir_Copy.calls (k : Nat) (A0_0 : Option Addr) (c0_0 : Nat) (l0_0 : List (S28)) (r : List (S28)) (w : World) (hr0_0 : Kd.C k28 w A0_0 l0_0.length l0_0) (hc0_0 : l0_0.length ≤ c0_0) (h : dir_Copy.f k l0_0 = some r) :
 Calls Try.prog 57 #[.agg #[.slice A0_0 l0_0.length c0_0]] w fun e w' => ∃ v0_ : Value, e = .returned (.agg #[v0_]) ∧ Kd.S k28 28 w' w.heap.size (fun _ => True) v0_ r ∧ Below w.heap.size w w' := by
 have hu24 := Try.underlying24; have hu28 := Try.underlying28; have HR0_0 := kA hr0_0; have HC0_0 := kA hc0_0; clear hr0_0 hc0_0; have HB := kA (Below.refl w.heap.size w); have H : (dir_Copy.l0 k l0_0 (l0_0.length : Int) 0 ([] : List (S28))) = some r := h; clear h; have H' := kA H; clear H
 go_enter Try.func57, Try.ntmps57
 go_wp2_with (first | ((with_reducible refine gate_dst (N := 1) rfl ?_); refine bxE 24 (cs := #[.slice A0_0 l0_0.length c0_0]) ?_; intro gb237 hg w2 hbox hb; have BK237 := kA hbox; have GW237 := kG HB hg; have GE237 := kG HB hg; replace HB := kH HB hb; clear hb hbox hg) | ((with_reducible refine gate_dst (N := 2) rfl ?_); refine bxE 24 (cs := #[.slice none 0 0]) ?_; intro gb238 hg w3 hbox hb; have BK238 := kA hbox; have GW238 := kG HB hg; have GE238 := kG HB hg; replace HB := kH HB hb; have NB237_238 := kL BK237 hg; have NB238_237 := kQ BK237 hg; replace BK237 := kB BK237 hb; clear hb hbox hg) | ((with_reducible refine gate_dst (N := 3) rfl ?_); refine bxE 24 (cs := #[.slice none 0 0]) ?_; intro gb239 hg w4 hbox hb; have BK239 := kA hbox; have GW239 := kG HB hg; have GE239 := kG HB hg; replace HB := kH HB hb; have NB237_239 := kL BK237 hg; have NB239_237 := kQ BK237 hg; replace BK237 := kB BK237 hb; have NB238_239 := kL BK238 hg; have NB239_238 := kQ BK238 hg; replace BK238 := kB BK238 hb; clear hb hbox hg; have hnb5 := NB237_238.out; have hnc5 := NB238_237.out; have hnb6 := NB237_239.out; have hnc6 := NB239_237.out; obtain ⟨hcz7_0, hfz7_0⟩ := cY0 BK237))
 go_loopg [9] k (fun kq v9 w' => ∃ (x9_1 : Int) (x240000_1 : List (S28)) (u240000 : Value), v9 = .int .i64 x9_1 ∧ Aside0 (dir_Copy.l0 kq l0_0 (l0_0.length : Int) x9_1 x240000_1 = some r) ∧ Aside0 (kq ≤ k) ∧ Aside0 (Kd.S k28 28 w' w.heap.size (fun _ => True) u240000 x240000_1) ∧ Aside0 (w'.heap[gb237]? = some (.cells #[(.slice A0_0 l0_0.length c0_0)] 24 (0, 0))) ∧ Aside0 (w'.heap[gb238]? = some (.cells #[(.slice none 0 0)] 24 (0, 0))) ∧ Aside0 (w'.heap[gb239]? = some (.cells #[u240000] 24 (0, 0))) ∧ Aside0 (Below w.heap.size w w'))
 case atStart => exact ⟨(0), (([] : List (S28))), (.slice none 0 0), sI, H', ⟨Nat.le_refl _⟩, ⟨by first | exact Kd.S_nil _ _ _ _ _ | exact Kd.N_nil _ _ _ _ _ | exact Kd.V_nil _ _ _ _ _ | exact Kd.Q_nil _ _ _ _ _ | exact Kd.R_nil _ _ _ _ _⟩, ⟨mB BK237⟩, ⟨mB BK238⟩, ⟨mB BK239⟩, ⟨mH HB⟩⟩
 case round =>
  clear H'
  (try clear hcz7_0); (try clear hfz7_0)
  obtain ⟨x9_1, x240000_1, u240000, rfl, HA, HK1, HO_240000, BK237, BK238, BK239, HB⟩ := hrel
  cases gk with
  | zero => exact absurd HA.out (by simp [dir_Copy.l0])
  | succ k1 =>
   have H := HA.out; clear HA; simp only [dir_Copy.l0] at H
   by_cases c8 : x9_1 < (l0_0.length : Int)
   ·
    rw [if_pos c8] at H; have c8b0 := qT c8; clear c8
    replace H := nP H; obtain ⟨c9, H⟩ := H; have c9b0 := qT c9; clear c9
    replace H := nP H; obtain ⟨c10, H⟩ := H; have c10b0 := qT c10; clear c10; replace H := qB H; obtain ⟨⟨t242, t243, t244, t245, t248⟩, A110, H⟩ := H; replace H : (if x240000_1.length < 1954687338268 then (dir_Copy.l0 k1 l0_0 (l0_0.length : Int) (wrap64 (x9_1 + 1)) (x240000_1 ++ [(⟨t242, t243, t244, t245, t248⟩ : S28)])) else (none)) = some r := H; have A11 := kA A110; clear A110
    replace H := nP H; obtain ⟨c12, H⟩ := H; have LMc12 := kA c12; clear c12; obtain ⟨y251, hy251⟩ : ∃ y_ : List (S28), y_ = (x240000_1 ++ [(⟨t242, t243, t244, t245, t248⟩ : S28)]) := ⟨_, rfl⟩
    replace H : (dir_Copy.l0 k1 l0_0 (l0_0.length : Int) (wrap64 (x9_1 + 1)) y251) = some r := rH H hy251
    have Ny251 := kA hy251; clear hy251; have H' := kA H; clear H; have p240 : 0 ≤ (x9_1 : Int) := dT; have q240 : x9_1 < (l0_0.length : Int) := dT; obtain ⟨ad240, A240_3, c240_3, A240_4, c240_4, e240, hx240_0, hx240_1, hx240_2, hx240_3, hx240_4, hl240_3, hi240_3, hl240_4, hi240_4⟩ := at_T28 HR0_0.out x9_1 p240 q240
    cases e240
    replace hx240_0 := xC HB hx240_0; replace hx240_1 := xC HB hx240_1; replace hx240_2 := xC HB hx240_2; replace hx240_3 := xC HB hx240_3; replace hx240_4 := xC HB hx240_4; have HR240_3 := kA hi240_3; have HC240_3 := kA hl240_3; clear hi240_3 hl240_3; have HR240_4 := kA hi240_4; have HC240_4 := kA hl240_4; clear hi240_4 hl240_4; replace p240 := eq_true p240; replace q240 := eq_true q240
    try go_wp2_with (first | ((with_reducible refine gate_dst (N := 5) rfl ?_); refine bxE 28 (cs := #[.int .i64 0, .int .i64 0, .int .i64 0, .slice none 0 0, .slice none 0 0]) ?_; intro gb241 hg w13 hbox hb; replace HO_240000 := kA (Kd.S_below (Kd.S_elderB (mS HO_240000) gb241 (Nat.le_of_eq hg.symm)) hb); have BK241 := kA hbox; have GW241 := kG HB hg; have GE241 := kG HB hg; replace HB := kH HB hb; have NB237_241 := kL BK237 hg; have NB241_237 := kQ BK237 hg; replace BK237 := kB BK237 hb; have NB238_241 := kL BK238 hg; have NB241_238 := kQ BK238 hg; replace BK238 := kB BK238 hb; have NB239_241 := kL BK239 hg; have NB241_239 := kQ BK239 hg; replace BK239 := kB BK239 hb; clear hb hbox hg; have hnb14 := NB241_237.out; have hnc14 := NB237_241.out; have hnb15 := NB241_238.out; have hnc15 := NB238_241.out; have hnb16 := NB241_239.out; have hnc16 := NB239_241.out; obtain ⟨hcz17_0, hfz17_0⟩ := cY0 BK241; obtain ⟨hcz17_1, hfz17_1⟩ := cY1 BK241; obtain ⟨hcz17_2, hfz17_2⟩ := cY2 BK241; obtain ⟨hcz17_3, hfz17_3⟩ := cY3 BK241; obtain ⟨hcz17_4, hfz17_4⟩ := cY4 BK241))
    obtain ⟨w18, hw_, n_⟩ : ∃ W_, ((((w13.setCell ⟨gb241, 0, none⟩ (.int .i64 ((rU l0_0 x9_1).f0))).setCell ⟨gb241, 1, none⟩ (.int .i64 ((rU l0_0 x9_1).f1))).setCell ⟨gb241, 2, none⟩ (.int .i64 ((rU l0_0 x9_1).f2))).setCell ⟨gb241, 3, none⟩ (.slice A240_3 ((rU l0_0 x9_1).f3).length c240_3)).setCell ⟨gb241, 4, none⟩ (.slice A240_4 ((rU l0_0 x9_1).f4).length c240_4) = W_ ∧ Aside0 (Kd.S k28 28 W_ w.heap.size (fun k_ => k_ ≠ gb241) u240000 x240000_1) ∧ Aside0 (W_.heap[gb237]? = some (.cells #[.slice (some ad240) l0_0.length c0_0] 24 (0, 0))) ∧ Aside0 (W_.heap[gb238]? = some (.cells #[.slice none 0 0] 24 (0, 0))) ∧ Aside0 (W_.heap[gb239]? = some (.cells #[u240000] 24 (0, 0))) ∧ Aside0 (W_.heap[gb241]? = some (.cells #[.int .i64 ((rU l0_0 x9_1).f0), .int .i64 ((rU l0_0 x9_1).f1), .int .i64 ((rU l0_0 x9_1).f2), .slice A240_3 ((rU l0_0 x9_1).f3).length c240_3, .slice A240_4 ((rU l0_0 x9_1).f4).length c240_4] 28 (0, 0))) ∧ Aside0 (Below w.heap.size w W_) := ⟨_, rfl, ⟨fS HO_240000 (fun _ hk => hk.2)⟩, ⟨mF BK237⟩, ⟨mF BK238⟩, ⟨mF BK239⟩, ⟨pP BK241⟩, ⟨mH HB⟩⟩
    (try clear HO_240000); (try clear BK237); (try clear BK238); (try clear BK239); (try clear BK241); (try clear HB); rewrite [hw_]; clear hw_; obtain ⟨HO_240000, BK237, BK238, BK239, BK241, HB⟩ := n_; replace HO_240000 := kA (Kd.S_drew HO_240000.out); replace BK237 := kA (bD BK237.out); replace BK238 := kA (bD BK238.out); replace BK239 := kA (bD BK239.out); replace BK241 := kA (bD BK241.out); replace HB := kA (wD HB.out); refine start_ (n := 8) (S := fun w' => w'.cell? ⟨gb239, 0, none⟩ = some (u240000) ∧ w'.cell? ⟨gb241, 0, none⟩ = some (.int .i64 ((rU l0_0 x9_1).f0)) ∧ w'.cell? ⟨gb241, 1, none⟩ = some (.int .i64 ((rU l0_0 x9_1).f1)) ∧ w'.cell? ⟨gb241, 2, none⟩ = some (.int .i64 ((rU l0_0 x9_1).f2)) ∧ w'.cell? ⟨gb241, 3, none⟩ = some (.slice A240_3 ((rU l0_0 x9_1).f3).length c240_3) ∧ w'.cell? ⟨gb241, 4, none⟩ = some (.slice A240_4 ((rU l0_0 x9_1).f4).length c240_4)) (ds := [7]) B22_0 (by kernel_rfl) rfl rfl ⟨cZ0 BK239, cZ0 BK241, cZ1 BK241, cZ2 BK241, cZ3 BK241, cZ4 BK241⟩ (fun hHeld => ?_); refine with_tabW dir_Copy.tab5 dir_Copy.bits5 (fun HT_ HW_ => ?_); generalize w18.drew = w19 at HO_240000 BK237 BK238 BK239 BK241 HB hHeld ⊢; refine pure_ (i := 0) (N := some 13) (v := ?_) (a' := ?_) B22_1 rfl rfl (any_of HT_.out (by kernel_rfl)) (fun _ _ _ h => h) (Or.inl ⟨by rfl, ?_⟩) ?_ ?_; rotate_left
    ·
     intro w'; go_simp; with_reducible rfl
    rotate_left
    ·
     simp only [Act.put, lT, l0_, lS, i64_w, i32_w]; rfl
    refine tE 1 14 B22_2 HT_ HW_ hHeld ?_
    refine tE 2 15 B22_3 HT_ HW_ hHeld ?_
    refine one_ (i := 3) (N := some 16) B22_4 rfl rfl (one_of HT_.out (by kernel_rfl)) (by decide) (fun K hK => ?_); refine goes_ Try.func76 (by kernel_rfl) rfl #[.agg #[.int .i64 ((rU l0_0 x9_1).f0), .int .i64 ((rU l0_0 x9_1).f1), .int .i64 ((rU l0_0 x9_1).f2), .slice A240_3 ((rU l0_0 x9_1).f3).length c240_3, .slice A240_4 ((rU l0_0 x9_1).f4).length c240_4]] (by rfl) rfl rfl (by (try simp only [List.map_toArray, List.map_cons, List.map_nil]); first | done | rfl | (simp only [List.length_drop, List.length_take]; rfl)) ?_
    with_reducible refine (node_Copy.calls ((rU l0_0 x9_1).f0) ((rU l0_0 x9_1).f1) ((rU l0_0 x9_1).f2) _ _ ((rU l0_0 x9_1).f3) _ _ ((rU l0_0 x9_1).f4) t242 t243 t244 t245 t248 _ ?side1 ?side2 ?side3 ?side4 A11.out).mono ?_
    (case side1 => exact mC HR240_3 HB)
    (case side2 => exact HC240_3.out)
    (case side3 => exact mC HR240_4 HB)
    (case side4 => exact HC240_4.out)
    rintro e w20 ⟨v246, v249, rfl, ho0, ho1, hb⟩; refine ⟨_, rfl, ?_⟩; replace HO_240000 := kA (Kd.S_mono (Kd.S_told (Kd.S_told (Kd.S_old (mS HO_240000) hb) (Kd.R_base ho0)) (Kd.R_base ho1)) (fun _ h_ => h_.1)); have HO247 := kA (Kd.R_lower ho0 (below_size (mH HB))); have HO250 := kA (Kd.R_lower ho1 (below_size (mH HB))); replace BK237 := kB BK237 hb; replace BK238 := kB BK238 hb; replace BK239 := kB BK239 hb; replace BK241 := kB BK241 hb; replace HB := kH HB hb
    (try clear hb); (try clear hk); (try clear ho0); (try clear ho1)
    obtain ⟨Ao22, co22, eo22⟩ := Kd.R_slice HO247.out
    (first | subst eo22 | (injection eo22 with f1_ f2_ f3_; have f4_ := f1_.symm; have f5_ := f3_.symm; clear f1_ f2_ f3_; subst f4_; subst f5_))
    obtain ⟨Ao23, co23, eo23⟩ := Kd.R_slice HO250.out
    (first | subst eo23 | (injection eo23 with f1_ f2_ f3_; have f4_ := f1_.symm; have f5_ := f3_.symm; clear f1_ f2_ f3_; subst f4_; subst f5_))
    refine hK.out _ _ ⟨cZ0 BK239, cZ0 BK241, cZ1 BK241, cZ2 BK241, cZ3 BK241, cZ4 BK241⟩ (fun hHeld => ?_); clear hK K; refine norm_ (a' := ?_) ?_ ?_; rotate_left
    ·
     show Act.put _ (some 16) _ = _
     simp only [Act.put, lT, l0_, lS, i64_w, i32_w]; rfl
    refine one_ (i := 4) (N := some 17) B22_5 rfl rfl (one_of HT_.out (by kernel_rfl)) (by decide) (fun K hK => ?_); refine value_ (w1 := ?_) (v := ?_) (by rfl) rfl ?_ ?_; rotate_left 2
    ·
     go_simp
     constructor
     ·
      rfl
     ·
      rfl
    refine hK.out _ _ ⟨(bC (bA BK239.out _) 0).trans rfl, (bC (bA BK241.out _) 0).trans rfl, (bC (bA BK241.out _) 1).trans rfl, (bC (bA BK241.out _) 2).trans rfl, (bC (bA BK241.out _) 3).trans rfl, (bC (bA BK241.out _) 4).trans rfl⟩ (fun hHeld => ?_); clear hK K; refine norm_ (a' := ?_) ?_ ?_; rotate_left
    ·
     show Act.put _ (some 17) _ = _
     simp only [Act.put, lT, l0_, lS, i64_w, i32_w]; rfl
    refine one_ (i := 5) (N := some 18) B22_6 rfl rfl (one_of HT_.out (by kernel_rfl)) (by decide) (fun K hK => ?_); refine Kd.S_append_step k28 (w0 := w) w.heap.size (by rfl) (.tmp 14) (.tmp 17) 22 28 (.agg #[(.int .i64 0), (.int .i64 0), (.int .i64 0), (.slice none 0 0), (.slice none 0 0)]) 72 rfl Try.underlying22 info28 rfl (by decide) (by omega) u240000 x240000_1 (⟨t242, t243, t244, t245, t248⟩ : S28) [.int .i64 t242, .int .i64 t243, .int .i64 t244, .slice Ao22 t245.length co22, .slice Ao23 t248.length co23] (fun k_ => k_ ≠ gb241) (fun k_ => some k_ = (.slice Ao22 t245.length co22 : Value).ownBlock ∨ some k_ = (.slice Ao23 t248.length co23 : Value).ownBlock) rfl rfl ?aP (fun k_ hk_ => hk_.elim (fun h_ => ((Kd.R_mono (ok' := fun k_ => ((fun k_ => k_ ≠ gb241)) k_ ∧ some k_ ≠ (u240000 : Value).ownBlock) (Kd.R_types (Kd.R_apart' (HO247.out) (Kd.S_typed HO_240000.out) (by decide)) BK241.out (by decide)) (fun k_ hk => ⟨hk.2, hk.1.2⟩))).1 k_ h_.symm) (fun h_ => ((Kd.R_mono (ok' := fun k_ => ((fun k_ => k_ ≠ gb241)) k_ ∧ some k_ ≠ (u240000 : Value).ownBlock) (Kd.R_types (Kd.R_apart' (HO250.out) (Kd.S_typed HO_240000.out) (by decide)) BK241.out (by decide)) (fun k_ hk => ⟨hk.2, hk.1.2⟩))).1 k_ h_.symm)) ?aF ?aO ?aB ?aS ?aL ?_
    (case aP => exact k28_mkM _ _ _ (⟨t242, t243, t244, t245, t248⟩ : S28) (Kd.R_mono (Kd.R_tight rfl (Kd.R_mono (ok' := fun k_ => ((fun k_ => k_ ≠ gb241)) k_ ∧ some k_ ≠ (u240000 : Value).ownBlock) (Kd.R_types (Kd.R_apart' (HO247.out) (Kd.S_typed HO_240000.out) (by decide)) BK241.out (by decide)) (fun k_ hk => ⟨hk.2, hk.1.2⟩))) (fun _ h_ => Or.inl h_)) (Kd.R_mono (Kd.R_tight rfl (Kd.R_mono (ok' := fun k_ => ((fun k_ => k_ ≠ gb241)) k_ ∧ some k_ ≠ (u240000 : Value).ownBlock) (Kd.R_types (Kd.R_apart' (HO250.out) (Kd.S_typed HO_240000.out) (by decide)) BK241.out (by decide)) (fun k_ hk => ⟨hk.2, hk.1.2⟩))) (fun _ h_ => Or.inr (h_))))
    (case aB => exact (mH HB))
    (case aF => exact (fun k_ hk => Kd.freshB (g := gb241) (o := .cells #[.int .i64 ((rU l0_0 x9_1).f0), .int .i64 ((rU l0_0 x9_1).f1), .int .i64 ((rU l0_0 x9_1).f2), .slice A240_3 ((rU l0_0 x9_1).f3).length c240_3, .slice A240_4 ((rU l0_0 x9_1).f4).length c240_4] 28 (0, 0)) (mB BK241) k_ hk))
    (case aO => exact (by (with_reducible repeat (first | apply Kd.S_alloc | apply Kd.S_drewN | apply Kd.S_drew)); exact Kd.S_mono HO_240000.out (fun k_ hk => ⟨hk.1.1, fun e_ => e_.elim (fun h_ => hk.1.2 h_) (fun h_ => hk.2 h_)⟩)))
    (case aS => exact (below_size (mH HB)))
    (case aL => have := LMc12.out; omega)
    intro v252 w21 ho hb hg hat; rw [← Ny251.out] at ho; replace BK237 := kA (blk_grown (g := gb237) (o := .cells #[.slice (some ad240) l0_0.length c0_0] 24 (0, 0)) (mB BK237) hg (Kd.S_ne HO_240000.out BK237.out (by decide))); replace BK238 := kA (blk_grown (g := gb238) (o := .cells #[.slice none 0 0] 24 (0, 0)) (mB BK238) hg (Kd.S_ne HO_240000.out BK238.out (by decide))); replace BK239 := kA (blk_grown (g := gb239) (o := .cells #[u240000] 24 (0, 0)) (mB BK239) hg (Kd.S_ne HO_240000.out BK239.out (by decide))); replace BK241 := kA (blk_grown (g := gb241) (o := .cells #[.int .i64 ((rU l0_0 x9_1).f0), .int .i64 ((rU l0_0 x9_1).f1), .int .i64 ((rU l0_0 x9_1).f2), .slice A240_3 ((rU l0_0 x9_1).f3).length c240_3, .slice A240_4 ((rU l0_0 x9_1).f4).length c240_4] 28 (0, 0)) (mB BK241) hg (Kd.S_away HO_240000.out (fun _ hk => hk.1.1))); replace HB := kA (hb); have HO253 := kA (ho); clear HO_240000 HO247 HO250; clear ho hb hg hat; obtain ⟨Ao24, co24, eo24⟩ := Kd.S_slice HO253.out
    (first | subst eo24 | (injection eo24 with f1_ f2_ f3_; have f4_ := f1_.symm; have f5_ := f3_.symm; clear f1_ f2_ f3_; subst f4_; subst f5_))
    refine hK.out _ _ ⟨cZ0 BK239, cZ0 BK241, cZ1 BK241, cZ2 BK241, cZ3 BK241, cZ4 BK241⟩ (fun hHeld => ?_); clear hK K; refine norm_ (a' := ?_) ?_ ?_; rotate_left
    ·
     show Act.put _ (some 18) _ = _
     simp only [Act.put, lT, l0_, lS, i64_w, i32_w]; rfl
    refine pE 6 19 B22_7 HT_ ?_
    refine last_ (i := 7) (N := none) B22_8 rfl rfl (one_of HT_.out (by kernel_rfl)) (by decide) (fun K hK => ?_); have hs25 := cZ0 BK239; have hfs25 := bZ BK239.out 0; have hns25_0 := NB237_239.out; have hns25_1 := NB238_239.out; have hns25_3 := NB241_239.out; have hms25_0 := NB239_237.out; have hms25_1 := NB239_238.out; have hms25_3 := NB239_241.out; refine skip_ (w1 := ?_) (by rfl) rfl ?_ ?_; rotate_left
    ·
     go_simp; rfl
    refine hK.out _ _ ?_; clear hK K; refine done_ (done_of HT_.out (by kernel_rfl)) ?_
    try go_wp2
    go_roundg k1
    case measure => have := HK1.out; omega
    case rel => exact ⟨(wrap64 (x9_1 + 1)), (y251), (.slice Ao24 y251.length co24), sI, H', ⟨oK HK1⟩, ⟨fS ⟨Kd.S_types HO253.out BK239.out (by decide)⟩⟩, ⟨mF BK237⟩, ⟨mF BK238⟩, ⟨pP BK239⟩, ⟨mH HB⟩⟩
   ·
    rw [if_neg c8] at H; have c8b0 := qF c8; clear c8; obtain rfl := qI H; have hnb26 := NB239_237.out; have hnc26 := NB237_239.out; have hnb27 := NB239_238.out; have hnc27 := NB238_239.out; obtain ⟨hcz28_0, hfz28_0⟩ := cY0 BK239; obtain ⟨Ao29, co29, eo29⟩ := Kd.S_slice HO_240000.out; subst eo29; have hnb30 := NB238_237.out; have hnc30 := NB237_238.out; obtain ⟨hcz31_0, hfz31_0⟩ := cY0 BK238
    go_wp2
    refine bodyPost_ret (results_cell_row rfl _ _ gb238 24 #[.slice Ao29 x240000_1.length co29] (0, 0) _ rfl (pP BK238) Try.underlying24 rfl (by kernel_rfl)) rfl ?_
    exact ⟨_, rT, fS ⟨Kd.S_types HO_240000.out BK238.out (by decide)⟩, mH HB⟩
def slices_Clone_byte_byte.f (l0 : List Int) : Option (List Int) := if l0.length < 140737488355328 then some l0 else none
theorem slices_Clone_byte_byte.calls (A0 : Option Addr) (c0 : Nat) (l0 : List Int) (r : List Int) (w : World) (hr0 : Kd.C (Kd.int .u8) w A0 l0.length l0) (hc0 : l0.length ≤ c0) (h : slices_Clone_byte_byte.f l0 = some r) :
 Calls Try.prog 59 #[.slice A0 l0.length c0] w fun e w' => ∃ v0_ : Value, e = .returned (v0_) ∧ Kd.R (Kd.int .u8) 5 w' w.heap.size (fun _ => True) v0_ r ∧ Below w.heap.size w w' := by
 unfold slices_Clone_byte_byte.f at h
 by_cases hlim : l0.length < 140737488355328
 ·
  rw [if_pos hlim] at h; obtain rfl := qI h; clear h
  cases A0 with
  | none =>
   have hl : l0 = [] := by
    cases l0 with
    | nil => rfl
    | cons x xs => obtain ⟨ad, he, _⟩ := hr0.2.2 (by simp); cases he
   subst hl; clear hr0 hlim; have HB := kA (Below.refl w.heap.size w)
   have hnil : ∀ (W : World), (Go.binOp .eql 50 (.slice none 0 c0) (.slice none 0 0)).run Try.prog W = .ok (.bool true) W := fun W => Lib.run_eql_slice_nil W 50 5 none _ _ _ _ Try.underlying50
   go_enter Try.func59, Try.ntmps59
   go_wp2
   go_ret
   exact ⟨_, rfl, Kd.R_nil _ _ _ _ _, HB.out⟩
  | some ad0 =>
   have HR0 := kA hr0; have LMc2 := kA hlim; clear hr0 hlim; have HB := kA (Below.refl w.heap.size w)
   have hnil : ∀ (W : World), (Go.binOp .eql 50 (.slice (some ad0) l0.length c0) (.slice none 0 0)).run Try.prog W = .ok (.bool false) W := fun W => Lib.run_eql_slice_nil W 50 5 (some ad0) _ _ _ _ Try.underlying50
   obtain ⟨y142, hy142⟩ : ∃ y_ : List (Int), y_ = [] := ⟨_, rfl⟩; have Ny142 := kA hy142; clear hy142
   go_enter Try.func59, Try.ntmps59
   go_wp2_with (first | ((with_reducible refine gate_dst (N := 5) rfl ?_); refine Kd.R_lit (Kd.int .u8) _ 5 ?hg (N := 5) ?hd (xs := ([] : List (Int))) (inner := []) (ok := fun _ => True) (okp := fun _ => True) ?hr ?hp (fun _ hk => hk) trivial (Below.refl _ _) (Nat.le_refl _) (by simp) ?_; (case hd => rfl); (case hg => rfl); (case hr => first | (go_simp; done) | (go_simp; rfl)); (case hp => exact (Reps.none _ _)); intro v143 w3 ho4 hb hg_ hnew_; clear hg_ hnew_; (first | rw [← Ny142.out] at ho4 | (simp only [Int.reduceToNat] at ho4; rw [← Ny142.out] at ho4)); have HO144 := kA (Kd.R_lower ho4 (below_size (mH HB))); replace HB := kH HB hb; clear hb ho4) | ((with_reducible refine gate_builtin (b := .append) (xs := #[.tmp 5, .tmp 6]) rfl ?_); at_builtin; refine Kd.R_append_rows (Kd.int .u8) (w0 := w) w.heap.size rfl (.tmp 5) (.tmp 6) 50 5 (.int .u8 0) 1 rfl Try.underlying50 info5 rfl (by decide) (by omega) v143 y142 l0 _ _ _ (fun _ => True) (fun _ => False) rfl rfl ?aO ?aR (fun _ _ h => h) (fun _ h => h.elim) ?aF ?aB ?aS ?aL ?_; (case aR => repeat (first | exact (Kd.C_below HR0.out HB.out) | (with_reducible refine Kd.C_alloc ?_ _) | (with_reducible refine Kd.C_drewN ?_ _) | (with_reducible refine Kd.C_drew ?_))); (case aB => exact (mH HB)); (case aF => exact (fun _ _ => trivial)); (case aO => exact (mR HO144)); (case aS => exact (below_size (mH HB))); (case aL => have := LMc2.out; have hz := Ny142.out; subst hz; simp only [List.length_nil]; omega); intro v146 w5 ho hb hg hat; have hz := Ny142.out; rw [hz, List.nil_append] at ho; clear hz; replace HB := kA (hb); have HO147 := kA (ho); clear HO144; clear ho hb hg hat))
   go_ret
   exact ⟨_, rfl, mR HO147, mH HB⟩
 ·
  rw [if_neg hlim] at h
  cases h
abbrev B23_0 : Array Bool := #[false, false, false, false, false, false, false, false, false, false, false, false, false, false, false]
abbrev B23_1 := B23_0.set! 2 true
abbrev B23_2 := B23_1.set! 4 true
abbrev B23_3 := B23_2.set! 7 true
abbrev B23_4 := B23_3.set! 8 true
abbrev B23_5 := B23_4.set! 9 true
abbrev B23_6 := B23_5.set! 12 true
abbrev B23_7 := B23_6.set! 0 true
abbrev B23_8 := B23_7.set! 3 true
abbrev B23_9 := B23_8.set! 5 true
abbrev B23_10 := B23_9.set! 6 true
abbrev B23_11 := B23_10.set! 1 true
abbrev B23_12 := B23_11.set! 10 true
abbrev B23_13 := B23_12.set! 11 true
abbrev B23_14 := B23_13.set! 13 true
abbrev B23_15 := B23_14.set! 14 true
abbrev B23_16 : Array Bool := #[false, false, false, false, false, false, false, false, false, false, false, false, false, false, false, false, false, false, false, false, false, false, false]
abbrev B23_17 := B23_16.set! 0 true
abbrev B23_18 := B23_17.set! 1 true
abbrev B23_19 := B23_18.set! 2 true
abbrev B23_20 := B23_19.set! 4 true
abbrev B23_21 := B23_20.set! 5 true
abbrev B23_22 := B23_21.set! 6 true
abbrev B23_23 := B23_22.set! 8 true
abbrev B23_24 := B23_23.set! 12 true
abbrev B23_25 := B23_24.set! 14 true
abbrev B23_26 := B23_25.set! 15 true
abbrev B23_27 := B23_26.set! 3 true
abbrev B23_28 := B23_27.set! 7 true
abbrev B23_29 := B23_28.set! 9 true
abbrev B23_30 := B23_29.set! 10 true
abbrev B23_31 := B23_30.set! 11 true
abbrev B23_32 := B23_31.set! 13 true
abbrev B23_33 := B23_32.set! 16 true
abbrev B23_34 := B23_33.set! 17 true
abbrev B23_35 := B23_34.set! 18 true
abbrev B23_36 := B23_35.set! 19 true
abbrev B23_37 := B23_36.set! 20 true
abbrev B23_38 := B23_37.set! 21 true
abbrev B23_39 := B23_38.set! 22 true
mutual
def file_Write.j0 : Nat → Int → Int → Int → List Int → Bool → List (S28) → Option ((List (S28)) × (List (S60)) × Int)
 | 0, _, _, _, _, _, _ => none
 | k + 1, x1, x2, x3, x4, x18, x255000 => if x18 = true then (some (([] : List (S28)), ([] : List (S60)), 1)) else (if (x4.length : Int) = 0 then ((dir_Copy.f k x255000).bind fun t257 => (some (t257, ([] : List (S60)), 0))) else ((span_Fits.f x3 (x4.length : Int)).bind fun t260 => (if t260 = true then ((quota_Used.f k x255000).bind fun t261 => (if 0 ≤ x2 then (if x2 < (x255000.length : Int) then ((quota_More.f k ((rU x255000 x2).f0) ((rU x255000 x2).f1) ((rU x255000 x2).f2) ((rU x255000 x2).f3) ((rU x255000 x2).f4) x3 (x4.length : Int)).bind fun t263 => (if (wrap64 (t261 + t263)) > x1 then (some (([] : List (S28)), ([] : List (S60)), 13)) else ((dir_Copy.f k x255000).bind fun t264 => (if x2 < (t264.length : Int) then ((span_Pieces.f k x3 (x4.length : Int)).bind fun t271 => (file_Write.l0 k x2 x4 ([] : List (S60)) t271 (t271.length : Int) 0 (t264.set (x2 : Int).toNat (⟨(rU t264 x2).f0, (rU t264 x2).f1, mx ((rU t264 x2).f2) (wrap64 (x3 + (x4.length : Int))), (rU t264 x2).f3, (rU t264 x2).f4⟩ : S28)))) else (none))))) else (none)) else (none))) else (some (([] : List (S28)), ([] : List (S60)), 16)))))
def file_Write.l0 : Nat → Int → List Int → List (S60) → List (S41) → Int → Int → List (S28) → Option ((List (S28)) × (List (S60)) × Int)
 | 0, _, _, _, _, _, _, _ => none
 | k + 1, x2, x4, x15, x78, x79, x80, x268000 => if x80 < x79 then (if 0 ≤ x80 then (if x80 < (x78.length : Int) then (if 0 ≤ x2 then (if x2 < (x268000.length : Int) then (if 0 ≤ ((rX x78 x80).f0) then (if ((rX x78 x80).f0) < (((rU x268000 x2).f3).length : Int) then (if 0 ≤ ((rX x78 x80).f2) then (if ((rX x78 x80).f2) ≤ (x4.length : Int) then ((slices_Clone_byte_byte.f (x4.take (((rX x78 x80).f2) : Int).toNat)).bind fun t283 => (if x15.length < 2199023255552 then (file_Write.l0 k x2 (x4.drop (((rX x78 x80).f2) : Int).toNat) (x15 ++ [(⟨x2, (rX x78 x80).f0, rd ((rU x268000 x2).f3) ((rX x78 x80).f0), 16, (rX x78 x80).f1, t283⟩ : S60)]) x78 x79 (wrap64 (x80 + 1)) x268000) else (none))) else (none)) else (none)) else (none)) else (none)) else (none)) else (none)) else (none)) else (none)) else (some (x268000, x15, 0))
end
def file_Write.f (k : Nat) (l0_0 : List (S28)) (a1 : Int) (a2 : Int) (a3 : Int) (l4 : List Int) : Option ((List (S28)) × (List (S60)) × Int) := (file_is.f k l0_0 a2).bind fun t256 => (if t256 = true then (file_Write.j0 k a1 a2 a3 l4 (decide (a3 < 0)) l0_0) else (none))
theorem file_Write.mono_l : ∀ k, (∀ y0 y1 y2 y3 y4 y5, LeO (file_Write.j0 k y0 y1 y2 y3 y4 y5) (file_Write.j0 (k + 1) y0 y1 y2 y3 y4 y5)) ∧ (∀ y0 y1 y2 y3 y4 y5 y6, LeO (file_Write.l0 k y0 y1 y2 y3 y4 y5 y6) (file_Write.l0 (k + 1) y0 y1 y2 y3 y4 y5 y6))
 | 0 => ⟨fun _ _ _ _ _ _ r h => by simp [file_Write.j0] at h, fun _ _ _ _ _ _ _ r h => by simp [file_Write.l0] at h⟩
 | k + 1 => by
  obtain ⟨ih0, ih1⟩ := file_Write.mono_l k; refine ⟨?_, ?_⟩
  ·
   intro y0 y1 y2 y3 y4 y5
   unfold file_Write.j0
   repeat' with_reducible first | apply ih0 | apply ih1 | apply dir_Copy.mono | apply file_is.mono | apply quota_More.mono | apply quota_Used.mono | apply span_Pieces.mono | exact LeO.refl _ | exact LeO.none _ | refine LeO.ite ?_ ?_ | refine LeO.bind ?_ (fun _ => ?_)
  ·
   intro y0 y1 y2 y3 y4 y5 y6
   unfold file_Write.l0
   repeat' with_reducible first | apply ih0 | apply ih1 | apply dir_Copy.mono | apply file_is.mono | apply quota_More.mono | apply quota_Used.mono | apply span_Pieces.mono | exact LeO.refl _ | exact LeO.none _ | refine LeO.ite ?_ ?_ | refine LeO.bind ?_ (fun _ => ?_)
theorem file_Write.mono : ∀ a0 a1 a2 a3 a4 k, LeO (file_Write.f k a0 a1 a2 a3 a4) (file_Write.f (k + 1) a0 a1 a2 a3 a4) := by
 intro a0 a1 a2 a3 a4 k; obtain ⟨ih0, ih1⟩ := file_Write.mono_l k
 unfold file_Write.f
 repeat' with_reducible first | apply ih0 | apply ih1 | apply dir_Copy.mono | apply file_is.mono | apply quota_More.mono | apply quota_Used.mono | apply span_Pieces.mono | exact LeO.refl _ | exact LeO.none _ | refine LeO.ite ?_ ?_ | refine LeO.bind ?_ (fun _ => ?_)
def file_Write.T7 : Bool × List (List Nat × List Nat) := (true, [([], []), ([0], [0]), ([], []), ([2], [2]), ([], []), ([3, 4], [3, 4]), ([5], [5]), ([], []), ([], []), ([8], [8]), ([6, 7, 9, 1], [6, 7, 9]), ([1, 10], [1, 10]), ([], []), ([11, 12], [11, 12]), ([13, 10], [13])])
def file_Write.B7 : List Nat := [0, 1, 0, 4, 0, 28, 60, 0, 0, 256, 1023, 2047, 0, 8191, 16383]
theorem file_Write.tab7 : rtab .any (opsOf Try.f34 7) = file_Write.T7 := by kernel_rfl
theorem file_Write.bits7 : waitsOk file_Write.T7.2 file_Write.B7 = true := by kernel_rfl
def file_Write.T16 : Bool × List (List Nat × List Nat) := (true, [([], []), ([], []), ([], []), ([2], [2]), ([], []), ([4], [4]), ([5], [5]), ([6], [6]), ([], []), ([8], [8]), ([7, 9], [7, 9]), ([10], [10]), ([], []), ([12], [12]), ([], []), ([], []), ([15], [15]), ([14, 16], [14, 16]), ([17], [17]), ([1, 3, 11, 13, 18], [1, 3, 11, 13, 18]), ([19], [19]), ([0, 20, 18], [0, 20]), ([21, 21, 0, 1, 2, 3, 4, 5, 6, 7, 8, 9, 10, 11, 12, 13, 14, 15, 16, 17, 18, 19, 20, 21], [0, 21])])
def file_Write.B16 : List Nat := [0, 0, 0, 4, 0, 16, 48, 112, 0, 256, 1008, 2032, 0, 4096, 0, 0, 32768, 114688, 245760, 524286, 1048574, 2097151, 4194303]
theorem file_Write.tab16 : rtab .any (opsOf Try.f34 16) = file_Write.T16 := by kernel_rfl
theorem file_Write.bits16 : waitsOk file_Write.T16.2 file_Write.B16 = true := by kernel_rfl
set_option maxHeartbeats 8000000 in
set_option maxRecDepth 100000 in
theorem file_Write.calls (k : Nat) (A0_0 : Option Addr) (c0_0 : Nat) (l0_0 : List (S28)) (a1 : Int) (a2 : Int) (a3 : Int) (P4_ : Nat → Prop) (A4 : Option Addr) (c4 : Nat) (l4 : List Int) (r1 : List (S28)) (r2 : List (S60)) (r3 : Int) (w : World) (hr0_0 : Kd.C k28 w A0_0 l0_0.length l0_0) (hc0_0 : l0_0.length ≤ c0_0) (hs4 : Kd.V (Kd.int .u8) 5 w w.heap.size (fun k_ => P4_ k_) (.slice A4 l4.length c4) l4) (h : file_Write.f k l0_0 a1 a2 a3 l4 = some (r1, r2, r3)) :
 Calls Try.prog 34 #[.agg #[.slice A0_0 l0_0.length c0_0], .int .i64 a1, .int .i64 a2, .int .i64 a3, .slice A4 l4.length c4] w fun e w' => ∃ v0_ v1_ : Value, e = .returned (.tuple #[.agg #[v0_], v1_, .int .i64 r3]) ∧ Kd.S k28 28 w' w.heap.size (fun k_ => (w.heap.size ≤ k_)) v0_ r1 ∧ Kd.S k60 60 w' w.heap.size (fun k_ => (w.heap.size ≤ k_)) v1_ r2 ∧ Below w.heap.size w w' := by
 have hu24 := Try.underlying24; have hu28 := Try.underlying28; have hu41 := Try.underlying41; have hu60 := Try.underlying60; have HR0_0 := kA hr0_0; have HC0_0 := kA hc0_0; clear hr0_0 hc0_0; have HO4 := kA (show Kd.V (Kd.int .u8) 5 w w.heap.size (fun k_ => (P4_ k_ ∨ w.heap.size ≤ k_)) (.slice A4 l4.length c4) l4 from Kd.V_mono hs4 (fun k_ hk => .inl hk)); have HB := kA (Below.refl w.heap.size w); have H : ((file_is.f k l0_0 a2).bind fun t256 => (if t256 = true then (file_Write.j0 k a1 a2 a3 l4 (decide (a3 < 0)) l0_0) else (none))) = some (r1, r2, r3) := h; clear h; have HC6 := kA H; clear H
 go_enter Try.func34, Try.ntmps34
 go_upto_region 1 with (first | ((with_reducible refine gate_dst (N := 5) rfl ?_); refine bxE 24 (cs := #[.slice A0_0 l0_0.length c0_0]) ?_; intro gb254 hg w7 hbox hb; replace HO4 := kA (Kd.V_below (Kd.V_elderB (mV HO4) gb254 (Nat.le_of_eq hg.symm)) hb); have BK254 := kA hbox; have GW254 := kG HB hg; have GE254 := kG HB hg; replace HB := kH HB hb; clear hb hbox hg) | ((with_reducible refine gate_dst (N := 10) rfl ?_); refine bxE 24 (cs := #[.slice none 0 0]) ?_; intro gb255 hg w8 hbox hb; replace HO4 := kA (Kd.V_below (Kd.V_elderB (mV HO4) gb255 (Nat.le_of_eq hg.symm)) hb); have BK255 := kA hbox; have GW255 := kG HB hg; have GE255 := kG HB hg; replace HB := kH HB hb; have NB254_255 := kL BK254 hg; have NB255_254 := kQ BK254 hg; replace BK254 := kB BK254 hb; clear hb hbox hg))
 (try simp only [Act.put, lT, l0_, lS])
 go_cut [18] (fun v18 wc => ∃ (kq : Nat) (x18_5 : Bool), v18 = .bool x18_5 ∧ Aside0 (file_Write.j0 kq a1 a2 a3 l4 x18_5 l0_0 = some (r1, r2, r3)) ∧ Aside0 (kq ≤ k) ∧ Aside0 (Kd.V (Kd.int .u8) 5 wc w.heap.size (fun k_ => (P4_ k_ ∨ w.heap.size ≤ k_) ∧ k_ ≠ gb254 ∧ k_ ≠ gb255) (.slice A4 l4.length c4) l4) ∧ Aside0 (wc.heap[gb254]? = some (.cells #[(.slice A0_0 l0_0.length c0_0)] 24 (0, 0))) ∧ Aside0 (wc.heap[gb255]? = some (.cells #[(.slice none 0 0)] 24 (0, 0))) ∧ Aside0 (Below w.heap.size w wc))
 case first =>
  have H := HC6.out; clear HC6; replace H := qB H; obtain ⟨t256, A90, H⟩ := H; have A9 := kA A90; clear A90
  by_cases c10 : t256 = true
  ·
   subst c10
   have H1 : (file_Write.j0 k a1 a2 a3 l4 (decide (a3 < 0)) l0_0) = some (r1, r2, r3) := by rw [if_pos rfl] at H; exact H
   clear H; have H := H1; clear H1; have H' := kA H; clear H; have hnb11 := NB254_255.out; have hnc11 := NB255_254.out; obtain ⟨hcz12_0, hfz12_0⟩ := cY0 BK254
   go_wp2_with (first | ((with_reducible refine gate_callee (f := 56) rfl ?_); refine goesK (some 21) Try.func56 #[.agg #[.slice A0_0 l0_0.length c0_0], .int .i64 a2] ?_; (with_reducible refine (file_is.calls k _ _ l0_0 a2 true _ ?side1 ?side2 A9.out).mono ?_); (case side1 => exact mC HR0_0 HB); (case side2 => exact HC0_0.out); rintro e w13 ⟨rfl, hb⟩; refine ⟨_, rfl, ?_⟩; replace HO4 := kV HO4 hb; replace BK254 := kB BK254 hb; replace BK255 := kB BK255 hb; replace HB := kH HB hb; (try clear hb); (try clear hk)))
   go_meet
   case rel => exact ⟨_, (decide (a3 < 0)), sI, H', ⟨by first | omega | exact Nat.le_refl _⟩, ⟨by (with_reducible repeat (first | apply Kd.V_alloc | apply Kd.V_drewN | apply Kd.V_drew)); exact Kd.V_mono HO4.out (fun _ hk => by first | exact ⟨hk.1.1, ⟨hk.1.2, hk.2⟩⟩ | (go_split_ands; and_intros <;> assumption))⟩, ⟨mB BK254⟩, ⟨mB BK255⟩, ⟨mH HB⟩⟩
  ·
   replace c10 := Bool.eq_false_iff.mpr c10; subst c10
   have H1 : (none) = some (r1, r2, r3) := by rw [if_neg (show ¬ (false = true) by decide)] at H; exact H
   clear H; have H := H1; clear H1; exact absurd H (by simp)
 case rest =>
  clear HC6
  (try clear c4)
  obtain ⟨kq, x18_5, rfl, HA, HJ5, HO_4, BK254, BK255, HB⟩ := hcut
  cases kq with
  | zero => exact absurd HA.out (by simp [file_Write.j0])
  | succ kj5 =>
   have H := HA.out; clear HA; simp only [file_Write.j0] at H
   by_cases c14 : x18_5 = true
   ·
    subst c14
    have H1 : (some (([] : List (S28)), ([] : List (S60)), 1)) = some (r1, r2, r3) := by rw [if_pos rfl] at H; exact H
    clear H; have H := H1; clear H1; simp only [Option.some.injEq, Prod.mk.injEq] at H; obtain ⟨rfl, rfl, rfl⟩ := H; have hnb15 := NB255_254.out; have hnc15 := NB254_255.out; obtain ⟨hcz16_0, hfz16_0⟩ := cY0 BK255
    go_wp2
    refine bodyPost_ret (results_ctt rfl _ _ gb255 24 #[.slice none 0 0] (0, 0) _ rfl (pP BK255) Try.underlying24 rfl (by kernel_rfl)) rfl ?_
    exact ⟨_, _, rT, by first | exact Kd.S_nil _ _ _ _ _ | exact Kd.N_nil _ _ _ _ _ | exact Kd.V_nil _ _ _ _ _ | exact Kd.Q_nil _ _ _ _ _ | exact Kd.R_nil _ _ _ _ _, by first | exact Kd.S_nil _ _ _ _ _ | exact Kd.N_nil _ _ _ _ _ | exact Kd.V_nil _ _ _ _ _ | exact Kd.Q_nil _ _ _ _ _ | exact Kd.R_nil _ _ _ _ _, mH HB⟩
   ·
    replace c14 := Bool.eq_false_iff.mpr c14; subst c14
    have H1 : (if (l4.length : Int) = 0 then ((dir_Copy.f kj5 l0_0).bind fun t257 => (some (t257, ([] : List (S60)), 0))) else ((span_Fits.f a3 (l4.length : Int)).bind fun t260 => (if t260 = true then ((quota_Used.f kj5 l0_0).bind fun t261 => (if 0 ≤ a2 then (if a2 < (l0_0.length : Int) then ((quota_More.f kj5 ((rU l0_0 a2).f0) ((rU l0_0 a2).f1) ((rU l0_0 a2).f2) ((rU l0_0 a2).f3) ((rU l0_0 a2).f4) a3 (l4.length : Int)).bind fun t263 => (if (wrap64 (t261 + t263)) > a1 then (some (([] : List (S28)), ([] : List (S60)), 13)) else ((dir_Copy.f kj5 l0_0).bind fun t264 => (if a2 < (t264.length : Int) then ((span_Pieces.f kj5 a3 (l4.length : Int)).bind fun t271 => (file_Write.l0 kj5 a2 l4 ([] : List (S60)) t271 (t271.length : Int) 0 (t264.set (a2 : Int).toNat (⟨(rU t264 a2).f0, (rU t264 a2).f1, mx ((rU t264 a2).f2) (wrap64 (a3 + (l4.length : Int))), (rU t264 a2).f3, (rU t264 a2).f4⟩ : S28)))) else (none))))) else (none)) else (none))) else (some (([] : List (S28)), ([] : List (S60)), 16))))) = some (r1, r2, r3) := by rw [if_neg (show ¬ (false = true) by decide)] at H; exact H
    clear H; have H := H1; clear H1
    by_cases c17 : (l4.length : Int) = 0
    ·
     rw [if_pos c17] at H; obtain ⟨c17b0, c17b1⟩ := eP c17; clear c17; replace H := qB H; obtain ⟨t257, A180, H⟩ := H; have A18 := kA A180; clear A180; simp only [Option.some.injEq, Prod.mk.injEq] at H; obtain ⟨rfl, rfl, rfl⟩ := H; have hnb19 := NB254_255.out; have hnc19 := NB255_254.out; obtain ⟨hcz20_0, hfz20_0⟩ := cY0 BK254
     go_wp2_with (first | ((with_reducible refine gate_callee (f := 57) rfl ?_); refine goesK (some 33) Try.func57 #[.agg #[.slice A0_0 l0_0.length c0_0]] ?_; (with_reducible refine (dir_Copy.calls kj5 _ _ l0_0 t257 _ ?side1 ?side2 A18.out).mono ?_); (case side1 => exact mC HR0_0 HB); (case side2 => exact HC0_0.out); rintro e w21 ⟨v258, rfl, ho0, hb⟩; refine ⟨_, rfl, ?_⟩; replace HO_4 := kA (Kd.V_elder' (mV HO_4) (Kd.S_base ho0) hb); have HO259 := kA (Kd.S_lower (Kd.S_newM (M := fun k_ => (w.heap.size ≤ k_)) ho0 (below_size (mH HB)) (fun k_ h_ => h_)) (below_size (mH HB))); replace BK254 := kB BK254 hb; replace BK255 := kB BK255 hb; replace HB := kH HB hb; (try clear hb); (try clear hk); (try clear ho0); obtain ⟨Ao22, co22, eo22⟩ := Kd.S_slice HO259.out; subst eo22; obtain ⟨hcz23_0, hfz23_0⟩ := cY0 BK255))
     refine bodyPost_ret (results_ctt rfl _ _ gb255 24 #[.slice Ao22 t257.length co22] (0, 0) _ rfl (pP BK255) Try.underlying24 rfl (by kernel_rfl)) rfl ?_
     exact ⟨_, _, rT, fS ⟨Kd.S_types HO259.out BK255.out (by decide)⟩ (fun _ hk => hk.1.1), by first | exact Kd.S_nil _ _ _ _ _ | exact Kd.N_nil _ _ _ _ _ | exact Kd.V_nil _ _ _ _ _ | exact Kd.Q_nil _ _ _ _ _ | exact Kd.R_nil _ _ _ _ _, mH HB⟩
    ·
     rw [if_neg c17] at H; obtain ⟨c17b0, c17b1⟩ := eN c17
     have c17b2 : ¬ (l4 = []) := fun h_ => c17 (by rw [h_]; rfl)
     replace H := qB H; obtain ⟨t260, A240, H⟩ := H; have A24 := kA A240; clear A240
     by_cases c25 : t260 = true
     ·
      subst c25
      have H1 : ((quota_Used.f kj5 l0_0).bind fun t261 => (if 0 ≤ a2 then (if a2 < (l0_0.length : Int) then ((quota_More.f kj5 ((rU l0_0 a2).f0) ((rU l0_0 a2).f1) ((rU l0_0 a2).f2) ((rU l0_0 a2).f3) ((rU l0_0 a2).f4) a3 (l4.length : Int)).bind fun t263 => (if (wrap64 (t261 + t263)) > a1 then (some (([] : List (S28)), ([] : List (S60)), 13)) else ((dir_Copy.f kj5 l0_0).bind fun t264 => (if a2 < (t264.length : Int) then ((span_Pieces.f kj5 a3 (l4.length : Int)).bind fun t271 => (file_Write.l0 kj5 a2 l4 ([] : List (S60)) t271 (t271.length : Int) 0 (t264.set (a2 : Int).toNat (⟨(rU t264 a2).f0, (rU t264 a2).f1, mx ((rU t264 a2).f2) (wrap64 (a3 + (l4.length : Int))), (rU t264 a2).f3, (rU t264 a2).f4⟩ : S28)))) else (none))))) else (none)) else (none))) = some (r1, r2, r3) := by rw [if_pos rfl] at H; exact H
      clear H; have H := H1; clear H1; replace H := qB H; obtain ⟨t261, A260, H⟩ := H; have A26 := kA A260; clear A260
      replace H := nP H; obtain ⟨c27, H⟩ := H; have c27b0 := qT c27; clear c27
      replace H := nP H; obtain ⟨c28, H⟩ := H; have c28b0 := qT c28; clear c28; replace H := qB H; obtain ⟨t263, A290, H⟩ := H; have A29 := kA A290; clear A290
      by_cases c30 : (wrap64 (t261 + t263)) > a1
      ·
       rw [if_pos c30] at H; have c30b0 : decide (a1 < (wrap64 (t261 + t263))) = true := qT c30; clear c30; simp only [Option.some.injEq, Prod.mk.injEq] at H; obtain ⟨rfl, rfl, rfl⟩ := H
       try go_wp2_with (first | ((with_reducible refine gate_callee (f := 58) rfl ?_); refine goesK (some 38) Try.func58 #[.int .i64 a3, .int .i64 (l4.length : Int)] ?_; (with_reducible refine (span_Fits.calls a3 (l4.length : Int) true _ A24.out).mono ?_); rintro e w' ⟨rfl, ⟨nd, rfl⟩⟩; refine ⟨_, rfl, ?_⟩; (try (rw [drewN_self wc]; generalize hq_ : World.drewN wc _ = wc; have n0_ : Aside0 (Kd.V (Kd.int .u8) 5 wc w.heap.size (fun k_ => (P4_ k_ ∨ w.heap.size ≤ k_) ∧ k_ ≠ gb254 ∧ k_ ≠ gb255) (.slice A4 l4.length c4) l4) := ⟨by rw [← hq_]; exact (mV HO_4)⟩; have n1_ : Aside0 (wc.heap[gb254]? = some (.cells #[.slice A0_0 l0_0.length c0_0] 24 (0, 0))) := ⟨by rw [← hq_]; exact (mB BK254)⟩; have n2_ : Aside0 (wc.heap[gb255]? = some (.cells #[.slice none 0 0] 24 (0, 0))) := ⟨by rw [← hq_]; exact (mB BK255)⟩; have n3_ : Aside0 (Below w.heap.size w wc) := ⟨by rw [← hq_]; exact (mH HB)⟩; clear HO_4 BK254 BK255 HB hq_; have HO_4 := n0_; have BK254 := n1_; have BK255 := n2_; have HB := n3_; clear n0_ n1_ n2_ n3_))))
       replace HO_4 := kA (Kd.V_drew HO_4.out); replace BK254 := kA (bD BK254.out); replace BK255 := kA (bD BK255.out); replace HB := kA (wD HB.out); have p262 : 0 ≤ (a2 : Int) := dT; have q262 : a2 < (l0_0.length : Int) := dT; obtain ⟨ad262, A262_3, c262_3, A262_4, c262_4, e262, hx262_0, hx262_1, hx262_2, hx262_3, hx262_4, hl262_3, hi262_3, hl262_4, hi262_4⟩ := at_T28 HR0_0.out a2 p262 q262; have hw262_4 := hx262_4; have hw262_3 := hx262_3; have hw262_2 := hx262_2; have hw262_1 := hx262_1; have hw262_0 := hx262_0
       cases e262
       replace hx262_0 := xC HB hx262_0; replace hx262_1 := xC HB hx262_1; replace hx262_2 := xC HB hx262_2; replace hx262_3 := xC HB hx262_3; replace hx262_4 := xC HB hx262_4; have HR262_3 := kA hi262_3; have HC262_3 := kA hl262_3; clear hi262_3 hl262_3; have HR262_4 := kA hi262_4; have HC262_4 := kA hl262_4; clear hi262_4 hl262_4; replace p262 := eq_true p262; replace q262 := eq_true q262; refine start_ (n := 15) (S := fun w' => w'.cell? ⟨gb254, 0, none⟩ = some (.slice (some ad262) l0_0.length c0_0) ∧ w'.cell? (ad262.add ((a2).toNat * 5)) = some (.int .i64 ((rU l0_0 a2).f0)) ∧ w'.cell? ⟨(ad262.add ((a2).toNat * 5)).block, (ad262.add ((a2).toNat * 5)).off + 1, none⟩ = some (.int .i64 ((rU l0_0 a2).f1)) ∧ w'.cell? ⟨(ad262.add ((a2).toNat * 5)).block, (ad262.add ((a2).toNat * 5)).off + 2, none⟩ = some (.int .i64 ((rU l0_0 a2).f2)) ∧ w'.cell? ⟨(ad262.add ((a2).toNat * 5)).block, (ad262.add ((a2).toNat * 5)).off + 3, none⟩ = some (.slice A262_3 ((rU l0_0 a2).f3).length c262_3) ∧ w'.cell? ⟨(ad262.add ((a2).toNat * 5)).block, (ad262.add ((a2).toNat * 5)).off + 4, none⟩ = some (.slice A262_4 ((rU l0_0 a2).f4).length c262_4)) (ds := []) B23_0 (by kernel_rfl) rfl rfl ⟨cZ0 BK254, (xC HB hw262_0), (xC HB hw262_1), (xC HB hw262_2), (xC HB hw262_3), (xC HB hw262_4)⟩ (fun hHeld => ?_); refine with_tabW file_Write.tab7 file_Write.bits7 (fun HT_ HW_ => ?_); generalize wc.drew = w31 at HO_4 BK254 BK255 HB HR262_3 HR262_4 hx262_0 hx262_1 hx262_2 hx262_3 hx262_4 hHeld ⊢; refine pure_ (i := 2) (N := some 44) (v := ?_) (a' := ?_) B23_1 rfl rfl (any_of HT_.out (by kernel_rfl)) (fun _ _ _ h => h) (Or.inl ⟨by rfl, ?_⟩) ?_ ?_; rotate_left
       ·
        intro w'; go_simp; with_reducible rfl
       rotate_left
       ·
        simp only [Act.put, lT, l0_, lS, i64_w, i32_w]; rfl
       refine pE 4 46 B23_2 HT_ ?_
       refine pE 7 49 B23_3 HT_ ?_
       refine pE 8 50 B23_4 HT_ ?_
       refine pE 9 51 B23_5 HT_ ?_
       refine pE 12 54 B23_6 HT_ ?_
       refine tE 0 42 B23_7 HT_ HW_ hHeld ?_
       refine tE 3 45 B23_8 HT_ HW_ hHeld ?_
       refine pE 5 47 B23_9 HT_ ?_
       refine tE 6 48 B23_10 HT_ HW_ hHeld ?_
       refine one_ (i := 1) (N := some 43) B23_11 rfl rfl (one_of HT_.out (by kernel_rfl)) (by decide) (fun K hK => ?_); refine goes_ Try.func16 (by kernel_rfl) rfl #[.agg #[.slice (some ad262) l0_0.length c0_0]] (by rfl) rfl rfl (by (try simp only [List.map_toArray, List.map_cons, List.map_nil]); first | done | rfl | (simp only [List.length_drop, List.length_take]; rfl)) ?_
       with_reducible refine (quota_Used.calls kj5 _ _ l0_0 t261 _ ?side1 ?side2 A26.out).mono ?_
       (case side1 => exact mC HR0_0 HB)
       (case side2 => exact HC0_0.out)
       rintro e w32 ⟨rfl, hb⟩; refine ⟨_, rfl, ?_⟩; replace HO_4 := kV HO_4 hb; replace BK254 := kB BK254 hb; replace BK255 := kB BK255 hb; replace HB := kH HB hb
       (try clear hb); (try clear hk)
       refine hK.out _ _ ⟨cZ0 BK254, (xC HB hw262_0), (xC HB hw262_1), (xC HB hw262_2), (xC HB hw262_3), (xC HB hw262_4)⟩ (fun hHeld => ?_); clear hK K; refine norm_ (a' := ?_) ?_ ?_; rotate_left
       ·
        show Act.put _ (some 43) _ = _
        simp only [Act.put, lT, l0_, lS, i64_w, i32_w]; rfl
       refine one_ (i := 10) (N := some 52) B23_12 rfl rfl (one_of HT_.out (by kernel_rfl)) (by decide) (fun K hK => ?_); refine goes_ Try.func22 (by kernel_rfl) rfl #[.agg #[.int .i64 ((rU l0_0 a2).f0), .int .i64 ((rU l0_0 a2).f1), .int .i64 ((rU l0_0 a2).f2), .slice A262_3 ((rU l0_0 a2).f3).length c262_3, .slice A262_4 ((rU l0_0 a2).f4).length c262_4], .int .i64 a3, .int .i64 (l4.length : Int)] (by rfl) rfl rfl (by (try simp only [List.map_toArray, List.map_cons, List.map_nil]); first | done | rfl | (simp only [List.length_drop, List.length_take]; rfl)) ?_
       with_reducible refine (quota_More.calls kj5 ((rU l0_0 a2).f0) ((rU l0_0 a2).f1) ((rU l0_0 a2).f2) _ _ ((rU l0_0 a2).f3) _ _ ((rU l0_0 a2).f4) a3 (l4.length : Int) t263 _ ?side1 ?side2 ?side3 ?side4 A29.out).mono ?_
       (case side1 => exact mC HR262_3 HB)
       (case side2 => exact HC262_3.out)
       (case side3 => exact mC HR262_4 HB)
       (case side4 => exact HC262_4.out)
       rintro e w33 ⟨rfl, hb⟩; refine ⟨_, rfl, ?_⟩; replace HO_4 := kV HO_4 hb; replace BK254 := kB BK254 hb; replace BK255 := kB BK255 hb; replace HB := kH HB hb
       (try clear hb); (try clear hk)
       refine hK.out _ _ ⟨cZ0 BK254, (xC HB hw262_0), (xC HB hw262_1), (xC HB hw262_2), (xC HB hw262_3), (xC HB hw262_4)⟩ (fun hHeld => ?_); clear hK K; refine norm_ (a' := ?_) ?_ ?_; rotate_left
       ·
        show Act.put _ (some 52) _ = _
        simp only [Act.put, lT, l0_, lS, i64_w, i32_w]; rfl
       refine pE 11 53 B23_13 HT_ ?_
       refine pE 13 55 B23_14 HT_ ?_
       refine pE 14 41 B23_15 HT_ ?_
       refine done_ (done_of HT_.out (by kernel_rfl)) ?_; have hnb34 := NB255_254.out; have hnc34 := NB254_255.out; obtain ⟨hcz35_0, hfz35_0⟩ := cY0 BK255
       try go_wp2
       refine bodyPost_ret (results_ctt rfl _ _ gb255 24 #[.slice none 0 0] (0, 0) _ rfl (pP BK255) Try.underlying24 rfl (by kernel_rfl)) rfl ?_
       exact ⟨_, _, rT, by first | exact Kd.S_nil _ _ _ _ _ | exact Kd.N_nil _ _ _ _ _ | exact Kd.V_nil _ _ _ _ _ | exact Kd.Q_nil _ _ _ _ _ | exact Kd.R_nil _ _ _ _ _, by first | exact Kd.S_nil _ _ _ _ _ | exact Kd.N_nil _ _ _ _ _ | exact Kd.V_nil _ _ _ _ _ | exact Kd.Q_nil _ _ _ _ _ | exact Kd.R_nil _ _ _ _ _, mH HB⟩
      ·
       rw [if_neg c30] at H; have c30b0 : decide (a1 < (wrap64 (t261 + t263))) = false := qF c30; clear c30; replace H := qB H; obtain ⟨t264, A360, H⟩ := H; have A36 := kA A360; clear A360
       replace H := nP H; obtain ⟨c37, H⟩ := H; have c37b0 := qT c37; clear c37; obtain ⟨ji38, hji38⟩ : ∃ j_ : Int, (mx ((rU t264 a2).f2) (wrap64 (a3 + (l4.length : Int)))) = j_ := ⟨_, rfl⟩
       replace H : ((span_Pieces.f kj5 a3 (l4.length : Int)).bind fun t271 => (file_Write.l0 kj5 a2 l4 ([] : List (S60)) t271 (t271.length : Int) 0 (t264.set (a2 : Int).toNat (⟨(rU t264 a2).f0, (rU t264 a2).f1, ji38, (rU t264 a2).f3, (rU t264 a2).f4⟩ : S28)))) = some (r1, r2, r3) := by first | (rw [hji38] at H; exact H) | (simp only [hji38] at H ⊢; exact H)
       (try rw [hji38] at A24)
       (try rw [hji38] at A26)
       (try rw [hji38] at A29)
       (try rw [hji38] at A36)
       have hji38_ : (if ((rU t264 a2).f2) < (wrap64 (a3 + (l4.length : Int))) then (wrap64 (a3 + (l4.length : Int))) else ((rU t264 a2).f2)) = ji38 := hji38; obtain ⟨y270, hy270⟩ : ∃ y_ : List (S28), y_ = (t264.set (a2 : Int).toNat (⟨(rU t264 a2).f0, (rU t264 a2).f1, ji38, (rU t264 a2).f3, (rU t264 a2).f4⟩ : S28)) := ⟨_, rfl⟩
       replace H : ((span_Pieces.f kj5 a3 (l4.length : Int)).bind fun t271 => (file_Write.l0 kj5 a2 l4 ([] : List (S60)) t271 (t271.length : Int) 0 y270)) = some (r1, r2, r3) := rH H hy270
       have Ny270 := kA hy270; clear hy270; replace H := qB H; obtain ⟨t271, A400, H⟩ := H; have A40 := kA A400; clear A400; have H' := kA H; clear H
       try go_wp2_with (first | ((with_reducible refine gate_callee (f := 58) rfl ?_); refine goesK (some 38) Try.func58 #[.int .i64 a3, .int .i64 (l4.length : Int)] ?_; (with_reducible refine (span_Fits.calls a3 (l4.length : Int) true _ A24.out).mono ?_); rintro e w' ⟨rfl, ⟨nd, rfl⟩⟩; refine ⟨_, rfl, ?_⟩; (try (rw [drewN_self wc]; generalize hq_ : World.drewN wc _ = wc; have n0_ : Aside0 (Kd.V (Kd.int .u8) 5 wc w.heap.size (fun k_ => (P4_ k_ ∨ w.heap.size ≤ k_) ∧ k_ ≠ gb254 ∧ k_ ≠ gb255) (.slice A4 l4.length c4) l4) := ⟨by rw [← hq_]; exact (mV HO_4)⟩; have n1_ : Aside0 (wc.heap[gb254]? = some (.cells #[.slice A0_0 l0_0.length c0_0] 24 (0, 0))) := ⟨by rw [← hq_]; exact (mB BK254)⟩; have n2_ : Aside0 (wc.heap[gb255]? = some (.cells #[.slice none 0 0] 24 (0, 0))) := ⟨by rw [← hq_]; exact (mB BK255)⟩; have n3_ : Aside0 (Below w.heap.size w wc) := ⟨by rw [← hq_]; exact (mH HB)⟩; clear HO_4 BK254 BK255 HB hq_; have HO_4 := n0_; have BK254 := n1_; have BK255 := n2_; have HB := n3_; clear n0_ n1_ n2_ n3_))))
       replace HO_4 := kA (Kd.V_drew HO_4.out); replace BK254 := kA (bD BK254.out); replace BK255 := kA (bD BK255.out); replace HB := kA (wD HB.out); have p262 : 0 ≤ (a2 : Int) := dT; have q262 : a2 < (l0_0.length : Int) := dT; obtain ⟨ad262, A262_3, c262_3, A262_4, c262_4, e262, hx262_0, hx262_1, hx262_2, hx262_3, hx262_4, hl262_3, hi262_3, hl262_4, hi262_4⟩ := at_T28 HR0_0.out a2 p262 q262; have hw262_4 := hx262_4; have hw262_3 := hx262_3; have hw262_2 := hx262_2; have hw262_1 := hx262_1; have hw262_0 := hx262_0
       cases e262
       replace hx262_0 := xC HB hx262_0; replace hx262_1 := xC HB hx262_1; replace hx262_2 := xC HB hx262_2; replace hx262_3 := xC HB hx262_3; replace hx262_4 := xC HB hx262_4; have HR262_3 := kA hi262_3; have HC262_3 := kA hl262_3; clear hi262_3 hl262_3; have HR262_4 := kA hi262_4; have HC262_4 := kA hl262_4; clear hi262_4 hl262_4; replace p262 := eq_true p262; replace q262 := eq_true q262; refine start_ (n := 15) (S := fun w' => w'.cell? ⟨gb254, 0, none⟩ = some (.slice (some ad262) l0_0.length c0_0) ∧ w'.cell? (ad262.add ((a2).toNat * 5)) = some (.int .i64 ((rU l0_0 a2).f0)) ∧ w'.cell? ⟨(ad262.add ((a2).toNat * 5)).block, (ad262.add ((a2).toNat * 5)).off + 1, none⟩ = some (.int .i64 ((rU l0_0 a2).f1)) ∧ w'.cell? ⟨(ad262.add ((a2).toNat * 5)).block, (ad262.add ((a2).toNat * 5)).off + 2, none⟩ = some (.int .i64 ((rU l0_0 a2).f2)) ∧ w'.cell? ⟨(ad262.add ((a2).toNat * 5)).block, (ad262.add ((a2).toNat * 5)).off + 3, none⟩ = some (.slice A262_3 ((rU l0_0 a2).f3).length c262_3) ∧ w'.cell? ⟨(ad262.add ((a2).toNat * 5)).block, (ad262.add ((a2).toNat * 5)).off + 4, none⟩ = some (.slice A262_4 ((rU l0_0 a2).f4).length c262_4)) (ds := []) B23_0 (by kernel_rfl) rfl rfl ⟨cZ0 BK254, (xC HB hw262_0), (xC HB hw262_1), (xC HB hw262_2), (xC HB hw262_3), (xC HB hw262_4)⟩ (fun hHeld => ?_); refine with_tabW file_Write.tab7 file_Write.bits7 (fun HT_ HW_ => ?_); generalize wc.drew = w41 at HO_4 BK254 BK255 HB HR262_3 HR262_4 hx262_0 hx262_1 hx262_2 hx262_3 hx262_4 hHeld ⊢; refine pure_ (i := 2) (N := some 44) (v := ?_) (a' := ?_) B23_1 rfl rfl (any_of HT_.out (by kernel_rfl)) (fun _ _ _ h => h) (Or.inl ⟨by rfl, ?_⟩) ?_ ?_; rotate_left
       ·
        intro w'; go_simp; with_reducible rfl
       rotate_left
       ·
        simp only [Act.put, lT, l0_, lS, i64_w, i32_w]; rfl
       refine pE 4 46 B23_2 HT_ ?_
       refine pE 7 49 B23_3 HT_ ?_
       refine pE 8 50 B23_4 HT_ ?_
       refine pE 9 51 B23_5 HT_ ?_
       refine pE 12 54 B23_6 HT_ ?_
       refine tE 0 42 B23_7 HT_ HW_ hHeld ?_
       refine tE 3 45 B23_8 HT_ HW_ hHeld ?_
       refine pE 5 47 B23_9 HT_ ?_
       refine tE 6 48 B23_10 HT_ HW_ hHeld ?_
       refine one_ (i := 1) (N := some 43) B23_11 rfl rfl (one_of HT_.out (by kernel_rfl)) (by decide) (fun K hK => ?_); refine goes_ Try.func16 (by kernel_rfl) rfl #[.agg #[.slice (some ad262) l0_0.length c0_0]] (by rfl) rfl rfl (by (try simp only [List.map_toArray, List.map_cons, List.map_nil]); first | done | rfl | (simp only [List.length_drop, List.length_take]; rfl)) ?_
       with_reducible refine (quota_Used.calls kj5 _ _ l0_0 t261 _ ?side1 ?side2 A26.out).mono ?_
       (case side1 => exact mC HR0_0 HB)
       (case side2 => exact HC0_0.out)
       rintro e w42 ⟨rfl, hb⟩; refine ⟨_, rfl, ?_⟩; replace HO_4 := kV HO_4 hb; replace BK254 := kB BK254 hb; replace BK255 := kB BK255 hb; replace HB := kH HB hb
       (try clear hb); (try clear hk)
       refine hK.out _ _ ⟨cZ0 BK254, (xC HB hw262_0), (xC HB hw262_1), (xC HB hw262_2), (xC HB hw262_3), (xC HB hw262_4)⟩ (fun hHeld => ?_); clear hK K; refine norm_ (a' := ?_) ?_ ?_; rotate_left
       ·
        show Act.put _ (some 43) _ = _
        simp only [Act.put, lT, l0_, lS, i64_w, i32_w]; rfl
       refine one_ (i := 10) (N := some 52) B23_12 rfl rfl (one_of HT_.out (by kernel_rfl)) (by decide) (fun K hK => ?_); refine goes_ Try.func22 (by kernel_rfl) rfl #[.agg #[.int .i64 ((rU l0_0 a2).f0), .int .i64 ((rU l0_0 a2).f1), .int .i64 ((rU l0_0 a2).f2), .slice A262_3 ((rU l0_0 a2).f3).length c262_3, .slice A262_4 ((rU l0_0 a2).f4).length c262_4], .int .i64 a3, .int .i64 (l4.length : Int)] (by rfl) rfl rfl (by (try simp only [List.map_toArray, List.map_cons, List.map_nil]); first | done | rfl | (simp only [List.length_drop, List.length_take]; rfl)) ?_
       with_reducible refine (quota_More.calls kj5 ((rU l0_0 a2).f0) ((rU l0_0 a2).f1) ((rU l0_0 a2).f2) _ _ ((rU l0_0 a2).f3) _ _ ((rU l0_0 a2).f4) a3 (l4.length : Int) t263 _ ?side1 ?side2 ?side3 ?side4 A29.out).mono ?_
       (case side1 => exact mC HR262_3 HB)
       (case side2 => exact HC262_3.out)
       (case side3 => exact mC HR262_4 HB)
       (case side4 => exact HC262_4.out)
       rintro e w43 ⟨rfl, hb⟩; refine ⟨_, rfl, ?_⟩; replace HO_4 := kV HO_4 hb; replace BK254 := kB BK254 hb; replace BK255 := kB BK255 hb; replace HB := kH HB hb
       (try clear hb); (try clear hk)
       refine hK.out _ _ ⟨cZ0 BK254, (xC HB hw262_0), (xC HB hw262_1), (xC HB hw262_2), (xC HB hw262_3), (xC HB hw262_4)⟩ (fun hHeld => ?_); clear hK K; refine norm_ (a' := ?_) ?_ ?_; rotate_left
       ·
        show Act.put _ (some 52) _ = _
        simp only [Act.put, lT, l0_, lS, i64_w, i32_w]; rfl
       refine pE 11 53 B23_13 HT_ ?_
       refine pE 13 55 B23_14 HT_ ?_
       refine pE 14 41 B23_15 HT_ ?_
       refine done_ (done_of HT_.out (by kernel_rfl)) ?_; have hnb44 := NB254_255.out; have hnc44 := NB255_254.out; obtain ⟨hcz45_0, hfz45_0⟩ := cY0 BK254
       try go_wp2_with (first | ((with_reducible refine gate_callee (f := 57) rfl ?_); refine goesK (some 58) Try.func57 #[.agg #[.slice (some ad262) l0_0.length c0_0]] ?_; (with_reducible refine (dir_Copy.calls kj5 _ _ l0_0 t264 _ ?side1 ?side2 A36.out).mono ?_); (case side1 => exact mC HR0_0 HB); (case side2 => exact HC0_0.out); rintro e w46 ⟨v265, rfl, ho0, hb⟩; refine ⟨_, rfl, ?_⟩; replace HO_4 := kA (Kd.V_elder' (mV HO_4) (Kd.S_base ho0) hb); have HO266 := kA (Kd.S_lower (Kd.S_newM (M := fun k_ => (w.heap.size ≤ k_)) ho0 (below_size (mH HB)) (fun k_ h_ => h_)) (below_size (mH HB))); replace BK254 := kB BK254 hb; replace BK255 := kB BK255 hb; replace HB := kH HB hb; (try clear hb); (try clear hk); (try clear ho0)) | ((with_reducible refine gate_dst (N := 13) rfl ?_); refine bxE 24 (cs := #[.slice none 0 0]) ?_; intro gb267 hg w47 hbox hb; replace HO_4 := kA (Kd.V_below (Kd.V_elderB (mV HO_4) gb267 (Nat.le_of_eq hg.symm)) hb); replace HO266 := kS HO266 hb; have BK267 := kA hbox; have GW267 := kG HB hg; have GE267 := kG HB hg; replace HB := kH HB hb; have NB254_267 := kL BK254 hg; have NB267_254 := kQ BK254 hg; replace BK254 := kB BK254 hb; have NB255_267 := kL BK255 hg; have NB267_255 := kQ BK255 hg; replace BK255 := kB BK255 hb; clear hb hbox hg; obtain ⟨Ao48, co48, eo48⟩ := Kd.S_slice HO266.out; subst eo48; have hnb49 := NB267_254.out; have hnc49 := NB254_267.out; have hnb50 := NB267_255.out; have hnc50 := NB255_267.out; obtain ⟨hcz51_0, hfz51_0⟩ := cY0 BK267) | ((with_reducible refine gate_store (t := 24) (p := 13) rfl ?_); refine store_event (t := 24) (p := 13) (v := ?vo_w52) (w1 := (w47.setCell ⟨gb267, 0, none⟩ (.slice Ao48 t264.length co48))) ?hg ?ho ?hn ?hr ?_; (case ho => rfl); (case hg => rfl); (case hn => rfl); (case hr => first | (go_simp; done) | (go_simp; rfl)); intro w52 hw; have n0_ : Aside0 (Kd.V (Kd.int .u8) 5 w52 w.heap.size (fun k_ => (P4_ k_ ∨ w.heap.size ≤ k_) ∧ some k_ ≠ (.slice Ao48 t264.length co48 : Value).ownBlock ∧ k_ ≠ gb254 ∧ k_ ≠ gb255 ∧ k_ ≠ gb267) (.slice A4 l4.length c4) l4) := ⟨(by rw [hw]; exact (fV HO_4 (fun _ hk => by first | exact ⟨hk.1.1.1, ⟨hk.1.2, ⟨hk.1.1.2.1, ⟨hk.1.1.2.2, hk.2⟩⟩⟩⟩ | (go_split_ands; and_intros <;> assumption))))⟩; have n1_ : Aside0 (Kd.S k28 28 w52 w.heap.size (fun k_ => (w.heap.size ≤ k_)) (.slice Ao48 t264.length co48) t264) := ⟨(by rw [hw]; exact (fS ⟨Kd.S_types HO266.out BK267.out (by decide)⟩ (fun _ hk => hk.1.1)))⟩; have n2_ : Aside0 (w52.heap[gb254]? = some (.cells #[.slice (some ad262) l0_0.length c0_0] 24 (0, 0))) := ⟨(by rw [hw]; exact (mF BK254))⟩; have n3_ : Aside0 (w52.heap[gb255]? = some (.cells #[.slice none 0 0] 24 (0, 0))) := ⟨(by rw [hw]; exact (mF BK255))⟩; have n4_ : Aside0 (w52.heap[gb267]? = some (.cells #[.slice Ao48 t264.length co48] 24 (0, 0))) := ⟨(by rw [hw]; exact (pP BK267))⟩; have n5_ : Aside0 (Below w.heap.size w w52) := ⟨(by rw [hw]; exact (mH HB))⟩; clear hw; clear HO_4; clear HO266; clear BK254; clear BK255; clear BK267; clear HB; have HO_4 := n0_; have HO266 := n1_; have BK254 := n2_; have BK255 := n3_; have BK267 := n4_; have HB := n5_; clear n0_ n1_ n2_ n3_ n4_ n5_; obtain ⟨hcz53_0, hfz53_0⟩ := cY0 BK267; have p268 : 0 ≤ (a2 : Int) := dT; have q268 : a2 < (t264.length : Int) := dT; obtain ⟨ad268, A268_3, c268_3, A268_4, c268_4, e268, hx268_0, hx268_1, hx268_2, hx268_3, hx268_4, hl268_3, hi268_3, hl268_4, hi268_4⟩ := at_T28 (Kd.S_reads' HO266.out).2.2 a2 p268 q268; cases e268; obtain ⟨ce268, hce268, hMe268, hcc268⟩ := Kd.S_get HO266.out z28 a2 p268 (by first | exact q268 | exact dT | (have e_ := (Kd.S_reads' HO266.out).1; omega)); obtain ⟨ve268_3, ve268_4, rfl, ge268_3, ge268_4⟩ := k28_openM hMe268; have hv268_3 := hcc268 3 _ rfl; rw [add_field _ _ 3 (by omega)] at hv268_3; replace hv268_3 := qI (hv268_3.symm.trans hx268_3); rw [hv268_3] at ge268_3; have HL268_3 := kA (show Kd.R (Kd.int .i64) 3 _ _ _ _ ((rU t264 a2).f3) from ge268_3); clear hv268_3 ge268_3; have hv268_4 := hcc268 4 _ rfl; rw [add_field _ _ 4 (by omega)] at hv268_4; replace hv268_4 := qI (hv268_4.symm.trans hx268_4); rw [hv268_4] at ge268_4; have HL268_4 := kA (show Kd.R k78 78 _ _ _ _ ((rU t264 a2).f4) from ge268_4); clear hv268_4 ge268_4; clear hcc268 hce268; have HR268_3 := kA hi268_3; have HC268_3 := kA hl268_3; clear hi268_3 hl268_3; have HR268_4 := kA hi268_4; have HC268_4 := kA hl268_4; clear hi268_4 hl268_4; replace p268 := eq_true p268; replace q268 := eq_true q268; have p269 : 0 ≤ (a2 : Int) := dT; have q269 : a2 < (t264.length : Int) := dT; obtain ⟨ad269, A269_3, c269_3, A269_4, c269_4, e269, hx269_0, hx269_1, hx269_2, hx269_3, hx269_4, hl269_3, hi269_3, hl269_4, hi269_4⟩ := at_T28 (Kd.S_reads' HO266.out).2.2 a2 p269 q269; obtain rfl : ad268 = ad269 := (by injection e269); obtain ⟨ce269, hce269, hMe269, hcc269⟩ := Kd.S_get HO266.out z28 a2 p269 (by first | exact q269 | exact dT | (have e_ := (Kd.S_reads' HO266.out).1; omega)); obtain ⟨ve269_3, ve269_4, rfl, ge269_3, ge269_4⟩ := k28_openM hMe269; have hv269_3 := hcc269 3 _ rfl; rw [add_field _ _ 3 (by omega)] at hv269_3; replace hv269_3 := qI (hv269_3.symm.trans hx269_3); rw [hv269_3] at ge269_3; have HL269_3 := kA (show Kd.R (Kd.int .i64) 3 _ _ _ _ ((rU t264 a2).f3) from ge269_3); clear hv269_3 ge269_3; have hv269_4 := hcc269 4 _ rfl; rw [add_field _ _ 4 (by omega)] at hv269_4; replace hv269_4 := qI (hv269_4.symm.trans hx269_4); rw [hv269_4] at ge269_4; have HL269_4 := kA (show Kd.R k78 78 _ _ _ _ ((rU t264 a2).f4) from ge269_4); clear hv269_4 ge269_4; clear hcc269 hce269; have HR269_3 := kA hi269_3; have HC269_3 := kA hl269_3; clear hi269_3 hl269_3; have HR269_4 := kA hi269_4; have HC269_4 := kA hl269_4; clear hi269_4 hl269_4; replace p269 := eq_true p269; replace q269 := eq_true q269; have ea_ := qI (hx268_3.symm.trans hx269_3); injection ea_ with ea_ en_ ec_; subst ea_; subst ec_; clear en_; have ea_ := qI (hx268_4.symm.trans hx269_4); injection ea_ with ea_ en_ ec_; subst ea_; subst ec_; clear en_; have p39 : 0 ≤ (a2 : Int) := dT; have q39 : (a2 : Int) < ((t264.length : Int) : Int) := dT; obtain ⟨go39, co39, eo39, gb39, gl39, cl39, HG39⟩ := Kd.S_form HO266.out (by omega); (first | cases eo39 | (injection eo39 with ea_ en_ ec_; (first | subst ea_ | (injection ea_ with ea_; subst ea_)); subst ec_; clear en_)); have GB39 := kA gb39; have GG39 := kA HG39; clear gb39 gl39 HG39; (first | simp only [add_plain] at hx268_0 | skip); (first | simp only [add_plain] at hx268_1 | skip); (first | simp only [add_plain] at hx268_2 | skip); (first | simp only [add_plain] at hx268_3 | skip); (first | simp only [add_plain] at hx268_4 | skip); (first | simp only [add_plain] at hx269_0 | skip); (first | simp only [add_plain] at hx269_1 | skip); (first | simp only [add_plain] at hx269_2 | skip); (first | simp only [add_plain] at hx269_3 | skip); (first | simp only [add_plain] at hx269_4 | skip); obtain ⟨_, ce39, hcl39, hM39, hcc39, hfr39, _, _⟩ := Kd.S_elem HO266.out z28 (a2 : Int) p39 q39; obtain ⟨ve39_3, ve39_4, rfl, ge39_3, ge39_4⟩ := k28_openM hM39; have hx39_0 : w52.cell? ⟨go39, (a2 : Int).toNat * 5, none⟩ = some (.int .i64 ((rU t264 a2).f0)) := hcc39 0 _ rfl; have hx39_1 : w52.cell? ⟨go39, (a2 : Int).toNat * 5 + 1, none⟩ = some (.int .i64 ((rU t264 a2).f1)) := hcc39 1 _ rfl; have hx39_2 : w52.cell? ⟨go39, (a2 : Int).toNat * 5 + 2, none⟩ = some (.int .i64 ((rU t264 a2).f2)) := hcc39 2 _ rfl; have hx39_3 : w52.cell? ⟨go39, (a2 : Int).toNat * 5 + 3, none⟩ = some (ve39_3) := hcc39 3 _ rfl; have hx39_4 : w52.cell? ⟨go39, (a2 : Int).toNat * 5 + 4, none⟩ = some (ve39_4) := hcc39 4 _ rfl; have hf39_0 : w52.frozen? ⟨go39, (a2 : Int).toNat * 5, none⟩ = false := hfr39 0; have hf39_1 : w52.frozen? ⟨go39, (a2 : Int).toNat * 5 + 1, none⟩ = false := hfr39 1; have hf39_2 : w52.frozen? ⟨go39, (a2 : Int).toNat * 5 + 2, none⟩ = false := hfr39 2; have hf39_3 : w52.frozen? ⟨go39, (a2 : Int).toNat * 5 + 3, none⟩ = false := hfr39 3; have hf39_4 : w52.frozen? ⟨go39, (a2 : Int).toNat * 5 + 4, none⟩ = false := hfr39 4; clear hcl39 hcc39 hfr39 hM39; replace p39 := eq_true p39; replace q39 := eq_true q39; have HX54 := kA (show Kd.S k28 28 w52 w.heap.size (fun k_ => ((fun k_ => (w.heap.size ≤ k_))) k_ ∧ ¬ ((fun _ => False)) k_) (.slice (some ⟨go39, 0, none⟩) t264.length co48) t264 from (by (with_reducible repeat (first | apply Kd.S_alloc | apply Kd.S_drewN | apply Kd.S_drew)); exact Kd.S_mono HO266.out (fun k_ hk => ⟨hk, fun e_ => e_⟩))); obtain ⟨oki54, ce54, hcl54, hM54, hcc54, hfr54, hoki54, hH54⟩ := Kd.S_elem HX54.out z28 (a2 : Int) (dT) (by have h_ : (a2 : Int) < ((t264.length : Int) : Int) := dT; first | exact h_ | (have e_ := (Kd.S_reads' HO266.out).1; omega) | simpa using h_); obtain ⟨ve54_3, ve54_4, rfl, ge54_3, ge54_4⟩ := k28_openM hM54; have HP54 := Kd.S_seg hH54 (dT) (by have h_ : (a2 : Int) < ((t264.length : Int) : Int) := dT; first | exact h_ | (have e_ := (Kd.S_reads' HO266.out).1; omega) | simpa using h_) (seg := [.int .i64 ji38]) (j := 2) (show 3 ≤ 5 from by decide) (x' := (⟨(rU t264 a2).f0, (rU t264 a2).f1, ji38, (rU t264 a2).f3, (rU t264 a2).f4⟩ : S28)) (k28_mkM _ _ _ (⟨(rU t264 a2).f0, (rU t264 a2).f1, ji38, (rU t264 a2).f3, (rU t264 a2).f4⟩ : S28) (Kd.R_mono ge54_3 (fun _ h_ => Or.inl h_)) (Kd.R_mono ge54_4 (fun _ h_ => Or.inl h_))) (fun _ hk => hk) (fun k_ hk_ => hk_.elim); have hx54_2 := hcc54 2 _ rfl; (try simp only [show (k28).sz = 5 from rfl, Nat.mul_one, Nat.add_zero] at hx54_2); have hf54_2 := hfr54 2; (try simp only [show (k28).sz = 5 from rfl, Nat.mul_one, Nat.add_zero] at hf54_2); clear hcl54 hcc54 hfr54 hM54 hoki54 hH54) | ((with_reducible refine gate_store (t := 3) (p := 74) rfl ?_); refine store_event (t := 3) (p := 74) (v := ?vo_w55) (w1 := (w52.setCell ⟨go39, (a2 : Int).toNat * 5 + 2, none⟩ (.int .i64 ji38))) ?hg ?ho ?hn ?hr ?_; (case ho => rfl); (case hg => rfl); (case hn => rfl); (case hr => first | (go_simp; done) | (go_simp; rfl)); intro w55 hw; have hg : w52.grownBy w55 (some go39) := (by rw [hw]; exact HP54.2); have hp_ : Kd.S k28 28 w55 w.heap.size (fun k_ => (w.heap.size ≤ k_)) (.slice (some ⟨go39, 0, none⟩) t264.length co48) y270 := (by rw [hw, Ny270.out]; exact HP54.1); clear HP54; replace HO_4 := kA (Kd.V_afterv (v := (.slice (some ⟨go39, 0, none⟩) t264.length co48)) (v1 := (.slice (some ⟨go39, 0, none⟩) t264.length co48)) (ok := (fun k_ => (P4_ k_ ∨ w.heap.size ≤ k_) ∧ k_ ≠ gb254 ∧ k_ ≠ gb255 ∧ k_ ≠ gb267)) (by (with_reducible repeat (first | apply Kd.V_alloc | apply Kd.V_drewN | apply Kd.V_drew)); exact Kd.V_mono HO_4.out (fun _ hk => by first | exact ⟨⟨hk.1, ⟨hk.2.2.1, ⟨hk.2.2.2.1, hk.2.2.2.2⟩⟩⟩, hk.2.1⟩ | (go_split_ands; and_intros <;> assumption))) hg (.inl rfl)); replace BK254 := kA (blk_grown (g := gb254) (o := .cells #[.slice (some ad262) l0_0.length c0_0] 24 (0, 0)) (mB BK254) hg (Kd.S_ne HO266.out BK254.out (by decide))); replace BK255 := kA (blk_grown (g := gb255) (o := .cells #[.slice none 0 0] 24 (0, 0)) (mB BK255) hg (Kd.S_ne HO266.out BK255.out (by decide))); replace BK267 := kA (blk_grown (g := gb267) (o := .cells #[.slice (some ⟨go39, 0, none⟩) t264.length co48] 24 (0, 0)) (mB BK267) hg (Kd.S_ne HO266.out BK267.out (by decide))); replace HO266 := kA (hp_); replace HL268_3 := kA (Kd.R_after (v := (.slice (some ⟨go39, 0, none⟩) t264.length co48)) (v1 := (.slice (some ⟨go39, 0, none⟩) t264.length co48)) (ok := (fun k_ => (w.heap.size ≤ k_))) (mR HL268_3) hg (.inl rfl)); replace HL268_4 := kA (Kd.R_after (v := (.slice (some ⟨go39, 0, none⟩) t264.length co48)) (v1 := (.slice (some ⟨go39, 0, none⟩) t264.length co48)) (ok := (fun k_ => (w.heap.size ≤ k_))) (mR HL268_4) hg (.inl rfl)); replace HL269_3 := kA (Kd.R_after (v := (.slice (some ⟨go39, 0, none⟩) t264.length co48)) (v1 := (.slice (some ⟨go39, 0, none⟩) t264.length co48)) (ok := (fun k_ => (w.heap.size ≤ k_))) (mR HL269_3) hg (.inl rfl)); replace HL269_4 := kA (Kd.R_after (v := (.slice (some ⟨go39, 0, none⟩) t264.length co48)) (v1 := (.slice (some ⟨go39, 0, none⟩) t264.length co48)) (ok := (fun k_ => (w.heap.size ≤ k_))) (mR HL269_4) hg (.inl rfl)); replace HB := kA ((by rw [hw]; exact wS (HB.out) GB39.out : Below w.heap.size w w55)); clear hg hw hp_) | ((with_reducible refine gate_callee (f := 49) rfl ?_); refine goesK (some 78) Try.func49 #[.int .i64 a3, .int .i64 (l4.length : Int)] ?_; (with_reducible refine (span_Pieces.calls kj5 a3 (l4.length : Int) t271 _ A40.out).mono ?_); rintro e w56 ⟨v272, rfl, ho0, hb⟩; refine ⟨_, rfl, ?_⟩; replace HO_4 := kA (Kd.V_elder' (mV HO_4) (Kd.R_base ho0) hb); replace HO266 := kS HO266 hb; replace HL268_3 := kR HL268_3 hb; replace HL268_4 := kR HL268_4 hb; replace HL269_3 := kR HL269_3 hb; replace HL269_4 := kR HL269_4 hb; have HO273 := kA (Kd.R_lower (Kd.R_newM (M := fun k_ => (w.heap.size ≤ k_)) ho0 (below_size (mH HB)) (fun k_ h_ => h_)) (below_size (mH HB))); replace BK254 := kB BK254 hb; replace BK255 := kB BK255 hb; replace BK267 := kB BK267 hb; replace HB := kH HB hb; (try clear hb); (try clear hk); (try clear ho0); obtain ⟨Ao57, co57, eo57⟩ := Kd.R_slice HO273.out; subst eo57))
       go_loopg [4, 15, 80] kj5 (fun kq v4 v15 v80 w' => ∃ (x4_2 : List Int) (x15_2 : List (S60)) (x80_2 : Int), v80 = .int .i64 x80_2 ∧ Aside0 (file_Write.l0 kq a2 x4_2 x15_2 t271 (t271.length : Int) x80_2 y270 = some (r1, r2, r3)) ∧ Aside0 (kq ≤ kj5) ∧ Aside0 (Kd.V (Kd.int .u8) 5 w' w.heap.size (fun k_ => (P4_ k_ ∨ w.heap.size ≤ k_) ∧ some k_ ≠ (v15 : Value).ownBlock ∧ some k_ ≠ ((.slice Ao57 t271.length co57) : Value).ownBlock ∧ some k_ ≠ ((.slice (some ⟨go39, 0, none⟩) t264.length co48) : Value).ownBlock ∧ k_ ≠ gb254 ∧ k_ ≠ gb255 ∧ k_ ≠ gb267) v4 x4_2) ∧ Aside0 (Kd.S k60 60 w' w.heap.size (fun k_ => (w.heap.size ≤ k_)) v15 x15_2) ∧ Aside0 (Kd.R k41 41 w' w.heap.size (fun k_ => (w.heap.size ≤ k_)) (.slice Ao57 t271.length co57) t271) ∧ Aside0 (Kd.S k28 28 w' w.heap.size (fun k_ => (w.heap.size ≤ k_)) (.slice (some ⟨go39, 0, none⟩) t264.length co48) y270) ∧ Aside0 (w'.heap[gb254]? = some (.cells #[(.slice (some ad262) l0_0.length c0_0)] 24 (0, 0))) ∧ Aside0 (w'.heap[gb255]? = some (.cells #[(.slice none 0 0)] 24 (0, 0))) ∧ Aside0 (w'.heap[gb267]? = some (.cells #[(.slice (some ⟨go39, 0, none⟩) t264.length co48)] 24 (0, 0))) ∧ Aside0 (Below w.heap.size w w'))
       case atStart => exact ⟨(l4), (([] : List (S60))), (0), sI, H', ⟨Nat.le_refl _⟩, ⟨by (with_reducible repeat (first | apply Kd.V_alloc | apply Kd.V_drewN | apply Kd.V_drew)); exact Kd.V_mono HO_4.out (fun _ hk => ⟨hk.1.1.1, ⟨(by simp [Value.ownBlock]), ⟨hk.2, ⟨hk.1.2, ⟨hk.1.1.2.1, ⟨hk.1.1.2.2.1, hk.1.1.2.2.2⟩⟩⟩⟩⟩⟩)⟩, ⟨by first | exact Kd.S_nil _ _ _ _ _ | exact Kd.N_nil _ _ _ _ _ | exact Kd.V_nil _ _ _ _ _ | exact Kd.Q_nil _ _ _ _ _ | exact Kd.R_nil _ _ _ _ _⟩, ⟨by (with_reducible repeat (first | apply Kd.R_alloc | apply Kd.R_drewN | apply Kd.R_drew)); exact Kd.R_mono HO273.out (fun _ hk => hk.1)⟩, ⟨mS HO266⟩, ⟨mB BK254⟩, ⟨mB BK255⟩, ⟨mB BK267⟩, ⟨mH HB⟩⟩
       case round =>
        clear H'
        (try clear c4); (try clear c14); (try clear c17); (try clear c17b0); (try clear c17b1); (try clear c17b2); (try clear c25); (try clear c27); (try clear c27b0); (try clear c28); (try clear c28b0); (try clear c30); (try clear c30b0); (try clear c37); (try clear c37b0); (try clear p39); (try clear q39); (try clear hcz45_0); (try clear hcz51_0); (try clear hcz53_0); (try clear hfz45_0); (try clear hfz51_0); (try clear hfz53_0); (try clear hx262_0); (try clear hx262_1); (try clear hx262_2); (try clear hx262_3); (try clear hx262_4); (try clear hx268_0); (try clear hx268_1); (try clear hx268_2); (try clear hx268_3); (try clear hx268_4); (try clear hx269_0); (try clear hx269_1); (try clear hx269_2); (try clear hx269_3); (try clear hx269_4); (try clear hx39_0); (try clear hx39_1); (try clear hx39_2); (try clear hx39_3); (try clear hx39_4); (try clear hx54_2); (try clear p262); (try clear p268); (try clear p269); (try clear p39); (try clear q262); (try clear q268); (try clear q269); (try clear q39)
        obtain ⟨x4_2, x15_2, x80_2, rfl, HA, HK2, HO_4, HO_15, HO_78, HO_268000, BK254, BK255, BK267, HB⟩ := hrel; have hl268000_2 := (Kd.S_reads' HO_268000.out).1; rw [hl268000_2] at HO_268000
        (try simp only [hl268000_2])
        (try simp only [hl268000_2] at BK254)
        (try simp only [hl268000_2] at BK255)
        (try simp only [hl268000_2] at BK267)
        (try simp only [hl268000_2] at HO_4)
        (try simp only [hl268000_2] at HO_15)
        (try simp only [hl268000_2] at HO_78)
        cases gk with
        | zero => exact absurd HA.out (by simp [file_Write.l0])
        | succ k2 =>
         have H := HA.out; clear HA; simp only [file_Write.l0] at H
         by_cases c58 : x80_2 < (t271.length : Int)
         ·
          rw [if_pos c58] at H; have c58b0 := qT c58; clear c58
          replace H := nP H; obtain ⟨c59, H⟩ := H; have c59b0 := qT c59; clear c59
          replace H := nP H; obtain ⟨c60, H⟩ := H; have c60b0 := qT c60; clear c60
          replace H := nP H; obtain ⟨c61, H⟩ := H; have c61b0 := qT c61; clear c61
          replace H := nP H; obtain ⟨c62, H⟩ := H; have c62b0 := qT c62; clear c62
          replace H := nP H; obtain ⟨c63, H⟩ := H; have c63b0 := qT c63; clear c63
          replace H := nP H; obtain ⟨c64, H⟩ := H; have c64b0 := qT c64; clear c64
          replace H := nP H; obtain ⟨c65, H⟩ := H; have c65b0 := eq_true c65; have c65b1 := qT c65; clear c65
          replace H := nP H; obtain ⟨c66, H⟩ := H; have c66b0 := eq_true c66; have c66b1 := qT c66; clear c66; obtain ⟨y278, hy278⟩ : ∃ y_ : List Int, y_ = (x4_2.take (((rX t271 x80_2).f2) : Int).toNat) := ⟨_, rfl⟩
          replace H : ((slices_Clone_byte_byte.f y278).bind fun t283 => (if x15_2.length < 2199023255552 then (file_Write.l0 k2 a2 (x4_2.drop (((rX t271 x80_2).f2) : Int).toNat) (x15_2 ++ [(⟨a2, (rX t271 x80_2).f0, rd ((rU y270 a2).f3) ((rX t271 x80_2).f0), 16, (rX t271 x80_2).f1, t283⟩ : S60)]) t271 (t271.length : Int) (wrap64 (x80_2 + 1)) y270) else (none))) = some (r1, r2, r3) := rH H hy278
          have Ny278 := kA hy278; clear hy278; replace H := qB H; obtain ⟨t283, A670, H⟩ := H; have A67 := kA A670; clear A670
          replace H := nP H; obtain ⟨c68, H⟩ := H; have LMc68 := kA c68; clear c68; obtain ⟨y286, hy286⟩ : ∃ y_ : List (S60), y_ = (x15_2 ++ [(⟨a2, (rX t271 x80_2).f0, rd ((rU y270 a2).f3) ((rX t271 x80_2).f0), 16, (rX t271 x80_2).f1, t283⟩ : S60)]) := ⟨_, rfl⟩
          replace H : (file_Write.l0 k2 a2 (x4_2.drop (((rX t271 x80_2).f2) : Int).toNat) y286 t271 (t271.length : Int) (wrap64 (x80_2 + 1)) y270) = some (r1, r2, r3) := rH H hy286
          have Ny286 := kA hy286; clear hy286; have c69b0 := eq_true (dT : 0 ≤ ((rX t271 x80_2).f2)); have c70b0 := eq_true (dT : ((rX t271 x80_2).f2) ≤ (x4_2.length : Int)); obtain ⟨y289, hy289⟩ : ∃ y_ : List Int, y_ = (x4_2.drop (((rX t271 x80_2).f2) : Int).toNat) := ⟨_, rfl⟩
          replace H : (file_Write.l0 k2 a2 y289 y286 t271 (t271.length : Int) (wrap64 (x80_2 + 1)) y270) = some (r1, r2, r3) := rH H hy289
          have Ny289 := kA hy289; clear hy289; have H' := kA H; clear H; have p274 : 0 ≤ (x80_2 : Int) := dT; have q274 : x80_2 < (t271.length : Int) := dT; obtain ⟨ad274, e274, hx274_0, hx274_1, hx274_2⟩ := at_T41 (Kd.R_reads' HO_78.out).2.2 x80_2 p274 q274
          cases e274
          replace p274 := eq_true p274; replace q274 := eq_true q274
          try go_wp2_with (first | ((with_reducible refine gate_dst (N := 17) rfl ?_); refine bxE 41 (cs := #[.int .i64 0, .int .i64 0, .int .i64 0]) ?_; intro gb275 hg w71 hbox hb; replace HO_4 := kA (Kd.V_below (Kd.V_elderB (mV HO_4) gb275 (Nat.le_of_eq hg.symm)) hb); replace HO_15 := kS HO_15 hb; replace HO_78 := kA (Kd.R_below (Kd.R_elderB (mR HO_78) gb275 (Nat.le_of_eq hg.symm)) hb); replace HO_268000 := kS HO_268000 hb; have BK275 := kA hbox; have GW275 := kG HB hg; have GE275 := kG HB hg; replace HB := kH HB hb; have NB254_275 := kL BK254 hg; have NB275_254 := kQ BK254 hg; replace BK254 := kB BK254 hb; have NB255_275 := kL BK255 hg; have NB275_255 := kQ BK255 hg; replace BK255 := kB BK255 hb; have NB267_275 := kL BK267 hg; have NB275_267 := kQ BK267 hg; replace BK267 := kB BK267 hb; clear hb hbox hg; have hnb72 := NB275_254.out; have hnc72 := NB254_275.out; have hnb73 := NB275_255.out; have hnc73 := NB255_275.out; have hnb74 := NB275_267.out; have hnc74 := NB267_275.out; obtain ⟨hcz75_0, hfz75_0⟩ := cY0 BK275; obtain ⟨hcz75_1, hfz75_1⟩ := cY1 BK275; obtain ⟨hcz75_2, hfz75_2⟩ := cY2 BK275))
          obtain ⟨w76, hw_, n_⟩ : ∃ W_, ((w71.setCell ⟨gb275, 0, none⟩ (.int .i64 ((rX t271 x80_2).f0))).setCell ⟨gb275, 1, none⟩ (.int .i64 ((rX t271 x80_2).f1))).setCell ⟨gb275, 2, none⟩ (.int .i64 ((rX t271 x80_2).f2)) = W_ ∧ Aside0 (Kd.V (Kd.int .u8) 5 W_ w.heap.size (fun k_ => (P4_ k_ ∨ w.heap.size ≤ k_) ∧ some k_ ≠ (u15 : Value).ownBlock ∧ some k_ ≠ (.slice (some ad274) t271.length co57 : Value).ownBlock ∧ some k_ ≠ (.slice (some ⟨go39, 0, none⟩) y270.length co48 : Value).ownBlock ∧ k_ ≠ gb254 ∧ k_ ≠ gb255 ∧ k_ ≠ gb267 ∧ k_ ≠ gb275) u4 x4_2) ∧ Aside0 (Kd.S k60 60 W_ w.heap.size (fun k_ => (w.heap.size ≤ k_)) u15 x15_2) ∧ Aside0 (Kd.R k41 41 W_ w.heap.size (fun k_ => (w.heap.size ≤ k_) ∧ k_ ≠ gb275) (.slice (some ad274) t271.length co57) t271) ∧ Aside0 (Kd.S k28 28 W_ w.heap.size (fun k_ => (w.heap.size ≤ k_)) (.slice (some ⟨go39, 0, none⟩) y270.length co48) y270) ∧ Aside0 (W_.heap[gb254]? = some (.cells #[.slice (some ad262) l0_0.length c0_0] 24 (0, 0))) ∧ Aside0 (W_.heap[gb255]? = some (.cells #[.slice none 0 0] 24 (0, 0))) ∧ Aside0 (W_.heap[gb267]? = some (.cells #[.slice (some ⟨go39, 0, none⟩) y270.length co48] 24 (0, 0))) ∧ Aside0 (W_.heap[gb275]? = some (.cells #[.int .i64 ((rX t271 x80_2).f0), .int .i64 ((rX t271 x80_2).f1), .int .i64 ((rX t271 x80_2).f2)] 41 (0, 0))) ∧ Aside0 (Below w.heap.size w W_) := ⟨_, rfl, ⟨fV HO_4 (fun _ hk => by first | exact ⟨hk.1.1, ⟨hk.1.2.1, ⟨hk.1.2.2.1, ⟨hk.1.2.2.2.1, ⟨hk.1.2.2.2.2.1, ⟨hk.1.2.2.2.2.2.1, ⟨hk.1.2.2.2.2.2.2, hk.2⟩⟩⟩⟩⟩⟩⟩ | (go_split_ands; and_intros <;> assumption))⟩, ⟨fS ⟨Kd.S_types HO_15.out BK275.out (by decide)⟩⟩, ⟨fR HO_78 (fun _ hk => by first | exact ⟨hk.1, hk.2⟩ | (go_split_ands; and_intros <;> assumption))⟩, ⟨fS ⟨Kd.S_types HO_268000.out BK275.out (by decide)⟩⟩, ⟨mF BK254⟩, ⟨mF BK255⟩, ⟨mF BK267⟩, ⟨pP BK275⟩, ⟨mH HB⟩⟩
          (try clear HO_4); (try clear HO_15); (try clear HO_78); (try clear HO_268000); (try clear BK254); (try clear BK255); (try clear BK267); (try clear BK275); (try clear HB); rewrite [hw_]; clear hw_; obtain ⟨HO_4, HO_15, HO_78, HO_268000, BK254, BK255, BK267, BK275, HB⟩ := n_; replace HO_4 := kA (Kd.V_drew HO_4.out); replace HO_15 := kA (Kd.S_drew HO_15.out); replace HO_78 := kA (Kd.R_drew HO_78.out); replace HO_268000 := kA (Kd.S_drew HO_268000.out); replace BK254 := kA (bD BK254.out); replace BK255 := kA (bD BK255.out); replace BK267 := kA (bD BK267.out); replace BK275 := kA (bD BK275.out); replace HB := kA (wD HB.out); have p276 : 0 ≤ (a2 : Int) := dT; have q276 : a2 < (y270.length : Int) := dT; obtain ⟨ad276, A276_3, c276_3, A276_4, c276_4, e276, hx276_0, hx276_1, hx276_2, hx276_3, hx276_4, hl276_3, hi276_3, hl276_4, hi276_4⟩ := at_T28 (Kd.S_reads' HO_268000.out).2.2 a2 p276 q276; obtain rfl : (⟨go39, 0, none⟩ : Addr) = ad276 := (by injection e276); obtain ⟨ce276, hce276, hMe276, hcc276⟩ := Kd.S_get HO_268000.out z28 a2 p276 (by first | exact q276 | exact dT | (have e_ := (Kd.S_reads' HO_268000.out).1; omega))
          obtain ⟨ve276_3, ve276_4, rfl, ge276_3, ge276_4⟩ := k28_openM hMe276; have hv276_3 := hcc276 3 _ rfl; rw [add_field _ _ 3 (by omega)] at hv276_3; replace hv276_3 := qI (hv276_3.symm.trans hx276_3); rw [hv276_3] at ge276_3; have HL276_3 := kA (show Kd.R (Kd.int .i64) 3 _ _ _ _ ((rU y270 a2).f3) from ge276_3); clear hv276_3 ge276_3; have hv276_4 := hcc276 4 _ rfl; rw [add_field _ _ 4 (by omega)] at hv276_4; replace hv276_4 := qI (hv276_4.symm.trans hx276_4); rw [hv276_4] at ge276_4; have HL276_4 := kA (show Kd.R k78 78 _ _ _ _ ((rU y270 a2).f4) from ge276_4); clear hv276_4 ge276_4; clear hcc276 hce276
          (first | simp only [add_plain] at hx276_0 | simp only [add_at] at hx276_0 | simp only [Addr.add, Nat.zero_add] at hx276_0 | skip)
          (first | simp only [add_plain] at hx276_1 | simp only [add_at] at hx276_1 | simp only [Addr.add, Nat.zero_add] at hx276_1 | skip)
          (first | simp only [add_plain] at hx276_2 | simp only [add_at] at hx276_2 | simp only [Addr.add, Nat.zero_add] at hx276_2 | skip)
          (first | simp only [add_plain] at hx276_3 | simp only [add_at] at hx276_3 | simp only [Addr.add, Nat.zero_add] at hx276_3 | skip)
          (first | simp only [add_plain] at hx276_4 | simp only [add_at] at hx276_4 | simp only [Addr.add, Nat.zero_add] at hx276_4 | skip)
          have HR276_3 := kA hi276_3; have HC276_3 := kA hl276_3; clear hi276_3 hl276_3; have HR276_4 := kA hi276_4; have HC276_4 := kA hl276_4; clear hi276_4 hl276_4; replace p276 := eq_true p276; replace q276 := eq_true q276; have p277 : 0 ≤ (((rX t271 x80_2).f0) : Int) := dT; have q277 : ((rX t271 x80_2).f0) < (((rU y270 a2).f3).length : Int) := dT; obtain ⟨ad277, e277, hx277_0⟩ := Kd.at_int (by repeat (first | (with_reducible exact HR276_3.out) | (with_reducible refine Kd.C_alloc ?_ _) | (with_reducible refine Kd.C_drewN ?_ _) | (with_reducible refine Kd.C_drew ?_) | exact HR276_3.out)) ((rX t271 x80_2).f0) p277 q277
          cases e277
          replace p277 := eq_true p277; replace q277 := eq_true q277; obtain ⟨Ao79, co79, eo79⟩ := Kd.V_slice HO_4.out
          (first | subst eo79 | (injection eo79 with f1_ f2_ f3_; have f4_ := f1_.symm; have f5_ := f3_.symm; clear f1_ f2_ f3_; subst f4_; subst f5_))
          have q78 : (((rX t271 x80_2).f2) : Int) ≤ ((x4_2.length : Int) : Int) := dT; obtain ⟨i078, hi078, _, hsz78, _⟩ := info_parts info5; have hroom78 : x4_2.length ≤ co79 := (Kd.V_reads' HO_4.out).2.1; have hC78 : Kd.F (Kd.int .u8) _ _ Ao79 x4_2.length x4_2 := (Kd.V_at (base := w.heap.size) HO_4.out).2.2; have hcut78 := cut_to (P := Try.prog) 50 5 .i64 Try.underlying50 hi078 Ao79 x4_2.length co79 ((rX t271 x80_2).f2) (dT) q78 hroom78; have hr78 := Kd.F_take (m := (((rX t271 x80_2).f2) : Int).toNat) hC78 (by omega); have hy78 : y278.length = (((rX t271 x80_2).f2) : Int).toNat := (by rw [Ny278.out, List.length_take]; omega)
          rw [← Ny278.out] at hr78; rw [← hy78] at hcut78; have HO282 := kA (show Kd.V (Kd.int .u8) 5 _ w.heap.size _ (.slice Ao79 y278.length co79) y278 from Kd.V_mk (by omega) hr78); have HC282 := kA (show y278.length ≤ co79 from by omega); clear hr78 hC78 hroom78 hi078 hsz78; have KY78 := kA hy78; clear hy78; replace q78 := eq_true q78; refine start_ (n := 23) (S := fun w' => w'.cell? ⟨gb275, 0, none⟩ = some (.int .i64 ((rX t271 x80_2).f0)) ∧ w'.cell? ⟨gb275, 1, none⟩ = some (.int .i64 ((rX t271 x80_2).f1)) ∧ w'.cell? ⟨gb275, 2, none⟩ = some (.int .i64 ((rX t271 x80_2).f2)) ∧ w'.cell? ⟨go39, (a2).toNat * 5, none⟩ = some (.int .i64 ((rU y270 a2).f0)) ∧ w'.cell? ⟨go39, (a2).toNat * 5 + 1, none⟩ = some (.int .i64 ((rU y270 a2).f1)) ∧ w'.cell? ⟨go39, (a2).toNat * 5 + 2, none⟩ = some (.int .i64 ((rU y270 a2).f2)) ∧ w'.cell? ⟨go39, (a2).toNat * 5 + 3, none⟩ = some (.slice (some ad277) ((rU y270 a2).f3).length c276_3) ∧ w'.cell? ⟨go39, (a2).toNat * 5 + 4, none⟩ = some (.slice A276_4 ((rU y270 a2).f4).length c276_4) ∧ w'.cell? (ad277.add (((rX t271 x80_2).f0)).toNat) = some (.int .i64 (rd ((rU y270 a2).f3) ((rX t271 x80_2).f0)))) (ds := [20, 21]) B23_16 (by kernel_rfl) rfl rfl ⟨cZ0 BK275, cZ1 BK275, cZ2 BK275, hx276_0, hx276_1, hx276_2, hx276_3, hx276_4, hx277_0⟩ (fun hHeld => ?_); refine with_tabW file_Write.tab16 file_Write.bits16 (fun HT_ HW_ => ?_); generalize w76.drew = w77 at HO_4 HO_15 HO_78 HO_268000 BK254 BK255 BK267 BK275 HB HL276_3 HL276_4 HO282 HR276_3 HR276_4 hx276_0 hx276_1 hx276_2 hx276_3 hx276_4 hx277_0 hHeld ⊢; refine pure_ (i := 0) (N := some 84) (v := ?_) (a' := ?_) B23_17 rfl rfl (any_of HT_.out (by kernel_rfl)) (fun _ _ _ h => h) (Or.inl ⟨by rfl, ?_⟩) ?_ ?_; rotate_left
          ·
           intro w'; go_simp; with_reducible rfl
          rotate_left
          ·
           simp only [Act.put, lT, l0_, lS, i64_w, i32_w]; rfl
          refine pE 1 85 B23_18 HT_ ?_
          refine pE 2 86 B23_19 HT_ ?_
          refine pE 4 88 B23_20 HT_ ?_
          refine pE 5 89 B23_21 HT_ ?_
          refine pE 6 90 B23_22 HT_ ?_
          refine pE 8 92 B23_23 HT_ ?_
          refine pE 12 96 B23_24 HT_ ?_
          refine pE 14 98 B23_25 HT_ ?_
          refine pE 15 99 B23_26 HT_ ?_
          refine tE 3 87 B23_27 HT_ HW_ hHeld ?_
          refine tE 7 91 B23_28 HT_ HW_ hHeld ?_
          refine tE 9 93 B23_29 HT_ HW_ hHeld ?_
          refine pE 10 94 B23_30 HT_ ?_
          refine tE 11 95 B23_31 HT_ HW_ hHeld ?_
          refine tE 13 97 B23_32 HT_ HW_ hHeld ?_
          refine tE 16 100 B23_33 HT_ HW_ hHeld ?_
          refine pE 17 101 B23_34 HT_ ?_
          refine one_ (i := 18) (N := some 102) B23_35 rfl rfl (one_of HT_.out (by kernel_rfl)) (by decide) (fun K hK => ?_); refine goes_ Try.func59 (by kernel_rfl) rfl #[.slice Ao79 y278.length co79] (by rfl) rfl rfl (by (try simp only [List.map_toArray, List.map_cons, List.map_nil]); first | done | rfl | (simp only [List.length_drop, List.length_take]; rfl)) ?_
          with_reducible refine (slices_Clone_byte_byte.calls _ _ y278 t283 _ ?side1 ?side2 A67.out).mono ?_
          (case side1 => repeat (first | exact (Kd.V_reads' HO282.out).2.2 | (with_reducible refine Kd.C_alloc ?_ _) | (with_reducible refine Kd.C_drewN ?_ _) | (with_reducible refine Kd.C_drew ?_)))
          (case side2 => exact (Kd.V_reads' HO282.out).2.1)
          rintro e w80 ⟨v284, rfl, ho0, hb⟩; have HS3_ := (hb.cell (World.block_lt_of_cell? _ _ (hHeld.2.2.2.1))).trans (hHeld.2.2.2.1); have HS4_ := (hb.cell (World.block_lt_of_cell? _ _ (hHeld.2.2.2.2.1))).trans (hHeld.2.2.2.2.1); have HS5_ := (hb.cell (World.block_lt_of_cell? _ _ (hHeld.2.2.2.2.2.1))).trans (hHeld.2.2.2.2.2.1); have HS6_ := (hb.cell (World.block_lt_of_cell? _ _ (hHeld.2.2.2.2.2.2.1))).trans (hHeld.2.2.2.2.2.2.1); have HS7_ := (hb.cell (World.block_lt_of_cell? _ _ (hHeld.2.2.2.2.2.2.2.1))).trans (hHeld.2.2.2.2.2.2.2.1); have HS8_ := (hb.cell (World.block_lt_of_cell? _ _ (hHeld.2.2.2.2.2.2.2.2))).trans (hHeld.2.2.2.2.2.2.2.2); refine ⟨_, rfl, ?_⟩; replace HO_4 := kA (Kd.V_elder' (mV HO_4) (Kd.R_base ho0) hb); replace HO_15 := kA (Kd.S_elder' (mS HO_15) (Kd.R_base ho0) hb); replace HO_78 := kR HO_78 hb; replace HO_268000 := kS HO_268000 hb; replace HL276_3 := kR HL276_3 hb; replace HL276_4 := kR HL276_4 hb; replace HO282 := kA (Kd.V_elder' (mV HO282) (Kd.R_base ho0) hb); have HO285 := kA (Kd.R_lower (Kd.R_newM (M := fun k_ => (w.heap.size ≤ k_)) ho0 (below_size (mH HB)) (fun k_ h_ => h_)) (below_size (mH HB))); replace BK254 := kB BK254 hb; replace BK255 := kB BK255 hb; replace BK267 := kB BK267 hb; replace BK275 := kB BK275 hb; replace HR276_3 := kA (Kd.C_below (by repeat (first | (with_reducible exact HR276_3.out) | (with_reducible refine Kd.C_alloc ?_ _) | (with_reducible refine Kd.C_drewN ?_ _) | (with_reducible refine Kd.C_drew ?_) | exact HR276_3.out)) hb); replace HR276_4 := kA (Kd.C_below (by repeat (first | (with_reducible exact HR276_4.out) | (with_reducible refine Kd.C_alloc ?_ _) | (with_reducible refine Kd.C_drewN ?_ _) | (with_reducible refine Kd.C_drew ?_) | exact HR276_4.out)) hb); replace HB := kH HB hb
          (try clear hb); (try clear hk); (try clear ho0)
          obtain ⟨Ao81, co81, eo81⟩ := Kd.R_slice HO285.out
          (first | subst eo81 | (injection eo81 with f1_ f2_ f3_; have f4_ := f1_.symm; have f5_ := f3_.symm; clear f1_ f2_ f3_; subst f4_; subst f5_))
          refine hK.out _ _ ⟨cZ0 BK275, cZ1 BK275, cZ2 BK275, HS3_, HS4_, HS5_, HS6_, HS7_, HS8_⟩ (fun hHeld => ?_); clear hK K; refine norm_ (a' := ?_) ?_ ?_; rotate_left
          ·
           show Act.put _ (some 102) _ = _
           simp only [Act.put, lT, l0_, lS, i64_w, i32_w]; rfl
          refine pE 19 103 B23_36 HT_ ?_
          refine last_ (i := 20) (N := some 104) B23_37 rfl rfl (one_of HT_.out (by kernel_rfl)) (by decide) (fun K hK => ?_); refine value_ (w1 := ?_) (v := ?_) (by rfl) rfl ?_ ?_; rotate_left 2
          ·
           go_simp
           constructor
           ·
            rfl
           ·
            rfl
          refine hK.out _ _ ?_; clear hK K; refine norm_ (a' := ?_) ?_ ?_; rotate_left
          ·
           show Act.put _ (some 104) _ = _
           simp only [Act.put, lT, l0_, lS, i64_w, i32_w]; rfl
          refine last_ (i := 21) (N := some 105) B23_38 rfl rfl (one_of HT_.out (by kernel_rfl)) (by decide) (fun K hK => ?_); refine Kd.S_append_step k60 (w0 := w) w.heap.size (by rfl) (.tmp 84) (.tmp 104) 51 60 (.agg #[(.int .i64 0), (.int .i64 0), (.int .i64 0), (.int .i64 0), (.int .i64 0), (.slice none 0 0)]) 64 rfl Try.underlying51 info60 rfl (by decide) (by omega) u15 x15_2 (⟨a2, (rX t271 x80_2).f0, rd ((rU y270 a2).f3) ((rX t271 x80_2).f0), 16, (rX t271 x80_2).f1, t283⟩ : S60) [.int .i64 a2, .int .i64 ((rX t271 x80_2).f0), .int .i64 (rd ((rU y270 a2).f3) ((rX t271 x80_2).f0)), .int .i64 16, .int .i64 ((rX t271 x80_2).f1), .slice Ao81 t283.length co81] (fun k_ => (w.heap.size ≤ k_)) (fun k_ => some k_ = (.slice Ao81 t283.length co81 : Value).ownBlock) rfl rfl ?aP (fun k_ hk_ => ((Kd.R_mono (ok' := fun k_ => ((fun k_ => (w.heap.size ≤ k_))) k_ ∧ some k_ ≠ (u15 : Value).ownBlock) (Kd.R_apart' (HO285.out) (Kd.S_typed HO_15.out) (by decide)) (fun k_ hk => by first | exact ⟨hk.1.1, hk.2⟩ | (go_split_ands; and_intros <;> assumption)))).1 k_ hk_.symm) ?aF ?aO ?aB ?aS ?aL ?_
          (case aP => exact k60_mkM _ _ _ (⟨a2, (rX t271 x80_2).f0, rd ((rU y270 a2).f3) ((rX t271 x80_2).f0), 16, (rX t271 x80_2).f1, t283⟩ : S60) (Kd.R_mono (Kd.R_tight rfl (Kd.R_mono (ok' := fun k_ => ((fun k_ => (w.heap.size ≤ k_))) k_ ∧ some k_ ≠ (u15 : Value).ownBlock) (Kd.R_apart' (HO285.out) (Kd.S_typed HO_15.out) (by decide)) (fun k_ hk => by first | exact ⟨hk.1.1, hk.2⟩ | (go_split_ands; and_intros <;> assumption)))) (fun _ h_ => h_)))
          (case aB => exact (mH HB))
          (case aF => exact (fun k_ hk => (Nat.le_trans (below_size (mH HB)) hk)))
          (case aO => exact (by (with_reducible repeat (first | apply Kd.S_alloc | apply Kd.S_drewN | apply Kd.S_drew)); exact Kd.S_mono HO_15.out (fun k_ hk => ⟨hk.1, fun e_ => hk.2 e_⟩)))
          (case aS => exact (below_size (mH HB)))
          (case aL => have := LMc68.out; omega)
          intro v287 w82 ho hb hg hat; rw [← Ny286.out] at ho; replace HO_4 := kA (Kd.V_afterv (ok := (fun k_ => (P4_ k_ ∨ w.heap.size ≤ k_) ∧ some k_ ≠ (.slice (some ad274) t271.length co57 : Value).ownBlock ∧ some k_ ≠ (.slice (some ⟨go39, 0, none⟩) y270.length co48 : Value).ownBlock ∧ some k_ ≠ (.slice Ao81 t283.length co81 : Value).ownBlock ∧ k_ ≠ gb254 ∧ k_ ≠ gb255 ∧ k_ ≠ gb267 ∧ k_ ≠ gb275)) (by (with_reducible repeat (first | apply Kd.V_alloc | apply Kd.V_drewN | apply Kd.V_drew)); exact Kd.V_mono HO_4.out (fun _ hk => by first | exact ⟨⟨hk.1.1, ⟨hk.1.2.2.1, ⟨hk.1.2.2.2.1, ⟨hk.2, ⟨hk.1.2.2.2.2.1, ⟨hk.1.2.2.2.2.2.1, ⟨hk.1.2.2.2.2.2.2.1, hk.1.2.2.2.2.2.2.2⟩⟩⟩⟩⟩⟩⟩, hk.1.2.1⟩ | (go_split_ands; and_intros <;> assumption))) hg hat); replace HO_78 := kA (Kd.R_over' (mR HO_78) (Kd.S_typed (mS HO_15)) (by decide) hg); replace HO_268000 := kA (Kd.S_over' (mS HO_268000) (Kd.S_typed (mS HO_15)) (by decide) hg); replace BK254 := kA (blk_grown (g := gb254) (o := .cells #[.slice (some ad262) l0_0.length c0_0] 24 (0, 0)) (mB BK254) hg (Kd.S_ne HO_15.out BK254.out (by decide))); replace BK255 := kA (blk_grown (g := gb255) (o := .cells #[.slice none 0 0] 24 (0, 0)) (mB BK255) hg (Kd.S_ne HO_15.out BK255.out (by decide))); replace BK267 := kA (blk_grown (g := gb267) (o := .cells #[.slice (some ⟨go39, 0, none⟩) y270.length co48] 24 (0, 0)) (mB BK267) hg (Kd.S_ne HO_15.out BK267.out (by decide))); replace BK275 := kA (blk_grown (g := gb275) (o := .cells #[.int .i64 ((rX t271 x80_2).f0), .int .i64 ((rX t271 x80_2).f1), .int .i64 ((rX t271 x80_2).f2)] 41 (0, 0)) (mB BK275) hg (Kd.S_ne HO_15.out BK275.out (by decide))); replace HL276_3 := kA (Kd.R_over' (mR HL276_3) (Kd.S_typed (mS HO_15)) (by decide) hg); replace HL276_4 := kA (Kd.R_over' (mR HL276_4) (Kd.S_typed (mS HO_15)) (by decide) hg); replace HO282 := kA (Kd.V_afterv (ok := (fun k_ => (P4_ k_ ∨ w.heap.size ≤ k_) ∧ some k_ ≠ (.slice (some ad274) t271.length co57 : Value).ownBlock ∧ some k_ ≠ (.slice (some ⟨go39, 0, none⟩) y270.length co48 : Value).ownBlock ∧ some k_ ≠ (.slice Ao81 t283.length co81 : Value).ownBlock ∧ k_ ≠ gb254 ∧ k_ ≠ gb255 ∧ k_ ≠ gb267 ∧ k_ ≠ gb275)) (by (with_reducible repeat (first | apply Kd.V_alloc | apply Kd.V_drewN | apply Kd.V_drew)); exact Kd.V_mono HO282.out (fun _ hk => by first | exact ⟨⟨hk.1.1, ⟨hk.1.2.2.1, ⟨hk.1.2.2.2.1, ⟨hk.2, ⟨hk.1.2.2.2.2.1, ⟨hk.1.2.2.2.2.2.1, ⟨hk.1.2.2.2.2.2.2.1, hk.1.2.2.2.2.2.2.2⟩⟩⟩⟩⟩⟩⟩, hk.1.2.1⟩ | (go_split_ands; and_intros <;> assumption))) hg hat); replace HB := kA (hb); have HO288 := kA (ho); clear HO_15 HO285; clear ho hb hg hat; refine hK.out _ _ ?_; clear hK K; refine norm_ (a' := ?_) ?_ ?_; rotate_left
          ·
           show Act.put _ (some 105) _ = _
           simp only [Act.put, lT, l0_, lS, i64_w, i32_w]; rfl
          refine pE 22 15 B23_39 HT_ ?_
          refine done_ (done_of HT_.out (by kernel_rfl)) ?_; obtain ⟨hcz83_0, hfz83_0⟩ := cY0 BK275; obtain ⟨hcz83_1, hfz83_1⟩ := cY1 BK275; obtain ⟨hcz83_2, hfz83_2⟩ := cY2 BK275; have q84 : (((rX t271 x80_2).f2) : Int) ≤ ((x4_2.length : Int) : Int) := dT; obtain ⟨i084, hi084, _, hsz84, _⟩ := info_parts info5; have hroom84 : x4_2.length ≤ co79 := (Kd.V_reads' HO_4.out).2.1; have hC84 : Kd.F (Kd.int .u8) _ _ Ao79 x4_2.length x4_2 := (Kd.V_at (base := w.heap.size) HO_4.out).2.2; have q084 : (0 : Int) ≤ (((rX t271 x80_2).f2) : Int) := dT; have hcut84 := cut_from (P := Try.prog) 50 5 .i64 Try.underlying50 hi084 1 hsz84 Ao79 x4_2.length co79 ((rX t271 x80_2).f2) q084 q84; have hr84 := Kd.F_cut (m := (((rX t271 x80_2).f2) : Int).toNat) (c := co79) hC84 (by omega) hroom84; obtain ⟨A84, hA84⟩ : ∃ A1, A1 = (if co79 = (((rX t271 x80_2).f2) : Int).toNat then Ao79 else (Ao79 : Option Addr).map (·.add ((((rX t271 x80_2).f2) : Int).toNat * 1))) := ⟨_, rfl⟩; obtain ⟨c84, hc84⟩ : ∃ c1, c1 = co79 - (((rX t271 x80_2).f2) : Int).toNat := ⟨_, rfl⟩; have hy84 : y289.length = x4_2.length - (((rX t271 x80_2).f2) : Int).toNat := (by rw [Ny289.out, List.length_drop] <;> omega); rw [show (x4_2).drop (((rX t271 x80_2).f2) : Int).toNat = y289 from Ny289.out.symm] at hr84; replace hr84 : Kd.F (Kd.int .u8) _ _ A84 y289.length y289 := (by rw [hA84]; exact hr84)
          rw [← hy84, ← hA84, ← hc84] at hcut84; have HO293 := kA (show Kd.V (Kd.int .u8) 5 _ w.heap.size _ (.slice A84 y289.length c84) y289 from Kd.V_mk (by rw [hy84, hc84]; exact Nat.sub_le_sub_right hroom84 _) hr84)
          have HC293 := kA (show y289.length ≤ c84 from by rw [hy84, hc84]; exact Nat.sub_le_sub_right hroom84 _)
          clear hr84 hC84 hroom84 hi084 hsz84 hc84; have KY84 := kA hy84; have KA84 := kA hA84; clear hy84 hA84; replace q84 := eq_true q84
          try go_wp2
          (try simp only [← hl268000_2])
          go_roundg k2
          case measure => have := HJ5.out; have := HK2.out; omega
          case rel => exact ⟨(y289), (y286), (wrap64 (x80_2 + 1)), sI, H', ⟨oM HJ5 HK2⟩, ⟨by (try simp only [hl268000_2]); (with_reducible repeat (first | apply Kd.V_alloc | apply Kd.V_drewN | apply Kd.V_drew)); exact Kd.V_mono HO293.out (fun _ hk => by first | exact ⟨hk.1.1, ⟨hk.2, ⟨hk.1.2.1, ⟨hk.1.2.2.1, ⟨hk.1.2.2.2.2.1, ⟨hk.1.2.2.2.2.2.1, hk.1.2.2.2.2.2.2.1⟩⟩⟩⟩⟩⟩ | (go_split_ands; and_intros <;> assumption))⟩, ⟨by (try simp only [hl268000_2]); (with_reducible repeat (first | apply Kd.S_alloc | apply Kd.S_drewN | apply Kd.S_drew)); exact HO288.out⟩, ⟨by (try simp only [hl268000_2]); (with_reducible repeat (first | apply Kd.R_alloc | apply Kd.R_drewN | apply Kd.R_drew)); exact Kd.R_mono HO_78.out (fun _ hk => hk.1)⟩, ⟨by (try simp only [hl268000_2]); (with_reducible repeat (first | apply Kd.S_alloc | apply Kd.S_drewN | apply Kd.S_drew)); exact HO_268000.out⟩, ⟨by (try simp only [hl268000_2]); (with_reducible repeat (first | refine bN ?_ _ | refine bD ?_ | refine bA ?_ _)); exact BK254.out⟩, ⟨by (try simp only [hl268000_2]); (with_reducible repeat (first | refine bN ?_ _ | refine bD ?_ | refine bA ?_ _)); exact BK255.out⟩, ⟨by (try simp only [hl268000_2]); (with_reducible repeat (first | refine bN ?_ _ | refine bD ?_ | refine bA ?_ _)); exact BK267.out⟩, ⟨mH HB⟩⟩
         ·
          rw [if_neg c58] at H; have c58b0 := qF c58; clear c58; simp only [Option.some.injEq, Prod.mk.injEq] at H; obtain ⟨rfl, rfl, rfl⟩ := H; have hnb85 := NB267_254.out; have hnc85 := NB254_267.out; have hnb86 := NB267_255.out; have hnc86 := NB255_267.out; obtain ⟨hcz87_0, hfz87_0⟩ := cY0 BK267; have hnb88 := NB255_254.out; have hnc88 := NB254_255.out; obtain ⟨hcz89_0, hfz89_0⟩ := cY0 BK255
          go_wp2
          refine bodyPost_ret (results_ctt rfl _ _ gb255 24 #[.slice (some ⟨go39, 0, none⟩) y270.length co48] (0, 0) _ rfl (pP BK255) Try.underlying24 rfl (by kernel_rfl)) rfl ?_
          exact ⟨_, _, by first | rfl | exact congrArg (fun b_ => Ending.returned (Value.bool b_)) HRET.out | (rw [HRET.out]) | (simp [errW_none, errW_some] <;> rfl) | (simp only [← hji38]; first | rfl | (simp [errW_none, errW_some] <;> rfl)) | (simp [*, errW_none, errW_some] <;> rfl), fS ⟨Kd.S_types HO_268000.out BK255.out (by decide)⟩, fS ⟨Kd.S_types HO_15.out BK255.out (by decide)⟩, mH HB⟩
     ·
      replace c25 := Bool.eq_false_iff.mpr c25; subst c25
      have H1 : (some (([] : List (S28)), ([] : List (S60)), 16)) = some (r1, r2, r3) := by rw [if_neg (show ¬ (false = true) by decide)] at H; exact H
      clear H; have H := H1; clear H1; simp only [Option.some.injEq, Prod.mk.injEq] at H; obtain ⟨rfl, rfl, rfl⟩ := H
      go_wp2_with (first | ((with_reducible refine gate_callee (f := 58) rfl ?_); refine goesK (some 38) Try.func58 #[.int .i64 a3, .int .i64 (l4.length : Int)] ?_; (with_reducible refine (span_Fits.calls a3 (l4.length : Int) false _ A24.out).mono ?_); rintro e w' ⟨rfl, ⟨nd, rfl⟩⟩; refine ⟨_, rfl, ?_⟩; (try (rw [drewN_self wc]; generalize hq_ : World.drewN wc _ = wc; have n0_ : Aside0 (Kd.V (Kd.int .u8) 5 wc w.heap.size (fun k_ => (P4_ k_ ∨ w.heap.size ≤ k_) ∧ k_ ≠ gb254 ∧ k_ ≠ gb255) (.slice A4 l4.length c4) l4) := ⟨by rw [← hq_]; exact (mV HO_4)⟩; have n1_ : Aside0 (wc.heap[gb254]? = some (.cells #[.slice A0_0 l0_0.length c0_0] 24 (0, 0))) := ⟨by rw [← hq_]; exact (mB BK254)⟩; have n2_ : Aside0 (wc.heap[gb255]? = some (.cells #[.slice none 0 0] 24 (0, 0))) := ⟨by rw [← hq_]; exact (mB BK255)⟩; have n3_ : Aside0 (Below w.heap.size w wc) := ⟨by rw [← hq_]; exact (mH HB)⟩; clear HO_4 BK254 BK255 HB hq_; have HO_4 := n0_; have BK254 := n1_; have BK255 := n2_; have HB := n3_; clear n0_ n1_ n2_ n3_)); have hnb90 := NB255_254.out; have hnc90 := NB254_255.out; obtain ⟨hcz91_0, hfz91_0⟩ := cY0 BK255))
      refine bodyPost_ret (results_ctt rfl _ _ gb255 24 #[.slice none 0 0] (0, 0) _ rfl (pP BK255) Try.underlying24 rfl (by kernel_rfl)) rfl ?_
      exact ⟨_, _, rT, by first | exact Kd.S_nil _ _ _ _ _ | exact Kd.N_nil _ _ _ _ _ | exact Kd.V_nil _ _ _ _ _ | exact Kd.Q_nil _ _ _ _ _ | exact Kd.R_nil _ _ _ _ _, by first | exact Kd.S_nil _ _ _ _ _ | exact Kd.N_nil _ _ _ _ _ | exact Kd.V_nil _ _ _ _ _ | exact Kd.Q_nil _ _ _ _ _ | exact Kd.R_nil _ _ _ _ _, mH HB⟩
end Go.Proofs.Ytkigiehkckjlhaa.PReads
