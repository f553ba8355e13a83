/- The Go functions that these laws reach, each as a Lean function with the same answers (a law itself where it answers true), and the proof that the code comes to them; conditions: those of each theorem. Laid by a program of this session over the print. -/
import Derived.Test.YtbaiicnibiogpaaPNamex0
import Derived.Test.YtbaiicnibiogpaaPNamex4
import Derived.Test.YtbaiicnibiogpaaPNamex5
import Derived.Test.YtbaiicnibiogpaaPNamex6
namespace Go.Proofs.Ytbaiicnibiogpaa.PName
open Go.RowKit Go.Proofs.YtbaiicnibiogpaaW.PrintWords Go.Proofs.YtbaiicnibiogpaaW.PrintLast Go.Proofs.YtbaiicnibiogpaaW.PrintMore
attribute [local go_sem] max2_int min2_int max_two min_two max_three min_three max_four min_four   -- for this text's walks alone
set_option linter.unusedVariables false
set_option linter.unusedSimpArgs false
open Go.Proofs.YtbaiicnibiogpaaW.PrintWords renaming blk_drewN → bN, blk_drew → bD, blk_alloc → bA, below_set → wS, below_alloc → wA, pw_below_drewN → wN, below_drew1 → wD, blk_below → bB, blk_far → bF, blk_cell → bC, blk_frozen → bZ
open List renaming setIfInBounds_toArray → lT, set_cons_zero → l0_, set_cons_succ → lS

/-! ### name_Find: function 17 -/
def name_Find.f (l0 : List (S38)) (a1 : ByteArray) : Option (Int) := (name_place.f l0 a1).bind fun t158 => (if t158 < 0 then (some (-1)) else (if 0 ≤ t158 then (if t158 < (l0.length : Int) then (some ((rd_T38 l0 t158).f1)) else (none)) else (none)))
set_option maxHeartbeats 8000000 in
set_option maxRecDepth 100000 in
theorem name_Find.calls (A0 : Option Addr) (c0 : Nat) (l0 : List (S38)) (a1 : ByteArray) (r : Int) (w : World) (hr0 : Kd.C k38 w A0 l0.length l0) (hc0 : l0.length ≤ c0) (h : name_Find.f l0 a1 = some r) :
 Calls Try.prog 17 #[.slice A0 l0.length c0, .string a1] w fun e w' => e = .returned (.int .i64 r) ∧ Below w.heap.size w w' := by
 have HR0 := Aside0.mk hr0; have HC0 := Aside0.mk hc0; clear hr0 hc0; have HB := Aside0.mk (Below.refl w.heap.size w); have H : ((name_place.f l0 a1).bind fun t158 => (if t158 < 0 then (some (-1)) else (if 0 ≤ t158 then (if t158 < (l0.length : Int) then (some ((rd_T38 l0 t158).f1)) else (none)) else (none)))) = some r := h; clear h; replace H := Option.bind_eq_some_iff.mp H; obtain ⟨t158, A30, H⟩ := H; replace H : (if t158 < 0 then (some (-1)) else (if 0 ≤ t158 then (if t158 < (l0.length : Int) then (some ((rd_T38 l0 t158).f1)) else (none)) else (none))) = some r := H; have A3 := Aside0.mk A30; clear A30
 by_cases c4 : t158 < 0
 ·
  rw [if_pos c4] at H; have c4b0 : decide (t158 < 0) = true := decide_eq_true c4; clear c4; obtain rfl := Option.some.inj H
  go_enter Try.func17, Try.ntmps17
  go_wp2_with (first | ((with_reducible refine gate_callee (f := 41) rfl ?_); refine goesL_ (some 8) rfl rfl Try.func41 (by kernel_rfl) rfl #[.slice A0 l0.length c0, .string a1] rfl (by (try simp only [List.map_toArray, List.map_cons, List.map_nil]); first | done | rfl | (simp only [List.length_drop, List.length_take]; rfl)) ?_; (with_reducible refine (name_place.calls _ _ l0 a1 t158 _ ?side1 ?side2 A3.out).mono ?_); (case side1 => repeat (first | exact HR0.out | (with_reducible refine Kd.C_alloc ?_ _) | (with_reducible refine Kd.C_drewN ?_ _) | (with_reducible refine Kd.C_drew ?_))); (case side2 => exact HC0.out); rintro e w5 ⟨rfl, hb⟩; refine ⟨_, rfl, ?_⟩; have n0_ := Aside0.mk (below_step (by repeat (first | (with_reducible first | exact HB.out | apply wA | apply wN | apply wD) | exact HB.out)) hb); clear HB; have HB := n0_; clear n0_; (try clear hb); (try clear hb2); (try clear hk); (try clear hi)))
  go_ret
  exact ⟨by first | rfl | exact congrArg (fun b_ => Ending.returned (Value.bool b_)) HRET.out | (rw [HRET.out]) | (simp [errW_none, errW_some] <;> rfl) | (simp [*, errW_none, errW_some] <;> rfl), by repeat (first | (with_reducible first | exact HB.out | apply wA | apply wN | apply wD) | exact HB.out)⟩
 ·
  rw [if_neg c4] at H; have c4b0 : decide (t158 < 0) = false := decide_eq_false c4; clear c4
  by_cases c6 : 0 ≤ t158
  ·
   rw [if_pos c6] at H; have c6b0 : decide (0 ≤ t158) = true := decide_eq_true c6; clear c6
   by_cases c7 : t158 < (l0.length : Int)
   ·
    rw [if_pos c7] at H; have c7b0 : decide (t158 < (l0.length : Int)) = true := decide_eq_true c7; clear c7; obtain rfl := Option.some.inj H
    go_enter Try.func17, Try.ntmps17
    go_wp2_with (first | ((with_reducible refine gate_callee (f := 41) rfl ?_); refine goesL_ (some 8) rfl rfl Try.func41 (by kernel_rfl) rfl #[.slice A0 l0.length c0, .string a1] rfl (by (try simp only [List.map_toArray, List.map_cons, List.map_nil]); first | done | rfl | (simp only [List.length_drop, List.length_take]; rfl)) ?_; (with_reducible refine (name_place.calls _ _ l0 a1 t158 _ ?side1 ?side2 A3.out).mono ?_); (case side1 => repeat (first | exact HR0.out | (with_reducible refine Kd.C_alloc ?_ _) | (with_reducible refine Kd.C_drewN ?_ _) | (with_reducible refine Kd.C_drew ?_))); (case side2 => exact HC0.out); rintro e w8 ⟨rfl, hb⟩; refine ⟨_, rfl, ?_⟩; have n0_ := Aside0.mk (below_step (by repeat (first | (with_reducible first | exact HB.out | apply wA | apply wN | apply wD) | exact HB.out)) hb); clear HB; have HB := n0_; clear n0_; (try clear hb); (try clear hb2); (try clear hk); (try clear hi); have p159 : 0 ≤ (t158 : Int) := of_decide_eq_true (by first | (with_reducible assumption) | assumption); have q159 : t158 < (l0.length : Int) := of_decide_eq_true (by first | (with_reducible assumption) | assumption); obtain ⟨ad159, e159, hx159_0, hx159_1⟩ := at_T38 HR0.out t158 p159 q159; cases e159; replace hx159_0 := (HB.out.cell (World.block_lt_of_cell? w _ hx159_0)).trans hx159_0; replace hx159_1 := (HB.out.cell (World.block_lt_of_cell? w _ hx159_1)).trans hx159_1; replace p159 := eq_true p159; replace q159 := eq_true q159))
    go_ret
    exact ⟨by first | rfl | exact congrArg (fun b_ => Ending.returned (Value.bool b_)) HRET.out | (rw [HRET.out]) | (simp [errW_none, errW_some] <;> rfl) | (simp [*, errW_none, errW_some] <;> rfl), by repeat (first | (with_reducible first | exact HB.out | apply wA | apply wN | apply wD) | exact HB.out)⟩
   ·
    rw [if_neg c7] at H; exact absurd H (by simp)
  ·
   rw [if_neg c6] at H; exact absurd H (by simp)

/-! ### name_Names: function 22 -/
def name_Names.l0 : Nat → List ByteArray → List (S38) → Int → Int → Option (List ByteArray)
 | 0, _, _, _, _ => none
 | k + 1, x3, x6, x7, x8 => if x8 < x7 then (if 0 ≤ x8 then (if x8 < (x6.length : Int) then (if x3.length < 8796093022208 then (name_Names.l0 k (x3 ++ [(rd_T38 x6 x8).f0]) x6 x7 (wrap64 (x8 + 1))) else (none)) else (none)) else (none)) else (some x3)
def name_Names.f (k : Nat) (l0 : List (S38)) : Option (List ByteArray) := name_Names.l0 k ([] : List ByteArray) l0 (l0.length : Int) 0
theorem name_Names.mono_l : ∀ k, (∀ y0 y1 y2 y3, LeO (name_Names.l0 k y0 y1 y2 y3) (name_Names.l0 (k + 1) y0 y1 y2 y3))
 | 0 => fun _ _ _ _ r h => by simp [name_Names.l0] at h
 | k + 1 => by
  have ih0 := name_Names.mono_l k
  ·
   intro y0 y1 y2 y3
   unfold name_Names.l0
   repeat' first
   | (with_reducible exact ih0 _ _ _ _)
   | (with_reducible exact LeO.refl _)
   | (with_reducible exact LeO.none _)
   | (with_reducible refine LeO.ite ?_ ?_)
   | (with_reducible refine LeO.bind ?_ (fun _ => ?_))
   | exact ih0 _ _ _ _
   | exact LeO.none _
   | refine LeO.ite ?_ ?_
   | refine LeO.bind ?_ (fun _ => ?_)
theorem name_Names.mono : ∀ a0 k, LeO (name_Names.f k a0) (name_Names.f (k + 1) a0) := by
 intro a0 k; have ih0 := name_Names.mono_l k
 unfold name_Names.f
 repeat' first
  | (with_reducible exact ih0 _ _ _ _)
  | (with_reducible exact LeO.refl _)
  | (with_reducible exact LeO.none _)
  | (with_reducible refine LeO.ite ?_ ?_)
  | (with_reducible refine LeO.bind ?_ (fun _ => ?_))
  | exact ih0 _ _ _ _
  | exact LeO.none _
  | refine LeO.ite ?_ ?_
  | refine LeO.bind ?_ (fun _ => ?_)
set_option maxHeartbeats 8000000 in
set_option maxRecDepth 100000 in
theorem name_Names.calls (k : Nat) (A0 : Option Addr) (c0 : Nat) (l0 : List (S38)) (r : List ByteArray) (w : World) (hr0 : Kd.C k38 w A0 l0.length l0) (hc0 : l0.length ≤ c0) (h : name_Names.f k l0 = some r) :
 Calls Try.prog 22 #[.slice A0 l0.length c0] w fun e w' => ∃ v0_ : Value, e = .returned (v0_) ∧ Kd.R Kd.string 9 w' w.heap.size (fun _ => True) v0_ r ∧ Below w.heap.size w w' := by
 have hu38 := Try.underlying38; have HR0 := Aside0.mk hr0; have HC0 := Aside0.mk hc0; clear hr0 hc0; have HB := Aside0.mk (Below.refl w.heap.size w); have H : (name_Names.l0 k ([] : List ByteArray) l0 (l0.length : Int) 0) = some r := h; clear h; have H' := Aside0.mk H; clear H
 go_enter Try.func22, Try.ntmps22
 go_wp2
 go_loopg [3, 8] k (fun kq v3 v8 w' => ∃ (x3_1 : List ByteArray) (x8_1 : Int), v8 = .int .i64 x8_1 ∧ Aside0 (name_Names.l0 kq x3_1 l0 (l0.length : Int) x8_1 = some r) ∧ Aside0 (kq ≤ k) ∧ Aside0 (Kd.R Kd.string 9 w' w.heap.size (fun _ => True) v3 x3_1) ∧ Aside0 (Below w.heap.size w w'))
 case atStart => exact ⟨(([] : List ByteArray)), (0), (by first | rfl | (simp; done) | (simp [*]; done)), H', ⟨Nat.le_refl _⟩, ⟨by first | exact Kd.R_nil _ _ _ _ _ | exact Kd.N_nil _ _ _ _ _ | exact Kd.V_nil _ _ _ _ _ | exact Kd.Q_nil _ _ _ _ _ | exact Kd.S_nil _ _ _ _ _⟩, ⟨by repeat (first | (with_reducible first | exact HB.out | apply wA | apply wN | apply wD) | exact HB.out)⟩⟩
 case round =>
  clear H'; obtain ⟨x3_1, x8_1, rfl, HA, HK1, HO_3, HB⟩ := hrel
  cases gk with
  | zero => exact absurd HA.out (by simp [name_Names.l0])
  | succ k1 =>
   have H := HA.out; clear HA; simp only [name_Names.l0] at H
   by_cases c2 : x8_1 < (l0.length : Int)
   ·
    rw [if_pos c2] at H; have c2b0 : decide (x8_1 < (l0.length : Int)) = true := decide_eq_true c2; clear c2
    by_cases c3 : 0 ≤ x8_1
    ·
     rw [if_pos c3] at H; have c3b0 : decide (0 ≤ x8_1) = true := decide_eq_true c3; clear c3
     by_cases c4 : x8_1 < (l0.length : Int)
     ·
      rw [if_pos c4] at H; have c4b0 : decide (x8_1 < (l0.length : Int)) = true := decide_eq_true c4; clear c4
      by_cases c5 : x3_1.length < 8796093022208
      ·
       rw [if_pos c5] at H; have LMc5 := Aside0.mk c5; clear c5; obtain ⟨y162, hy162⟩ : ∃ y_ : List ByteArray, y_ = (x3_1 ++ [(rd_T38 l0 x8_1).f0]) := ⟨_, rfl⟩
       replace H : (name_Names.l0 k1 y162 l0 (l0.length : Int) (wrap64 (x8_1 + 1))) = some r := by first | (rw [hy162]; with_reducible exact H) | (have H2_ := (Option.bind_some _ _).symm.trans H; rw [hy162]; with_reducible exact H2_) | (have H2_ := (Option.bind_some _ _).symm.trans H; with_reducible exact H2_) | with_reducible exact H | (rw [hy162]; exact H) | exact H
       have Ny162 := Aside0.mk hy162; clear hy162; have H' := Aside0.mk H; clear H; have p160 : 0 ≤ (x8_1 : Int) := of_decide_eq_true (by first | (with_reducible assumption) | assumption); have q160 : x8_1 < (l0.length : Int) := of_decide_eq_true (by first | (with_reducible assumption) | assumption); obtain ⟨ad160, e160, hx160_0, hx160_1⟩ := at_T38 HR0.out x8_1 p160 q160
       cases e160
       replace hx160_0 := (HB.out.cell (World.block_lt_of_cell? w _ hx160_0)).trans hx160_0; replace hx160_1 := (HB.out.cell (World.block_lt_of_cell? w _ hx160_1)).trans hx160_1; replace p160 := eq_true p160; replace q160 := eq_true q160
       go_wp2_with (first | ((with_reducible refine gate_dst (N := 5) rfl ?_); refine box_event ?hg (N := 5) ?hd (cs := #[.string (⟨#[]⟩ : ByteArray), .int .i64 0]) (t := 38) ?hr ?_; (case hd => rfl); (case hg => rfl); (case hr => first | (go_simp; done) | (go_simp; rfl)); intro gb161 hg w6 hbox hb; have n0_ := Aside0.mk (Kd.R_below (by (with_reducible repeat (first | apply Kd.R_alloc | apply Kd.R_drewN | apply Kd.R_drew)); exact HO_3.out) hb); have n1_ := Aside0.mk (below_step (by repeat (first | (with_reducible first | exact HB.out | apply wA | apply wN | apply wD) | exact HB.out)) hb); have n2_ := Aside0.mk (hbox); have n3_ := Aside0.mk ((by rw [hg]; exact (below_size (by repeat (first | (with_reducible first | exact HB.out | apply wA | apply wN | apply wD) | exact HB.out))) : w.heap.size ≤ gb161)); have n4_ := Aside0.mk ((by rw [hg]; exact (below_size (by repeat (first | (with_reducible first | exact HB.out | apply wA | apply wN | apply wD) | exact HB.out))) : w.heap.size ≤ gb161)); clear HO_3; clear HB; have HO_3 := n0_; have HB := n1_; have BK161 := n2_; have GW161 := n3_; have GE161 := n4_; clear n0_ n1_ n2_ n3_ n4_; clear hb hbox hg; have hcz7_0 : w6.cell? ⟨gb161, 0, none⟩ = some (.string (⟨#[]⟩ : ByteArray)) := (bC BK161.out 0).trans rfl; have hcz7_1 : w6.cell? ⟨gb161, 1, none⟩ = some (.int .i64 0) := (bC BK161.out 1).trans rfl; have hfz7_0 := bZ BK161.out 0; have hfz7_1 := bZ BK161.out 1) | ((with_reducible refine gate_builtin (b := .append) (xs := #[.tmp 12, .tmp 15]) rfl ?_); at_builtin; refine Kd.R_append Kd.string (w0 := w) w.heap.size rfl (.tmp 12) (.tmp 15) 22 9 (.string ⟨#[]⟩) 16 rfl Try.underlying22 info9 rfl (by decide) (by omega) u3 x3_1 ((rd_T38 l0 x8_1).f0) [.string ((rd_T38 l0 x8_1).f0)] (fun _ => True) (fun _ => False) rfl (by first | (go_simp; done) | (go_simp; rfl)) ?aP (fun _ hk => hk.elim) ?aF ?aO ?aB ?aS ?aL ?_; (case aP => exact rfl); (case aB => exact (by repeat (first | (with_reducible first | exact HB.out | apply wA | apply wN | apply wD | refine wS ?_ GE161.out) | exact HB.out))); (case aF => exact (fun _ _ => trivial)); (case aO => exact (by (with_reducible repeat (first | apply Kd.R_alloc | apply Kd.R_drewN | apply Kd.R_drew)); exact Kd.R_mono (Kd.R_far (p := ⟨gb161, 1, none⟩) (Kd.R_far (p := ⟨gb161, 0, none⟩) (Kd.R_types HO_3.out BK161.out (by decide)) (fun _ hk => hk.2) (.string ((rd_T38 l0 x8_1).f0))) (fun _ hk => hk.2) (.int .i64 ((rd_T38 l0 x8_1).f1))) (fun _ hk => trivial))); (case aS => exact (below_size (by repeat (first | (with_reducible first | exact HB.out | apply wA | apply wN | apply wD | refine wS ?_ GE161.out) | exact HB.out)))); (case aL => have := LMc5.out; omega); intro v163 w8 ho hb hg hat; rw [← Ny162.out] at ho; have n0_ := Aside0.mk (blk_grown (g := gb161) (o := .cells #[.string ((rd_T38 l0 x8_1).f0), .int .i64 ((rd_T38 l0 x8_1).f1)] 38 (0, 0)) (by (with_reducible repeat (first | refine bN ?_ _ | refine bD ?_ | refine bA ?_ _)); refine blk_put (cs := #[.string ((rd_T38 l0 x8_1).f0), .int .i64 0]) ?_ 1 _ rfl; (with_reducible repeat (first | refine bN ?_ _ | refine bD ?_ | refine bA ?_ _)); refine blk_put (cs := #[.string (⟨#[]⟩ : ByteArray), .int .i64 0]) ?_ 0 _ rfl; (with_reducible repeat (first | refine bN ?_ _ | refine bD ?_ | refine bA ?_ _)); exact BK161.out) hg (Kd.R_ne HO_3.out BK161.out (by decide))); have n1_ := Aside0.mk (hb); have n2_ := Aside0.mk (ho); clear BK161; clear HB; clear HO_3; have BK161 := n0_; have HB := n1_; have HO164 := n2_; clear n0_ n1_ n2_; clear ho hb hg hat))
       go_roundg k1
       case measure => have := HK1.out; omega
       case rel => exact ⟨(y162), (wrap64 (x8_1 + 1)), (by first | rfl | (simp; done) | (simp [*]; done)), H', ⟨by have := HK1.out; omega⟩, ⟨by (with_reducible repeat (first | apply Kd.R_alloc | apply Kd.R_drewN | apply Kd.R_drew)); exact HO164.out⟩, ⟨by repeat (first | (with_reducible first | exact HB.out | apply wA | apply wN | apply wD | refine wS ?_ GE161.out) | exact HB.out)⟩⟩
      ·
       rw [if_neg c5] at H; exact absurd H (by simp)
     ·
      rw [if_neg c4] at H; exact absurd H (by simp)
    ·
     rw [if_neg c3] at H; exact absurd H (by simp)
   ·
    rw [if_neg c2] at H; have c2b0 : decide (x8_1 < (l0.length : Int)) = false := decide_eq_false c2; clear c2; obtain rfl := Option.some.inj H
    go_wp2
    go_ret
    exact ⟨_, by first | rfl | exact congrArg (fun b_ => Ending.returned (Value.bool b_)) HRET.out | (rw [HRET.out]) | (simp [errW_none, errW_some] <;> rfl) | (simp [*, errW_none, errW_some] <;> rfl), by (with_reducible repeat (first | apply Kd.R_alloc | apply Kd.R_drewN | apply Kd.R_drew)); exact HO_3.out, by repeat (first | (with_reducible first | exact HB.out | apply wA | apply wN | apply wD) | exact HB.out)⟩

/-! ### potsherdlaw13_awake: function 12 -/
def potsherdlaw13_awake.f (k : Nat)  : Option (Bool) := (name_With.f k ([] : List (S38)) (⟨#[98]⟩ : ByteArray) 2).bind fun bt165 => ((name_With.f k bt165.1 (⟨#[97]⟩ : ByteArray) 1).bind fun bt169 => ((name_Names.f k bt169.1).bind fun t173 => (if bt165.2 = 0 then (if bt169.2 = 0 then (if (t173.length : Int) = 2 then (if 0 < (t173.length : Int) then (if (rdOf ByteArray.empty t173 0).toList = ([97] : List UInt8) then ((name_Find.f bt169.1 (⟨#[98]⟩ : ByteArray)).bind fun t177 => (if t177 = 2 then ((name_May.f k bt169.1).bind fun t178 => (if t178 = true then ((name_Find.f bt169.1 (⟨#[99]⟩ : ByteArray)).bind fun t179 => (some (t179 == (-1)))) else (some false))) else (some false))) else (some false)) else (none)) else (some false)) else (some false)) else (some false))))
theorem potsherdlaw13_awake.mono : ∀ k, LeO (potsherdlaw13_awake.f k ) (potsherdlaw13_awake.f (k + 1) ) := by
 intro  k
 unfold potsherdlaw13_awake.f
 repeat' first
  | (with_reducible exact name_May.mono _ _)
  | (with_reducible exact name_Names.mono _ _)
  | (with_reducible exact name_With.mono _ _ _ _)
  | (with_reducible exact LeO.refl _)
  | (with_reducible exact LeO.none _)
  | (with_reducible refine LeO.ite ?_ ?_)
  | (with_reducible refine LeO.bind ?_ (fun _ => ?_))
  | exact name_May.mono _ _
  | exact name_Names.mono _ _
  | exact name_With.mono _ _ _ _
  | exact LeO.none _
  | refine LeO.ite ?_ ?_
  | refine LeO.bind ?_ (fun _ => ?_)
set_option maxHeartbeats 8000000 in
set_option maxRecDepth 100000 in
theorem potsherdlaw13_awake.callsT (k : Nat)  (w : World) (h : potsherdlaw13_awake.f k  = some true) :
 Calls Try.prog 12 #[] w fun e w' => e = .returned (.bool true) ∧ Below w.heap.size w w' := by
 have HB := Aside0.mk (Below.refl w.heap.size w); have H : ((name_With.f k ([] : List (S38)) (⟨#[98]⟩ : ByteArray) 2).bind fun bt165 => ((name_With.f k bt165.1 (⟨#[97]⟩ : ByteArray) 1).bind fun bt169 => ((name_Names.f k bt169.1).bind fun t173 => (if bt165.2 = 0 then (if bt169.2 = 0 then (if (t173.length : Int) = 2 then (if 0 < (t173.length : Int) then (if (rdOf ByteArray.empty t173 0).toList = ([97] : List UInt8) then ((name_Find.f bt169.1 (⟨#[98]⟩ : ByteArray)).bind fun t177 => (if t177 = 2 then ((name_May.f k bt169.1).bind fun t178 => (if t178 = true then ((name_Find.f bt169.1 (⟨#[99]⟩ : ByteArray)).bind fun t179 => (some (t179 == (-1)))) else (some false))) else (some false))) else (some false)) else (none)) else (some false)) else (some false)) else (some false))))) = some true := h; clear h; replace H := Option.bind_eq_some_iff.mp H; obtain ⟨⟨t165, t168⟩, A10, H⟩ := H; replace H : ((name_With.f k t165 (⟨#[97]⟩ : ByteArray) 1).bind fun bt169 => ((name_Names.f k bt169.1).bind fun t173 => (if t168 = 0 then (if bt169.2 = 0 then (if (t173.length : Int) = 2 then (if 0 < (t173.length : Int) then (if (rdOf ByteArray.empty t173 0).toList = ([97] : List UInt8) then ((name_Find.f bt169.1 (⟨#[98]⟩ : ByteArray)).bind fun t177 => (if t177 = 2 then ((name_May.f k bt169.1).bind fun t178 => (if t178 = true then ((name_Find.f bt169.1 (⟨#[99]⟩ : ByteArray)).bind fun t179 => (some (t179 == (-1)))) else (some false))) else (some false))) else (some false)) else (none)) else (some false)) else (some false)) else (some false)))) = some true := H; have A1 := Aside0.mk A10; clear A10; replace H := Option.bind_eq_some_iff.mp H; obtain ⟨⟨t169, t172⟩, A20, H⟩ := H; replace H : ((name_Names.f k t169).bind fun t173 => (if t168 = 0 then (if t172 = 0 then (if (t173.length : Int) = 2 then (if 0 < (t173.length : Int) then (if (rdOf ByteArray.empty t173 0).toList = ([97] : List UInt8) then ((name_Find.f t169 (⟨#[98]⟩ : ByteArray)).bind fun t177 => (if t177 = 2 then ((name_May.f k t169).bind fun t178 => (if t178 = true then ((name_Find.f t169 (⟨#[99]⟩ : ByteArray)).bind fun t179 => (some (t179 == (-1)))) else (some false))) else (some false))) else (some false)) else (none)) else (some false)) else (some false)) else (some false))) = some true := H; have A2 := Aside0.mk A20; clear A20; replace H := Option.bind_eq_some_iff.mp H; obtain ⟨t173, A30, H⟩ := H; replace H : (if t168 = 0 then (if t172 = 0 then (if (t173.length : Int) = 2 then (if 0 < (t173.length : Int) then (if (rdOf ByteArray.empty t173 0).toList = ([97] : List UInt8) then ((name_Find.f t169 (⟨#[98]⟩ : ByteArray)).bind fun t177 => (if t177 = 2 then ((name_May.f k t169).bind fun t178 => (if t178 = true then ((name_Find.f t169 (⟨#[99]⟩ : ByteArray)).bind fun t179 => (some (t179 == (-1)))) else (some false))) else (some false))) else (some false)) else (none)) else (some false)) else (some false)) else (some false)) = some true := H; have A3 := Aside0.mk A30; clear A30
 by_cases c4 : t168 = 0
 ·
  rw [if_pos c4] at H; have c4b0 : (t168 == 0) = true := beq_iff_eq.mpr c4; have c4b1 : (t168 != 0) = false := bne_eq_false_iff_eq.mpr c4; clear c4
  by_cases c5 : t172 = 0
  ·
   rw [if_pos c5] at H; have c5b0 : (t172 == 0) = true := beq_iff_eq.mpr c5; have c5b1 : (t172 != 0) = false := bne_eq_false_iff_eq.mpr c5; clear c5
   by_cases c6 : (t173.length : Int) = 2
   ·
    rw [if_pos c6] at H; have c6b0 : ((t173.length : Int) == 2) = true := beq_iff_eq.mpr c6; have c6b1 : ((t173.length : Int) != 2) = false := bne_eq_false_iff_eq.mpr c6; clear c6
    by_cases c7 : 0 < (t173.length : Int)
    ·
     rw [if_pos c7] at H; have c7b0 : decide (0 < (t173.length : Int)) = true := decide_eq_true c7; have c7b1 : decide (0 < t173.length) = true := decide_eq_true (by omega); clear c7
     by_cases c8 : (rdOf ByteArray.empty t173 0).toList = ([97] : List UInt8)
     ·
      rw [if_pos c8] at H; have c8b0 : ((rdOf ByteArray.empty t173 0).toList == ([97] : List UInt8)) = true := beq_iff_eq.mpr c8; have c8b1 : ((rdOf ByteArray.empty t173 0).toList != ([97] : List UInt8)) = false := bne_eq_false_iff_eq.mpr c8; clear c8; replace H := Option.bind_eq_some_iff.mp H; obtain ⟨t177, A90, H⟩ := H; replace H : (if t177 = 2 then ((name_May.f k t169).bind fun t178 => (if t178 = true then ((name_Find.f t169 (⟨#[99]⟩ : ByteArray)).bind fun t179 => (some (t179 == (-1)))) else (some false))) else (some false)) = some true := H; have A9 := Aside0.mk A90; clear A90
      by_cases c10 : t177 = 2
      ·
       rw [if_pos c10] at H; have c10b0 : (t177 == 2) = true := beq_iff_eq.mpr c10; have c10b1 : (t177 != 2) = false := bne_eq_false_iff_eq.mpr c10; clear c10; replace H := Option.bind_eq_some_iff.mp H; obtain ⟨t178, A110, H⟩ := H; replace H : (if t178 = true then ((name_Find.f t169 (⟨#[99]⟩ : ByteArray)).bind fun t179 => (some (t179 == (-1)))) else (some false)) = some true := H; have A11 := Aside0.mk A110; clear A110
       by_cases c12 : t178 = true
       ·
        subst c12
        have H1 : ((name_Find.f t169 (⟨#[99]⟩ : ByteArray)).bind fun t179 => (some (t179 == (-1)))) = some true := by rw [if_pos rfl] at H; exact H
        clear H; have H := H1; clear H1; replace H := Option.bind_eq_some_iff.mp H; obtain ⟨t179, A130, H⟩ := H; replace H : (some (t179 == (-1))) = some true := H; have A13 := Aside0.mk A130; clear A130; have HRET := Aside0.mk (Option.some.inj H); clear H
        go_enter Try.func12, Try.ntmps12
        go_wp2_with (first | ((with_reducible refine gate_callee (f := 14) rfl ?_); refine goesL_ (some 6) rfl rfl Try.func14 (by kernel_rfl) rfl #[.slice none 0 0, .string (⟨#[98]⟩ : ByteArray), .int .i64 2] rfl (by (try simp only [List.map_toArray, List.map_cons, List.map_nil]); first | done | rfl | (simp only [List.length_drop, List.length_take]; rfl)) ?_; (refine (name_With.calls k (fun k_ => False) _ _ ([] : List (S38)) (⟨#[98]⟩ : ByteArray) 2 t165 t168 _ ?side1 A1.out).mono ?_); (case side1 => exact Kd.V_nil _ _ _ _ _); rintro e w14 ⟨v166, rfl, ho0, hb⟩; refine ⟨_, rfl, ?_⟩; have n0_ := Aside0.mk (Kd.R_lower (Kd.R_mono (ok' := fun k_ => True) ho0 (fun _ hk_ => trivial)) (below_size (by repeat (first | (with_reducible first | exact HB.out | apply wA | apply wN | apply wD) | exact HB.out)))); have n1_ := Aside0.mk (below_step (by repeat (first | (with_reducible first | exact HB.out | apply wA | apply wN | apply wD) | exact HB.out)) hb); clear HB; have HO167 := n0_; have HB := n1_; clear n0_ n1_; (try clear hb); (try clear hb2); (try clear hk); (try clear hi); (try clear ho0); obtain ⟨Ao15, co15, eo15⟩ := Kd.R_slice HO167.out; subst eo15) | ((with_reducible refine gate_callee (f := 14) rfl ?_); refine goesL_ (some 11) rfl rfl Try.func14 (by kernel_rfl) rfl #[.slice Ao15 t165.length co15, .string (⟨#[97]⟩ : ByteArray), .int .i64 1] rfl (by (try simp only [List.map_toArray, List.map_cons, List.map_nil]); first | done | rfl | (simp only [List.length_drop, List.length_take]; rfl)) ?_; (with_reducible refine (name_With.calls k (fun k_ => some k_ = (.slice Ao15 t165.length co15 : Value).ownBlock) _ _ t165 (⟨#[97]⟩ : ByteArray) 1 t169 t172 _ ?side1 A2.out).mono ?_); (case side1 => exact Kd.R_V (Kd.R_tight rfl (HO167.out))); rintro e w16 ⟨v170, rfl, ho0, hb⟩; refine ⟨_, rfl, ?_⟩; have n0_ := Aside0.mk (Kd.R_elder' (by (with_reducible repeat (first | apply Kd.R_alloc | apply Kd.R_drewN | apply Kd.R_drew)); exact HO167.out) (Kd.R_base ho0) hb); have n1_ := Aside0.mk (Kd.R_lower (Kd.R_new' (Kd.R_mono (ok' := fun k_ => True) ho0 (fun _ hk_ => trivial)) (Kd.R_lt (by (with_reducible repeat (first | apply Kd.R_alloc | apply Kd.R_drewN | apply Kd.R_drew)); exact HO167.out))) (below_size (by repeat (first | (with_reducible first | exact HB.out | apply wA | apply wN | apply wD) | exact HB.out)))); have n2_ := Aside0.mk (below_step (by repeat (first | (with_reducible first | exact HB.out | apply wA | apply wN | apply wD) | exact HB.out)) hb); clear HO167; clear HB; have HO167 := n0_; have HO171 := n1_; have HB := n2_; clear n0_ n1_ n2_; (try clear hb); (try clear hb2); (try clear hk); (try clear hi); (try clear ho0); obtain ⟨Ao17, co17, eo17⟩ := Kd.R_slice HO171.out; subst eo17) | ((with_reducible refine gate_callee (f := 22) rfl ?_); refine goesL_ (some 15) rfl rfl Try.func22 (by kernel_rfl) rfl #[.slice Ao17 t169.length co17] rfl (by (try simp only [List.map_toArray, List.map_cons, List.map_nil]); first | done | rfl | (simp only [List.length_drop, List.length_take]; rfl)) ?_; (with_reducible refine (name_Names.calls k _ _ t169 t173 _ ?side1 ?side2 A3.out).mono ?_); (case side1 => repeat (first | exact (Kd.R_reads' HO171.out).2.2 | (with_reducible refine Kd.C_alloc ?_ _) | (with_reducible refine Kd.C_drewN ?_ _) | (with_reducible refine Kd.C_drew ?_))); (case side2 => exact (Kd.R_reads' HO171.out).2.1); rintro e w18 ⟨v174, rfl, ho0, hb⟩; refine ⟨_, rfl, ?_⟩; have n0_ := Aside0.mk (Kd.R_below (by (with_reducible repeat (first | apply Kd.R_alloc | apply Kd.R_drewN | apply Kd.R_drew)); exact HO167.out) hb); have n1_ := Aside0.mk (Kd.R_below (by (with_reducible repeat (first | apply Kd.R_alloc | apply Kd.R_drewN | apply Kd.R_drew)); exact HO171.out) hb); have n2_ := Aside0.mk (Kd.R_lower ho0 (below_size (by repeat (first | (with_reducible first | exact HB.out | apply wA | apply wN | apply wD) | exact HB.out)))); have n3_ := Aside0.mk (below_step (by repeat (first | (with_reducible first | exact HB.out | apply wA | apply wN | apply wD) | exact HB.out)) hb); clear HO167; clear HO171; clear HB; have HO167 := n0_; have HO171 := n1_; have HO175 := n2_; have HB := n3_; clear n0_ n1_ n2_ n3_; (try clear hb); (try clear hb2); (try clear hk); (try clear hi); (try clear ho0); obtain ⟨Ao19, co19, eo19⟩ := Kd.R_slice HO175.out; subst eo19; have p176 : 0 ≤ (0 : Int) := (by omega); have q176 : 0 < (t173.length : Int) := of_decide_eq_true (by first | (with_reducible assumption) | assumption); obtain ⟨ad176, e176, hx176_0⟩ := Kd.at_string (Kd.R_reads' HO175.out).2.2 0 p176 q176; cases e176; have qi176 : (0 < t173.length) = True := eq_true (by omega); (try rw [show ((0 : Int)).toNat = 0 from rfl] at hx176_0); (try rw [Addr.add_zero'] at hx176_0); replace p176 := eq_true p176; replace q176 := eq_true q176) | (go_at_call 17; (with_reducible refine (name_Find.calls _ _ t169 (⟨#[98]⟩ : ByteArray) t177 _ ?side1 ?side2 A9.out).mono ?_); (case side1 => repeat (first | exact (Kd.R_reads' HO171.out).2.2 | (with_reducible refine Kd.C_alloc ?_ _) | (with_reducible refine Kd.C_drewN ?_ _) | (with_reducible refine Kd.C_drew ?_))); (case side2 => exact (Kd.R_reads' HO171.out).2.1); rintro e w20 ⟨rfl, hb⟩; have n0_ := Aside0.mk (Kd.R_below (by (with_reducible repeat (first | apply Kd.R_alloc | apply Kd.R_drewN | apply Kd.R_drew)); exact HO167.out) hb); have n1_ := Aside0.mk (Kd.R_below (by (with_reducible repeat (first | apply Kd.R_alloc | apply Kd.R_drewN | apply Kd.R_drew)); exact HO171.out) hb); have n2_ := Aside0.mk (Kd.R_below (by (with_reducible repeat (first | apply Kd.R_alloc | apply Kd.R_drewN | apply Kd.R_drew)); exact HO175.out) hb); have n3_ := Aside0.mk (below_step (by repeat (first | (with_reducible first | exact HB.out | apply wA | apply wN | apply wD) | exact HB.out)) hb); clear HO167; clear HO171; clear HO175; clear HB; have HO167 := n0_; have HO171 := n1_; have HO175 := n2_; have HB := n3_; clear n0_ n1_ n2_ n3_; (try clear hb); (try clear hb2); (try clear hk); (try clear hi)) | (go_at_call 16; (with_reducible refine (name_May.calls k _ _ t169 true _ ?side1 ?side2 A11.out).mono ?_); (case side1 => repeat (first | exact (Kd.R_reads' HO171.out).2.2 | (with_reducible refine Kd.C_alloc ?_ _) | (with_reducible refine Kd.C_drewN ?_ _) | (with_reducible refine Kd.C_drew ?_))); (case side2 => exact (Kd.R_reads' HO171.out).2.1); rintro e w21 ⟨rfl, hb⟩; have n0_ := Aside0.mk (Kd.R_below (by (with_reducible repeat (first | apply Kd.R_alloc | apply Kd.R_drewN | apply Kd.R_drew)); exact HO167.out) hb); have n1_ := Aside0.mk (Kd.R_below (by (with_reducible repeat (first | apply Kd.R_alloc | apply Kd.R_drewN | apply Kd.R_drew)); exact HO171.out) hb); have n2_ := Aside0.mk (Kd.R_below (by (with_reducible repeat (first | apply Kd.R_alloc | apply Kd.R_drewN | apply Kd.R_drew)); exact HO175.out) hb); have n3_ := Aside0.mk (below_step (by repeat (first | (with_reducible first | exact HB.out | apply wA | apply wN | apply wD) | exact HB.out)) hb); clear HO167; clear HO171; clear HO175; clear HB; have HO167 := n0_; have HO171 := n1_; have HO175 := n2_; have HB := n3_; clear n0_ n1_ n2_ n3_; (try clear hb); (try clear hb2); (try clear hk); (try clear hi)) | (go_at_call 17; (with_reducible refine (name_Find.calls _ _ t169 (⟨#[99]⟩ : ByteArray) t179 _ ?side1 ?side2 A13.out).mono ?_); (case side1 => repeat (first | exact (Kd.R_reads' HO171.out).2.2 | (with_reducible refine Kd.C_alloc ?_ _) | (with_reducible refine Kd.C_drewN ?_ _) | (with_reducible refine Kd.C_drew ?_))); (case side2 => exact (Kd.R_reads' HO171.out).2.1); rintro e w22 ⟨rfl, hb⟩; have n0_ := Aside0.mk (Kd.R_below (by (with_reducible repeat (first | apply Kd.R_alloc | apply Kd.R_drewN | apply Kd.R_drew)); exact HO167.out) hb); have n1_ := Aside0.mk (Kd.R_below (by (with_reducible repeat (first | apply Kd.R_alloc | apply Kd.R_drewN | apply Kd.R_drew)); exact HO171.out) hb); have n2_ := Aside0.mk (Kd.R_below (by (with_reducible repeat (first | apply Kd.R_alloc | apply Kd.R_drewN | apply Kd.R_drew)); exact HO175.out) hb); have n3_ := Aside0.mk (below_step (by repeat (first | (with_reducible first | exact HB.out | apply wA | apply wN | apply wD) | exact HB.out)) hb); clear HO167; clear HO171; clear HO175; clear HB; have HO167 := n0_; have HO171 := n1_; have HO175 := n2_; have HB := n3_; clear n0_ n1_ n2_ n3_; (try clear hb); (try clear hb2); (try clear hk); (try clear hi)))
        go_ret
        exact ⟨by first | rfl | exact congrArg (fun b_ => Ending.returned (Value.bool b_)) HRET.out | (rw [HRET.out]) | (simp [errW_none, errW_some] <;> rfl) | (simp [*, errW_none, errW_some] <;> rfl), by repeat (first | (with_reducible first | exact HB.out | apply wA | apply wN | apply wD) | exact HB.out)⟩
       ·
        replace c12 := Bool.eq_false_iff.mpr c12; subst c12
        have H1 : (some false) = some true := by rw [if_neg (show ¬ (false = true) by decide)] at H; exact H
        clear H; have H := H1; clear H1; exact absurd H (by simp)
      ·
       rw [if_neg c10] at H; have c10b0 : (t177 == 2) = false := beq_eq_false_iff_ne.mpr c10; have c10b1 : (t177 != 2) = true := bne_iff_ne.mpr c10; exact absurd H (by simp)
     ·
      rw [if_neg c8] at H; have c8b0 : ((rdOf ByteArray.empty t173 0).toList == ([97] : List UInt8)) = false := beq_eq_false_iff_ne.mpr c8; have c8b1 : ((rdOf ByteArray.empty t173 0).toList != ([97] : List UInt8)) = true := bne_iff_ne.mpr c8; exact absurd H (by simp)
    ·
     rw [if_neg c7] at H; exact absurd H (by simp)
   ·
    rw [if_neg c6] at H; have c6b0 : ((t173.length : Int) == 2) = false := beq_eq_false_iff_ne.mpr c6; have c6b1 : ((t173.length : Int) != 2) = true := bne_iff_ne.mpr c6; exact absurd H (by simp)
  ·
   rw [if_neg c5] at H; have c5b0 : (t172 == 0) = false := beq_eq_false_iff_ne.mpr c5; have c5b1 : (t172 != 0) = true := bne_iff_ne.mpr c5; exact absurd H (by simp)
 ·
  rw [if_neg c4] at H; have c4b0 : (t168 == 0) = false := beq_eq_false_iff_ne.mpr c4; have c4b1 : (t168 != 0) = true := bne_iff_ne.mpr c4; exact absurd H (by simp)
theorem potsherdlaw13_awake.only (k : Nat) (r : Bool) (h : potsherdlaw13_awake.f k  = some r) : r = true := by
 have h1 : potsherdlaw13_awake.f 30 = some true := by decide +kernel
 have h2 := at_rounds potsherdlaw13_awake.mono (Nat.le_max_left k 30) h; have h3 := at_rounds potsherdlaw13_awake.mono (Nat.le_max_right k 30) h1; rw [h2] at h3; exact Option.some.inj h3
theorem potsherdlaw13_awake.calls (k : Nat) (r : Bool) (w : World) (h : potsherdlaw13_awake.f k  = some r) :
 Calls Try.prog 12 #[] w fun e w' => e = .returned (.bool r) ∧ Below w.heap.size w w' := by
 obtain rfl := potsherdlaw13_awake.only k r h; exact potsherdlaw13_awake.callsT k w h

end Go.Proofs.Ytbaiicnibiogpaa.PName
