/- The Go functions that these laws reach, each as a Lean function with the same answers (a law itself where it answers true), and the proof that the code comes to them; conditions: those of each theorem. Laid by a program of this session over the print. -/
import Derived.Test.YtbaiicnibiogpaaPNamex0
import Derived.Test.YtbaiicnibiogpaaPNamex3
import Derived.Test.YtbaiicnibiogpaaPNamex4
import Derived.Test.YtbaiicnibiogpaaPNamex5
namespace Go.Proofs.Ytbaiicnibiogpaa.PName
open Go.RowKit Go.Proofs.YtbaiicnibiogpaaW.PrintWords Go.Proofs.YtbaiicnibiogpaaW.PrintLast Go.Proofs.YtbaiicnibiogpaaW.PrintMore
attribute [local go_sem] max2_int min2_int max_two min_two max_three min_three max_four min_four   -- for this text's walks alone
set_option linter.unusedVariables false
set_option linter.unusedSimpArgs false
open Go.Proofs.YtbaiicnibiogpaaW.PrintWords renaming blk_drewN → bN, blk_drew → bD, blk_alloc → bA, below_set → wS, below_alloc → wA, pw_below_drewN → wN, below_drew1 → wD, blk_below → bB, blk_far → bF, blk_cell → bC, blk_frozen → bZ
open List renaming setIfInBounds_toArray → lT, set_cons_zero → l0_, set_cons_succ → lS
abbrev B6_0 : Array Bool := #[false, false, false, false, false, false, false, false, false, false, false, false]
abbrev B6_1 : Array Bool := #[true, false, false, false, false, false, false, false, false, false, false, false]
abbrev B6_2 : Array Bool := #[true, true, false, false, false, false, false, false, false, false, false, false]
abbrev B6_3 : Array Bool := #[true, true, true, false, false, false, false, false, false, false, false, false]
abbrev B6_4 : Array Bool := #[true, true, true, false, false, true, false, false, false, false, false, false]
abbrev B6_5 : Array Bool := #[true, true, true, false, false, true, true, false, false, false, false, false]
abbrev B6_6 : Array Bool := #[true, true, true, false, false, true, true, true, false, false, false, false]
abbrev B6_7 : Array Bool := #[true, true, true, true, false, true, true, true, false, false, false, false]
abbrev B6_8 : Array Bool := #[true, true, true, true, true, true, true, true, false, false, false, false]
abbrev B6_9 : Array Bool := #[true, true, true, true, true, true, true, true, true, false, false, false]
abbrev B6_10 : Array Bool := #[true, true, true, true, true, true, true, true, true, true, false, false]
abbrev B6_11 : Array Bool := #[true, true, true, true, true, true, true, true, true, true, true, false]
abbrev B6_12 : Array Bool := #[true, true, true, true, true, true, true, true, true, true, true, true]

/-! ### name_With: function 14 -/
mutual
def name_With.j0 : Nat → List (S38) → ByteArray → Bool → ByteArray → Int → Option ((List (S38)) × Int)
 | 0, _, _, _, _, _ => none
 | k + 1, x0, x1, x13, x116000, x116001 => if x13 = true then (some (([] : List (S38)), 1)) else ((name_place.f x0 x1).bind fun t118 => (if t118 ≥ 0 then (some (([] : List (S38)), 9)) else (if (x0.length : Int) ≥ 10 then (some (([] : List (S38)), 14)) else (name_With.l0 k x0 x1 0 x116000 x116001))))
def name_With.l0 : Nat → List (S38) → ByteArray → Int → ByteArray → Int → Option ((List (S38)) × Int)
 | 0, _, _, _, _, _ => none
 | k + 1, x0, x1, x9, x116000, x116001 => if x9 < (x0.length : Int) then (if 0 ≤ x9 then (if (Op.bytesLess (((rd_T38 x0 x9).f0).toList) x1.toList) = true then (name_With.l0 k x0 x1 (wrap64 (x9 + 1)) x116000 x116001) else (if x9 ≤ (x0.length : Int) then ((api_Entry_42.f k (([(x0.take (x9 : Int).toNat), (([(⟨x116000, x116001⟩ : S38)] : List (S38))), (x0.drop (x9 : Int).toNat)] : List (List (S38))))).bind fun t136 => (some (t136, 0))) else (none))) else (none)) else (if 0 ≤ x9 then (if x9 ≤ (x0.length : Int) then ((api_Entry_42.f k (([(x0.take (x9 : Int).toNat), (([(⟨x116000, x116001⟩ : S38)] : List (S38))), (x0.drop (x9 : Int).toNat)] : List (List (S38))))).bind fun t155 => (some (t155, 0))) else (none)) else (none))
end
def name_With.f (k : Nat) (l0 : List (S38)) (a1 : ByteArray) (a2 : Int) : Option ((List (S38)) × Int) := (name_May.f k l0).bind fun t116 => (if t116 = true then ((name_sole.f k a1 a2).bind fun t117 => (name_With.j0 k l0 a1 (!t117) a1 a2)) else (name_With.j0 k l0 a1 true a1 a2))
theorem name_With.mono_l : ∀ k, (∀ y0 y1 y2 y3 y4, LeO (name_With.j0 k y0 y1 y2 y3 y4) (name_With.j0 (k + 1) y0 y1 y2 y3 y4)) ∧ (∀ y0 y1 y2 y3 y4, LeO (name_With.l0 k y0 y1 y2 y3 y4) (name_With.l0 (k + 1) y0 y1 y2 y3 y4))
 | 0 => ⟨fun _ _ _ _ _ r h => by simp [name_With.j0] at h, fun _ _ _ _ _ r h => by simp [name_With.l0] at h⟩
 | k + 1 => by
  obtain ⟨ih0, ih1⟩ := name_With.mono_l k; refine ⟨?_, ?_⟩
  ·
   intro y0 y1 y2 y3 y4
   unfold name_With.j0
   repeat' first
   | (with_reducible exact ih0 _ _ _ _ _)
   | (with_reducible exact ih1 _ _ _ _ _)
   | (with_reducible exact api_Entry_42.mono _ _)
   | (with_reducible exact name_May.mono _ _)
   | (with_reducible exact name_sole.mono _ _ _)
   | (with_reducible exact LeO.refl _)
   | (with_reducible exact LeO.none _)
   | (with_reducible refine LeO.ite ?_ ?_)
   | (with_reducible refine LeO.bind ?_ (fun _ => ?_))
   | exact ih0 _ _ _ _ _
   | exact ih1 _ _ _ _ _
   | exact api_Entry_42.mono _ _
   | exact name_May.mono _ _
   | exact name_sole.mono _ _ _
   | exact LeO.none _
   | refine LeO.ite ?_ ?_
   | refine LeO.bind ?_ (fun _ => ?_)
  ·
   intro y0 y1 y2 y3 y4
   unfold name_With.l0
   repeat' first
   | (with_reducible exact ih0 _ _ _ _ _)
   | (with_reducible exact ih1 _ _ _ _ _)
   | (with_reducible exact api_Entry_42.mono _ _)
   | (with_reducible exact name_May.mono _ _)
   | (with_reducible exact name_sole.mono _ _ _)
   | (with_reducible exact LeO.refl _)
   | (with_reducible exact LeO.none _)
   | (with_reducible refine LeO.ite ?_ ?_)
   | (with_reducible refine LeO.bind ?_ (fun _ => ?_))
   | exact ih0 _ _ _ _ _
   | exact ih1 _ _ _ _ _
   | exact api_Entry_42.mono _ _
   | exact name_May.mono _ _
   | exact name_sole.mono _ _ _
   | exact LeO.none _
   | refine LeO.ite ?_ ?_
   | refine LeO.bind ?_ (fun _ => ?_)
theorem name_With.mono : ∀ a0 a1 a2 k, LeO (name_With.f k a0 a1 a2) (name_With.f (k + 1) a0 a1 a2) := by
 intro a0 a1 a2 k; obtain ⟨ih0, ih1⟩ := name_With.mono_l k
 unfold name_With.f
 repeat' first
  | (with_reducible exact ih0 _ _ _ _ _)
  | (with_reducible exact ih1 _ _ _ _ _)
  | (with_reducible exact api_Entry_42.mono _ _)
  | (with_reducible exact name_May.mono _ _)
  | (with_reducible exact name_sole.mono _ _ _)
  | (with_reducible exact LeO.refl _)
  | (with_reducible exact LeO.none _)
  | (with_reducible refine LeO.ite ?_ ?_)
  | (with_reducible refine LeO.bind ?_ (fun _ => ?_))
  | exact ih0 _ _ _ _ _
  | exact ih1 _ _ _ _ _
  | exact api_Entry_42.mono _ _
  | exact name_May.mono _ _
  | exact name_sole.mono _ _ _
  | exact LeO.none _
  | refine LeO.ite ?_ ?_
  | refine LeO.bind ?_ (fun _ => ?_)
def name_With.T11 : Bool × List (List Nat × List Nat) := (true, [([], []), ([], []), ([0, 1], [0, 1]), ([], []), ([3], [3]), ([], []), ([], []), ([5, 6], [5, 6]), ([2, 4, 7], [2, 4, 7]), ([8], [8]), ([9, 9, 0, 1, 2, 3, 4, 5, 6, 7, 8, 9], [9]), ([10, 0, 1, 2, 3, 4, 5, 6, 7, 8, 9, 10], [])])
def name_With.B11 : List Nat := [0, 0, 3, 0, 8, 0, 0, 96, 255, 511, 1023, 2047]
theorem name_With.tab11 : rtab .any (opsOf Try.f14 11) = name_With.T11 := by kernel_rfl
theorem name_With.bits11 : waitsOk name_With.T11.2 name_With.B11 = true := by kernel_rfl
set_option maxHeartbeats 8000000 in
set_option maxRecDepth 100000 in
theorem name_With.calls (k : Nat) (P0_ : Nat → Prop) (A0 : Option Addr) (c0 : Nat) (l0 : List (S38)) (a1 : ByteArray) (a2 : Int) (r1 : List (S38)) (r2 : Int) (w : World) (hs0 : Kd.V k38 38 w w.heap.size (fun k_ => P0_ k_) (.slice A0 l0.length c0) l0) (h : name_With.f k l0 a1 a2 = some (r1, r2)) :
 Calls Try.prog 14 #[.slice A0 l0.length c0, .string a1, .int .i64 a2] w fun e w' => ∃ v0_ : Value, e = .returned (.tuple #[v0_, .int .i64 r2]) ∧ Kd.R k38 38 w' w.heap.size (fun k_ => (w.heap.size ≤ k_)) v0_ r1 ∧ Below w.heap.size w w' := by
 have hu38 := Try.underlying38; have HO0 := Aside0.mk (show Kd.V k38 38 w w.heap.size (fun k_ => (P0_ k_ ∨ w.heap.size ≤ k_)) (.slice A0 l0.length c0) l0 from Kd.V_mono hs0 (fun k_ hk => .inl hk)); have HB := Aside0.mk (Below.refl w.heap.size w); have H : ((name_May.f k l0).bind fun t116 => (if t116 = true then ((name_sole.f k a1 a2).bind fun t117 => (name_With.j0 k l0 a1 (!t117) a1 a2)) else (name_With.j0 k l0 a1 true a1 a2))) = some (r1, r2) := h; clear h; have HC4 := Aside0.mk H; clear H
 go_enter Try.func14, Try.ntmps14
 go_upto_region 2 with (first | ((with_reducible refine gate_dst (N := 8) rfl ?_); refine box_event ?hg (N := 8) ?hd (cs := #[.string (⟨#[]⟩ : ByteArray), .int .i64 0]) (t := 38) ?hr ?_; (case hd => rfl); (case hg => rfl); (case hr => first | (go_simp; done) | (go_simp; rfl)); intro gb115 hg w5 hbox hb; have n0_ := Aside0.mk (Kd.V_below (Kd.V_elderB (by (with_reducible repeat (first | apply Kd.V_alloc | apply Kd.V_drewN | apply Kd.V_drew)); exact HO0.out) gb115 (Nat.le_of_eq hg.symm)) hb); have n1_ := Aside0.mk (below_step (by repeat (first | (with_reducible first | exact HB.out | apply wA | apply wN | apply wD) | exact HB.out)) hb); have n2_ := Aside0.mk (hbox); have n3_ := Aside0.mk ((by rw [hg]; exact (below_size (by repeat (first | (with_reducible first | exact HB.out | apply wA | apply wN | apply wD) | exact HB.out))) : w.heap.size ≤ gb115)); have n4_ := Aside0.mk ((by rw [hg]; exact (below_size (by repeat (first | (with_reducible first | exact HB.out | apply wA | apply wN | apply wD) | exact HB.out))) : w.heap.size ≤ gb115)); clear HO0; clear HB; have HO0 := n0_; have HB := n1_; have BK115 := n2_; have GW115 := n3_; have GE115 := n4_; clear n0_ n1_ n2_ n3_ n4_; clear hb hbox hg; have hcz6_0 : w5.cell? ⟨gb115, 0, none⟩ = some (.string (⟨#[]⟩ : ByteArray)) := (bC BK115.out 0).trans rfl; have hcz6_1 : w5.cell? ⟨gb115, 1, none⟩ = some (.int .i64 0) := (bC BK115.out 1).trans rfl; have hfz6_0 := bZ BK115.out 0; have hfz6_1 := bZ BK115.out 1))
 (try simp only [Act.put, lT, l0_, lS])
 go_cut [13] (fun v13 wc => ∃ (kq : Nat) (x13_3 : Bool), v13 = .bool x13_3 ∧ Aside0 (name_With.j0 kq l0 a1 x13_3 a1 a2 = some (r1, r2)) ∧ Aside0 (kq ≤ k) ∧ Aside0 (Kd.V k38 38 wc w.heap.size (fun k_ => (P0_ k_ ∨ w.heap.size ≤ k_) ∧ k_ ≠ gb115) (.slice A0 l0.length c0) l0) ∧ Aside0 (wc.heap[gb115]? = some (.cells #[.string a1, .int .i64 a2] 38 (0, 0))) ∧ Aside0 (Below w.heap.size w wc))
 case first =>
  have H := HC4.out; clear HC4; replace H := Option.bind_eq_some_iff.mp H; obtain ⟨t116, A70, H⟩ := H; replace H : (if t116 = true then ((name_sole.f k a1 a2).bind fun t117 => (name_With.j0 k l0 a1 (!t117) a1 a2)) else (name_With.j0 k l0 a1 true a1 a2)) = some (r1, r2) := H; have A7 := Aside0.mk A70; clear A70
  by_cases c8 : t116 = true
  ·
   subst c8
   have H1 : ((name_sole.f k a1 a2).bind fun t117 => (name_With.j0 k l0 a1 (!t117) a1 a2)) = some (r1, r2) := by rw [if_pos rfl] at H; exact H
   clear H; have H := H1; clear H1; replace H := Option.bind_eq_some_iff.mp H; obtain ⟨t117, A90, H⟩ := H; replace H : (name_With.j0 k l0 a1 (!t117) a1 a2) = some (r1, r2) := H; have A9 := Aside0.mk A90; clear A90; have H' := Aside0.mk H; clear H
   go_wp2_with (first | ((with_reducible refine gate_callee (f := 16) rfl ?_); refine goesL_ (some 15) rfl rfl Try.func16 (by kernel_rfl) rfl #[.slice A0 l0.length c0] rfl (by (try simp only [List.map_toArray, List.map_cons, List.map_nil]); first | done | rfl | (simp only [List.length_drop, List.length_take]; rfl)) ?_; (with_reducible refine (name_May.calls k _ _ l0 true _ ?side1 ?side2 A7.out).mono ?_); (case side1 => refine (Kd.V_reads' (e := 38) (base := w.heap.size) (ok := fun k_ => ((P0_ k_ ∨ w.heap.size ≤ k_) ∧ k_ ≠ gb115)) (n := l0.length) (c := c0) ?_).2.2; exact (by (with_reducible repeat (first | apply Kd.V_alloc | apply Kd.V_drewN | apply Kd.V_drew)); exact (Kd.V_mono (Kd.V_far (p := ⟨gb115, 1, none⟩) (Kd.V_far (p := ⟨gb115, 0, none⟩) (Kd.V_mono HO0.out (fun k_ hk => (⟨hk, hk.2⟩ : _ ∧ k_ ≠ gb115))) (fun _ hk => hk.2) (.string a1)) (fun _ hk => hk.2) (.int .i64 a2)) (fun _ h_ => h_.1)))); (case side2 => exact (Kd.V_reads' HO0.out).2.1); rintro e w10 ⟨rfl, hb⟩; refine ⟨_, rfl, ?_⟩; have n0_ := Aside0.mk (Kd.V_below (by (with_reducible repeat (first | apply Kd.V_alloc | apply Kd.V_drewN | apply Kd.V_drew)); exact (Kd.V_mono (Kd.V_far (p := ⟨gb115, 1, none⟩) (Kd.V_far (p := ⟨gb115, 0, none⟩) (Kd.V_mono HO0.out (fun k_ hk => (⟨hk, hk.2⟩ : _ ∧ k_ ≠ gb115))) (fun _ hk => hk.2) (.string a1)) (fun _ hk => hk.2) (.int .i64 a2)) (fun _ h_ => h_.1))) hb); have n1_ := Aside0.mk (bB (g := gb115) (o := .cells #[.string a1, .int .i64 a2] 38 (0, 0)) (by (with_reducible repeat (first | refine bN ?_ _ | refine bD ?_ | refine bA ?_ _)); refine blk_put (cs := #[.string a1, .int .i64 0]) ?_ 1 _ rfl; (with_reducible repeat (first | refine bN ?_ _ | refine bD ?_ | refine bA ?_ _)); refine blk_put (cs := #[.string (⟨#[]⟩ : ByteArray), .int .i64 0]) ?_ 0 _ rfl; (with_reducible repeat (first | refine bN ?_ _ | refine bD ?_ | refine bA ?_ _)); exact BK115.out) hb); have n2_ := Aside0.mk (below_step (by repeat (first | (with_reducible first | exact HB.out | apply wA | apply wN | apply wD | refine wS ?_ GE115.out) | exact HB.out)) hb); clear HO0; clear BK115; clear HB; have HO0 := n0_; have BK115 := n1_; have HB := n2_; clear n0_ n1_ n2_; (try clear hb); (try clear hb2); (try clear hk); (try clear hi); have hcz11_0 : w10.cell? ⟨gb115, 0, none⟩ = some (.string a1) := (bC BK115.out 0).trans rfl; have hcz11_1 : w10.cell? ⟨gb115, 1, none⟩ = some (.int .i64 a2) := (bC BK115.out 1).trans rfl; have hfz11_0 := bZ BK115.out 0; have hfz11_1 := bZ BK115.out 1) | (go_at_call 40; (with_reducible refine (name_sole.calls k a1 a2 t117 _ A9.out).mono ?_); rintro e w12 ⟨rfl, hb⟩; have n0_ := Aside0.mk (Kd.V_below (by (with_reducible repeat (first | apply Kd.V_alloc | apply Kd.V_drewN | apply Kd.V_drew)); exact HO0.out) hb); have n1_ := Aside0.mk (bB (g := gb115) (o := .cells #[.string a1, .int .i64 a2] 38 (0, 0)) (by (with_reducible repeat (first | refine bN ?_ _ | refine bD ?_ | refine bA ?_ _)); exact BK115.out) hb); have n2_ := Aside0.mk (below_step (by repeat (first | (with_reducible first | exact HB.out | apply wA | apply wN | apply wD | refine wS ?_ GE115.out) | exact HB.out)) hb); clear HO0; clear BK115; clear HB; have HO0 := n0_; have BK115 := n1_; have HB := n2_; clear n0_ n1_ n2_; (try clear hb); (try clear hb2); (try clear hk); (try clear hi)))
   go_meet
   case rel => exact ⟨_, (!t117), (by first | rfl | (simp; done) | (simp [*]; done)), H', ⟨by first | omega | exact Nat.le_refl _⟩, ⟨by (with_reducible repeat (first | apply Kd.V_alloc | apply Kd.V_drewN | apply Kd.V_drew)); exact HO0.out⟩, ⟨by (with_reducible repeat (first | refine bN ?_ _ | refine bD ?_ | refine bA ?_ _)); exact BK115.out⟩, ⟨by repeat (first | (with_reducible first | exact HB.out | apply wA | apply wN | apply wD | refine wS ?_ GE115.out) | exact HB.out)⟩⟩
  ·
   replace c8 := Bool.eq_false_iff.mpr c8; subst c8
   have H1 : (name_With.j0 k l0 a1 true a1 a2) = some (r1, r2) := by rw [if_neg (show ¬ (false = true) by decide)] at H; exact H
   clear H; have H := H1; clear H1; have H' := Aside0.mk H; clear H
   go_wp2_with (first | ((with_reducible refine gate_callee (f := 16) rfl ?_); refine goesL_ (some 15) rfl rfl Try.func16 (by kernel_rfl) rfl #[.slice A0 l0.length c0] rfl (by (try simp only [List.map_toArray, List.map_cons, List.map_nil]); first | done | rfl | (simp only [List.length_drop, List.length_take]; rfl)) ?_; (with_reducible refine (name_May.calls k _ _ l0 false _ ?side1 ?side2 A7.out).mono ?_); (case side1 => refine (Kd.V_reads' (e := 38) (base := w.heap.size) (ok := fun k_ => ((P0_ k_ ∨ w.heap.size ≤ k_) ∧ k_ ≠ gb115)) (n := l0.length) (c := c0) ?_).2.2; exact (by (with_reducible repeat (first | apply Kd.V_alloc | apply Kd.V_drewN | apply Kd.V_drew)); exact (Kd.V_mono (Kd.V_far (p := ⟨gb115, 1, none⟩) (Kd.V_far (p := ⟨gb115, 0, none⟩) (Kd.V_mono HO0.out (fun k_ hk => (⟨hk, hk.2⟩ : _ ∧ k_ ≠ gb115))) (fun _ hk => hk.2) (.string a1)) (fun _ hk => hk.2) (.int .i64 a2)) (fun _ h_ => h_.1)))); (case side2 => exact (Kd.V_reads' HO0.out).2.1); rintro e w13 ⟨rfl, hb⟩; refine ⟨_, rfl, ?_⟩; have n0_ := Aside0.mk (Kd.V_below (by (with_reducible repeat (first | apply Kd.V_alloc | apply Kd.V_drewN | apply Kd.V_drew)); exact (Kd.V_mono (Kd.V_far (p := ⟨gb115, 1, none⟩) (Kd.V_far (p := ⟨gb115, 0, none⟩) (Kd.V_mono HO0.out (fun k_ hk => (⟨hk, hk.2⟩ : _ ∧ k_ ≠ gb115))) (fun _ hk => hk.2) (.string a1)) (fun _ hk => hk.2) (.int .i64 a2)) (fun _ h_ => h_.1))) hb); have n1_ := Aside0.mk (bB (g := gb115) (o := .cells #[.string a1, .int .i64 a2] 38 (0, 0)) (by (with_reducible repeat (first | refine bN ?_ _ | refine bD ?_ | refine bA ?_ _)); refine blk_put (cs := #[.string a1, .int .i64 0]) ?_ 1 _ rfl; (with_reducible repeat (first | refine bN ?_ _ | refine bD ?_ | refine bA ?_ _)); refine blk_put (cs := #[.string (⟨#[]⟩ : ByteArray), .int .i64 0]) ?_ 0 _ rfl; (with_reducible repeat (first | refine bN ?_ _ | refine bD ?_ | refine bA ?_ _)); exact BK115.out) hb); have n2_ := Aside0.mk (below_step (by repeat (first | (with_reducible first | exact HB.out | apply wA | apply wN | apply wD | refine wS ?_ GE115.out) | exact HB.out)) hb); clear HO0; clear BK115; clear HB; have HO0 := n0_; have BK115 := n1_; have HB := n2_; clear n0_ n1_ n2_; (try clear hb); (try clear hb2); (try clear hk); (try clear hi)))
   go_meet
   case rel => exact ⟨_, (true), (by first | rfl | (simp; done) | (simp [*]; done)), H', ⟨by first | omega | exact Nat.le_refl _⟩, ⟨by (with_reducible repeat (first | apply Kd.V_alloc | apply Kd.V_drewN | apply Kd.V_drew)); exact HO0.out⟩, ⟨by (with_reducible repeat (first | refine bN ?_ _ | refine bD ?_ | refine bA ?_ _)); exact BK115.out⟩, ⟨by repeat (first | (with_reducible first | exact HB.out | apply wA | apply wN | apply wD | refine wS ?_ GE115.out) | exact HB.out)⟩⟩
 case rest =>
  clear HC4
  try clear c1
  try clear p2
  try clear c8
  try clear hcz11_0
  try clear hcz11_1
  try clear hcz6_0
  try clear hcz6_1
  try clear hfz11_0
  try clear hfz11_1
  try clear hfz6_0
  try clear hfz6_1
  obtain ⟨kq, x13_3, rfl, HA, HJ3, HO_0, BK115, HB⟩ := hcut
  cases kq with
  | zero => exact absurd HA.out (by simp [name_With.j0])
  | succ kj3 =>
   have H := HA.out; clear HA; simp only [name_With.j0] at H
   by_cases c14 : x13_3 = true
   ·
    subst c14
    have H1 : (some (([] : List (S38)), 1)) = some (r1, r2) := by rw [if_pos rfl] at H; exact H
    clear H; have H := H1; clear H1; simp only [Option.some.injEq, Prod.mk.injEq] at H; obtain ⟨rfl, rfl⟩ := H
    go_wp2
    go_ret2
    exact ⟨_, by first | rfl | exact congrArg (fun b_ => Ending.returned (Value.bool b_)) HRET.out | (rw [HRET.out]) | (simp [errW_none, errW_some] <;> rfl) | (simp [*, errW_none, errW_some] <;> rfl), by first | exact Kd.R_nil _ _ _ _ _ | exact Kd.N_nil _ _ _ _ _ | exact Kd.V_nil _ _ _ _ _ | exact Kd.Q_nil _ _ _ _ _ | exact Kd.S_nil _ _ _ _ _, by repeat (first | (with_reducible first | exact HB.out | apply wA | apply wN | apply wD | refine wS ?_ GE115.out) | exact HB.out)⟩
   ·
    replace c14 := Bool.eq_false_iff.mpr c14; subst c14
    have H1 : ((name_place.f l0 a1).bind fun t118 => (if t118 ≥ 0 then (some (([] : List (S38)), 9)) else (if (l0.length : Int) ≥ 10 then (some (([] : List (S38)), 14)) else (name_With.l0 kj3 l0 a1 0 a1 a2)))) = some (r1, r2) := by rw [if_neg (show ¬ (false = true) by decide)] at H; exact H
    clear H; have H := H1; clear H1; replace H := Option.bind_eq_some_iff.mp H; obtain ⟨t118, A150, H⟩ := H; replace H : (if t118 ≥ 0 then (some (([] : List (S38)), 9)) else (if (l0.length : Int) ≥ 10 then (some (([] : List (S38)), 14)) else (name_With.l0 kj3 l0 a1 0 a1 a2))) = some (r1, r2) := H; have A15 := Aside0.mk A150; clear A150
    by_cases c16 : t118 ≥ 0
    ·
     rw [if_pos c16] at H; have c16b0 : decide (0 ≤ t118) = true := decide_eq_true c16; clear c16; simp only [Option.some.injEq, Prod.mk.injEq] at H; obtain ⟨rfl, rfl⟩ := H
     go_wp2_with (first | ((with_reducible refine gate_callee (f := 41) rfl ?_); refine goesL_ (some 25) rfl rfl Try.func41 (by kernel_rfl) rfl #[.slice A0 l0.length c0, .string a1] rfl (by (try simp only [List.map_toArray, List.map_cons, List.map_nil]); first | done | rfl | (simp only [List.length_drop, List.length_take]; rfl)) ?_; (with_reducible refine (name_place.calls _ _ l0 a1 t118 _ ?side1 ?side2 A15.out).mono ?_); (case side1 => repeat (first | exact (Kd.V_reads' HO_0.out).2.2 | (with_reducible refine Kd.C_alloc ?_ _) | (with_reducible refine Kd.C_drewN ?_ _) | (with_reducible refine Kd.C_drew ?_))); (case side2 => exact (Kd.V_reads' HO_0.out).2.1); rintro e w17 ⟨rfl, hb⟩; refine ⟨_, rfl, ?_⟩; have n0_ := Aside0.mk (Kd.V_below (by (with_reducible repeat (first | apply Kd.V_alloc | apply Kd.V_drewN | apply Kd.V_drew)); exact HO_0.out) hb); have n1_ := Aside0.mk (bB (g := gb115) (o := .cells #[.string a1, .int .i64 a2] 38 (0, 0)) (by (with_reducible repeat (first | refine bN ?_ _ | refine bD ?_ | refine bA ?_ _)); exact BK115.out) hb); have n2_ := Aside0.mk (below_step (by repeat (first | (with_reducible first | exact HB.out | apply wA | apply wN | apply wD | refine wS ?_ GE115.out) | exact HB.out)) hb); clear HO_0; clear BK115; clear HB; have HO_0 := n0_; have BK115 := n1_; have HB := n2_; clear n0_ n1_ n2_; (try clear hb); (try clear hb2); (try clear hk); (try clear hi)))
     go_ret2
     exact ⟨_, by first | rfl | exact congrArg (fun b_ => Ending.returned (Value.bool b_)) HRET.out | (rw [HRET.out]) | (simp [errW_none, errW_some] <;> rfl) | (simp [*, errW_none, errW_some] <;> rfl), by first | exact Kd.R_nil _ _ _ _ _ | exact Kd.N_nil _ _ _ _ _ | exact Kd.V_nil _ _ _ _ _ | exact Kd.Q_nil _ _ _ _ _ | exact Kd.S_nil _ _ _ _ _, by repeat (first | (with_reducible first | exact HB.out | apply wA | apply wN | apply wD | refine wS ?_ GE115.out) | exact HB.out)⟩
    ·
     rw [if_neg c16] at H; have c16b0 : decide (0 ≤ t118) = false := decide_eq_false c16; clear c16
     by_cases c18 : (l0.length : Int) ≥ 10
     ·
      rw [if_pos c18] at H; have c18b0 : decide (10 ≤ (l0.length : Int)) = true := decide_eq_true c18; have c18b1 : decide (10 ≤ l0.length) = true := decide_eq_true (by omega); clear c18; simp only [Option.some.injEq, Prod.mk.injEq] at H; obtain ⟨rfl, rfl⟩ := H
      go_wp2_with (first | ((with_reducible refine gate_callee (f := 41) rfl ?_); refine goesL_ (some 25) rfl rfl Try.func41 (by kernel_rfl) rfl #[.slice A0 l0.length c0, .string a1] rfl (by (try simp only [List.map_toArray, List.map_cons, List.map_nil]); first | done | rfl | (simp only [List.length_drop, List.length_take]; rfl)) ?_; (with_reducible refine (name_place.calls _ _ l0 a1 t118 _ ?side1 ?side2 A15.out).mono ?_); (case side1 => repeat (first | exact (Kd.V_reads' HO_0.out).2.2 | (with_reducible refine Kd.C_alloc ?_ _) | (with_reducible refine Kd.C_drewN ?_ _) | (with_reducible refine Kd.C_drew ?_))); (case side2 => exact (Kd.V_reads' HO_0.out).2.1); rintro e w19 ⟨rfl, hb⟩; refine ⟨_, rfl, ?_⟩; have n0_ := Aside0.mk (Kd.V_below (by (with_reducible repeat (first | apply Kd.V_alloc | apply Kd.V_drewN | apply Kd.V_drew)); exact HO_0.out) hb); have n1_ := Aside0.mk (bB (g := gb115) (o := .cells #[.string a1, .int .i64 a2] 38 (0, 0)) (by (with_reducible repeat (first | refine bN ?_ _ | refine bD ?_ | refine bA ?_ _)); exact BK115.out) hb); have n2_ := Aside0.mk (below_step (by repeat (first | (with_reducible first | exact HB.out | apply wA | apply wN | apply wD | refine wS ?_ GE115.out) | exact HB.out)) hb); clear HO_0; clear BK115; clear HB; have HO_0 := n0_; have BK115 := n1_; have HB := n2_; clear n0_ n1_ n2_; (try clear hb); (try clear hb2); (try clear hk); (try clear hi)))
      go_ret2
      exact ⟨_, by first | rfl | exact congrArg (fun b_ => Ending.returned (Value.bool b_)) HRET.out | (rw [HRET.out]) | (simp [errW_none, errW_some] <;> rfl) | (simp [*, errW_none, errW_some] <;> rfl), by first | exact Kd.R_nil _ _ _ _ _ | exact Kd.N_nil _ _ _ _ _ | exact Kd.V_nil _ _ _ _ _ | exact Kd.Q_nil _ _ _ _ _ | exact Kd.S_nil _ _ _ _ _, by repeat (first | (with_reducible first | exact HB.out | apply wA | apply wN | apply wD | refine wS ?_ GE115.out) | exact HB.out)⟩
     ·
      rw [if_neg c18] at H; have c18b0 : decide (10 ≤ (l0.length : Int)) = false := decide_eq_false c18; have c18b1 : decide (10 ≤ l0.length) = false := decide_eq_false (by omega); clear c18; have H' := Aside0.mk H; clear H
      go_wp2_with (first | ((with_reducible refine gate_callee (f := 41) rfl ?_); refine goesL_ (some 25) rfl rfl Try.func41 (by kernel_rfl) rfl #[.slice A0 l0.length c0, .string a1] rfl (by (try simp only [List.map_toArray, List.map_cons, List.map_nil]); first | done | rfl | (simp only [List.length_drop, List.length_take]; rfl)) ?_; (with_reducible refine (name_place.calls _ _ l0 a1 t118 _ ?side1 ?side2 A15.out).mono ?_); (case side1 => repeat (first | exact (Kd.V_reads' HO_0.out).2.2 | (with_reducible refine Kd.C_alloc ?_ _) | (with_reducible refine Kd.C_drewN ?_ _) | (with_reducible refine Kd.C_drew ?_))); (case side2 => exact (Kd.V_reads' HO_0.out).2.1); rintro e w20 ⟨rfl, hb⟩; refine ⟨_, rfl, ?_⟩; have n0_ := Aside0.mk (Kd.V_below (by (with_reducible repeat (first | apply Kd.V_alloc | apply Kd.V_drewN | apply Kd.V_drew)); exact HO_0.out) hb); have n1_ := Aside0.mk (bB (g := gb115) (o := .cells #[.string a1, .int .i64 a2] 38 (0, 0)) (by (with_reducible repeat (first | refine bN ?_ _ | refine bD ?_ | refine bA ?_ _)); exact BK115.out) hb); have n2_ := Aside0.mk (below_step (by repeat (first | (with_reducible first | exact HB.out | apply wA | apply wN | apply wD | refine wS ?_ GE115.out) | exact HB.out)) hb); clear HO_0; clear BK115; clear HB; have HO_0 := n0_; have BK115 := n1_; have HB := n2_; clear n0_ n1_ n2_; (try clear hb); (try clear hb2); (try clear hk); (try clear hi)))
      go_loopg [9] kj3 (fun kq v9 w' => ∃ (x9_2 : Int), v9 = .int .i64 x9_2 ∧ Aside0 (name_With.l0 kq l0 a1 x9_2 a1 a2 = some (r1, r2)) ∧ Aside0 (kq ≤ kj3) ∧ Aside0 (Kd.V k38 38 w' w.heap.size (fun k_ => (P0_ k_ ∨ w.heap.size ≤ k_) ∧ k_ ≠ gb115) (.slice A0 l0.length c0) l0) ∧ Aside0 (w'.heap[gb115]? = some (.cells #[.string a1, .int .i64 a2] 38 (0, 0))) ∧ Aside0 (Below w.heap.size w w'))
      case atStart => exact ⟨(0), (by first | rfl | (simp; done) | (simp [*]; done)), H', ⟨Nat.le_refl _⟩, ⟨by (with_reducible repeat (first | apply Kd.V_alloc | apply Kd.V_drewN | apply Kd.V_drew)); exact HO_0.out⟩, ⟨by (with_reducible repeat (first | refine bN ?_ _ | refine bD ?_ | refine bA ?_ _)); exact BK115.out⟩, ⟨by repeat (first | (with_reducible first | exact HB.out | apply wA | apply wN | apply wD | refine wS ?_ GE115.out) | exact HB.out)⟩⟩
      case round =>
       clear H'
       try clear c1
       try clear p2
       try clear c4
       try clear c8
       try clear c14
       try clear c16
       try clear c16b0
       try clear c18
       try clear c18b0
       try clear c18b1
       try clear hcz11_0
       try clear hcz11_1
       try clear hcz6_0
       try clear hcz6_1
       try clear hfz11_0
       try clear hfz11_1
       try clear hfz6_0
       try clear hfz6_1
       try clear p2
       obtain ⟨x9_2, rfl, HA, HK2, HO_0, BK115, HB⟩ := hrel
       cases gk with
       | zero => exact absurd HA.out (by simp [name_With.l0])
       | succ k2 =>
        have H := HA.out; clear HA; simp only [name_With.l0] at H
        by_cases c21 : x9_2 < (l0.length : Int)
        ·
         rw [if_pos c21] at H; have c21b0 : decide (x9_2 < (l0.length : Int)) = true := decide_eq_true c21; clear c21
         by_cases c22 : 0 ≤ x9_2
         ·
          rw [if_pos c22] at H; have c22b0 : decide (0 ≤ x9_2) = true := decide_eq_true c22; clear c22
          by_cases c23 : (Op.bytesLess (((rd_T38 l0 x9_2).f0).toList) a1.toList) = true
          ·
           rw [if_pos c23] at H; have c23b0 : (Op.bytesLess (((rd_T38 l0 x9_2).f0).toList) a1.toList) = true := c23; clear c23; have H' := Aside0.mk H; clear H; have p119 : 0 ≤ (x9_2 : Int) := of_decide_eq_true (by first | (with_reducible assumption) | assumption); have q119 : x9_2 < (l0.length : Int) := of_decide_eq_true (by first | (with_reducible assumption) | assumption); obtain ⟨ad119, e119, hx119_0, hx119_1⟩ := at_T38 (Kd.V_reads' HO_0.out).2.2 x9_2 p119 q119
           cases e119
           replace p119 := eq_true p119; replace q119 := eq_true q119
           go_wp2
           go_roundg k2
           case measure => have := HJ3.out; have := HK2.out; omega
           case rel => exact ⟨(wrap64 (x9_2 + 1)), (by first | rfl | (simp; done) | (simp [*]; done)), H', ⟨by have := HJ3.out; have := HK2.out; omega⟩, ⟨by (with_reducible repeat (first | apply Kd.V_alloc | apply Kd.V_drewN | apply Kd.V_drew)); exact HO_0.out⟩, ⟨by (with_reducible repeat (first | refine bN ?_ _ | refine bD ?_ | refine bA ?_ _)); exact BK115.out⟩, ⟨by repeat (first | (with_reducible first | exact HB.out | apply wA | apply wN | apply wD | refine wS ?_ GE115.out) | exact HB.out)⟩⟩
          ·
           rw [if_neg c23] at H
           have c23b0 : (Op.bytesLess (((rd_T38 l0 x9_2).f0).toList) a1.toList) = false := by simpa using c23
           clear c23; have c24b0 := eq_true (of_decide_eq_true (by first | (with_reducible assumption) | assumption) : 0 ≤ x9_2)
           by_cases c25 : x9_2 ≤ (l0.length : Int)
           ·
            rw [if_pos c25] at H; have c25b0 := eq_true c25; have c25b1 : decide (x9_2 ≤ (l0.length : Int)) = true := decide_eq_true c25; clear c25; obtain ⟨y120, hy120⟩ : ∃ y_ : List (S38), y_ = (l0.take (x9_2 : Int).toNat) := ⟨_, rfl⟩
            replace H : ((api_Entry_42.f k2 (([y120, (([(⟨a1, a2⟩ : S38)] : List (S38))), (l0.drop (x9_2 : Int).toNat)] : List (List (S38))))).bind fun t136 => (some (t136, 0))) = some (r1, r2) := by first | (rw [hy120]; with_reducible exact H) | (have H2_ := (Option.bind_some _ _).symm.trans H; rw [hy120]; with_reducible exact H2_) | (have H2_ := (Option.bind_some _ _).symm.trans H; with_reducible exact H2_) | with_reducible exact H | (rw [hy120]; exact H) | exact H
            have Ny120 := Aside0.mk hy120; clear hy120; obtain ⟨y125, hy125⟩ : ∃ y_ : List (S38), y_ = (([(⟨a1, a2⟩ : S38)] : List (S38))) := ⟨_, rfl⟩
            replace H : ((api_Entry_42.f k2 (([y120, y125, (l0.drop (x9_2 : Int).toNat)] : List (List (S38))))).bind fun t136 => (some (t136, 0))) = some (r1, r2) := by first | (rw [hy125]; with_reducible exact H) | (have H2_ := (Option.bind_some _ _).symm.trans H; rw [hy125]; with_reducible exact H2_) | (have H2_ := (Option.bind_some _ _).symm.trans H; with_reducible exact H2_) | with_reducible exact H | (rw [hy125]; exact H) | exact H
            have Ny125 := Aside0.mk hy125; clear hy125; have c26b0 := eq_true (of_decide_eq_true (by first | (with_reducible assumption) | assumption) : 0 ≤ x9_2); have c27b0 := eq_true (of_decide_eq_true (by first | (with_reducible assumption) | assumption) : x9_2 ≤ (l0.length : Int)); obtain ⟨y128, hy128⟩ : ∃ y_ : List (S38), y_ = (l0.drop (x9_2 : Int).toNat) := ⟨_, rfl⟩
            replace H : ((api_Entry_42.f k2 (([y120, y125, y128] : List (List (S38))))).bind fun t136 => (some (t136, 0))) = some (r1, r2) := by first | (rw [hy128]; with_reducible exact H) | (have H2_ := (Option.bind_some _ _).symm.trans H; rw [hy128]; with_reducible exact H2_) | (have H2_ := (Option.bind_some _ _).symm.trans H; with_reducible exact H2_) | with_reducible exact H | (rw [hy128]; exact H) | exact H
            have Ny128 := Aside0.mk hy128; clear hy128; obtain ⟨y133, hy133⟩ : ∃ y_ : List (List (S38)), y_ = (([y120, y125, y128] : List (List (S38)))) := ⟨_, rfl⟩
            replace H : ((api_Entry_42.f k2 y133).bind fun t136 => (some (t136, 0))) = some (r1, r2) := by first | (rw [hy133]; with_reducible exact H) | (have H2_ := (Option.bind_some _ _).symm.trans H; rw [hy133]; with_reducible exact H2_) | (have H2_ := (Option.bind_some _ _).symm.trans H; with_reducible exact H2_) | with_reducible exact H | (rw [hy133]; exact H) | exact H
            have Ny133 := Aside0.mk hy133; clear hy133; replace H := Option.bind_eq_some_iff.mp H; obtain ⟨t136, A280, H⟩ := H; replace H : (some (t136, 0)) = some (r1, r2) := H; have A28 := Aside0.mk A280; clear A280; simp only [Option.some.injEq, Prod.mk.injEq] at H; obtain ⟨rfl, rfl⟩ := H; have p119 : 0 ≤ (x9_2 : Int) := of_decide_eq_true (by first | (with_reducible assumption) | assumption); have q119 : x9_2 < (l0.length : Int) := of_decide_eq_true (by first | (with_reducible assumption) | assumption); obtain ⟨ad119, e119, hx119_0, hx119_1⟩ := at_T38 (Kd.V_reads' HO_0.out).2.2 x9_2 p119 q119
            cases e119
            replace p119 := eq_true p119; replace q119 := eq_true q119
            try go_wp2
            have n0_ := Aside0.mk (Kd.V_drew HO_0.out); have n1_ := Aside0.mk (bD BK115.out); have n2_ := Aside0.mk (wD HB.out); clear HO_0; clear BK115; clear HB; have HO_0 := n0_; have BK115 := n1_; have HB := n2_; clear n0_ n1_ n2_; have q30 : (x9_2 : Int) ≤ ((l0.length : Int) : Int) := of_decide_eq_true (by first | (with_reducible assumption) | assumption); obtain ⟨i030, hi030, _, hsz30, _⟩ := info_parts info38; have hroom30 : l0.length ≤ c0 := (Kd.V_reads' HO_0.out).2.1; have hC30 : Kd.F k38 _ _ (some ad119) l0.length l0 := (Kd.V_at (base := w.heap.size) HO_0.out).2.2; have hcut30 := cut_to (P := Try.prog) 26 38 .i64 Try.underlying26 hi030 (some ad119) l0.length c0 x9_2 (of_decide_eq_true (by first | (with_reducible assumption) | assumption)) q30 hroom30; have hr30 := Kd.F_take (m := (x9_2 : Int).toNat) hC30 (by omega); have hy30 : y120.length = (x9_2 : Int).toNat := (by rw [Ny120.out, List.length_take]; omega)
            rw [← Ny120.out] at hr30; rw [← hy30] at hcut30; have HO124 := Aside0.mk (show Kd.V k38 38 _ w.heap.size _ (.slice (some ad119) y120.length c0) y120 from Kd.V_mk (by omega) hr30); have HC124 := Aside0.mk (show y120.length ≤ c0 from by omega); clear hr30 hC30 hroom30 hi030 hsz30; have KY30 := Aside0.mk hy30; clear hy30; replace q30 := eq_true q30; have q31 : (x9_2 : Int) ≤ ((l0.length : Int) : Int) := of_decide_eq_true (by first | (with_reducible assumption) | assumption); obtain ⟨i031, hi031, _, hsz31, _⟩ := info_parts info38; have hroom31 : l0.length ≤ c0 := (Kd.V_reads' HO_0.out).2.1; have hC31 : Kd.F k38 _ _ (some ad119) l0.length l0 := (Kd.V_at (base := w.heap.size) HO_0.out).2.2; have q031 : (0 : Int) ≤ (x9_2 : Int) := of_decide_eq_true (by first | (with_reducible assumption) | assumption); have hcut31 := cut_from (P := Try.prog) 26 38 .i64 Try.underlying26 hi031 2 hsz31 (some ad119) l0.length c0 x9_2 q031 q31; have hr31 := Kd.F_cut (m := (x9_2 : Int).toNat) (c := c0) hC31 (by omega) hroom31; obtain ⟨A31, hA31⟩ : ∃ A1, A1 = (if c0 = (x9_2 : Int).toNat then (some ad119) else ((some ad119) : Option Addr).map (·.add ((x9_2 : Int).toNat * 2))) := ⟨_, rfl⟩; obtain ⟨c31, hc31⟩ : ∃ c1, c1 = c0 - (x9_2 : Int).toNat := ⟨_, rfl⟩; have hy31 : y128.length = l0.length - (x9_2 : Int).toNat := (by rw [Ny128.out, List.length_drop] <;> omega); rw [show (l0).drop (x9_2 : Int).toNat = y128 from Ny128.out.symm] at hr31; replace hr31 : Kd.F k38 _ _ A31 y128.length y128 := (by rw [hA31]; exact hr31)
            rw [← hy31, ← hA31, ← hc31] at hcut31; have HO132 := Aside0.mk (show Kd.V k38 38 _ w.heap.size _ (.slice A31 y128.length c31) y128 from Kd.V_mk (by rw [hy31, hc31]; exact Nat.sub_le_sub_right hroom31 _) hr31)
            have HC132 := Aside0.mk (show y128.length ≤ c31 from by rw [hy31, hc31]; exact Nat.sub_le_sub_right hroom31 _)
            clear hr31 hC31 hroom31 hi031 hsz31 hc31; have KY31 := Aside0.mk hy31; have KA31 := Aside0.mk hA31; clear hy31 hA31; replace q31 := eq_true q31; refine start_ (n := 12) (S := fun w' => w'.cell? ⟨gb115, 0, none⟩ = some (.string a1) ∧ w'.cell? ⟨gb115, 1, none⟩ = some (.int .i64 a2)) (ds := []) B6_0 (by kernel_rfl) rfl rfl ⟨(bC BK115.out 0).trans rfl, (bC BK115.out 1).trans rfl⟩ (fun hHeld => ?_); refine with_tabW name_With.tab11 name_With.bits11 (fun HT_ HW_ => ?_); generalize wr.drew = w29 at HO_0 BK115 HB HO124 HO132 hHeld ⊢; refine pure_ (i := 0) (N := some 46) (v := ?_) (a' := ?_) B6_1 rfl rfl (any_of HT_.out (by kernel_rfl)) (fun _ _ _ h => h) (Or.inl ⟨by rfl, ?_⟩) ?_ ?_; rotate_left
            ·
             intro w'; go_simp; with_reducible rfl
            rotate_left
            ·
             simp only [Act.put, lT, l0_, lS, i64_w, i32_w]; rfl
            refine pure_ (i := 1) (N := some 47) (v := ?_) (a' := ?_) B6_2 rfl rfl (any_of HT_.out (by kernel_rfl)) (fun _ _ _ h => h) (Or.inl ⟨by rfl, ?_⟩) ?_ ?_; rotate_left
            ·
             intro w'; go_simp; with_reducible rfl
            rotate_left
            ·
             simp only [Act.put, lT, l0_, lS, i64_w, i32_w]; rfl
            refine pure_ (i := 2) (N := some 48) (v := ?_) (a' := ?_) B6_3 rfl rfl (any_of HT_.out (by kernel_rfl)) (fun _ _ _ h => h) (Or.inl ⟨by rfl, ?_⟩) ?_ ?_; rotate_left
            ·
             intro w'; go_simp; with_reducible rfl
            rotate_left
            ·
             simp only [Act.put, lT, l0_, lS, i64_w, i32_w]; rfl
            refine pure_ (i := 5) (N := some 51) (v := ?_) (a' := ?_) B6_4 rfl rfl (any_of HT_.out (by kernel_rfl)) (fun _ _ _ h => h) (Or.inl ⟨by rfl, ?_⟩) ?_ ?_; rotate_left
            ·
             intro w'; go_simp; with_reducible rfl
            rotate_left
            ·
             simp only [Act.put, lT, l0_, lS, i64_w, i32_w]; rfl
            refine pure_ (i := 6) (N := some 52) (v := ?_) (a' := ?_) B6_5 rfl rfl (any_of HT_.out (by kernel_rfl)) (fun _ _ _ h => h) (Or.inl ⟨by rfl, ?_⟩) ?_ ?_; rotate_left
            ·
             intro w'; go_simp; with_reducible rfl
            rotate_left
            ·
             simp only [Act.put, lT, l0_, lS, i64_w, i32_w]; rfl
            refine pure_ (i := 7) (N := some 53) (v := ?_) (a' := ?_) B6_6 rfl rfl (any_of HT_.out (by kernel_rfl)) (fun _ _ _ h => h) (Or.inl ⟨by rfl, ?_⟩) ?_ ?_; rotate_left
            ·
             intro w'; go_simp; with_reducible rfl
            rotate_left
            ·
             simp only [Act.put, lT, l0_, lS, i64_w, i32_w]; rfl
            refine take_ (i := 3) (N := some 49) (v := ?_) (a' := ?_) B6_7 rfl rfl (take_ofW HT_.out HW_.out (by kernel_rfl)) (fun _ _ _ h => h) (Or.inl ⟨by rfl, ?_⟩) hHeld ?_ ?_; rotate_left
            ·
             rintro w' ⟨s0, s1⟩; go_simp; with_reducible rfl
            rotate_left
            ·
             simp only [Act.put, lT, l0_, lS, i64_w, i32_w]; rfl
            refine one_ (i := 4) (N := some 50) B6_8 rfl rfl (one_of HT_.out (by kernel_rfl)) (by decide) (fun K hK => ?_); refine Kd.R_lit_step k38 _ 38 ?hg (N := 50) ?hd (xs := ([(⟨a1, a2⟩ : S38)] : List (S38))) (inner := [.string a1, .int .i64 a2]) (ok := fun _ => True) (okp := fun _ => True) ?hr ?hp (fun _ hk => hk) trivial (Below.refl _ _) (Nat.le_refl _) (by simp) ?_; (case hd => rfl); (case hg => rfl); (case hr => first | (go_simp; done) | (go_simp; rfl)); (case hp => exact (Reps.c2 (show Kd.M k38 _ _ _ (⟨a1, a2⟩ : S38) [.string a1, .int .i64 a2] from (k38_mkM _ _ _ (⟨a1, a2⟩ : S38) )) (Reps.none _ _)))
            intro v126 w32 ho33 hb hg_ hnew_; clear hg_ hnew_
            (first | rw [← Ny125.out] at ho33 | (simp only [Int.reduceToNat] at ho33; rw [← Ny125.out] at ho33))
            have n0_ := Aside0.mk (Kd.V_elder' (by (with_reducible repeat (first | apply Kd.V_alloc | apply Kd.V_drewN | apply Kd.V_drew)); exact HO_0.out) (Kd.R_base ho33) hb)
            have n1_ := Aside0.mk (Kd.V_elder' (by (with_reducible repeat (first | apply Kd.V_alloc | apply Kd.V_drewN | apply Kd.V_drew)); exact HO124.out) (Kd.R_base ho33) hb)
            have n2_ := Aside0.mk (Kd.V_elder' (by (with_reducible repeat (first | apply Kd.V_alloc | apply Kd.V_drewN | apply Kd.V_drew)); exact HO132.out) (Kd.R_base ho33) hb)
            have n3_ := Aside0.mk (Kd.R_lower (Kd.R_newB (Kd.R_newM (M := fun k_ => (w.heap.size ≤ k_)) ho33 (below_size (by repeat (first | (with_reducible first | exact HB.out | apply wA | apply wN | apply wD | refine wS ?_ GE115.out) | exact HB.out))) (fun k_ h_ => h_)) (g := gb115) (o := .cells #[.string a1, .int .i64 a2] 38 (0, 0)) (by (with_reducible repeat (first | refine bN ?_ _ | refine bD ?_ | refine bA ?_ _)); exact BK115.out)) (below_size (by repeat (first | (with_reducible first | exact HB.out | apply wA | apply wN | apply wD | refine wS ?_ GE115.out) | exact HB.out))))
            have n4_ := Aside0.mk (bB (g := gb115) (o := .cells #[.string a1, .int .i64 a2] 38 (0, 0)) (by (with_reducible repeat (first | refine bN ?_ _ | refine bD ?_ | refine bA ?_ _)); exact BK115.out) hb)
            have n5_ := Aside0.mk (below_step (by repeat (first | (with_reducible first | exact HB.out | apply wA | apply wN | apply wD | refine wS ?_ GE115.out) | exact HB.out)) hb); clear HO_0; clear HO124; clear HO132; clear BK115; clear HB; have HO_0 := n0_; have HO124 := n1_; have HO132 := n2_; have HO127 := n3_; have BK115 := n4_; have HB := n5_; clear n0_ n1_ n2_ n3_ n4_ n5_; clear hb ho33; obtain ⟨Ao34, co34, eo34⟩ := Kd.R_slice HO127.out
            (first | subst eo34 | (injection eo34 with f1_ f2_ f3_; have f4_ := f1_.symm; have f5_ := f3_.symm; clear f1_ f2_ f3_; subst f4_; subst f5_))
            refine hK.out _ _ ⟨(bC BK115.out 0).trans rfl, (bC BK115.out 1).trans rfl⟩ (fun hHeld => ?_); clear hK K; refine norm_ (a' := ?_) ?_ ?_; rotate_left
            ·
             show Act.put _ (some 50) _ = _
             simp only [Act.put, lT, l0_, lS, i64_w, i32_w]; rfl
            refine one_ (i := 8) (N := some 54) B6_9 rfl rfl (one_of HT_.out (by kernel_rfl)) (by decide) (fun K hK => ?_); refine Kd.N_lit_step (Kd.slice 38 k38) _ 26 ?hg (N' := 54) ?hd (xs := ([y120, y125, y128] : List (List (S38)))) (inner := [.slice (some ad119) y120.length c0, .slice Ao34 y125.length co34, .slice A31 y128.length c31]) (ok := (fun k_ => (P0_ k_ ∨ w.heap.size ≤ k_) ∧ k_ ≠ gb115)) (okp := (fun k_ => (P0_ k_ ∨ w.heap.size ≤ k_) ∧ k_ ≠ gb115)) ?hr ?hp (fun _ hk => hk) ((show ∀ k_, w32.heap.size ≤ k_ → (fun k_ => (P0_ k_ ∨ w.heap.size ≤ k_) ∧ k_ ≠ gb115) k_ from fun k_ hk => ⟨(.inr (Nat.le_trans (below_size (by repeat (first | (with_reducible first | exact HB.out | apply wA | apply wN | apply wD | refine wS ?_ GE115.out) | exact HB.out))) hk)), Kd.freshB (g := gb115) (o := .cells #[.string a1, .int .i64 a2] 38 (0, 0)) (by (with_reducible repeat (first | refine bN ?_ _ | refine bD ?_ | refine bA ?_ _)); exact BK115.out) k_ hk⟩) _ (Nat.le_refl _)) (Below.refl _ _) (Nat.le_refl _) (by simp) ?_; (case hd => rfl); (case hg => rfl); (case hr => first | (go_simp; done) | (go_simp; rfl)); (case hp => exact (Reps.one (show Kd.FK (Kd.slice 38 k38) _ _ y120 [.slice (some ad119) y120.length c0] from (Kd.FK_slice_mk (Kd.V_reads' (Kd.V_mono (ok' := (fun k_ => (P0_ k_ ∨ w.heap.size ≤ k_) ∧ k_ ≠ gb115)) (HO124.out) (fun k_ hk => ⟨hk.1.1, hk.1.2⟩))).2.1 (Kd.V_F (Kd.V_mono (ok' := (fun k_ => (P0_ k_ ∨ w.heap.size ≤ k_) ∧ k_ ≠ gb115)) (HO124.out) (fun k_ hk => ⟨hk.1.1, hk.1.2⟩))))) (Reps.one (show Kd.FK (Kd.slice 38 k38) _ _ y125 [.slice Ao34 y125.length co34] from (Kd.FK_slice_mk (Kd.R_reads' (Kd.R_mono (ok' := (fun k_ => (P0_ k_ ∨ w.heap.size ≤ k_) ∧ k_ ≠ gb115)) (HO127.out) (fun k_ hk => ⟨(.inr (hk.1.1)), hk.2⟩))).2.1 (Kd.R_F (Kd.R_mono (ok' := (fun k_ => (P0_ k_ ∨ w.heap.size ≤ k_) ∧ k_ ≠ gb115)) (HO127.out) (fun k_ hk => ⟨(.inr (hk.1.1)), hk.2⟩))))) (Reps.one (show Kd.FK (Kd.slice 38 k38) _ _ y128 [.slice A31 y128.length c31] from (Kd.FK_slice_mk (Kd.V_reads' (Kd.V_mono (ok' := (fun k_ => (P0_ k_ ∨ w.heap.size ≤ k_) ∧ k_ ≠ gb115)) (HO132.out) (fun k_ hk => ⟨hk.1.1, hk.1.2⟩))).2.1 (Kd.V_F (Kd.V_mono (ok' := (fun k_ => (P0_ k_ ∨ w.heap.size ≤ k_) ∧ k_ ≠ gb115)) (HO132.out) (fun k_ hk => ⟨hk.1.1, hk.1.2⟩))))) (Reps.none _ _)))))
            intro v134 w35 ho36 hb hg_ hnew_; clear hg_ hnew_
            (first | rw [← Ny133.out] at ho36 | (simp only [Int.reduceToNat] at ho36; rw [← Ny133.out] at ho36))
            have n0_ := Aside0.mk (Kd.V_elder' (by (with_reducible repeat (first | apply Kd.V_alloc | apply Kd.V_drewN | apply Kd.V_drew)); exact HO_0.out) (Kd.N_base ho36) hb)
            have n1_ := Aside0.mk (Kd.V_elder' (by (with_reducible repeat (first | apply Kd.V_alloc | apply Kd.V_drewN | apply Kd.V_drew)); exact HO124.out) (Kd.N_base ho36) hb)
            have n2_ := Aside0.mk (Kd.V_elder' (by (with_reducible repeat (first | apply Kd.V_alloc | apply Kd.V_drewN | apply Kd.V_drew)); exact HO132.out) (Kd.N_base ho36) hb)
            have n3_ := Aside0.mk (Kd.N_lower ho36 (below_size (by repeat (first | (with_reducible first | exact HB.out | apply wA | apply wN | apply wD | refine wS ?_ GE115.out) | exact HB.out)))); have n4_ := Aside0.mk (bB (g := gb115) (o := .cells #[.string a1, .int .i64 a2] 38 (0, 0)) (by (with_reducible repeat (first | refine bN ?_ _ | refine bD ?_ | refine bA ?_ _)); exact BK115.out) hb)
            have n5_ := Aside0.mk (below_step (by repeat (first | (with_reducible first | exact HB.out | apply wA | apply wN | apply wD | refine wS ?_ GE115.out) | exact HB.out)) hb); clear HO_0; clear HO124; clear HO132; clear BK115; clear HB; clear HO127; have HO_0 := n0_; have HO124 := n1_; have HO132 := n2_; have HO135 := n3_; have BK115 := n4_; have HB := n5_; clear n0_ n1_ n2_ n3_ n4_ n5_; clear hb ho36; obtain ⟨Ao37, co37, eo37⟩ := Kd.N_slice HO135.out
            (first | subst eo37 | (injection eo37 with f1_ f2_ f3_; have f4_ := f1_.symm; have f5_ := f3_.symm; clear f1_ f2_ f3_; subst f4_; subst f5_))
            refine hK.out _ _ ⟨(bC BK115.out 0).trans rfl, (bC BK115.out 1).trans rfl⟩ (fun hHeld => ?_); clear hK K; refine norm_ (a' := ?_) ?_ ?_; rotate_left
            ·
             show Act.put _ (some 54) _ = _
             simp only [Act.put, lT, l0_, lS, i64_w, i32_w]; rfl
            refine one_ (i := 9) (N := some 55) B6_10 rfl rfl (one_of HT_.out (by kernel_rfl)) (by decide) (fun K hK => ?_); refine goes_ Try.func42 (by kernel_rfl) rfl #[.slice Ao37 y133.length co37] (by rfl) rfl rfl (by (try simp only [List.map_toArray, List.map_cons, List.map_nil]); first | done | rfl | (simp only [List.length_drop, List.length_take]; rfl)) ?_
            with_reducible refine (api_Entry_42.calls k2 _ _ y133 t136 _ ?side1 ?side2 A28.out).mono ?_
            (case side1 => repeat (first | exact (Kd.N_reads' HO135.out).2.2 | (with_reducible refine Kd.C_alloc ?_ _) | (with_reducible refine Kd.C_drewN ?_ _) | (with_reducible refine Kd.C_drew ?_)))
            (case side2 => exact (Kd.N_reads' HO135.out).2.1)
            rintro e w38 ⟨v137, rfl, ho0, hb⟩; refine ⟨_, rfl, ?_⟩; have n0_ := Aside0.mk (Kd.V_elder' (by (with_reducible repeat (first | apply Kd.V_alloc | apply Kd.V_drewN | apply Kd.V_drew)); exact HO_0.out) (Kd.R_base ho0) hb)
            have n1_ := Aside0.mk (Kd.V_elder' (by (with_reducible repeat (first | apply Kd.V_alloc | apply Kd.V_drewN | apply Kd.V_drew)); exact HO124.out) (Kd.R_base ho0) hb)
            have n2_ := Aside0.mk (Kd.V_elder' (by (with_reducible repeat (first | apply Kd.V_alloc | apply Kd.V_drewN | apply Kd.V_drew)); exact HO132.out) (Kd.R_base ho0) hb)
            have n3_ := Aside0.mk (Kd.N_elder' (by (with_reducible repeat (first | apply Kd.N_alloc | apply Kd.N_drewN | apply Kd.N_drew)); exact HO135.out) (Kd.R_base ho0) hb)
            have n4_ := Aside0.mk (Kd.R_lower (Kd.R_newB (Kd.R_newM (M := fun k_ => (w.heap.size ≤ k_)) ho0 (below_size (by repeat (first | (with_reducible first | exact HB.out | apply wA | apply wN | apply wD | refine wS ?_ GE115.out) | exact HB.out))) (fun k_ h_ => h_)) (g := gb115) (o := .cells #[.string a1, .int .i64 a2] 38 (0, 0)) (by (with_reducible repeat (first | refine bN ?_ _ | refine bD ?_ | refine bA ?_ _)); exact BK115.out)) (below_size (by repeat (first | (with_reducible first | exact HB.out | apply wA | apply wN | apply wD | refine wS ?_ GE115.out) | exact HB.out))))
            have n5_ := Aside0.mk (bB (g := gb115) (o := .cells #[.string a1, .int .i64 a2] 38 (0, 0)) (by (with_reducible repeat (first | refine bN ?_ _ | refine bD ?_ | refine bA ?_ _)); exact BK115.out) hb)
            have n6_ := Aside0.mk (below_step (by repeat (first | (with_reducible first | exact HB.out | apply wA | apply wN | apply wD | refine wS ?_ GE115.out) | exact HB.out)) hb); clear HO_0; clear HO124; clear HO132; clear HO135; clear BK115; clear HB; have HO_0 := n0_; have HO124 := n1_; have HO132 := n2_; have HO135 := n3_; have HO138 := n4_; have BK115 := n5_; have HB := n6_; clear n0_ n1_ n2_ n3_ n4_ n5_ n6_
            (try clear hb)
            (try clear hb2)
            (try clear hk)
            (try clear hi)
            (try clear ho0)
            refine hK.out _ _ ⟨(bC BK115.out 0).trans rfl, (bC BK115.out 1).trans rfl⟩ (fun hHeld => ?_); clear hK K; refine norm_ (a' := ?_) ?_ ?_; rotate_left
            ·
             show Act.put _ (some 55) _ = _
             simp only [Act.put, lT, l0_, lS, i64_w, i32_w]; rfl
            refine pure_ (i := 10) (N := some 6) (v := ?_) (a' := ?_) B6_11 rfl rfl (any_of HT_.out (by kernel_rfl)) (fun _ _ _ h => h) (Or.inl ⟨by rfl, ?_⟩) ?_ ?_; rotate_left
            ·
             intro w'; go_simp; with_reducible rfl
            rotate_left
            ·
             simp only [Act.put, lT, l0_, lS, i64_w, i32_w]; rfl
            refine pure_ (i := 11) (N := some 7) (v := ?_) (a' := ?_) B6_12 rfl rfl (any_of HT_.out (by kernel_rfl)) (fun _ _ _ h => h) (Or.inl ⟨by rfl, ?_⟩) ?_ ?_; rotate_left
            ·
             intro w'; go_simp; with_reducible rfl
            rotate_left
            ·
             simp only [Act.put, lT, l0_, lS, i64_w, i32_w]; rfl
            refine done_ (done_of HT_.out (by kernel_rfl)) ?_
            try go_wp2
            go_ret2
            exact ⟨_, by first | rfl | exact congrArg (fun b_ => Ending.returned (Value.bool b_)) HRET.out | (rw [HRET.out]) | (simp [errW_none, errW_some] <;> rfl) | (simp [*, errW_none, errW_some] <;> rfl), by (with_reducible repeat (first | apply Kd.R_alloc | apply Kd.R_drewN | apply Kd.R_drew)); exact Kd.R_mono HO138.out (fun _ hk => hk.1.1), by repeat (first | (with_reducible first | exact HB.out | apply wA | apply wN | apply wD | refine wS ?_ GE115.out) | exact HB.out)⟩
           ·
            rw [if_neg c25] at H; exact absurd H (by simp)
         ·
          rw [if_neg c22] at H; exact absurd H (by simp)
        ·
         rw [if_neg c21] at H; have c21b0 : decide (x9_2 < (l0.length : Int)) = false := decide_eq_false c21; clear c21
         by_cases c39 : 0 ≤ x9_2
         ·
          rw [if_pos c39] at H; have c39b0 := eq_true c39; have c39b1 : decide (0 ≤ x9_2) = true := decide_eq_true c39; clear c39
          by_cases c40 : x9_2 ≤ (l0.length : Int)
          ·
           rw [if_pos c40] at H; have c40b0 := eq_true c40; have c40b1 : decide (x9_2 ≤ (l0.length : Int)) = true := decide_eq_true c40; clear c40; obtain ⟨y139, hy139⟩ : ∃ y_ : List (S38), y_ = (l0.take (x9_2 : Int).toNat) := ⟨_, rfl⟩
           replace H : ((api_Entry_42.f k2 (([y139, (([(⟨a1, a2⟩ : S38)] : List (S38))), (l0.drop (x9_2 : Int).toNat)] : List (List (S38))))).bind fun t155 => (some (t155, 0))) = some (r1, r2) := by first | (rw [hy139]; with_reducible exact H) | (have H2_ := (Option.bind_some _ _).symm.trans H; rw [hy139]; with_reducible exact H2_) | (have H2_ := (Option.bind_some _ _).symm.trans H; with_reducible exact H2_) | with_reducible exact H | (rw [hy139]; exact H) | exact H
           have Ny139 := Aside0.mk hy139; clear hy139; obtain ⟨y144, hy144⟩ : ∃ y_ : List (S38), y_ = (([(⟨a1, a2⟩ : S38)] : List (S38))) := ⟨_, rfl⟩
           replace H : ((api_Entry_42.f k2 (([y139, y144, (l0.drop (x9_2 : Int).toNat)] : List (List (S38))))).bind fun t155 => (some (t155, 0))) = some (r1, r2) := by first | (rw [hy144]; with_reducible exact H) | (have H2_ := (Option.bind_some _ _).symm.trans H; rw [hy144]; with_reducible exact H2_) | (have H2_ := (Option.bind_some _ _).symm.trans H; with_reducible exact H2_) | with_reducible exact H | (rw [hy144]; exact H) | exact H
           have Ny144 := Aside0.mk hy144; clear hy144; have c41b0 := eq_true (of_decide_eq_true (by first | (with_reducible assumption) | assumption) : 0 ≤ x9_2); have c42b0 := eq_true (of_decide_eq_true (by first | (with_reducible assumption) | assumption) : x9_2 ≤ (l0.length : Int)); obtain ⟨y147, hy147⟩ : ∃ y_ : List (S38), y_ = (l0.drop (x9_2 : Int).toNat) := ⟨_, rfl⟩
           replace H : ((api_Entry_42.f k2 (([y139, y144, y147] : List (List (S38))))).bind fun t155 => (some (t155, 0))) = some (r1, r2) := by first | (rw [hy147]; with_reducible exact H) | (have H2_ := (Option.bind_some _ _).symm.trans H; rw [hy147]; with_reducible exact H2_) | (have H2_ := (Option.bind_some _ _).symm.trans H; with_reducible exact H2_) | with_reducible exact H | (rw [hy147]; exact H) | exact H
           have Ny147 := Aside0.mk hy147; clear hy147; obtain ⟨y152, hy152⟩ : ∃ y_ : List (List (S38)), y_ = (([y139, y144, y147] : List (List (S38)))) := ⟨_, rfl⟩
           replace H : ((api_Entry_42.f k2 y152).bind fun t155 => (some (t155, 0))) = some (r1, r2) := by first | (rw [hy152]; with_reducible exact H) | (have H2_ := (Option.bind_some _ _).symm.trans H; rw [hy152]; with_reducible exact H2_) | (have H2_ := (Option.bind_some _ _).symm.trans H; with_reducible exact H2_) | with_reducible exact H | (rw [hy152]; exact H) | exact H
           have Ny152 := Aside0.mk hy152; clear hy152; replace H := Option.bind_eq_some_iff.mp H; obtain ⟨t155, A430, H⟩ := H; replace H : (some (t155, 0)) = some (r1, r2) := H; have A43 := Aside0.mk A430; clear A430; simp only [Option.some.injEq, Prod.mk.injEq] at H; obtain ⟨rfl, rfl⟩ := H
           try go_wp2
           have n0_ := Aside0.mk (Kd.V_drew HO_0.out); have n1_ := Aside0.mk (bD BK115.out); have n2_ := Aside0.mk (wD HB.out); clear HO_0; clear BK115; clear HB; have HO_0 := n0_; have BK115 := n1_; have HB := n2_; clear n0_ n1_ n2_; have q45 : (x9_2 : Int) ≤ ((l0.length : Int) : Int) := of_decide_eq_true (by first | (with_reducible assumption) | assumption); obtain ⟨i045, hi045, _, hsz45, _⟩ := info_parts info38; have hroom45 : l0.length ≤ c0 := (Kd.V_reads' HO_0.out).2.1; have hC45 : Kd.F k38 _ _ A0 l0.length l0 := (Kd.V_at (base := w.heap.size) HO_0.out).2.2; have hcut45 := cut_to (P := Try.prog) 26 38 .i64 Try.underlying26 hi045 A0 l0.length c0 x9_2 (of_decide_eq_true (by first | (with_reducible assumption) | assumption)) q45 hroom45; have hr45 := Kd.F_take (m := (x9_2 : Int).toNat) hC45 (by omega); have hy45 : y139.length = (x9_2 : Int).toNat := (by rw [Ny139.out, List.length_take]; omega)
           rw [← Ny139.out] at hr45; rw [← hy45] at hcut45; have HO143 := Aside0.mk (show Kd.V k38 38 _ w.heap.size _ (.slice A0 y139.length c0) y139 from Kd.V_mk (by omega) hr45); have HC143 := Aside0.mk (show y139.length ≤ c0 from by omega); clear hr45 hC45 hroom45 hi045 hsz45; have KY45 := Aside0.mk hy45; clear hy45; replace q45 := eq_true q45; have q46 : (x9_2 : Int) ≤ ((l0.length : Int) : Int) := of_decide_eq_true (by first | (with_reducible assumption) | assumption); obtain ⟨i046, hi046, _, hsz46, _⟩ := info_parts info38; have hroom46 : l0.length ≤ c0 := (Kd.V_reads' HO_0.out).2.1; have hC46 : Kd.F k38 _ _ A0 l0.length l0 := (Kd.V_at (base := w.heap.size) HO_0.out).2.2; have q046 : (0 : Int) ≤ (x9_2 : Int) := of_decide_eq_true (by first | (with_reducible assumption) | assumption); have hcut46 := cut_from (P := Try.prog) 26 38 .i64 Try.underlying26 hi046 2 hsz46 A0 l0.length c0 x9_2 q046 q46; have hr46 := Kd.F_cut (m := (x9_2 : Int).toNat) (c := c0) hC46 (by omega) hroom46; obtain ⟨A46, hA46⟩ : ∃ A1, A1 = (if c0 = (x9_2 : Int).toNat then A0 else (A0 : Option Addr).map (·.add ((x9_2 : Int).toNat * 2))) := ⟨_, rfl⟩; obtain ⟨c46, hc46⟩ : ∃ c1, c1 = c0 - (x9_2 : Int).toNat := ⟨_, rfl⟩; have hy46 : y147.length = l0.length - (x9_2 : Int).toNat := (by rw [Ny147.out, List.length_drop] <;> omega); rw [show (l0).drop (x9_2 : Int).toNat = y147 from Ny147.out.symm] at hr46; replace hr46 : Kd.F k38 _ _ A46 y147.length y147 := (by rw [hA46]; exact hr46)
           rw [← hy46, ← hA46, ← hc46] at hcut46; have HO151 := Aside0.mk (show Kd.V k38 38 _ w.heap.size _ (.slice A46 y147.length c46) y147 from Kd.V_mk (by rw [hy46, hc46]; exact Nat.sub_le_sub_right hroom46 _) hr46)
           have HC151 := Aside0.mk (show y147.length ≤ c46 from by rw [hy46, hc46]; exact Nat.sub_le_sub_right hroom46 _)
           clear hr46 hC46 hroom46 hi046 hsz46 hc46; have KY46 := Aside0.mk hy46; have KA46 := Aside0.mk hA46; clear hy46 hA46; replace q46 := eq_true q46; refine start_ (n := 12) (S := fun w' => w'.cell? ⟨gb115, 0, none⟩ = some (.string a1) ∧ w'.cell? ⟨gb115, 1, none⟩ = some (.int .i64 a2)) (ds := []) B6_0 (by kernel_rfl) rfl rfl ⟨(bC BK115.out 0).trans rfl, (bC BK115.out 1).trans rfl⟩ (fun hHeld => ?_); refine with_tabW name_With.tab11 name_With.bits11 (fun HT_ HW_ => ?_); generalize wr.drew = w44 at HO_0 BK115 HB HO143 HO151 hHeld ⊢; refine pure_ (i := 0) (N := some 46) (v := ?_) (a' := ?_) B6_1 rfl rfl (any_of HT_.out (by kernel_rfl)) (fun _ _ _ h => h) (Or.inl ⟨by rfl, ?_⟩) ?_ ?_; rotate_left
           ·
            intro w'; go_simp; with_reducible rfl
           rotate_left
           ·
            simp only [Act.put, lT, l0_, lS, i64_w, i32_w]; rfl
           refine pure_ (i := 1) (N := some 47) (v := ?_) (a' := ?_) B6_2 rfl rfl (any_of HT_.out (by kernel_rfl)) (fun _ _ _ h => h) (Or.inl ⟨by rfl, ?_⟩) ?_ ?_; rotate_left
           ·
            intro w'; go_simp; with_reducible rfl
           rotate_left
           ·
            simp only [Act.put, lT, l0_, lS, i64_w, i32_w]; rfl
           refine pure_ (i := 2) (N := some 48) (v := ?_) (a' := ?_) B6_3 rfl rfl (any_of HT_.out (by kernel_rfl)) (fun _ _ _ h => h) (Or.inl ⟨by rfl, ?_⟩) ?_ ?_; rotate_left
           ·
            intro w'; go_simp; with_reducible rfl
           rotate_left
           ·
            simp only [Act.put, lT, l0_, lS, i64_w, i32_w]; rfl
           refine pure_ (i := 5) (N := some 51) (v := ?_) (a' := ?_) B6_4 rfl rfl (any_of HT_.out (by kernel_rfl)) (fun _ _ _ h => h) (Or.inl ⟨by rfl, ?_⟩) ?_ ?_; rotate_left
           ·
            intro w'; go_simp; with_reducible rfl
           rotate_left
           ·
            simp only [Act.put, lT, l0_, lS, i64_w, i32_w]; rfl
           refine pure_ (i := 6) (N := some 52) (v := ?_) (a' := ?_) B6_5 rfl rfl (any_of HT_.out (by kernel_rfl)) (fun _ _ _ h => h) (Or.inl ⟨by rfl, ?_⟩) ?_ ?_; rotate_left
           ·
            intro w'; go_simp; with_reducible rfl
           rotate_left
           ·
            simp only [Act.put, lT, l0_, lS, i64_w, i32_w]; rfl
           refine pure_ (i := 7) (N := some 53) (v := ?_) (a' := ?_) B6_6 rfl rfl (any_of HT_.out (by kernel_rfl)) (fun _ _ _ h => h) (Or.inl ⟨by rfl, ?_⟩) ?_ ?_; rotate_left
           ·
            intro w'; go_simp; with_reducible rfl
           rotate_left
           ·
            simp only [Act.put, lT, l0_, lS, i64_w, i32_w]; rfl
           refine take_ (i := 3) (N := some 49) (v := ?_) (a' := ?_) B6_7 rfl rfl (take_ofW HT_.out HW_.out (by kernel_rfl)) (fun _ _ _ h => h) (Or.inl ⟨by rfl, ?_⟩) hHeld ?_ ?_; rotate_left
           ·
            rintro w' ⟨s0, s1⟩; go_simp; with_reducible rfl
           rotate_left
           ·
            simp only [Act.put, lT, l0_, lS, i64_w, i32_w]; rfl
           refine one_ (i := 4) (N := some 50) B6_8 rfl rfl (one_of HT_.out (by kernel_rfl)) (by decide) (fun K hK => ?_); refine Kd.R_lit_step k38 _ 38 ?hg (N := 50) ?hd (xs := ([(⟨a1, a2⟩ : S38)] : List (S38))) (inner := [.string a1, .int .i64 a2]) (ok := fun _ => True) (okp := fun _ => True) ?hr ?hp (fun _ hk => hk) trivial (Below.refl _ _) (Nat.le_refl _) (by simp) ?_; (case hd => rfl); (case hg => rfl); (case hr => first | (go_simp; done) | (go_simp; rfl)); (case hp => exact (Reps.c2 (show Kd.M k38 _ _ _ (⟨a1, a2⟩ : S38) [.string a1, .int .i64 a2] from (k38_mkM _ _ _ (⟨a1, a2⟩ : S38) )) (Reps.none _ _)))
           intro v145 w47 ho48 hb hg_ hnew_; clear hg_ hnew_
           (first | rw [← Ny144.out] at ho48 | (simp only [Int.reduceToNat] at ho48; rw [← Ny144.out] at ho48))
           have n0_ := Aside0.mk (Kd.V_elder' (by (with_reducible repeat (first | apply Kd.V_alloc | apply Kd.V_drewN | apply Kd.V_drew)); exact HO_0.out) (Kd.R_base ho48) hb)
           have n1_ := Aside0.mk (Kd.V_elder' (by (with_reducible repeat (first | apply Kd.V_alloc | apply Kd.V_drewN | apply Kd.V_drew)); exact HO143.out) (Kd.R_base ho48) hb)
           have n2_ := Aside0.mk (Kd.V_elder' (by (with_reducible repeat (first | apply Kd.V_alloc | apply Kd.V_drewN | apply Kd.V_drew)); exact HO151.out) (Kd.R_base ho48) hb)
           have n3_ := Aside0.mk (Kd.R_lower (Kd.R_newB (Kd.R_newM (M := fun k_ => (w.heap.size ≤ k_)) ho48 (below_size (by repeat (first | (with_reducible first | exact HB.out | apply wA | apply wN | apply wD | refine wS ?_ GE115.out) | exact HB.out))) (fun k_ h_ => h_)) (g := gb115) (o := .cells #[.string a1, .int .i64 a2] 38 (0, 0)) (by (with_reducible repeat (first | refine bN ?_ _ | refine bD ?_ | refine bA ?_ _)); exact BK115.out)) (below_size (by repeat (first | (with_reducible first | exact HB.out | apply wA | apply wN | apply wD | refine wS ?_ GE115.out) | exact HB.out))))
           have n4_ := Aside0.mk (bB (g := gb115) (o := .cells #[.string a1, .int .i64 a2] 38 (0, 0)) (by (with_reducible repeat (first | refine bN ?_ _ | refine bD ?_ | refine bA ?_ _)); exact BK115.out) hb)
           have n5_ := Aside0.mk (below_step (by repeat (first | (with_reducible first | exact HB.out | apply wA | apply wN | apply wD | refine wS ?_ GE115.out) | exact HB.out)) hb); clear HO_0; clear HO143; clear HO151; clear BK115; clear HB; have HO_0 := n0_; have HO143 := n1_; have HO151 := n2_; have HO146 := n3_; have BK115 := n4_; have HB := n5_; clear n0_ n1_ n2_ n3_ n4_ n5_; clear hb ho48; obtain ⟨Ao49, co49, eo49⟩ := Kd.R_slice HO146.out
           (first | subst eo49 | (injection eo49 with f1_ f2_ f3_; have f4_ := f1_.symm; have f5_ := f3_.symm; clear f1_ f2_ f3_; subst f4_; subst f5_))
           refine hK.out _ _ ⟨(bC BK115.out 0).trans rfl, (bC BK115.out 1).trans rfl⟩ (fun hHeld => ?_); clear hK K; refine norm_ (a' := ?_) ?_ ?_; rotate_left
           ·
            show Act.put _ (some 50) _ = _
            simp only [Act.put, lT, l0_, lS, i64_w, i32_w]; rfl
           refine one_ (i := 8) (N := some 54) B6_9 rfl rfl (one_of HT_.out (by kernel_rfl)) (by decide) (fun K hK => ?_); refine Kd.N_lit_step (Kd.slice 38 k38) _ 26 ?hg (N' := 54) ?hd (xs := ([y139, y144, y147] : List (List (S38)))) (inner := [.slice A0 y139.length c0, .slice Ao49 y144.length co49, .slice A46 y147.length c46]) (ok := (fun k_ => (P0_ k_ ∨ w.heap.size ≤ k_) ∧ k_ ≠ gb115)) (okp := (fun k_ => (P0_ k_ ∨ w.heap.size ≤ k_) ∧ k_ ≠ gb115)) ?hr ?hp (fun _ hk => hk) ((show ∀ k_, w47.heap.size ≤ k_ → (fun k_ => (P0_ k_ ∨ w.heap.size ≤ k_) ∧ k_ ≠ gb115) k_ from fun k_ hk => ⟨(.inr (Nat.le_trans (below_size (by repeat (first | (with_reducible first | exact HB.out | apply wA | apply wN | apply wD | refine wS ?_ GE115.out) | exact HB.out))) hk)), Kd.freshB (g := gb115) (o := .cells #[.string a1, .int .i64 a2] 38 (0, 0)) (by (with_reducible repeat (first | refine bN ?_ _ | refine bD ?_ | refine bA ?_ _)); exact BK115.out) k_ hk⟩) _ (Nat.le_refl _)) (Below.refl _ _) (Nat.le_refl _) (by simp) ?_; (case hd => rfl); (case hg => rfl); (case hr => first | (go_simp; done) | (go_simp; rfl)); (case hp => exact (Reps.one (show Kd.FK (Kd.slice 38 k38) _ _ y139 [.slice A0 y139.length c0] from (Kd.FK_slice_mk (Kd.V_reads' (Kd.V_mono (ok' := (fun k_ => (P0_ k_ ∨ w.heap.size ≤ k_) ∧ k_ ≠ gb115)) (HO143.out) (fun k_ hk => ⟨hk.1.1, hk.1.2⟩))).2.1 (Kd.V_F (Kd.V_mono (ok' := (fun k_ => (P0_ k_ ∨ w.heap.size ≤ k_) ∧ k_ ≠ gb115)) (HO143.out) (fun k_ hk => ⟨hk.1.1, hk.1.2⟩))))) (Reps.one (show Kd.FK (Kd.slice 38 k38) _ _ y144 [.slice Ao49 y144.length co49] from (Kd.FK_slice_mk (Kd.R_reads' (Kd.R_mono (ok' := (fun k_ => (P0_ k_ ∨ w.heap.size ≤ k_) ∧ k_ ≠ gb115)) (HO146.out) (fun k_ hk => ⟨(.inr (hk.1.1)), hk.2⟩))).2.1 (Kd.R_F (Kd.R_mono (ok' := (fun k_ => (P0_ k_ ∨ w.heap.size ≤ k_) ∧ k_ ≠ gb115)) (HO146.out) (fun k_ hk => ⟨(.inr (hk.1.1)), hk.2⟩))))) (Reps.one (show Kd.FK (Kd.slice 38 k38) _ _ y147 [.slice A46 y147.length c46] from (Kd.FK_slice_mk (Kd.V_reads' (Kd.V_mono (ok' := (fun k_ => (P0_ k_ ∨ w.heap.size ≤ k_) ∧ k_ ≠ gb115)) (HO151.out) (fun k_ hk => ⟨hk.1.1, hk.1.2⟩))).2.1 (Kd.V_F (Kd.V_mono (ok' := (fun k_ => (P0_ k_ ∨ w.heap.size ≤ k_) ∧ k_ ≠ gb115)) (HO151.out) (fun k_ hk => ⟨hk.1.1, hk.1.2⟩))))) (Reps.none _ _)))))
           intro v153 w50 ho51 hb hg_ hnew_; clear hg_ hnew_
           (first | rw [← Ny152.out] at ho51 | (simp only [Int.reduceToNat] at ho51; rw [← Ny152.out] at ho51))
           have n0_ := Aside0.mk (Kd.V_elder' (by (with_reducible repeat (first | apply Kd.V_alloc | apply Kd.V_drewN | apply Kd.V_drew)); exact HO_0.out) (Kd.N_base ho51) hb)
           have n1_ := Aside0.mk (Kd.V_elder' (by (with_reducible repeat (first | apply Kd.V_alloc | apply Kd.V_drewN | apply Kd.V_drew)); exact HO143.out) (Kd.N_base ho51) hb)
           have n2_ := Aside0.mk (Kd.V_elder' (by (with_reducible repeat (first | apply Kd.V_alloc | apply Kd.V_drewN | apply Kd.V_drew)); exact HO151.out) (Kd.N_base ho51) hb)
           have n3_ := Aside0.mk (Kd.N_lower ho51 (below_size (by repeat (first | (with_reducible first | exact HB.out | apply wA | apply wN | apply wD | refine wS ?_ GE115.out) | exact HB.out)))); have n4_ := Aside0.mk (bB (g := gb115) (o := .cells #[.string a1, .int .i64 a2] 38 (0, 0)) (by (with_reducible repeat (first | refine bN ?_ _ | refine bD ?_ | refine bA ?_ _)); exact BK115.out) hb)
           have n5_ := Aside0.mk (below_step (by repeat (first | (with_reducible first | exact HB.out | apply wA | apply wN | apply wD | refine wS ?_ GE115.out) | exact HB.out)) hb); clear HO_0; clear HO143; clear HO151; clear BK115; clear HB; clear HO146; have HO_0 := n0_; have HO143 := n1_; have HO151 := n2_; have HO154 := n3_; have BK115 := n4_; have HB := n5_; clear n0_ n1_ n2_ n3_ n4_ n5_; clear hb ho51; obtain ⟨Ao52, co52, eo52⟩ := Kd.N_slice HO154.out
           (first | subst eo52 | (injection eo52 with f1_ f2_ f3_; have f4_ := f1_.symm; have f5_ := f3_.symm; clear f1_ f2_ f3_; subst f4_; subst f5_))
           refine hK.out _ _ ⟨(bC BK115.out 0).trans rfl, (bC BK115.out 1).trans rfl⟩ (fun hHeld => ?_); clear hK K; refine norm_ (a' := ?_) ?_ ?_; rotate_left
           ·
            show Act.put _ (some 54) _ = _
            simp only [Act.put, lT, l0_, lS, i64_w, i32_w]; rfl
           refine one_ (i := 9) (N := some 55) B6_10 rfl rfl (one_of HT_.out (by kernel_rfl)) (by decide) (fun K hK => ?_); refine goes_ Try.func42 (by kernel_rfl) rfl #[.slice Ao52 y152.length co52] (by rfl) rfl rfl (by (try simp only [List.map_toArray, List.map_cons, List.map_nil]); first | done | rfl | (simp only [List.length_drop, List.length_take]; rfl)) ?_
           with_reducible refine (api_Entry_42.calls k2 _ _ y152 t155 _ ?side1 ?side2 A43.out).mono ?_
           (case side1 => repeat (first | exact (Kd.N_reads' HO154.out).2.2 | (with_reducible refine Kd.C_alloc ?_ _) | (with_reducible refine Kd.C_drewN ?_ _) | (with_reducible refine Kd.C_drew ?_)))
           (case side2 => exact (Kd.N_reads' HO154.out).2.1)
           rintro e w53 ⟨v156, rfl, ho0, hb⟩; refine ⟨_, rfl, ?_⟩; have n0_ := Aside0.mk (Kd.V_elder' (by (with_reducible repeat (first | apply Kd.V_alloc | apply Kd.V_drewN | apply Kd.V_drew)); exact HO_0.out) (Kd.R_base ho0) hb)
           have n1_ := Aside0.mk (Kd.V_elder' (by (with_reducible repeat (first | apply Kd.V_alloc | apply Kd.V_drewN | apply Kd.V_drew)); exact HO143.out) (Kd.R_base ho0) hb)
           have n2_ := Aside0.mk (Kd.V_elder' (by (with_reducible repeat (first | apply Kd.V_alloc | apply Kd.V_drewN | apply Kd.V_drew)); exact HO151.out) (Kd.R_base ho0) hb)
           have n3_ := Aside0.mk (Kd.N_elder' (by (with_reducible repeat (first | apply Kd.N_alloc | apply Kd.N_drewN | apply Kd.N_drew)); exact HO154.out) (Kd.R_base ho0) hb)
           have n4_ := Aside0.mk (Kd.R_lower (Kd.R_newB (Kd.R_newM (M := fun k_ => (w.heap.size ≤ k_)) ho0 (below_size (by repeat (first | (with_reducible first | exact HB.out | apply wA | apply wN | apply wD | refine wS ?_ GE115.out) | exact HB.out))) (fun k_ h_ => h_)) (g := gb115) (o := .cells #[.string a1, .int .i64 a2] 38 (0, 0)) (by (with_reducible repeat (first | refine bN ?_ _ | refine bD ?_ | refine bA ?_ _)); exact BK115.out)) (below_size (by repeat (first | (with_reducible first | exact HB.out | apply wA | apply wN | apply wD | refine wS ?_ GE115.out) | exact HB.out))))
           have n5_ := Aside0.mk (bB (g := gb115) (o := .cells #[.string a1, .int .i64 a2] 38 (0, 0)) (by (with_reducible repeat (first | refine bN ?_ _ | refine bD ?_ | refine bA ?_ _)); exact BK115.out) hb)
           have n6_ := Aside0.mk (below_step (by repeat (first | (with_reducible first | exact HB.out | apply wA | apply wN | apply wD | refine wS ?_ GE115.out) | exact HB.out)) hb); clear HO_0; clear HO143; clear HO151; clear HO154; clear BK115; clear HB; have HO_0 := n0_; have HO143 := n1_; have HO151 := n2_; have HO154 := n3_; have HO157 := n4_; have BK115 := n5_; have HB := n6_; clear n0_ n1_ n2_ n3_ n4_ n5_ n6_
           (try clear hb)
           (try clear hb2)
           (try clear hk)
           (try clear hi)
           (try clear ho0)
           refine hK.out _ _ ⟨(bC BK115.out 0).trans rfl, (bC BK115.out 1).trans rfl⟩ (fun hHeld => ?_); clear hK K; refine norm_ (a' := ?_) ?_ ?_; rotate_left
           ·
            show Act.put _ (some 55) _ = _
            simp only [Act.put, lT, l0_, lS, i64_w, i32_w]; rfl
           refine pure_ (i := 10) (N := some 6) (v := ?_) (a' := ?_) B6_11 rfl rfl (any_of HT_.out (by kernel_rfl)) (fun _ _ _ h => h) (Or.inl ⟨by rfl, ?_⟩) ?_ ?_; rotate_left
           ·
            intro w'; go_simp; with_reducible rfl
           rotate_left
           ·
            simp only [Act.put, lT, l0_, lS, i64_w, i32_w]; rfl
           refine pure_ (i := 11) (N := some 7) (v := ?_) (a' := ?_) B6_12 rfl rfl (any_of HT_.out (by kernel_rfl)) (fun _ _ _ h => h) (Or.inl ⟨by rfl, ?_⟩) ?_ ?_; rotate_left
           ·
            intro w'; go_simp; with_reducible rfl
           rotate_left
           ·
            simp only [Act.put, lT, l0_, lS, i64_w, i32_w]; rfl
           refine done_ (done_of HT_.out (by kernel_rfl)) ?_
           try go_wp2
           go_ret2
           exact ⟨_, by first | rfl | exact congrArg (fun b_ => Ending.returned (Value.bool b_)) HRET.out | (rw [HRET.out]) | (simp [errW_none, errW_some] <;> rfl) | (simp [*, errW_none, errW_some] <;> rfl), by (with_reducible repeat (first | apply Kd.R_alloc | apply Kd.R_drewN | apply Kd.R_drew)); exact Kd.R_mono HO157.out (fun _ hk => hk.1.1), by repeat (first | (with_reducible first | exact HB.out | apply wA | apply wN | apply wD | refine wS ?_ GE115.out) | exact HB.out)⟩
          ·
           rw [if_neg c40] at H; exact absurd H (by simp)
         ·
          rw [if_neg c39] at H; exact absurd H (by simp)

end Go.Proofs.Ytbaiicnibiogpaa.PName
