/- The Go functions that these laws reach, each as a Lean function with the same answers (a law itself where it answers true), and the proof that the code comes to them; conditions: those of each theorem. Laid by a program of this session over the print. -/
import Derived.Test.YtbaiicnibiogpaaPNamex0
import Derived.Test.YtbaiicnibiogpaaPNamex4
import Derived.Test.YtbaiicnibiogpaaPNamex6
import Derived.Test.YtbaiicnibiogpaaPNamex7
import Derived.Test.YtbaiicnibiogpaaPNamex8
import Derived.Test.YtbaiicnibiogpaaPNamex9
namespace Go.Proofs.Ytbaiicnibiogpaa.PName
open Go.RowKit Go.Proofs.YtbaiicnibiogpaaW.PrintWords Go.Proofs.YtbaiicnibiogpaaW.PrintLast Go.Proofs.YtbaiicnibiogpaaW.PrintMore
attribute [local go_sem] max2_int min2_int max_two min_two max_three min_three max_four min_four   -- for this text's walks alone
set_option linter.unusedVariables false
set_option linter.unusedSimpArgs false
open Go.Proofs.YtbaiicnibiogpaaW.PrintWords renaming blk_drewN → bN, blk_drew → bD, blk_alloc → bA, below_set → wS, below_alloc → wA, pw_below_drewN → wN, below_drew1 → wD, blk_below → bB, blk_far → bF, blk_cell → bC, blk_frozen → bZ
open List renaming setIfInBounds_toArray → lT, set_cons_zero → l0_, set_cons_succ → lS

/-! ### potsherdlaw13_NameOrder: function 3 -/
mutual
def potsherdlaw13_NameOrder.l0 : Nat → List ByteArray → Int → List ByteArray → Int → Int → Option (Bool)
 | 0, _, _, _, _, _ => none
 | k + 1, x0, x1, x23, x24, x25 => if x25 < x24 then (if 0 ≤ x25 then (if x25 < (x23.length : Int) then ((potsherdref12_Name.f k (rdOf ByteArray.empty x23 x25)).bind fun t184 => (if t184 = true then (if x25 ≤ (x0.length : Int) then (potsherdlaw13_NameOrder.l1 k x0 x1 (rdOf ByteArray.empty x23 x25) x23 x24 x25 (x0.take (x25 : Int).toNat) ((x0.take (x25 : Int).toNat).length : Int) 0) else (none)) else ((potsherdlaw13_awake.f k).bind fun t185 => (some t185)))) else (none)) else (none)) else (if (IntKind.u64.wrap (wrap64 ((x0.length : Int) + 1))) = 0 then (none) else (potsherdlaw13_NameOrder.l2 k x0 (wrap64 (Int.tmod (IntKind.u64.wrap (x1)) (IntKind.u64.wrap (wrap64 ((x0.length : Int) + 1))))) ([] : List (S38)) ([] : List (S38)) (x0.length : Int) 0))
def potsherdlaw13_NameOrder.l1 : Nat → List ByteArray → Int → ByteArray → List ByteArray → Int → Int → List ByteArray → Int → Int → Option (Bool)
 | 0, _, _, _, _, _, _, _, _, _ => none
 | k + 1, x0, x1, x6, x23, x24, x25, x36, x37, x38 => if x38 < x37 then (if 0 ≤ x38 then (if x38 < (x36.length : Int) then (if x6.toList = (rdOf ByteArray.empty x36 x38).toList then ((potsherdlaw13_awake.f k).bind fun t188 => (some t188)) else (potsherdlaw13_NameOrder.l1 k x0 x1 x6 x23 x24 x25 x36 x37 (wrap64 (x38 + 1)))) else (none)) else (none)) else (potsherdlaw13_NameOrder.l0 k x0 x1 x23 x24 (wrap64 (x25 + 1)))
def potsherdlaw13_NameOrder.l2 : Nat → List ByteArray → Int → List (S38) → List (S38) → Int → Int → Option (Bool)
 | 0, _, _, _, _, _, _ => none
 | k + 1, x0, x9, x10, x11, x57, x58 => if x58 < x57 then (if 0 ≤ x58 then (if x58 < (x0.length : Int) then (if (x0.length : Int) = 0 then (none) else (if 0 ≤ (Int.tmod (wrap64 (x58 + x9)) (x0.length : Int)) then (if (Int.tmod (wrap64 (x58 + x9)) (x0.length : Int)) < (x0.length : Int) then ((name_With.f k x10 (rdOf ByteArray.empty x0 x58) (wrap64 (1 + x58))).bind fun bt191 => (if bt191.2 = 0 then ((name_With.f k x11 (rdOf ByteArray.empty x0 (Int.tmod (wrap64 (x58 + x9)) (x0.length : Int))) (wrap64 (1 + (Int.tmod (wrap64 (x58 + x9)) (x0.length : Int))))).bind fun bt195 => (if bt195.2 = 0 then (potsherdlaw13_NameOrder.l2 k x0 x9 bt191.1 bt195.1 x57 (wrap64 (x58 + 1))) else (some false))) else (some false))) else (none)) else (none))) else (none)) else (none)) else ((name_With.f k x10 (⟨#[122, 122, 122]⟩ : ByteArray) 1).bind fun bt199 => ((potsherdref12_SameEntries.f k x10 x11).bind fun t203 => (if t203 = true then ((name_May.f k x10).bind fun t204 => (if t204 = true then (if (x10.length : Int) = (x0.length : Int) then (if (x0.length : Int) = 10 then ((name_Find.f x10 (⟨#[122, 122, 122]⟩ : ByteArray)).bind fun t205 => (if ((bt199.2 == 14) == (decide (t205 < 0))) = true then ((potsherdlaw13_awake.f k).bind fun t206 => (some t206)) else (some false))) else (if ((bt199.2 == 14) == false) = true then ((potsherdlaw13_awake.f k).bind fun t207 => (some t207)) else (some false))) else (some false)) else (some false))) else (some false))))
end
def potsherdlaw13_NameOrder.f (k : Nat) (l0 : List ByteArray) (a1 : Int) : Option (Bool) := if (l0.length : Int) > 10 then ((potsherdlaw13_awake.f k).bind fun t182 => (some t182)) else (potsherdlaw13_NameOrder.l0 k l0 a1 l0 (l0.length : Int) 0)
theorem potsherdlaw13_NameOrder.mono_l : ∀ k, (∀ y0 y1 y2 y3 y4, LeO (potsherdlaw13_NameOrder.l0 k y0 y1 y2 y3 y4) (potsherdlaw13_NameOrder.l0 (k + 1) y0 y1 y2 y3 y4)) ∧ (∀ y0 y1 y2 y3 y4 y5 y6 y7 y8, LeO (potsherdlaw13_NameOrder.l1 k y0 y1 y2 y3 y4 y5 y6 y7 y8) (potsherdlaw13_NameOrder.l1 (k + 1) y0 y1 y2 y3 y4 y5 y6 y7 y8)) ∧ (∀ y0 y1 y2 y3 y4 y5, LeO (potsherdlaw13_NameOrder.l2 k y0 y1 y2 y3 y4 y5) (potsherdlaw13_NameOrder.l2 (k + 1) y0 y1 y2 y3 y4 y5))
 | 0 => ⟨fun _ _ _ _ _ r h => by simp [potsherdlaw13_NameOrder.l0] at h, fun _ _ _ _ _ _ _ _ _ r h => by simp [potsherdlaw13_NameOrder.l1] at h, fun _ _ _ _ _ _ r h => by simp [potsherdlaw13_NameOrder.l2] at h⟩
 | k + 1 => by
  obtain ⟨ih0, ih1, ih2⟩ := potsherdlaw13_NameOrder.mono_l k; refine ⟨?_, ?_, ?_⟩
  ·
   intro y0 y1 y2 y3 y4
   unfold potsherdlaw13_NameOrder.l0
   repeat' first
   | (with_reducible exact ih0 _ _ _ _ _)
   | (with_reducible exact ih1 _ _ _ _ _ _ _ _ _)
   | (with_reducible exact ih2 _ _ _ _ _ _)
   | (with_reducible exact name_May.mono _ _)
   | (with_reducible exact name_With.mono _ _ _ _)
   | (with_reducible exact potsherdlaw13_awake.mono _)
   | (with_reducible exact potsherdref12_Name.mono _ _)
   | (with_reducible exact potsherdref12_SameEntries.mono _ _ _)
   | (with_reducible exact LeO.refl _)
   | (with_reducible exact LeO.none _)
   | (with_reducible refine LeO.ite ?_ ?_)
   | (with_reducible refine LeO.bind ?_ (fun _ => ?_))
   | exact ih0 _ _ _ _ _
   | exact ih1 _ _ _ _ _ _ _ _ _
   | exact ih2 _ _ _ _ _ _
   | exact name_May.mono _ _
   | exact name_With.mono _ _ _ _
   | exact potsherdlaw13_awake.mono _
   | exact potsherdref12_Name.mono _ _
   | exact potsherdref12_SameEntries.mono _ _ _
   | exact LeO.none _
   | refine LeO.ite ?_ ?_
   | refine LeO.bind ?_ (fun _ => ?_)
  ·
   intro y0 y1 y2 y3 y4 y5 y6 y7 y8
   unfold potsherdlaw13_NameOrder.l1
   repeat' first
   | (with_reducible exact ih0 _ _ _ _ _)
   | (with_reducible exact ih1 _ _ _ _ _ _ _ _ _)
   | (with_reducible exact ih2 _ _ _ _ _ _)
   | (with_reducible exact name_May.mono _ _)
   | (with_reducible exact name_With.mono _ _ _ _)
   | (with_reducible exact potsherdlaw13_awake.mono _)
   | (with_reducible exact potsherdref12_Name.mono _ _)
   | (with_reducible exact potsherdref12_SameEntries.mono _ _ _)
   | (with_reducible exact LeO.refl _)
   | (with_reducible exact LeO.none _)
   | (with_reducible refine LeO.ite ?_ ?_)
   | (with_reducible refine LeO.bind ?_ (fun _ => ?_))
   | exact ih0 _ _ _ _ _
   | exact ih1 _ _ _ _ _ _ _ _ _
   | exact ih2 _ _ _ _ _ _
   | exact name_May.mono _ _
   | exact name_With.mono _ _ _ _
   | exact potsherdlaw13_awake.mono _
   | exact potsherdref12_Name.mono _ _
   | exact potsherdref12_SameEntries.mono _ _ _
   | exact LeO.none _
   | refine LeO.ite ?_ ?_
   | refine LeO.bind ?_ (fun _ => ?_)
  ·
   intro y0 y1 y2 y3 y4 y5
   unfold potsherdlaw13_NameOrder.l2
   repeat' first
   | (with_reducible exact ih0 _ _ _ _ _)
   | (with_reducible exact ih1 _ _ _ _ _ _ _ _ _)
   | (with_reducible exact ih2 _ _ _ _ _ _)
   | (with_reducible exact name_May.mono _ _)
   | (with_reducible exact name_With.mono _ _ _ _)
   | (with_reducible exact potsherdlaw13_awake.mono _)
   | (with_reducible exact potsherdref12_Name.mono _ _)
   | (with_reducible exact potsherdref12_SameEntries.mono _ _ _)
   | (with_reducible exact LeO.refl _)
   | (with_reducible exact LeO.none _)
   | (with_reducible refine LeO.ite ?_ ?_)
   | (with_reducible refine LeO.bind ?_ (fun _ => ?_))
   | exact ih0 _ _ _ _ _
   | exact ih1 _ _ _ _ _ _ _ _ _
   | exact ih2 _ _ _ _ _ _
   | exact name_May.mono _ _
   | exact name_With.mono _ _ _ _
   | exact potsherdlaw13_awake.mono _
   | exact potsherdref12_Name.mono _ _
   | exact potsherdref12_SameEntries.mono _ _ _
   | exact LeO.none _
   | refine LeO.ite ?_ ?_
   | refine LeO.bind ?_ (fun _ => ?_)
theorem potsherdlaw13_NameOrder.mono : ∀ a0 a1 k, LeO (potsherdlaw13_NameOrder.f k a0 a1) (potsherdlaw13_NameOrder.f (k + 1) a0 a1) := by
 intro a0 a1 k; obtain ⟨ih0, ih1, ih2⟩ := potsherdlaw13_NameOrder.mono_l k
 unfold potsherdlaw13_NameOrder.f
 repeat' first
  | (with_reducible exact ih0 _ _ _ _ _)
  | (with_reducible exact ih1 _ _ _ _ _ _ _ _ _)
  | (with_reducible exact ih2 _ _ _ _ _ _)
  | (with_reducible exact name_May.mono _ _)
  | (with_reducible exact name_With.mono _ _ _ _)
  | (with_reducible exact potsherdlaw13_awake.mono _)
  | (with_reducible exact potsherdref12_Name.mono _ _)
  | (with_reducible exact potsherdref12_SameEntries.mono _ _ _)
  | (with_reducible exact LeO.refl _)
  | (with_reducible exact LeO.none _)
  | (with_reducible refine LeO.ite ?_ ?_)
  | (with_reducible refine LeO.bind ?_ (fun _ => ?_))
  | exact ih0 _ _ _ _ _
  | exact ih1 _ _ _ _ _ _ _ _ _
  | exact ih2 _ _ _ _ _ _
  | exact name_May.mono _ _
  | exact name_With.mono _ _ _ _
  | exact potsherdlaw13_awake.mono _
  | exact potsherdref12_Name.mono _ _
  | exact potsherdref12_SameEntries.mono _ _ _
  | exact LeO.none _
  | refine LeO.ite ?_ ?_
  | refine LeO.bind ?_ (fun _ => ?_)
set_option maxHeartbeats 8000000 in
set_option maxRecDepth 100000 in
theorem potsherdlaw13_NameOrder.calls (k : Nat) (A0 : Option Addr) (c0 : Nat) (l0 : List ByteArray) (a1 : Int) (w : World) (hr0 : Kd.C Kd.string w A0 l0.length l0) (hc0 : l0.length ≤ c0) (h : potsherdlaw13_NameOrder.f k l0 a1 = some true) :
 Calls Try.prog 3 #[.slice A0 l0.length c0, .int .i64 a1] w fun e w' => e = .returned (.bool true) ∧ Below w.heap.size w w' := by
 have HR0 := Aside0.mk hr0; have HC0 := Aside0.mk hc0; clear hr0 hc0; have HB := Aside0.mk (Below.refl w.heap.size w); have H : (if (l0.length : Int) > 10 then ((potsherdlaw13_awake.f k).bind fun t182 => (some t182)) else (potsherdlaw13_NameOrder.l0 k l0 a1 l0 (l0.length : Int) 0)) = some true := h; clear h
 by_cases c3 : (l0.length : Int) > 10
 ·
  rw [if_pos c3] at H; have c3b0 : decide (10 < (l0.length : Int)) = true := decide_eq_true c3; have c3b1 : decide (10 < l0.length) = true := decide_eq_true (by omega); clear c3; replace H := Option.bind_eq_some_iff.mp H; obtain ⟨t182, A40, H⟩ := H; replace H : (some t182) = some true := H; have A4 := Aside0.mk A40; clear A40; have HRET := Aside0.mk (Option.some.inj H); clear H
  go_enter Try.func3, Try.ntmps3
  go_wp2_with (first | (go_at_call 12; (with_reducible refine (potsherdlaw13_awake.calls k  t182 _ A4.out).mono ?_); rintro e w5 ⟨rfl, hb⟩; have n0_ := Aside0.mk (below_step (by repeat (first | (with_reducible first | exact HB.out | apply wA | apply wN | apply wD) | exact HB.out)) hb); clear HB; have HB := n0_; clear n0_; (try clear hb); (try clear hb2); (try clear hk); (try clear hi)))
  repeat (go_quiet (first | (go_at_call 12; (with_reducible refine (potsherdlaw13_awake.calls k  t182 _ A4.out).mono ?_); rintro e w5 ⟨rfl, hb⟩; have n0_ := Aside0.mk (below_step (by repeat (first | (with_reducible first | exact HB.out | apply wA | apply wN | apply wD) | exact HB.out)) hb); clear HB; have HB := n0_; clear n0_; (try clear hb); (try clear hb2); (try clear hk); (try clear hi))); try go_wp2_with (first | (go_at_call 12; (with_reducible refine (potsherdlaw13_awake.calls k  t182 _ A4.out).mono ?_); rintro e w5 ⟨rfl, hb⟩; have n0_ := Aside0.mk (below_step (by repeat (first | (with_reducible first | exact HB.out | apply wA | apply wN | apply wD) | exact HB.out)) hb); clear HB; have HB := n0_; clear n0_; (try clear hb); (try clear hb2); (try clear hk); (try clear hi))))
  go_ret
  exact ⟨by first | rfl | exact congrArg (fun b_ => Ending.returned (Value.bool b_)) HRET.out | (rw [HRET.out]) | (simp [errW_none, errW_some] <;> rfl) | (simp [*, errW_none, errW_some] <;> rfl), by repeat (first | (with_reducible first | exact HB.out | apply wA | apply wN | apply wD) | exact HB.out)⟩
 ·
  rw [if_neg c3] at H; have c3b0 : decide (10 < (l0.length : Int)) = false := decide_eq_false c3; have c3b1 : decide (10 < l0.length) = false := decide_eq_false (by omega); clear c3; have H' := Aside0.mk H; clear H
  go_enter Try.func3, Try.ntmps3
  go_wp2
  repeat (go_quiet (fail); try go_wp2)
  go_loopg [25] k (fun kq v25 w' => ∃ (x25_1 : Int), v25 = .int .i64 x25_1 ∧ Aside0 (potsherdlaw13_NameOrder.l0 kq l0 a1 l0 (l0.length : Int) x25_1 = some true) ∧ Aside0 (kq ≤ k) ∧ Aside0 (Below w.heap.size w w'))
  case atStart => exact ⟨(0), (by first | rfl | (simp; done) | (simp [*]; done)), H', ⟨Nat.le_refl _⟩, ⟨by repeat (first | (with_reducible first | exact HB.out | apply wA | apply wN | apply wD) | exact HB.out)⟩⟩
  case round =>
   clear H'
   try clear p2
   try clear c3
   try clear c3b0
   try clear c3b1
   obtain ⟨x25_1, rfl, HA, HK1, HB⟩ := hrel
   cases gk with
   | zero => exact absurd HA.out (by simp [potsherdlaw13_NameOrder.l0])
   | succ k1 =>
    have H := HA.out; clear HA; simp only [potsherdlaw13_NameOrder.l0] at H
    by_cases c6 : x25_1 < (l0.length : Int)
    ·
     rw [if_pos c6] at H; have c6b0 : decide (x25_1 < (l0.length : Int)) = true := decide_eq_true c6; clear c6
     by_cases c7 : 0 ≤ x25_1
     ·
      rw [if_pos c7] at H; have c7b0 : decide (0 ≤ x25_1) = true := decide_eq_true c7; clear c7
      by_cases c8 : x25_1 < (l0.length : Int)
      ·
       rw [if_pos c8] at H; have c8b0 : decide (x25_1 < (l0.length : Int)) = true := decide_eq_true c8; clear c8; replace H := Option.bind_eq_some_iff.mp H; obtain ⟨t184, A90, H⟩ := H; replace H : (if t184 = true then (if x25_1 ≤ (l0.length : Int) then (potsherdlaw13_NameOrder.l1 k1 l0 a1 (rdOf ByteArray.empty l0 x25_1) l0 (l0.length : Int) x25_1 (l0.take (x25_1 : Int).toNat) ((l0.take (x25_1 : Int).toNat).length : Int) 0) else (none)) else ((potsherdlaw13_awake.f k1).bind fun t185 => (some t185))) = some true := H; have A9 := Aside0.mk A90; clear A90
       by_cases c10 : t184 = true
       ·
        subst c10
        have H1 : (if x25_1 ≤ (l0.length : Int) then (potsherdlaw13_NameOrder.l1 k1 l0 a1 (rdOf ByteArray.empty l0 x25_1) l0 (l0.length : Int) x25_1 (l0.take (x25_1 : Int).toNat) ((l0.take (x25_1 : Int).toNat).length : Int) 0) else (none)) = some true := by rw [if_pos rfl] at H; exact H
        clear H; have H := H1; clear H1; have c11b0 := eq_true (of_decide_eq_true (by first | (with_reducible assumption) | assumption) : 0 ≤ x25_1)
        by_cases c12 : x25_1 ≤ (l0.length : Int)
        ·
         rw [if_pos c12] at H; have c12b0 := eq_true c12; have c12b1 : decide (x25_1 ≤ (l0.length : Int)) = true := decide_eq_true c12; clear c12; have H' := Aside0.mk H; clear H; have p183 : 0 ≤ (x25_1 : Int) := of_decide_eq_true (by first | (with_reducible assumption) | assumption); have q183 : x25_1 < (l0.length : Int) := of_decide_eq_true (by first | (with_reducible assumption) | assumption); obtain ⟨ad183, e183, hx183_0⟩ := Kd.at_string HR0.out x25_1 p183 q183
         cases e183
         replace hx183_0 := (HB.out.cell (World.block_lt_of_cell? w _ hx183_0)).trans hx183_0; replace p183 := eq_true p183; replace q183 := eq_true q183
         go_wp2_with (first | (go_at_call 13; (with_reducible refine (potsherdref12_Name.calls k1 (rdOf ByteArray.empty l0 x25_1) true _ A9.out).mono ?_); rintro e w' ⟨rfl, ⟨nd, rfl⟩⟩; (try first | exact ⟨rfl, _, World.drewN_drewN _ _ _⟩ | exact ⟨rfl, _, Eq.trans (World.drewN_drewN _ _ _) (congrArg (World.drewN _) (Nat.add_assoc _ _ _))⟩); obtain ⟨i013, hi013, _, hsz13, _⟩ := info_parts info9; obtain ⟨hcut13, hA13, hC13⟩ := print_take_of (P := Try.prog) Value.string (⟨#[]⟩ : ByteArray) 22 9 .i64 Try.underlying22 hi013 hsz13 (some ad183) c0 l0 x25_1 (of_decide_eq_true (by first | (with_reducible assumption) | assumption)) (of_decide_eq_true (by first | (with_reducible assumption) | assumption)) HC0.out; have HR186 := Aside0.mk (Kd.C_of_reads (h1 := fun _ => rfl) (hA13 _ (Kd.reads_of_C HR0.out))); have HC186 := Aside0.mk hC13; clear hA13 hC13 hi013 hsz13; obtain ⟨T186, hT186⟩ : ∃ T_, T_ = l0.take (x25_1 : Int).toNat := ⟨_, rfl⟩; rw [← hT186] at hcut13 HR186 HC186 H'; clear hT186))
         repeat (go_quiet (first | (go_at_call 13; (with_reducible refine (potsherdref12_Name.calls k1 (rdOf ByteArray.empty l0 x25_1) true _ A9.out).mono ?_); rintro e w' ⟨rfl, ⟨nd, rfl⟩⟩; (try first | exact ⟨rfl, _, World.drewN_drewN _ _ _⟩ | exact ⟨rfl, _, Eq.trans (World.drewN_drewN _ _ _) (congrArg (World.drewN _) (Nat.add_assoc _ _ _))⟩); obtain ⟨i013, hi013, _, hsz13, _⟩ := info_parts info9; obtain ⟨hcut13, hA13, hC13⟩ := print_take_of (P := Try.prog) Value.string (⟨#[]⟩ : ByteArray) 22 9 .i64 Try.underlying22 hi013 hsz13 (some ad183) c0 l0 x25_1 (of_decide_eq_true (by first | (with_reducible assumption) | assumption)) (of_decide_eq_true (by first | (with_reducible assumption) | assumption)) HC0.out; have HR186 := Aside0.mk (Kd.C_of_reads (h1 := fun _ => rfl) (hA13 _ (Kd.reads_of_C HR0.out))); have HC186 := Aside0.mk hC13; clear hA13 hC13 hi013 hsz13; obtain ⟨T186, hT186⟩ : ∃ T_, T_ = l0.take (x25_1 : Int).toNat := ⟨_, rfl⟩; rw [← hT186] at hcut13 HR186 HC186 H'; clear hT186)); try go_wp2_with (first | (go_at_call 13; (with_reducible refine (potsherdref12_Name.calls k1 (rdOf ByteArray.empty l0 x25_1) true _ A9.out).mono ?_); rintro e w' ⟨rfl, ⟨nd, rfl⟩⟩; (try first | exact ⟨rfl, _, World.drewN_drewN _ _ _⟩ | exact ⟨rfl, _, Eq.trans (World.drewN_drewN _ _ _) (congrArg (World.drewN _) (Nat.add_assoc _ _ _))⟩); obtain ⟨i013, hi013, _, hsz13, _⟩ := info_parts info9; obtain ⟨hcut13, hA13, hC13⟩ := print_take_of (P := Try.prog) Value.string (⟨#[]⟩ : ByteArray) 22 9 .i64 Try.underlying22 hi013 hsz13 (some ad183) c0 l0 x25_1 (of_decide_eq_true (by first | (with_reducible assumption) | assumption)) (of_decide_eq_true (by first | (with_reducible assumption) | assumption)) HC0.out; have HR186 := Aside0.mk (Kd.C_of_reads (h1 := fun _ => rfl) (hA13 _ (Kd.reads_of_C HR0.out))); have HC186 := Aside0.mk hC13; clear hA13 hC13 hi013 hsz13; obtain ⟨T186, hT186⟩ : ∃ T_, T_ = l0.take (x25_1 : Int).toNat := ⟨_, rfl⟩; rw [← hT186] at hcut13 HR186 HC186 H'; clear hT186)))
         go_loopg [38] k1 (fun kq v38 w' => ∃ (x38_2 : Int), v38 = .int .i64 x38_2 ∧ Aside0 (potsherdlaw13_NameOrder.l1 kq l0 a1 (rdOf ByteArray.empty l0 x25_1) l0 (l0.length : Int) x25_1 T186 (T186.length : Int) x38_2 = some true) ∧ Aside0 (kq ≤ k1) ∧ Aside0 (Below w.heap.size w w'))
         case atStart => exact ⟨(0), (by first | rfl | (simp; done) | (simp [*]; done)), H', ⟨Nat.le_refl _⟩, ⟨by repeat (first | (with_reducible first | exact HB.out | apply wA | apply wN | apply wD) | exact HB.out)⟩⟩
         case round =>
          clear H'
          try clear c1
          try clear p1
          try clear q1
          try clear hx1
          try clear p2
          try clear c3
          try clear c3b0
          try clear c3b1
          try clear c6
          try clear c6b0
          try clear c7
          try clear c7b0
          try clear c8
          try clear c8b0
          try clear c10
          try clear c11
          try clear c11b0
          try clear c12
          try clear c12b0
          try clear c12b1
          try clear hx183_0
          try clear p183
          try clear p2
          try clear q183
          obtain ⟨x38_2, rfl, HA, HK2, HB⟩ := hrel
          cases gk with
          | zero => exact absurd HA.out (by simp [potsherdlaw13_NameOrder.l1])
          | succ k2 =>
           have H := HA.out; clear HA; simp only [potsherdlaw13_NameOrder.l1] at H
           by_cases c14 : x38_2 < (T186.length : Int)
           ·
            rw [if_pos c14] at H; have c14b0 : decide (x38_2 < (T186.length : Int)) = true := decide_eq_true c14; clear c14
            by_cases c15 : 0 ≤ x38_2
            ·
             rw [if_pos c15] at H; have c15b0 : decide (0 ≤ x38_2) = true := decide_eq_true c15; clear c15
             by_cases c16 : x38_2 < (T186.length : Int)
             ·
              rw [if_pos c16] at H; have c16b0 : decide (x38_2 < (T186.length : Int)) = true := decide_eq_true c16; clear c16
              by_cases c17 : (rdOf ByteArray.empty l0 x25_1).toList = (rdOf ByteArray.empty T186 x38_2).toList
              ·
               rw [if_pos c17] at H; have c17b0 : ((rdOf ByteArray.empty l0 x25_1).toList == (rdOf ByteArray.empty T186 x38_2).toList) = true := beq_iff_eq.mpr c17; have c17b1 : ((rdOf ByteArray.empty l0 x25_1).toList != (rdOf ByteArray.empty T186 x38_2).toList) = false := bne_eq_false_iff_eq.mpr c17; clear c17; replace H := Option.bind_eq_some_iff.mp H; obtain ⟨t188, A180, H⟩ := H; replace H : (some t188) = some true := H; have A18 := Aside0.mk A180; clear A180; have HRET := Aside0.mk (Option.some.inj H); clear H; have p187 : 0 ≤ (x38_2 : Int) := of_decide_eq_true (by first | (with_reducible assumption) | assumption); have q187 : x38_2 < (T186.length : Int) := of_decide_eq_true (by first | (with_reducible assumption) | assumption); obtain ⟨ad187, e187, hx187_0⟩ := Kd.at_string HR186.out x38_2 p187 q187; obtain rfl : ad183 = ad187 := (by injection e187); replace hx187_0 := (HB.out.cell (World.block_lt_of_cell? w _ hx187_0)).trans hx187_0; replace p187 := eq_true p187; replace q187 := eq_true q187
               go_wp2_with (first | (go_at_call 12; (with_reducible refine (potsherdlaw13_awake.calls k2  t188 _ A18.out).mono ?_); rintro e w19 ⟨rfl, hb⟩; have n0_ := Aside0.mk (below_step (by repeat (first | (with_reducible first | exact HB.out | apply wA | apply wN | apply wD) | exact HB.out)) hb); clear HB; have HB := n0_; clear n0_; (try clear hb); (try clear hb2); (try clear hk); (try clear hi)))
               repeat (go_quiet (first | (go_at_call 12; (with_reducible refine (potsherdlaw13_awake.calls k2  t188 _ A18.out).mono ?_); rintro e w19 ⟨rfl, hb⟩; have n0_ := Aside0.mk (below_step (by repeat (first | (with_reducible first | exact HB.out | apply wA | apply wN | apply wD) | exact HB.out)) hb); clear HB; have HB := n0_; clear n0_; (try clear hb); (try clear hb2); (try clear hk); (try clear hi))); try go_wp2_with (first | (go_at_call 12; (with_reducible refine (potsherdlaw13_awake.calls k2  t188 _ A18.out).mono ?_); rintro e w19 ⟨rfl, hb⟩; have n0_ := Aside0.mk (below_step (by repeat (first | (with_reducible first | exact HB.out | apply wA | apply wN | apply wD) | exact HB.out)) hb); clear HB; have HB := n0_; clear n0_; (try clear hb); (try clear hb2); (try clear hk); (try clear hi))))
               go_ret
               exact ⟨by first | rfl | exact congrArg (fun b_ => Ending.returned (Value.bool b_)) HRET.out | (rw [HRET.out]) | (simp [errW_none, errW_some] <;> rfl) | (simp [*, errW_none, errW_some] <;> rfl), by repeat (first | (with_reducible first | exact HB.out | apply wA | apply wN | apply wD) | exact HB.out)⟩
              ·
               rw [if_neg c17] at H; have c17b0 : ((rdOf ByteArray.empty l0 x25_1).toList == (rdOf ByteArray.empty T186 x38_2).toList) = false := beq_eq_false_iff_ne.mpr c17; have c17b1 : ((rdOf ByteArray.empty l0 x25_1).toList != (rdOf ByteArray.empty T186 x38_2).toList) = true := bne_iff_ne.mpr c17; have H' := Aside0.mk H; clear H; have p187 : 0 ≤ (x38_2 : Int) := of_decide_eq_true (by first | (with_reducible assumption) | assumption); have q187 : x38_2 < (T186.length : Int) := of_decide_eq_true (by first | (with_reducible assumption) | assumption); obtain ⟨ad187, e187, hx187_0⟩ := Kd.at_string HR186.out x38_2 p187 q187; obtain rfl : ad183 = ad187 := (by injection e187); replace hx187_0 := (HB.out.cell (World.block_lt_of_cell? w _ hx187_0)).trans hx187_0; replace p187 := eq_true p187; replace q187 := eq_true q187
               go_wp2
               repeat (go_quiet (fail); try go_wp2)
               go_roundg k2
               case measure => have := HK1.out; have := HK2.out; omega
               case rel => exact ⟨(wrap64 (x38_2 + 1)), (by first | rfl | (simp; done) | (simp [*]; done)), H', ⟨by have := HK1.out; have := HK2.out; omega⟩, ⟨by repeat (first | (with_reducible first | exact HB.out | apply wA | apply wN | apply wD) | exact HB.out)⟩⟩
             ·
              rw [if_neg c16] at H; exact absurd H (by simp)
            ·
             rw [if_neg c15] at H; exact absurd H (by simp)
           ·
            rw [if_neg c14] at H; have c14b0 : decide (x38_2 < (T186.length : Int)) = false := decide_eq_false c14; clear c14; have H' := Aside0.mk H; clear H
            go_wp2
            repeat (go_quiet (fail); try go_wp2)
            go_roundg k2
            case measure => have := HK1.out; have := HK2.out; omega
            case rel => exact ⟨(wrap64 (x25_1 + 1)), (by first | rfl | (simp; done) | (simp [*]; done)), H', ⟨by have := HK1.out; have := HK2.out; omega⟩, ⟨by repeat (first | (with_reducible first | exact HB.out | apply wA | apply wN | apply wD) | exact HB.out)⟩⟩
        ·
         rw [if_neg c12] at H; exact absurd H (by simp)
       ·
        replace c10 := Bool.eq_false_iff.mpr c10; subst c10
        have H1 : ((potsherdlaw13_awake.f k1).bind fun t185 => (some t185)) = some true := by rw [if_neg (show ¬ (false = true) by decide)] at H; exact H
        clear H; have H := H1; clear H1; replace H := Option.bind_eq_some_iff.mp H; obtain ⟨t185, A200, H⟩ := H; replace H : (some t185) = some true := H; have A20 := Aside0.mk A200; clear A200; have HRET := Aside0.mk (Option.some.inj H); clear H; have p183 : 0 ≤ (x25_1 : Int) := of_decide_eq_true (by first | (with_reducible assumption) | assumption); have q183 : x25_1 < (l0.length : Int) := of_decide_eq_true (by first | (with_reducible assumption) | assumption); obtain ⟨ad183, e183, hx183_0⟩ := Kd.at_string HR0.out x25_1 p183 q183
        cases e183
        replace hx183_0 := (HB.out.cell (World.block_lt_of_cell? w _ hx183_0)).trans hx183_0; replace p183 := eq_true p183; replace q183 := eq_true q183
        go_wp2_with (first | (go_at_call 13; (with_reducible refine (potsherdref12_Name.calls k1 (rdOf ByteArray.empty l0 x25_1) false _ A9.out).mono ?_); rintro e w' ⟨rfl, ⟨nd, rfl⟩⟩; (try first | exact ⟨rfl, _, World.drewN_drewN _ _ _⟩ | exact ⟨rfl, _, Eq.trans (World.drewN_drewN _ _ _) (congrArg (World.drewN _) (Nat.add_assoc _ _ _))⟩)) | (go_at_call 12; (with_reducible refine (potsherdlaw13_awake.calls k1  t185 _ A20.out).mono ?_); rintro e w21 ⟨rfl, hb⟩; have n0_ := Aside0.mk (below_step (by repeat (first | (with_reducible first | exact HB.out | apply wA | apply wN | apply wD) | exact HB.out)) hb); clear HB; have HB := n0_; clear n0_; (try clear hb); (try clear hb2); (try clear hk); (try clear hi)))
        repeat (go_quiet (first | (go_at_call 13; (with_reducible refine (potsherdref12_Name.calls k1 (rdOf ByteArray.empty l0 x25_1) false _ A9.out).mono ?_); rintro e w' ⟨rfl, ⟨nd, rfl⟩⟩; (try first | exact ⟨rfl, _, World.drewN_drewN _ _ _⟩ | exact ⟨rfl, _, Eq.trans (World.drewN_drewN _ _ _) (congrArg (World.drewN _) (Nat.add_assoc _ _ _))⟩)) | (go_at_call 12; (with_reducible refine (potsherdlaw13_awake.calls k1  t185 _ A20.out).mono ?_); rintro e w21 ⟨rfl, hb⟩; have n0_ := Aside0.mk (below_step (by repeat (first | (with_reducible first | exact HB.out | apply wA | apply wN | apply wD) | exact HB.out)) hb); clear HB; have HB := n0_; clear n0_; (try clear hb); (try clear hb2); (try clear hk); (try clear hi))); try go_wp2_with (first | (go_at_call 13; (with_reducible refine (potsherdref12_Name.calls k1 (rdOf ByteArray.empty l0 x25_1) false _ A9.out).mono ?_); rintro e w' ⟨rfl, ⟨nd, rfl⟩⟩; (try first | exact ⟨rfl, _, World.drewN_drewN _ _ _⟩ | exact ⟨rfl, _, Eq.trans (World.drewN_drewN _ _ _) (congrArg (World.drewN _) (Nat.add_assoc _ _ _))⟩)) | (go_at_call 12; (with_reducible refine (potsherdlaw13_awake.calls k1  t185 _ A20.out).mono ?_); rintro e w21 ⟨rfl, hb⟩; have n0_ := Aside0.mk (below_step (by repeat (first | (with_reducible first | exact HB.out | apply wA | apply wN | apply wD) | exact HB.out)) hb); clear HB; have HB := n0_; clear n0_; (try clear hb); (try clear hb2); (try clear hk); (try clear hi))))
        go_ret
        exact ⟨by first | rfl | exact congrArg (fun b_ => Ending.returned (Value.bool b_)) HRET.out | (rw [HRET.out]) | (simp [errW_none, errW_some] <;> rfl) | (simp [*, errW_none, errW_some] <;> rfl), by repeat (first | (with_reducible first | exact HB.out | apply wA | apply wN | apply wD) | exact HB.out)⟩
      ·
       rw [if_neg c8] at H; exact absurd H (by simp)
     ·
      rw [if_neg c7] at H; exact absurd H (by simp)
    ·
     rw [if_neg c6] at H; have c6b0 : decide (x25_1 < (l0.length : Int)) = false := decide_eq_false c6; clear c6
     by_cases c22 : (IntKind.u64.wrap (wrap64 ((l0.length : Int) + 1))) = 0
     ·
      rw [if_pos c22] at H; exact absurd H (by simp)
     ·
      rw [if_neg c22] at H; have c22b0 : ((IntKind.u64.wrap (wrap64 ((l0.length : Int) + 1))) == 0) = false := beq_eq_false_iff_ne.mpr c22; have c22b1 : ((IntKind.u64.wrap (wrap64 ((l0.length : Int) + 1))) != 0) = true := bne_iff_ne.mpr c22; have H' := Aside0.mk H; clear H
      go_wp2
      repeat (go_quiet (fail); try go_wp2)
      go_loopg [10, 11, 58] k1 (fun kq v10 v11 v58 w' => ∃ (x10_2 : List (S38)) (x11_2 : List (S38)) (x58_2 : Int), v58 = .int .i64 x58_2 ∧ Aside0 (potsherdlaw13_NameOrder.l2 kq l0 (wrap64 (Int.tmod (IntKind.u64.wrap (a1)) (IntKind.u64.wrap (wrap64 ((l0.length : Int) + 1))))) x10_2 x11_2 (l0.length : Int) x58_2 = some true) ∧ Aside0 (kq ≤ k1) ∧ Aside0 (Kd.R k38 38 w' w.heap.size (fun k_ => some k_ ≠ (v11 : Value).ownBlock) v10 x10_2) ∧ Aside0 (Kd.R k38 38 w' w.heap.size (fun k_ => some k_ ≠ (v10 : Value).ownBlock) v11 x11_2) ∧ Aside0 (Below w.heap.size w w'))
      case atStart => exact ⟨(([] : List (S38))), (([] : List (S38))), (0), (by first | rfl | (simp; done) | (simp [*]; done)), H', ⟨Nat.le_refl _⟩, ⟨by first | exact Kd.R_nil _ _ _ _ _ | exact Kd.N_nil _ _ _ _ _ | exact Kd.V_nil _ _ _ _ _ | exact Kd.Q_nil _ _ _ _ _ | exact Kd.S_nil _ _ _ _ _⟩, ⟨by first | exact Kd.R_nil _ _ _ _ _ | exact Kd.N_nil _ _ _ _ _ | exact Kd.V_nil _ _ _ _ _ | exact Kd.Q_nil _ _ _ _ _ | exact Kd.S_nil _ _ _ _ _⟩, ⟨by repeat (first | (with_reducible first | exact HB.out | apply wA | apply wN | apply wD) | exact HB.out)⟩⟩
      case round =>
       clear H'
       try clear c1
       try clear p1
       try clear q1
       try clear hx1
       try clear c2
       try clear p2
       try clear c3
       try clear c3b0
       try clear c3b1
       try clear c6
       try clear c6b0
       try clear p6
       try clear c7
       try clear c7b0
       try clear c8
       try clear c8b0
       try clear c10
       try clear c11
       try clear c11b0
       try clear c12
       try clear c12b0
       try clear c12b1
       try clear c14
       try clear c14b0
       try clear c15
       try clear c15b0
       try clear c16
       try clear c16b0
       try clear c17
       try clear c17b0
       try clear c17b1
       try clear p18
       try clear q18
       try clear hx18
       try clear c22
       try clear c22b0
       try clear c22b1
       try clear hx183_0
       try clear hx187_0
       try clear p1
       try clear p183
       try clear p187
       try clear p2
       try clear q1
       try clear q183
       try clear q187
       obtain ⟨x10_2, x11_2, x58_2, rfl, HA, HK2, HO_10, HO_11, HB⟩ := hrel
       cases gk with
       | zero => exact absurd HA.out (by simp [potsherdlaw13_NameOrder.l2])
       | succ k2 =>
        have H := HA.out; clear HA; simp only [potsherdlaw13_NameOrder.l2] at H
        by_cases c23 : x58_2 < (l0.length : Int)
        ·
         rw [if_pos c23] at H; have c23b0 : decide (x58_2 < (l0.length : Int)) = true := decide_eq_true c23; clear c23
         by_cases c24 : 0 ≤ x58_2
         ·
          rw [if_pos c24] at H; have c24b0 : decide (0 ≤ x58_2) = true := decide_eq_true c24; clear c24
          by_cases c25 : x58_2 < (l0.length : Int)
          ·
           rw [if_pos c25] at H; have c25b0 : decide (x58_2 < (l0.length : Int)) = true := decide_eq_true c25; clear c25
           by_cases c26 : (l0.length : Int) = 0
           ·
            rw [if_pos c26] at H; exact absurd H (by simp)
           ·
            rw [if_neg c26] at H; have c26b0 : ((l0.length : Int) == 0) = false := beq_eq_false_iff_ne.mpr c26; have c26b1 : ((l0.length : Int) != 0) = true := bne_iff_ne.mpr c26
            have c26b2 : ¬ (l0 = []) := fun h_ => c26 (by rw [h_]; rfl)
            obtain ⟨ji27, hji27⟩ : ∃ j_ : Int, (Int.tmod (wrap64 (x58_2 + (wrap64 (Int.tmod (IntKind.u64.wrap (a1)) (IntKind.u64.wrap (wrap64 ((l0.length : Int) + 1))))))) (l0.length : Int)) = j_ := ⟨_, rfl⟩
            replace H : (if 0 ≤ (ji27) then (if (ji27) < (l0.length : Int) then ((name_With.f k2 x10_2 (rdOf ByteArray.empty l0 x58_2) (wrap64 (1 + x58_2))).bind fun bt191 => (if bt191.2 = 0 then ((name_With.f k2 x11_2 (rdOf ByteArray.empty l0 (ji27)) (wrap64 (1 + (ji27)))).bind fun bt195 => (if bt195.2 = 0 then (potsherdlaw13_NameOrder.l2 k2 l0 (wrap64 (Int.tmod (IntKind.u64.wrap (a1)) (IntKind.u64.wrap (wrap64 ((l0.length : Int) + 1))))) bt191.1 bt195.1 (l0.length : Int) (wrap64 (x58_2 + 1))) else (some false))) else (some false))) else (none)) else (none)) = some true := by first | (rw [hji27] at H; exact H) | (simp only [hji27] at H ⊢; exact H)
            by_cases c28 : 0 ≤ (ji27)
            ·
             rw [if_pos c28] at H; have c28b0 : decide (0 ≤ (ji27)) = true := decide_eq_true c28; clear c28
             by_cases c29 : (ji27) < (l0.length : Int)
             ·
              rw [if_pos c29] at H; have c29b0 : decide ((ji27) < (l0.length : Int)) = true := decide_eq_true c29; clear c29; replace H := Option.bind_eq_some_iff.mp H; obtain ⟨⟨t191, t194⟩, A300, H⟩ := H; replace H : (if t194 = 0 then ((name_With.f k2 x11_2 (rdOf ByteArray.empty l0 (ji27)) (wrap64 (1 + (ji27)))).bind fun bt195 => (if bt195.2 = 0 then (potsherdlaw13_NameOrder.l2 k2 l0 (wrap64 (Int.tmod (IntKind.u64.wrap (a1)) (IntKind.u64.wrap (wrap64 ((l0.length : Int) + 1))))) t191 bt195.1 (l0.length : Int) (wrap64 (x58_2 + 1))) else (some false))) else (some false)) = some true := H; have A30 := Aside0.mk A300; clear A300
              by_cases c31 : t194 = 0
              ·
               rw [if_pos c31] at H; have c31b0 : (t194 == 0) = true := beq_iff_eq.mpr c31; have c31b1 : (t194 != 0) = false := bne_eq_false_iff_eq.mpr c31; clear c31; replace H := Option.bind_eq_some_iff.mp H; obtain ⟨⟨t195, t198⟩, A320, H⟩ := H; replace H : (if t198 = 0 then (potsherdlaw13_NameOrder.l2 k2 l0 (wrap64 (Int.tmod (IntKind.u64.wrap (a1)) (IntKind.u64.wrap (wrap64 ((l0.length : Int) + 1))))) t191 t195 (l0.length : Int) (wrap64 (x58_2 + 1))) else (some false)) = some true := H; have A32 := Aside0.mk A320; clear A320
               by_cases c33 : t198 = 0
               ·
                rw [if_pos c33] at H; have c33b0 : (t198 == 0) = true := beq_iff_eq.mpr c33; have c33b1 : (t198 != 0) = false := bne_eq_false_iff_eq.mpr c33; clear c33; have H' := Aside0.mk H; clear H; have p189 : 0 ≤ (x58_2 : Int) := of_decide_eq_true (by first | (with_reducible assumption) | assumption); have q189 : x58_2 < (l0.length : Int) := of_decide_eq_true (by first | (with_reducible assumption) | assumption); obtain ⟨ad189, e189, hx189_0⟩ := Kd.at_string HR0.out x58_2 p189 q189
                cases e189
                replace hx189_0 := (HB.out.cell (World.block_lt_of_cell? w _ hx189_0)).trans hx189_0; replace p189 := eq_true p189; replace q189 := eq_true q189; have p190 : 0 ≤ ((ji27) : Int) := of_decide_eq_true (by first | (with_reducible assumption) | assumption); have q190 : (ji27) < (l0.length : Int) := of_decide_eq_true (by first | (with_reducible assumption) | assumption); obtain ⟨ad190, e190, hx190_0⟩ := Kd.at_string HR0.out (ji27) p190 q190; obtain rfl : ad189 = ad190 := (by injection e190); replace hx190_0 := (HB.out.cell (World.block_lt_of_cell? w _ hx190_0)).trans hx190_0; replace p190 := eq_true p190; replace q190 := eq_true q190; obtain ⟨Ao34, co34, eo34⟩ := Kd.R_slice HO_10.out; subst eo34
                go_wp2_with (first | (go_at_call 14; (with_reducible refine (name_With.calls k2 (fun k_ => some k_ = (.slice Ao34 x10_2.length co34 : Value).ownBlock) _ _ x10_2 (rdOf ByteArray.empty l0 x58_2) (wrap64 (1 + x58_2)) t191 t194 _ ?side1 A30.out).mono ?_); (case side1 => exact Kd.R_V (Kd.R_tight rfl (HO_10.out))); rintro e w35 ⟨v192, rfl, ho0, hb⟩; have n0_ := Aside0.mk (Kd.R_elder' (by (with_reducible repeat (first | apply Kd.R_alloc | apply Kd.R_drewN | apply Kd.R_drew)); exact HO_10.out) (Kd.R_base ho0) hb); have n1_ := Aside0.mk (Kd.R_elder' (by (with_reducible repeat (first | apply Kd.R_alloc | apply Kd.R_drewN | apply Kd.R_drew)); exact HO_11.out) (Kd.R_base ho0) hb); have n2_ := Aside0.mk (Kd.R_lower (Kd.R_new' (Kd.R_new' (Kd.R_mono (ok' := fun k_ => True) ho0 (fun _ hk_ => trivial)) (Kd.R_lt (by (with_reducible repeat (first | apply Kd.R_alloc | apply Kd.R_drewN | apply Kd.R_drew)); exact HO_10.out))) (Kd.R_lt (by (with_reducible repeat (first | apply Kd.R_alloc | apply Kd.R_drewN | apply Kd.R_drew)); exact HO_11.out))) (below_size (by repeat (first | (with_reducible first | exact HB.out | apply wA | apply wN | apply wD) | exact HB.out)))); have n3_ := Aside0.mk (below_step (by repeat (first | (with_reducible first | exact HB.out | apply wA | apply wN | apply wD) | exact HB.out)) hb); clear HO_10; clear HO_11; clear HB; have HO_10 := n0_; have HO_11 := n1_; have HO193 := n2_; have HB := n3_; clear n0_ n1_ n2_ n3_; (try clear hb); (try clear hb2); (try clear hk); (try clear hi); (try clear ho0); obtain ⟨Ao36, co36, eo36⟩ := Kd.R_slice HO_11.out; subst eo36) | (go_at_call 14; (with_reducible refine (name_With.calls k2 (fun k_ => some k_ = (.slice Ao36 x11_2.length co36 : Value).ownBlock) _ _ x11_2 (rdOf ByteArray.empty l0 (ji27)) (wrap64 (1 + (ji27))) t195 t198 _ ?side1 A32.out).mono ?_); (case side1 => exact Kd.R_V (Kd.R_tight rfl (HO_11.out))); rintro e w37 ⟨v196, rfl, ho0, hb⟩; have n0_ := Aside0.mk (Kd.R_elder' (by (with_reducible repeat (first | apply Kd.R_alloc | apply Kd.R_drewN | apply Kd.R_drew)); exact HO_10.out) (Kd.R_base ho0) hb); have n1_ := Aside0.mk (Kd.R_elder' (by (with_reducible repeat (first | apply Kd.R_alloc | apply Kd.R_drewN | apply Kd.R_drew)); exact HO_11.out) (Kd.R_base ho0) hb); have n2_ := Aside0.mk (Kd.R_elder' (by (with_reducible repeat (first | apply Kd.R_alloc | apply Kd.R_drewN | apply Kd.R_drew)); exact HO193.out) (Kd.R_base ho0) hb); have n3_ := Aside0.mk (Kd.R_lower (Kd.R_new' (Kd.R_new' (Kd.R_new' (Kd.R_mono (ok' := fun k_ => True) ho0 (fun _ hk_ => trivial)) (Kd.R_lt (by (with_reducible repeat (first | apply Kd.R_alloc | apply Kd.R_drewN | apply Kd.R_drew)); exact HO_10.out))) (Kd.R_lt (by (with_reducible repeat (first | apply Kd.R_alloc | apply Kd.R_drewN | apply Kd.R_drew)); exact HO_11.out))) (Kd.R_lt (by (with_reducible repeat (first | apply Kd.R_alloc | apply Kd.R_drewN | apply Kd.R_drew)); exact HO193.out))) (below_size (by repeat (first | (with_reducible first | exact HB.out | apply wA | apply wN | apply wD) | exact HB.out)))); have n4_ := Aside0.mk (below_step (by repeat (first | (with_reducible first | exact HB.out | apply wA | apply wN | apply wD) | exact HB.out)) hb); clear HO_10; clear HO_11; clear HO193; clear HB; have HO_10 := n0_; have HO_11 := n1_; have HO193 := n2_; have HO197 := n3_; have HB := n4_; clear n0_ n1_ n2_ n3_ n4_; (try clear hb); (try clear hb2); (try clear hk); (try clear hi); (try clear ho0)))
                repeat (go_quiet (first | (go_at_call 14; (with_reducible refine (name_With.calls k2 (fun k_ => some k_ = (.slice Ao34 x10_2.length co34 : Value).ownBlock) _ _ x10_2 (rdOf ByteArray.empty l0 x58_2) (wrap64 (1 + x58_2)) t191 t194 _ ?side1 A30.out).mono ?_); (case side1 => exact Kd.R_V (Kd.R_tight rfl (HO_10.out))); rintro e w35 ⟨v192, rfl, ho0, hb⟩; have n0_ := Aside0.mk (Kd.R_elder' (by (with_reducible repeat (first | apply Kd.R_alloc | apply Kd.R_drewN | apply Kd.R_drew)); exact HO_10.out) (Kd.R_base ho0) hb); have n1_ := Aside0.mk (Kd.R_elder' (by (with_reducible repeat (first | apply Kd.R_alloc | apply Kd.R_drewN | apply Kd.R_drew)); exact HO_11.out) (Kd.R_base ho0) hb); have n2_ := Aside0.mk (Kd.R_lower (Kd.R_new' (Kd.R_new' (Kd.R_mono (ok' := fun k_ => True) ho0 (fun _ hk_ => trivial)) (Kd.R_lt (by (with_reducible repeat (first | apply Kd.R_alloc | apply Kd.R_drewN | apply Kd.R_drew)); exact HO_10.out))) (Kd.R_lt (by (with_reducible repeat (first | apply Kd.R_alloc | apply Kd.R_drewN | apply Kd.R_drew)); exact HO_11.out))) (below_size (by repeat (first | (with_reducible first | exact HB.out | apply wA | apply wN | apply wD) | exact HB.out)))); have n3_ := Aside0.mk (below_step (by repeat (first | (with_reducible first | exact HB.out | apply wA | apply wN | apply wD) | exact HB.out)) hb); clear HO_10; clear HO_11; clear HB; have HO_10 := n0_; have HO_11 := n1_; have HO193 := n2_; have HB := n3_; clear n0_ n1_ n2_ n3_; (try clear hb); (try clear hb2); (try clear hk); (try clear hi); (try clear ho0); obtain ⟨Ao36, co36, eo36⟩ := Kd.R_slice HO_11.out; subst eo36) | (go_at_call 14; (with_reducible refine (name_With.calls k2 (fun k_ => some k_ = (.slice Ao36 x11_2.length co36 : Value).ownBlock) _ _ x11_2 (rdOf ByteArray.empty l0 (ji27)) (wrap64 (1 + (ji27))) t195 t198 _ ?side1 A32.out).mono ?_); (case side1 => exact Kd.R_V (Kd.R_tight rfl (HO_11.out))); rintro e w37 ⟨v196, rfl, ho0, hb⟩; have n0_ := Aside0.mk (Kd.R_elder' (by (with_reducible repeat (first | apply Kd.R_alloc | apply Kd.R_drewN | apply Kd.R_drew)); exact HO_10.out) (Kd.R_base ho0) hb); have n1_ := Aside0.mk (Kd.R_elder' (by (with_reducible repeat (first | apply Kd.R_alloc | apply Kd.R_drewN | apply Kd.R_drew)); exact HO_11.out) (Kd.R_base ho0) hb); have n2_ := Aside0.mk (Kd.R_elder' (by (with_reducible repeat (first | apply Kd.R_alloc | apply Kd.R_drewN | apply Kd.R_drew)); exact HO193.out) (Kd.R_base ho0) hb); have n3_ := Aside0.mk (Kd.R_lower (Kd.R_new' (Kd.R_new' (Kd.R_new' (Kd.R_mono (ok' := fun k_ => True) ho0 (fun _ hk_ => trivial)) (Kd.R_lt (by (with_reducible repeat (first | apply Kd.R_alloc | apply Kd.R_drewN | apply Kd.R_drew)); exact HO_10.out))) (Kd.R_lt (by (with_reducible repeat (first | apply Kd.R_alloc | apply Kd.R_drewN | apply Kd.R_drew)); exact HO_11.out))) (Kd.R_lt (by (with_reducible repeat (first | apply Kd.R_alloc | apply Kd.R_drewN | apply Kd.R_drew)); exact HO193.out))) (below_size (by repeat (first | (with_reducible first | exact HB.out | apply wA | apply wN | apply wD) | exact HB.out)))); have n4_ := Aside0.mk (below_step (by repeat (first | (with_reducible first | exact HB.out | apply wA | apply wN | apply wD) | exact HB.out)) hb); clear HO_10; clear HO_11; clear HO193; clear HB; have HO_10 := n0_; have HO_11 := n1_; have HO193 := n2_; have HO197 := n3_; have HB := n4_; clear n0_ n1_ n2_ n3_ n4_; (try clear hb); (try clear hb2); (try clear hk); (try clear hi); (try clear ho0))); try go_wp2_with (first | (go_at_call 14; (with_reducible refine (name_With.calls k2 (fun k_ => some k_ = (.slice Ao34 x10_2.length co34 : Value).ownBlock) _ _ x10_2 (rdOf ByteArray.empty l0 x58_2) (wrap64 (1 + x58_2)) t191 t194 _ ?side1 A30.out).mono ?_); (case side1 => exact Kd.R_V (Kd.R_tight rfl (HO_10.out))); rintro e w35 ⟨v192, rfl, ho0, hb⟩; have n0_ := Aside0.mk (Kd.R_elder' (by (with_reducible repeat (first | apply Kd.R_alloc | apply Kd.R_drewN | apply Kd.R_drew)); exact HO_10.out) (Kd.R_base ho0) hb); have n1_ := Aside0.mk (Kd.R_elder' (by (with_reducible repeat (first | apply Kd.R_alloc | apply Kd.R_drewN | apply Kd.R_drew)); exact HO_11.out) (Kd.R_base ho0) hb); have n2_ := Aside0.mk (Kd.R_lower (Kd.R_new' (Kd.R_new' (Kd.R_mono (ok' := fun k_ => True) ho0 (fun _ hk_ => trivial)) (Kd.R_lt (by (with_reducible repeat (first | apply Kd.R_alloc | apply Kd.R_drewN | apply Kd.R_drew)); exact HO_10.out))) (Kd.R_lt (by (with_reducible repeat (first | apply Kd.R_alloc | apply Kd.R_drewN | apply Kd.R_drew)); exact HO_11.out))) (below_size (by repeat (first | (with_reducible first | exact HB.out | apply wA | apply wN | apply wD) | exact HB.out)))); have n3_ := Aside0.mk (below_step (by repeat (first | (with_reducible first | exact HB.out | apply wA | apply wN | apply wD) | exact HB.out)) hb); clear HO_10; clear HO_11; clear HB; have HO_10 := n0_; have HO_11 := n1_; have HO193 := n2_; have HB := n3_; clear n0_ n1_ n2_ n3_; (try clear hb); (try clear hb2); (try clear hk); (try clear hi); (try clear ho0); obtain ⟨Ao36, co36, eo36⟩ := Kd.R_slice HO_11.out; subst eo36) | (go_at_call 14; (with_reducible refine (name_With.calls k2 (fun k_ => some k_ = (.slice Ao36 x11_2.length co36 : Value).ownBlock) _ _ x11_2 (rdOf ByteArray.empty l0 (ji27)) (wrap64 (1 + (ji27))) t195 t198 _ ?side1 A32.out).mono ?_); (case side1 => exact Kd.R_V (Kd.R_tight rfl (HO_11.out))); rintro e w37 ⟨v196, rfl, ho0, hb⟩; have n0_ := Aside0.mk (Kd.R_elder' (by (with_reducible repeat (first | apply Kd.R_alloc | apply Kd.R_drewN | apply Kd.R_drew)); exact HO_10.out) (Kd.R_base ho0) hb); have n1_ := Aside0.mk (Kd.R_elder' (by (with_reducible repeat (first | apply Kd.R_alloc | apply Kd.R_drewN | apply Kd.R_drew)); exact HO_11.out) (Kd.R_base ho0) hb); have n2_ := Aside0.mk (Kd.R_elder' (by (with_reducible repeat (first | apply Kd.R_alloc | apply Kd.R_drewN | apply Kd.R_drew)); exact HO193.out) (Kd.R_base ho0) hb); have n3_ := Aside0.mk (Kd.R_lower (Kd.R_new' (Kd.R_new' (Kd.R_new' (Kd.R_mono (ok' := fun k_ => True) ho0 (fun _ hk_ => trivial)) (Kd.R_lt (by (with_reducible repeat (first | apply Kd.R_alloc | apply Kd.R_drewN | apply Kd.R_drew)); exact HO_10.out))) (Kd.R_lt (by (with_reducible repeat (first | apply Kd.R_alloc | apply Kd.R_drewN | apply Kd.R_drew)); exact HO_11.out))) (Kd.R_lt (by (with_reducible repeat (first | apply Kd.R_alloc | apply Kd.R_drewN | apply Kd.R_drew)); exact HO193.out))) (below_size (by repeat (first | (with_reducible first | exact HB.out | apply wA | apply wN | apply wD) | exact HB.out)))); have n4_ := Aside0.mk (below_step (by repeat (first | (with_reducible first | exact HB.out | apply wA | apply wN | apply wD) | exact HB.out)) hb); clear HO_10; clear HO_11; clear HO193; clear HB; have HO_10 := n0_; have HO_11 := n1_; have HO193 := n2_; have HO197 := n3_; have HB := n4_; clear n0_ n1_ n2_ n3_ n4_; (try clear hb); (try clear hb2); (try clear hk); (try clear hi); (try clear ho0))))
                go_roundg k2
                case measure => have := HK1.out; have := HK2.out; omega
                case rel => exact ⟨(t191), (t195), (wrap64 (x58_2 + 1)), (by first | rfl | (simp; done) | (simp [*]; done)), H', ⟨by have := HK1.out; have := HK2.out; omega⟩, ⟨by (with_reducible repeat (first | apply Kd.R_alloc | apply Kd.R_drewN | apply Kd.R_drew)); exact Kd.R_mono HO193.out (fun _ hk => hk.2)⟩, ⟨by (with_reducible repeat (first | apply Kd.R_alloc | apply Kd.R_drewN | apply Kd.R_drew)); exact Kd.R_mono HO197.out (fun _ hk => hk.2)⟩, ⟨by repeat (first | (with_reducible first | exact HB.out | apply wA | apply wN | apply wD) | exact HB.out)⟩⟩
               ·
                rw [if_neg c33] at H; have c33b0 : (t198 == 0) = false := beq_eq_false_iff_ne.mpr c33; have c33b1 : (t198 != 0) = true := bne_iff_ne.mpr c33; exact absurd H (by simp)
              ·
               rw [if_neg c31] at H; have c31b0 : (t194 == 0) = false := beq_eq_false_iff_ne.mpr c31; have c31b1 : (t194 != 0) = true := bne_iff_ne.mpr c31; exact absurd H (by simp)
             ·
              rw [if_neg c29] at H; exact absurd H (by simp)
            ·
             rw [if_neg c28] at H; exact absurd H (by simp)
          ·
           rw [if_neg c25] at H; exact absurd H (by simp)
         ·
          rw [if_neg c24] at H; exact absurd H (by simp)
        ·
         rw [if_neg c23] at H; have c23b0 : decide (x58_2 < (l0.length : Int)) = false := decide_eq_false c23; clear c23; replace H := Option.bind_eq_some_iff.mp H; obtain ⟨⟨t199, t202⟩, A380, H⟩ := H; replace H : ((potsherdref12_SameEntries.f k2 x10_2 x11_2).bind fun t203 => (if t203 = true then ((name_May.f k2 x10_2).bind fun t204 => (if t204 = true then (if (x10_2.length : Int) = (l0.length : Int) then (if (l0.length : Int) = 10 then ((name_Find.f x10_2 (⟨#[122, 122, 122]⟩ : ByteArray)).bind fun t205 => (if ((t202 == 14) == (decide (t205 < 0))) = true then ((potsherdlaw13_awake.f k2).bind fun t206 => (some t206)) else (some false))) else (if ((t202 == 14) == false) = true then ((potsherdlaw13_awake.f k2).bind fun t207 => (some t207)) else (some false))) else (some false)) else (some false))) else (some false))) = some true := H; have A38 := Aside0.mk A380; clear A380; replace H := Option.bind_eq_some_iff.mp H; obtain ⟨t203, A390, H⟩ := H; replace H : (if t203 = true then ((name_May.f k2 x10_2).bind fun t204 => (if t204 = true then (if (x10_2.length : Int) = (l0.length : Int) then (if (l0.length : Int) = 10 then ((name_Find.f x10_2 (⟨#[122, 122, 122]⟩ : ByteArray)).bind fun t205 => (if ((t202 == 14) == (decide (t205 < 0))) = true then ((potsherdlaw13_awake.f k2).bind fun t206 => (some t206)) else (some false))) else (if ((t202 == 14) == false) = true then ((potsherdlaw13_awake.f k2).bind fun t207 => (some t207)) else (some false))) else (some false)) else (some false))) else (some false)) = some true := H; have A39 := Aside0.mk A390; clear A390
         by_cases c40 : t203 = true
         ·
          subst c40
          have H1 : ((name_May.f k2 x10_2).bind fun t204 => (if t204 = true then (if (x10_2.length : Int) = (l0.length : Int) then (if (l0.length : Int) = 10 then ((name_Find.f x10_2 (⟨#[122, 122, 122]⟩ : ByteArray)).bind fun t205 => (if ((t202 == 14) == (decide (t205 < 0))) = true then ((potsherdlaw13_awake.f k2).bind fun t206 => (some t206)) else (some false))) else (if ((t202 == 14) == false) = true then ((potsherdlaw13_awake.f k2).bind fun t207 => (some t207)) else (some false))) else (some false)) else (some false))) = some true := by rw [if_pos rfl] at H; exact H
          clear H; have H := H1; clear H1; replace H := Option.bind_eq_some_iff.mp H; obtain ⟨t204, A410, H⟩ := H; replace H : (if t204 = true then (if (x10_2.length : Int) = (l0.length : Int) then (if (l0.length : Int) = 10 then ((name_Find.f x10_2 (⟨#[122, 122, 122]⟩ : ByteArray)).bind fun t205 => (if ((t202 == 14) == (decide (t205 < 0))) = true then ((potsherdlaw13_awake.f k2).bind fun t206 => (some t206)) else (some false))) else (if ((t202 == 14) == false) = true then ((potsherdlaw13_awake.f k2).bind fun t207 => (some t207)) else (some false))) else (some false)) else (some false)) = some true := H; have A41 := Aside0.mk A410; clear A410
          by_cases c42 : t204 = true
          ·
           subst c42
           have H1 : (if (x10_2.length : Int) = (l0.length : Int) then (if (l0.length : Int) = 10 then ((name_Find.f x10_2 (⟨#[122, 122, 122]⟩ : ByteArray)).bind fun t205 => (if ((t202 == 14) == (decide (t205 < 0))) = true then ((potsherdlaw13_awake.f k2).bind fun t206 => (some t206)) else (some false))) else (if ((t202 == 14) == false) = true then ((potsherdlaw13_awake.f k2).bind fun t207 => (some t207)) else (some false))) else (some false)) = some true := by rw [if_pos rfl] at H; exact H
           clear H; have H := H1; clear H1
           by_cases c43 : (x10_2.length : Int) = (l0.length : Int)
           ·
            rw [if_pos c43] at H; have c43b0 : ((x10_2.length : Int) == (l0.length : Int)) = true := beq_iff_eq.mpr c43; have c43b1 : ((x10_2.length : Int) != (l0.length : Int)) = false := bne_eq_false_iff_eq.mpr c43
            have c43b2 : (x10_2.length == l0.length) = true := by first | simpa using c43 | (simp at c43 ⊢; omega)
            clear c43
            by_cases c44 : (l0.length : Int) = 10
            ·
             rw [if_pos c44] at H; have c44b0 : ((l0.length : Int) == 10) = true := beq_iff_eq.mpr c44; have c44b1 : ((l0.length : Int) != 10) = false := bne_eq_false_iff_eq.mpr c44; clear c44; replace H := Option.bind_eq_some_iff.mp H; obtain ⟨t205, A450, H⟩ := H; replace H : (if ((t202 == 14) == (decide (t205 < 0))) = true then ((potsherdlaw13_awake.f k2).bind fun t206 => (some t206)) else (some false)) = some true := H; have A45 := Aside0.mk A450; clear A450
             by_cases c46 : ((t202 == 14) == (decide (t205 < 0))) = true
             ·
              rw [if_pos c46] at H; have c46b0 : ((t202 == 14) == (decide (t205 < 0))) = true := c46
              (try (have c46b1 : decide ((t202 == 14) = (decide (t205 < 0))) = true := by simpa using c46))
              (try (have c46b2 : ((t202 == 14) == (decide (t205 < 0))) = true := by simpa using c46))
              clear c46; replace H := Option.bind_eq_some_iff.mp H; obtain ⟨t206, A470, H⟩ := H; replace H : (some t206) = some true := H; have A47 := Aside0.mk A470; clear A470; have HRET := Aside0.mk (Option.some.inj H); clear H; obtain ⟨Ao48, co48, eo48⟩ := Kd.R_slice HO_10.out; subst eo48
              go_wp2_with (first | (go_at_call 14; (with_reducible refine (name_With.calls k2 (fun k_ => some k_ = (.slice Ao48 x10_2.length co48 : Value).ownBlock) _ _ x10_2 (⟨#[122, 122, 122]⟩ : ByteArray) 1 t199 t202 _ ?side1 A38.out).mono ?_); (case side1 => exact Kd.R_V (Kd.R_tight rfl (HO_10.out))); rintro e w49 ⟨v200, rfl, ho0, hb⟩; have n0_ := Aside0.mk (Kd.R_elder' (by (with_reducible repeat (first | apply Kd.R_alloc | apply Kd.R_drewN | apply Kd.R_drew)); exact HO_10.out) (Kd.R_base ho0) hb); have n1_ := Aside0.mk (Kd.R_elder' (by (with_reducible repeat (first | apply Kd.R_alloc | apply Kd.R_drewN | apply Kd.R_drew)); exact HO_11.out) (Kd.R_base ho0) hb); have n2_ := Aside0.mk (Kd.R_lower (Kd.R_new' (Kd.R_new' (Kd.R_mono (ok' := fun k_ => True) ho0 (fun _ hk_ => trivial)) (Kd.R_lt (by (with_reducible repeat (first | apply Kd.R_alloc | apply Kd.R_drewN | apply Kd.R_drew)); exact HO_10.out))) (Kd.R_lt (by (with_reducible repeat (first | apply Kd.R_alloc | apply Kd.R_drewN | apply Kd.R_drew)); exact HO_11.out))) (below_size (by repeat (first | (with_reducible first | exact HB.out | apply wA | apply wN | apply wD) | exact HB.out)))); have n3_ := Aside0.mk (below_step (by repeat (first | (with_reducible first | exact HB.out | apply wA | apply wN | apply wD) | exact HB.out)) hb); clear HO_10; clear HO_11; clear HB; have HO_10 := n0_; have HO_11 := n1_; have HO201 := n2_; have HB := n3_; clear n0_ n1_ n2_ n3_; (try clear hb); (try clear hb2); (try clear hk); (try clear hi); (try clear ho0); obtain ⟨Ao50, co50, eo50⟩ := Kd.R_slice HO_11.out; subst eo50) | (go_at_call 15; (with_reducible refine (potsherdref12_SameEntries.calls k2 _ _ x10_2 _ _ x11_2 true _ ?side1 ?side2 ?side3 ?side4 A39.out).mono ?_); (case side1 => repeat (first | exact (Kd.R_reads' HO_10.out).2.2 | (with_reducible refine Kd.C_alloc ?_ _) | (with_reducible refine Kd.C_drewN ?_ _) | (with_reducible refine Kd.C_drew ?_))); (case side2 => exact (Kd.R_reads' HO_10.out).2.1); (case side3 => repeat (first | exact (Kd.R_reads' HO_11.out).2.2 | (with_reducible refine Kd.C_alloc ?_ _) | (with_reducible refine Kd.C_drewN ?_ _) | (with_reducible refine Kd.C_drew ?_))); (case side4 => exact (Kd.R_reads' HO_11.out).2.1); rintro e w' ⟨rfl, ⟨nd, rfl⟩⟩; (try first | exact ⟨rfl, _, World.drewN_drewN _ _ _⟩ | exact ⟨rfl, _, Eq.trans (World.drewN_drewN _ _ _) (congrArg (World.drewN _) (Nat.add_assoc _ _ _))⟩)) | (go_at_call 16; (with_reducible refine (name_May.calls k2 _ _ x10_2 true _ ?side1 ?side2 A41.out).mono ?_); (case side1 => repeat (first | exact (Kd.R_reads' HO_10.out).2.2 | (with_reducible refine Kd.C_alloc ?_ _) | (with_reducible refine Kd.C_drewN ?_ _) | (with_reducible refine Kd.C_drew ?_))); (case side2 => exact (Kd.R_reads' HO_10.out).2.1); rintro e w51 ⟨rfl, hb⟩; have n0_ := Aside0.mk (Kd.R_below (by (with_reducible repeat (first | apply Kd.R_alloc | apply Kd.R_drewN | apply Kd.R_drew)); exact HO_10.out) hb); have n1_ := Aside0.mk (Kd.R_below (by (with_reducible repeat (first | apply Kd.R_alloc | apply Kd.R_drewN | apply Kd.R_drew)); exact HO_11.out) hb); have n2_ := Aside0.mk (Kd.R_below (by (with_reducible repeat (first | apply Kd.R_alloc | apply Kd.R_drewN | apply Kd.R_drew)); exact HO201.out) hb); have n3_ := Aside0.mk (below_step (by repeat (first | (with_reducible first | exact HB.out | apply wA | apply wN | apply wD) | exact HB.out)) hb); clear HO_10; clear HO_11; clear HO201; clear HB; have HO_10 := n0_; have HO_11 := n1_; have HO201 := n2_; have HB := n3_; clear n0_ n1_ n2_ n3_; (try clear hb); (try clear hb2); (try clear hk); (try clear hi)) | (go_at_call 17; (with_reducible refine (name_Find.calls _ _ x10_2 (⟨#[122, 122, 122]⟩ : ByteArray) t205 _ ?side1 ?side2 A45.out).mono ?_); (case side1 => repeat (first | exact (Kd.R_reads' HO_10.out).2.2 | (with_reducible refine Kd.C_alloc ?_ _) | (with_reducible refine Kd.C_drewN ?_ _) | (with_reducible refine Kd.C_drew ?_))); (case side2 => exact (Kd.R_reads' HO_10.out).2.1); rintro e w52 ⟨rfl, hb⟩; have n0_ := Aside0.mk (Kd.R_below (by (with_reducible repeat (first | apply Kd.R_alloc | apply Kd.R_drewN | apply Kd.R_drew)); exact HO_10.out) hb); have n1_ := Aside0.mk (Kd.R_below (by (with_reducible repeat (first | apply Kd.R_alloc | apply Kd.R_drewN | apply Kd.R_drew)); exact HO_11.out) hb); have n2_ := Aside0.mk (Kd.R_below (by (with_reducible repeat (first | apply Kd.R_alloc | apply Kd.R_drewN | apply Kd.R_drew)); exact HO201.out) hb); have n3_ := Aside0.mk (below_step (by repeat (first | (with_reducible first | exact HB.out | apply wA | apply wN | apply wD) | exact HB.out)) hb); clear HO_10; clear HO_11; clear HO201; clear HB; have HO_10 := n0_; have HO_11 := n1_; have HO201 := n2_; have HB := n3_; clear n0_ n1_ n2_ n3_; (try clear hb); (try clear hb2); (try clear hk); (try clear hi)) | (go_at_call 12; (with_reducible refine (potsherdlaw13_awake.calls k2  t206 _ A47.out).mono ?_); rintro e w53 ⟨rfl, hb⟩; have n0_ := Aside0.mk (Kd.R_below (by (with_reducible repeat (first | apply Kd.R_alloc | apply Kd.R_drewN | apply Kd.R_drew)); exact HO_10.out) hb); have n1_ := Aside0.mk (Kd.R_below (by (with_reducible repeat (first | apply Kd.R_alloc | apply Kd.R_drewN | apply Kd.R_drew)); exact HO_11.out) hb); have n2_ := Aside0.mk (Kd.R_below (by (with_reducible repeat (first | apply Kd.R_alloc | apply Kd.R_drewN | apply Kd.R_drew)); exact HO201.out) hb); have n3_ := Aside0.mk (below_step (by repeat (first | (with_reducible first | exact HB.out | apply wA | apply wN | apply wD) | exact HB.out)) hb); clear HO_10; clear HO_11; clear HO201; clear HB; have HO_10 := n0_; have HO_11 := n1_; have HO201 := n2_; have HB := n3_; clear n0_ n1_ n2_ n3_; (try clear hb); (try clear hb2); (try clear hk); (try clear hi)))
              repeat (go_quiet (first | (go_at_call 14; (with_reducible refine (name_With.calls k2 (fun k_ => some k_ = (.slice Ao48 x10_2.length co48 : Value).ownBlock) _ _ x10_2 (⟨#[122, 122, 122]⟩ : ByteArray) 1 t199 t202 _ ?side1 A38.out).mono ?_); (case side1 => exact Kd.R_V (Kd.R_tight rfl (HO_10.out))); rintro e w49 ⟨v200, rfl, ho0, hb⟩; have n0_ := Aside0.mk (Kd.R_elder' (by (with_reducible repeat (first | apply Kd.R_alloc | apply Kd.R_drewN | apply Kd.R_drew)); exact HO_10.out) (Kd.R_base ho0) hb); have n1_ := Aside0.mk (Kd.R_elder' (by (with_reducible repeat (first | apply Kd.R_alloc | apply Kd.R_drewN | apply Kd.R_drew)); exact HO_11.out) (Kd.R_base ho0) hb); have n2_ := Aside0.mk (Kd.R_lower (Kd.R_new' (Kd.R_new' (Kd.R_mono (ok' := fun k_ => True) ho0 (fun _ hk_ => trivial)) (Kd.R_lt (by (with_reducible repeat (first | apply Kd.R_alloc | apply Kd.R_drewN | apply Kd.R_drew)); exact HO_10.out))) (Kd.R_lt (by (with_reducible repeat (first | apply Kd.R_alloc | apply Kd.R_drewN | apply Kd.R_drew)); exact HO_11.out))) (below_size (by repeat (first | (with_reducible first | exact HB.out | apply wA | apply wN | apply wD) | exact HB.out)))); have n3_ := Aside0.mk (below_step (by repeat (first | (with_reducible first | exact HB.out | apply wA | apply wN | apply wD) | exact HB.out)) hb); clear HO_10; clear HO_11; clear HB; have HO_10 := n0_; have HO_11 := n1_; have HO201 := n2_; have HB := n3_; clear n0_ n1_ n2_ n3_; (try clear hb); (try clear hb2); (try clear hk); (try clear hi); (try clear ho0); obtain ⟨Ao50, co50, eo50⟩ := Kd.R_slice HO_11.out; subst eo50) | (go_at_call 15; (with_reducible refine (potsherdref12_SameEntries.calls k2 _ _ x10_2 _ _ x11_2 true _ ?side1 ?side2 ?side3 ?side4 A39.out).mono ?_); (case side1 => repeat (first | exact (Kd.R_reads' HO_10.out).2.2 | (with_reducible refine Kd.C_alloc ?_ _) | (with_reducible refine Kd.C_drewN ?_ _) | (with_reducible refine Kd.C_drew ?_))); (case side2 => exact (Kd.R_reads' HO_10.out).2.1); (case side3 => repeat (first | exact (Kd.R_reads' HO_11.out).2.2 | (with_reducible refine Kd.C_alloc ?_ _) | (with_reducible refine Kd.C_drewN ?_ _) | (with_reducible refine Kd.C_drew ?_))); (case side4 => exact (Kd.R_reads' HO_11.out).2.1); rintro e w' ⟨rfl, ⟨nd, rfl⟩⟩; (try first | exact ⟨rfl, _, World.drewN_drewN _ _ _⟩ | exact ⟨rfl, _, Eq.trans (World.drewN_drewN _ _ _) (congrArg (World.drewN _) (Nat.add_assoc _ _ _))⟩)) | (go_at_call 16; (with_reducible refine (name_May.calls k2 _ _ x10_2 true _ ?side1 ?side2 A41.out).mono ?_); (case side1 => repeat (first | exact (Kd.R_reads' HO_10.out).2.2 | (with_reducible refine Kd.C_alloc ?_ _) | (with_reducible refine Kd.C_drewN ?_ _) | (with_reducible refine Kd.C_drew ?_))); (case side2 => exact (Kd.R_reads' HO_10.out).2.1); rintro e w51 ⟨rfl, hb⟩; have n0_ := Aside0.mk (Kd.R_below (by (with_reducible repeat (first | apply Kd.R_alloc | apply Kd.R_drewN | apply Kd.R_drew)); exact HO_10.out) hb); have n1_ := Aside0.mk (Kd.R_below (by (with_reducible repeat (first | apply Kd.R_alloc | apply Kd.R_drewN | apply Kd.R_drew)); exact HO_11.out) hb); have n2_ := Aside0.mk (Kd.R_below (by (with_reducible repeat (first | apply Kd.R_alloc | apply Kd.R_drewN | apply Kd.R_drew)); exact HO201.out) hb); have n3_ := Aside0.mk (below_step (by repeat (first | (with_reducible first | exact HB.out | apply wA | apply wN | apply wD) | exact HB.out)) hb); clear HO_10; clear HO_11; clear HO201; clear HB; have HO_10 := n0_; have HO_11 := n1_; have HO201 := n2_; have HB := n3_; clear n0_ n1_ n2_ n3_; (try clear hb); (try clear hb2); (try clear hk); (try clear hi)) | (go_at_call 17; (with_reducible refine (name_Find.calls _ _ x10_2 (⟨#[122, 122, 122]⟩ : ByteArray) t205 _ ?side1 ?side2 A45.out).mono ?_); (case side1 => repeat (first | exact (Kd.R_reads' HO_10.out).2.2 | (with_reducible refine Kd.C_alloc ?_ _) | (with_reducible refine Kd.C_drewN ?_ _) | (with_reducible refine Kd.C_drew ?_))); (case side2 => exact (Kd.R_reads' HO_10.out).2.1); rintro e w52 ⟨rfl, hb⟩; have n0_ := Aside0.mk (Kd.R_below (by (with_reducible repeat (first | apply Kd.R_alloc | apply Kd.R_drewN | apply Kd.R_drew)); exact HO_10.out) hb); have n1_ := Aside0.mk (Kd.R_below (by (with_reducible repeat (first | apply Kd.R_alloc | apply Kd.R_drewN | apply Kd.R_drew)); exact HO_11.out) hb); have n2_ := Aside0.mk (Kd.R_below (by (with_reducible repeat (first | apply Kd.R_alloc | apply Kd.R_drewN | apply Kd.R_drew)); exact HO201.out) hb); have n3_ := Aside0.mk (below_step (by repeat (first | (with_reducible first | exact HB.out | apply wA | apply wN | apply wD) | exact HB.out)) hb); clear HO_10; clear HO_11; clear HO201; clear HB; have HO_10 := n0_; have HO_11 := n1_; have HO201 := n2_; have HB := n3_; clear n0_ n1_ n2_ n3_; (try clear hb); (try clear hb2); (try clear hk); (try clear hi)) | (go_at_call 12; (with_reducible refine (potsherdlaw13_awake.calls k2  t206 _ A47.out).mono ?_); rintro e w53 ⟨rfl, hb⟩; have n0_ := Aside0.mk (Kd.R_below (by (with_reducible repeat (first | apply Kd.R_alloc | apply Kd.R_drewN | apply Kd.R_drew)); exact HO_10.out) hb); have n1_ := Aside0.mk (Kd.R_below (by (with_reducible repeat (first | apply Kd.R_alloc | apply Kd.R_drewN | apply Kd.R_drew)); exact HO_11.out) hb); have n2_ := Aside0.mk (Kd.R_below (by (with_reducible repeat (first | apply Kd.R_alloc | apply Kd.R_drewN | apply Kd.R_drew)); exact HO201.out) hb); have n3_ := Aside0.mk (below_step (by repeat (first | (with_reducible first | exact HB.out | apply wA | apply wN | apply wD) | exact HB.out)) hb); clear HO_10; clear HO_11; clear HO201; clear HB; have HO_10 := n0_; have HO_11 := n1_; have HO201 := n2_; have HB := n3_; clear n0_ n1_ n2_ n3_; (try clear hb); (try clear hb2); (try clear hk); (try clear hi))); try go_wp2_with (first | (go_at_call 14; (with_reducible refine (name_With.calls k2 (fun k_ => some k_ = (.slice Ao48 x10_2.length co48 : Value).ownBlock) _ _ x10_2 (⟨#[122, 122, 122]⟩ : ByteArray) 1 t199 t202 _ ?side1 A38.out).mono ?_); (case side1 => exact Kd.R_V (Kd.R_tight rfl (HO_10.out))); rintro e w49 ⟨v200, rfl, ho0, hb⟩; have n0_ := Aside0.mk (Kd.R_elder' (by (with_reducible repeat (first | apply Kd.R_alloc | apply Kd.R_drewN | apply Kd.R_drew)); exact HO_10.out) (Kd.R_base ho0) hb); have n1_ := Aside0.mk (Kd.R_elder' (by (with_reducible repeat (first | apply Kd.R_alloc | apply Kd.R_drewN | apply Kd.R_drew)); exact HO_11.out) (Kd.R_base ho0) hb); have n2_ := Aside0.mk (Kd.R_lower (Kd.R_new' (Kd.R_new' (Kd.R_mono (ok' := fun k_ => True) ho0 (fun _ hk_ => trivial)) (Kd.R_lt (by (with_reducible repeat (first | apply Kd.R_alloc | apply Kd.R_drewN | apply Kd.R_drew)); exact HO_10.out))) (Kd.R_lt (by (with_reducible repeat (first | apply Kd.R_alloc | apply Kd.R_drewN | apply Kd.R_drew)); exact HO_11.out))) (below_size (by repeat (first | (with_reducible first | exact HB.out | apply wA | apply wN | apply wD) | exact HB.out)))); have n3_ := Aside0.mk (below_step (by repeat (first | (with_reducible first | exact HB.out | apply wA | apply wN | apply wD) | exact HB.out)) hb); clear HO_10; clear HO_11; clear HB; have HO_10 := n0_; have HO_11 := n1_; have HO201 := n2_; have HB := n3_; clear n0_ n1_ n2_ n3_; (try clear hb); (try clear hb2); (try clear hk); (try clear hi); (try clear ho0); obtain ⟨Ao50, co50, eo50⟩ := Kd.R_slice HO_11.out; subst eo50) | (go_at_call 15; (with_reducible refine (potsherdref12_SameEntries.calls k2 _ _ x10_2 _ _ x11_2 true _ ?side1 ?side2 ?side3 ?side4 A39.out).mono ?_); (case side1 => repeat (first | exact (Kd.R_reads' HO_10.out).2.2 | (with_reducible refine Kd.C_alloc ?_ _) | (with_reducible refine Kd.C_drewN ?_ _) | (with_reducible refine Kd.C_drew ?_))); (case side2 => exact (Kd.R_reads' HO_10.out).2.1); (case side3 => repeat (first | exact (Kd.R_reads' HO_11.out).2.2 | (with_reducible refine Kd.C_alloc ?_ _) | (with_reducible refine Kd.C_drewN ?_ _) | (with_reducible refine Kd.C_drew ?_))); (case side4 => exact (Kd.R_reads' HO_11.out).2.1); rintro e w' ⟨rfl, ⟨nd, rfl⟩⟩; (try first | exact ⟨rfl, _, World.drewN_drewN _ _ _⟩ | exact ⟨rfl, _, Eq.trans (World.drewN_drewN _ _ _) (congrArg (World.drewN _) (Nat.add_assoc _ _ _))⟩)) | (go_at_call 16; (with_reducible refine (name_May.calls k2 _ _ x10_2 true _ ?side1 ?side2 A41.out).mono ?_); (case side1 => repeat (first | exact (Kd.R_reads' HO_10.out).2.2 | (with_reducible refine Kd.C_alloc ?_ _) | (with_reducible refine Kd.C_drewN ?_ _) | (with_reducible refine Kd.C_drew ?_))); (case side2 => exact (Kd.R_reads' HO_10.out).2.1); rintro e w51 ⟨rfl, hb⟩; have n0_ := Aside0.mk (Kd.R_below (by (with_reducible repeat (first | apply Kd.R_alloc | apply Kd.R_drewN | apply Kd.R_drew)); exact HO_10.out) hb); have n1_ := Aside0.mk (Kd.R_below (by (with_reducible repeat (first | apply Kd.R_alloc | apply Kd.R_drewN | apply Kd.R_drew)); exact HO_11.out) hb); have n2_ := Aside0.mk (Kd.R_below (by (with_reducible repeat (first | apply Kd.R_alloc | apply Kd.R_drewN | apply Kd.R_drew)); exact HO201.out) hb); have n3_ := Aside0.mk (below_step (by repeat (first | (with_reducible first | exact HB.out | apply wA | apply wN | apply wD) | exact HB.out)) hb); clear HO_10; clear HO_11; clear HO201; clear HB; have HO_10 := n0_; have HO_11 := n1_; have HO201 := n2_; have HB := n3_; clear n0_ n1_ n2_ n3_; (try clear hb); (try clear hb2); (try clear hk); (try clear hi)) | (go_at_call 17; (with_reducible refine (name_Find.calls _ _ x10_2 (⟨#[122, 122, 122]⟩ : ByteArray) t205 _ ?side1 ?side2 A45.out).mono ?_); (case side1 => repeat (first | exact (Kd.R_reads' HO_10.out).2.2 | (with_reducible refine Kd.C_alloc ?_ _) | (with_reducible refine Kd.C_drewN ?_ _) | (with_reducible refine Kd.C_drew ?_))); (case side2 => exact (Kd.R_reads' HO_10.out).2.1); rintro e w52 ⟨rfl, hb⟩; have n0_ := Aside0.mk (Kd.R_below (by (with_reducible repeat (first | apply Kd.R_alloc | apply Kd.R_drewN | apply Kd.R_drew)); exact HO_10.out) hb); have n1_ := Aside0.mk (Kd.R_below (by (with_reducible repeat (first | apply Kd.R_alloc | apply Kd.R_drewN | apply Kd.R_drew)); exact HO_11.out) hb); have n2_ := Aside0.mk (Kd.R_below (by (with_reducible repeat (first | apply Kd.R_alloc | apply Kd.R_drewN | apply Kd.R_drew)); exact HO201.out) hb); have n3_ := Aside0.mk (below_step (by repeat (first | (with_reducible first | exact HB.out | apply wA | apply wN | apply wD) | exact HB.out)) hb); clear HO_10; clear HO_11; clear HO201; clear HB; have HO_10 := n0_; have HO_11 := n1_; have HO201 := n2_; have HB := n3_; clear n0_ n1_ n2_ n3_; (try clear hb); (try clear hb2); (try clear hk); (try clear hi)) | (go_at_call 12; (with_reducible refine (potsherdlaw13_awake.calls k2  t206 _ A47.out).mono ?_); rintro e w53 ⟨rfl, hb⟩; have n0_ := Aside0.mk (Kd.R_below (by (with_reducible repeat (first | apply Kd.R_alloc | apply Kd.R_drewN | apply Kd.R_drew)); exact HO_10.out) hb); have n1_ := Aside0.mk (Kd.R_below (by (with_reducible repeat (first | apply Kd.R_alloc | apply Kd.R_drewN | apply Kd.R_drew)); exact HO_11.out) hb); have n2_ := Aside0.mk (Kd.R_below (by (with_reducible repeat (first | apply Kd.R_alloc | apply Kd.R_drewN | apply Kd.R_drew)); exact HO201.out) hb); have n3_ := Aside0.mk (below_step (by repeat (first | (with_reducible first | exact HB.out | apply wA | apply wN | apply wD) | exact HB.out)) hb); clear HO_10; clear HO_11; clear HO201; clear HB; have HO_10 := n0_; have HO_11 := n1_; have HO201 := n2_; have HB := n3_; clear n0_ n1_ n2_ n3_; (try clear hb); (try clear hb2); (try clear hk); (try clear hi))))
              go_ret
              exact ⟨by first | rfl | exact congrArg (fun b_ => Ending.returned (Value.bool b_)) HRET.out | (rw [HRET.out]) | (simp [errW_none, errW_some] <;> rfl) | (simp [*, errW_none, errW_some] <;> rfl), by repeat (first | (with_reducible first | exact HB.out | apply wA | apply wN | apply wD) | exact HB.out)⟩
             ·
              rw [if_neg c46] at H
              have c46b0 : ((t202 == 14) == (decide (t205 < 0))) = false := by simpa using c46
              (try (have c46b1 : decide ((t202 == 14) = (decide (t205 < 0))) = false := by simpa using c46))
              (try (have c46b2 : ((t202 == 14) == (decide (t205 < 0))) = false := by simpa using c46))
              (try (have c46b3 : ¬ ((t202 == 14) = (decide (t205 < 0))) := by simpa using c46))
              clear c46; exact absurd H (by simp)
            ·
             rw [if_neg c44] at H; have c44b0 : ((l0.length : Int) == 10) = false := beq_eq_false_iff_ne.mpr c44; have c44b1 : ((l0.length : Int) != 10) = true := bne_iff_ne.mpr c44
             by_cases c54 : ((t202 == 14) == false) = true
             ·
              rw [if_pos c54] at H; have c54b0 : ((t202 == 14) == false) = true := c54
              (try (have c54b1 : decide ((t202 == 14) = false) = true := by simpa using c54))
              (try (have c54b2 : ((t202 == 14) == false) = true := by simpa using c54))
              clear c54; replace H := Option.bind_eq_some_iff.mp H; obtain ⟨t207, A550, H⟩ := H; replace H : (some t207) = some true := H; have A55 := Aside0.mk A550; clear A550; have HRET := Aside0.mk (Option.some.inj H); clear H; obtain ⟨Ao56, co56, eo56⟩ := Kd.R_slice HO_10.out; subst eo56
              go_wp2_with (first | (go_at_call 14; (with_reducible refine (name_With.calls k2 (fun k_ => some k_ = (.slice Ao56 x10_2.length co56 : Value).ownBlock) _ _ x10_2 (⟨#[122, 122, 122]⟩ : ByteArray) 1 t199 t202 _ ?side1 A38.out).mono ?_); (case side1 => exact Kd.R_V (Kd.R_tight rfl (HO_10.out))); rintro e w57 ⟨v200, rfl, ho0, hb⟩; have n0_ := Aside0.mk (Kd.R_elder' (by (with_reducible repeat (first | apply Kd.R_alloc | apply Kd.R_drewN | apply Kd.R_drew)); exact HO_10.out) (Kd.R_base ho0) hb); have n1_ := Aside0.mk (Kd.R_elder' (by (with_reducible repeat (first | apply Kd.R_alloc | apply Kd.R_drewN | apply Kd.R_drew)); exact HO_11.out) (Kd.R_base ho0) hb); have n2_ := Aside0.mk (Kd.R_lower (Kd.R_new' (Kd.R_new' (Kd.R_mono (ok' := fun k_ => True) ho0 (fun _ hk_ => trivial)) (Kd.R_lt (by (with_reducible repeat (first | apply Kd.R_alloc | apply Kd.R_drewN | apply Kd.R_drew)); exact HO_10.out))) (Kd.R_lt (by (with_reducible repeat (first | apply Kd.R_alloc | apply Kd.R_drewN | apply Kd.R_drew)); exact HO_11.out))) (below_size (by repeat (first | (with_reducible first | exact HB.out | apply wA | apply wN | apply wD) | exact HB.out)))); have n3_ := Aside0.mk (below_step (by repeat (first | (with_reducible first | exact HB.out | apply wA | apply wN | apply wD) | exact HB.out)) hb); clear HO_10; clear HO_11; clear HB; have HO_10 := n0_; have HO_11 := n1_; have HO201 := n2_; have HB := n3_; clear n0_ n1_ n2_ n3_; (try clear hb); (try clear hb2); (try clear hk); (try clear hi); (try clear ho0); obtain ⟨Ao58, co58, eo58⟩ := Kd.R_slice HO_11.out; subst eo58) | (go_at_call 15; (with_reducible refine (potsherdref12_SameEntries.calls k2 _ _ x10_2 _ _ x11_2 true _ ?side1 ?side2 ?side3 ?side4 A39.out).mono ?_); (case side1 => repeat (first | exact (Kd.R_reads' HO_10.out).2.2 | (with_reducible refine Kd.C_alloc ?_ _) | (with_reducible refine Kd.C_drewN ?_ _) | (with_reducible refine Kd.C_drew ?_))); (case side2 => exact (Kd.R_reads' HO_10.out).2.1); (case side3 => repeat (first | exact (Kd.R_reads' HO_11.out).2.2 | (with_reducible refine Kd.C_alloc ?_ _) | (with_reducible refine Kd.C_drewN ?_ _) | (with_reducible refine Kd.C_drew ?_))); (case side4 => exact (Kd.R_reads' HO_11.out).2.1); rintro e w' ⟨rfl, ⟨nd, rfl⟩⟩; (try first | exact ⟨rfl, _, World.drewN_drewN _ _ _⟩ | exact ⟨rfl, _, Eq.trans (World.drewN_drewN _ _ _) (congrArg (World.drewN _) (Nat.add_assoc _ _ _))⟩)) | (go_at_call 16; (with_reducible refine (name_May.calls k2 _ _ x10_2 true _ ?side1 ?side2 A41.out).mono ?_); (case side1 => repeat (first | exact (Kd.R_reads' HO_10.out).2.2 | (with_reducible refine Kd.C_alloc ?_ _) | (with_reducible refine Kd.C_drewN ?_ _) | (with_reducible refine Kd.C_drew ?_))); (case side2 => exact (Kd.R_reads' HO_10.out).2.1); rintro e w59 ⟨rfl, hb⟩; have n0_ := Aside0.mk (Kd.R_below (by (with_reducible repeat (first | apply Kd.R_alloc | apply Kd.R_drewN | apply Kd.R_drew)); exact HO_10.out) hb); have n1_ := Aside0.mk (Kd.R_below (by (with_reducible repeat (first | apply Kd.R_alloc | apply Kd.R_drewN | apply Kd.R_drew)); exact HO_11.out) hb); have n2_ := Aside0.mk (Kd.R_below (by (with_reducible repeat (first | apply Kd.R_alloc | apply Kd.R_drewN | apply Kd.R_drew)); exact HO201.out) hb); have n3_ := Aside0.mk (below_step (by repeat (first | (with_reducible first | exact HB.out | apply wA | apply wN | apply wD) | exact HB.out)) hb); clear HO_10; clear HO_11; clear HO201; clear HB; have HO_10 := n0_; have HO_11 := n1_; have HO201 := n2_; have HB := n3_; clear n0_ n1_ n2_ n3_; (try clear hb); (try clear hb2); (try clear hk); (try clear hi)) | (go_at_call 12; (with_reducible refine (potsherdlaw13_awake.calls k2  t207 _ A55.out).mono ?_); rintro e w60 ⟨rfl, hb⟩; have n0_ := Aside0.mk (Kd.R_below (by (with_reducible repeat (first | apply Kd.R_alloc | apply Kd.R_drewN | apply Kd.R_drew)); exact HO_10.out) hb); have n1_ := Aside0.mk (Kd.R_below (by (with_reducible repeat (first | apply Kd.R_alloc | apply Kd.R_drewN | apply Kd.R_drew)); exact HO_11.out) hb); have n2_ := Aside0.mk (Kd.R_below (by (with_reducible repeat (first | apply Kd.R_alloc | apply Kd.R_drewN | apply Kd.R_drew)); exact HO201.out) hb); have n3_ := Aside0.mk (below_step (by repeat (first | (with_reducible first | exact HB.out | apply wA | apply wN | apply wD) | exact HB.out)) hb); clear HO_10; clear HO_11; clear HO201; clear HB; have HO_10 := n0_; have HO_11 := n1_; have HO201 := n2_; have HB := n3_; clear n0_ n1_ n2_ n3_; (try clear hb); (try clear hb2); (try clear hk); (try clear hi)))
              repeat (go_quiet (first | (go_at_call 14; (with_reducible refine (name_With.calls k2 (fun k_ => some k_ = (.slice Ao56 x10_2.length co56 : Value).ownBlock) _ _ x10_2 (⟨#[122, 122, 122]⟩ : ByteArray) 1 t199 t202 _ ?side1 A38.out).mono ?_); (case side1 => exact Kd.R_V (Kd.R_tight rfl (HO_10.out))); rintro e w57 ⟨v200, rfl, ho0, hb⟩; have n0_ := Aside0.mk (Kd.R_elder' (by (with_reducible repeat (first | apply Kd.R_alloc | apply Kd.R_drewN | apply Kd.R_drew)); exact HO_10.out) (Kd.R_base ho0) hb); have n1_ := Aside0.mk (Kd.R_elder' (by (with_reducible repeat (first | apply Kd.R_alloc | apply Kd.R_drewN | apply Kd.R_drew)); exact HO_11.out) (Kd.R_base ho0) hb); have n2_ := Aside0.mk (Kd.R_lower (Kd.R_new' (Kd.R_new' (Kd.R_mono (ok' := fun k_ => True) ho0 (fun _ hk_ => trivial)) (Kd.R_lt (by (with_reducible repeat (first | apply Kd.R_alloc | apply Kd.R_drewN | apply Kd.R_drew)); exact HO_10.out))) (Kd.R_lt (by (with_reducible repeat (first | apply Kd.R_alloc | apply Kd.R_drewN | apply Kd.R_drew)); exact HO_11.out))) (below_size (by repeat (first | (with_reducible first | exact HB.out | apply wA | apply wN | apply wD) | exact HB.out)))); have n3_ := Aside0.mk (below_step (by repeat (first | (with_reducible first | exact HB.out | apply wA | apply wN | apply wD) | exact HB.out)) hb); clear HO_10; clear HO_11; clear HB; have HO_10 := n0_; have HO_11 := n1_; have HO201 := n2_; have HB := n3_; clear n0_ n1_ n2_ n3_; (try clear hb); (try clear hb2); (try clear hk); (try clear hi); (try clear ho0); obtain ⟨Ao58, co58, eo58⟩ := Kd.R_slice HO_11.out; subst eo58) | (go_at_call 15; (with_reducible refine (potsherdref12_SameEntries.calls k2 _ _ x10_2 _ _ x11_2 true _ ?side1 ?side2 ?side3 ?side4 A39.out).mono ?_); (case side1 => repeat (first | exact (Kd.R_reads' HO_10.out).2.2 | (with_reducible refine Kd.C_alloc ?_ _) | (with_reducible refine Kd.C_drewN ?_ _) | (with_reducible refine Kd.C_drew ?_))); (case side2 => exact (Kd.R_reads' HO_10.out).2.1); (case side3 => repeat (first | exact (Kd.R_reads' HO_11.out).2.2 | (with_reducible refine Kd.C_alloc ?_ _) | (with_reducible refine Kd.C_drewN ?_ _) | (with_reducible refine Kd.C_drew ?_))); (case side4 => exact (Kd.R_reads' HO_11.out).2.1); rintro e w' ⟨rfl, ⟨nd, rfl⟩⟩; (try first | exact ⟨rfl, _, World.drewN_drewN _ _ _⟩ | exact ⟨rfl, _, Eq.trans (World.drewN_drewN _ _ _) (congrArg (World.drewN _) (Nat.add_assoc _ _ _))⟩)) | (go_at_call 16; (with_reducible refine (name_May.calls k2 _ _ x10_2 true _ ?side1 ?side2 A41.out).mono ?_); (case side1 => repeat (first | exact (Kd.R_reads' HO_10.out).2.2 | (with_reducible refine Kd.C_alloc ?_ _) | (with_reducible refine Kd.C_drewN ?_ _) | (with_reducible refine Kd.C_drew ?_))); (case side2 => exact (Kd.R_reads' HO_10.out).2.1); rintro e w59 ⟨rfl, hb⟩; have n0_ := Aside0.mk (Kd.R_below (by (with_reducible repeat (first | apply Kd.R_alloc | apply Kd.R_drewN | apply Kd.R_drew)); exact HO_10.out) hb); have n1_ := Aside0.mk (Kd.R_below (by (with_reducible repeat (first | apply Kd.R_alloc | apply Kd.R_drewN | apply Kd.R_drew)); exact HO_11.out) hb); have n2_ := Aside0.mk (Kd.R_below (by (with_reducible repeat (first | apply Kd.R_alloc | apply Kd.R_drewN | apply Kd.R_drew)); exact HO201.out) hb); have n3_ := Aside0.mk (below_step (by repeat (first | (with_reducible first | exact HB.out | apply wA | apply wN | apply wD) | exact HB.out)) hb); clear HO_10; clear HO_11; clear HO201; clear HB; have HO_10 := n0_; have HO_11 := n1_; have HO201 := n2_; have HB := n3_; clear n0_ n1_ n2_ n3_; (try clear hb); (try clear hb2); (try clear hk); (try clear hi)) | (go_at_call 12; (with_reducible refine (potsherdlaw13_awake.calls k2  t207 _ A55.out).mono ?_); rintro e w60 ⟨rfl, hb⟩; have n0_ := Aside0.mk (Kd.R_below (by (with_reducible repeat (first | apply Kd.R_alloc | apply Kd.R_drewN | apply Kd.R_drew)); exact HO_10.out) hb); have n1_ := Aside0.mk (Kd.R_below (by (with_reducible repeat (first | apply Kd.R_alloc | apply Kd.R_drewN | apply Kd.R_drew)); exact HO_11.out) hb); have n2_ := Aside0.mk (Kd.R_below (by (with_reducible repeat (first | apply Kd.R_alloc | apply Kd.R_drewN | apply Kd.R_drew)); exact HO201.out) hb); have n3_ := Aside0.mk (below_step (by repeat (first | (with_reducible first | exact HB.out | apply wA | apply wN | apply wD) | exact HB.out)) hb); clear HO_10; clear HO_11; clear HO201; clear HB; have HO_10 := n0_; have HO_11 := n1_; have HO201 := n2_; have HB := n3_; clear n0_ n1_ n2_ n3_; (try clear hb); (try clear hb2); (try clear hk); (try clear hi))); try go_wp2_with (first | (go_at_call 14; (with_reducible refine (name_With.calls k2 (fun k_ => some k_ = (.slice Ao56 x10_2.length co56 : Value).ownBlock) _ _ x10_2 (⟨#[122, 122, 122]⟩ : ByteArray) 1 t199 t202 _ ?side1 A38.out).mono ?_); (case side1 => exact Kd.R_V (Kd.R_tight rfl (HO_10.out))); rintro e w57 ⟨v200, rfl, ho0, hb⟩; have n0_ := Aside0.mk (Kd.R_elder' (by (with_reducible repeat (first | apply Kd.R_alloc | apply Kd.R_drewN | apply Kd.R_drew)); exact HO_10.out) (Kd.R_base ho0) hb); have n1_ := Aside0.mk (Kd.R_elder' (by (with_reducible repeat (first | apply Kd.R_alloc | apply Kd.R_drewN | apply Kd.R_drew)); exact HO_11.out) (Kd.R_base ho0) hb); have n2_ := Aside0.mk (Kd.R_lower (Kd.R_new' (Kd.R_new' (Kd.R_mono (ok' := fun k_ => True) ho0 (fun _ hk_ => trivial)) (Kd.R_lt (by (with_reducible repeat (first | apply Kd.R_alloc | apply Kd.R_drewN | apply Kd.R_drew)); exact HO_10.out))) (Kd.R_lt (by (with_reducible repeat (first | apply Kd.R_alloc | apply Kd.R_drewN | apply Kd.R_drew)); exact HO_11.out))) (below_size (by repeat (first | (with_reducible first | exact HB.out | apply wA | apply wN | apply wD) | exact HB.out)))); have n3_ := Aside0.mk (below_step (by repeat (first | (with_reducible first | exact HB.out | apply wA | apply wN | apply wD) | exact HB.out)) hb); clear HO_10; clear HO_11; clear HB; have HO_10 := n0_; have HO_11 := n1_; have HO201 := n2_; have HB := n3_; clear n0_ n1_ n2_ n3_; (try clear hb); (try clear hb2); (try clear hk); (try clear hi); (try clear ho0); obtain ⟨Ao58, co58, eo58⟩ := Kd.R_slice HO_11.out; subst eo58) | (go_at_call 15; (with_reducible refine (potsherdref12_SameEntries.calls k2 _ _ x10_2 _ _ x11_2 true _ ?side1 ?side2 ?side3 ?side4 A39.out).mono ?_); (case side1 => repeat (first | exact (Kd.R_reads' HO_10.out).2.2 | (with_reducible refine Kd.C_alloc ?_ _) | (with_reducible refine Kd.C_drewN ?_ _) | (with_reducible refine Kd.C_drew ?_))); (case side2 => exact (Kd.R_reads' HO_10.out).2.1); (case side3 => repeat (first | exact (Kd.R_reads' HO_11.out).2.2 | (with_reducible refine Kd.C_alloc ?_ _) | (with_reducible refine Kd.C_drewN ?_ _) | (with_reducible refine Kd.C_drew ?_))); (case side4 => exact (Kd.R_reads' HO_11.out).2.1); rintro e w' ⟨rfl, ⟨nd, rfl⟩⟩; (try first | exact ⟨rfl, _, World.drewN_drewN _ _ _⟩ | exact ⟨rfl, _, Eq.trans (World.drewN_drewN _ _ _) (congrArg (World.drewN _) (Nat.add_assoc _ _ _))⟩)) | (go_at_call 16; (with_reducible refine (name_May.calls k2 _ _ x10_2 true _ ?side1 ?side2 A41.out).mono ?_); (case side1 => repeat (first | exact (Kd.R_reads' HO_10.out).2.2 | (with_reducible refine Kd.C_alloc ?_ _) | (with_reducible refine Kd.C_drewN ?_ _) | (with_reducible refine Kd.C_drew ?_))); (case side2 => exact (Kd.R_reads' HO_10.out).2.1); rintro e w59 ⟨rfl, hb⟩; have n0_ := Aside0.mk (Kd.R_below (by (with_reducible repeat (first | apply Kd.R_alloc | apply Kd.R_drewN | apply Kd.R_drew)); exact HO_10.out) hb); have n1_ := Aside0.mk (Kd.R_below (by (with_reducible repeat (first | apply Kd.R_alloc | apply Kd.R_drewN | apply Kd.R_drew)); exact HO_11.out) hb); have n2_ := Aside0.mk (Kd.R_below (by (with_reducible repeat (first | apply Kd.R_alloc | apply Kd.R_drewN | apply Kd.R_drew)); exact HO201.out) hb); have n3_ := Aside0.mk (below_step (by repeat (first | (with_reducible first | exact HB.out | apply wA | apply wN | apply wD) | exact HB.out)) hb); clear HO_10; clear HO_11; clear HO201; clear HB; have HO_10 := n0_; have HO_11 := n1_; have HO201 := n2_; have HB := n3_; clear n0_ n1_ n2_ n3_; (try clear hb); (try clear hb2); (try clear hk); (try clear hi)) | (go_at_call 12; (with_reducible refine (potsherdlaw13_awake.calls k2  t207 _ A55.out).mono ?_); rintro e w60 ⟨rfl, hb⟩; have n0_ := Aside0.mk (Kd.R_below (by (with_reducible repeat (first | apply Kd.R_alloc | apply Kd.R_drewN | apply Kd.R_drew)); exact HO_10.out) hb); have n1_ := Aside0.mk (Kd.R_below (by (with_reducible repeat (first | apply Kd.R_alloc | apply Kd.R_drewN | apply Kd.R_drew)); exact HO_11.out) hb); have n2_ := Aside0.mk (Kd.R_below (by (with_reducible repeat (first | apply Kd.R_alloc | apply Kd.R_drewN | apply Kd.R_drew)); exact HO201.out) hb); have n3_ := Aside0.mk (below_step (by repeat (first | (with_reducible first | exact HB.out | apply wA | apply wN | apply wD) | exact HB.out)) hb); clear HO_10; clear HO_11; clear HO201; clear HB; have HO_10 := n0_; have HO_11 := n1_; have HO201 := n2_; have HB := n3_; clear n0_ n1_ n2_ n3_; (try clear hb); (try clear hb2); (try clear hk); (try clear hi))))
              go_ret
              exact ⟨by first | rfl | exact congrArg (fun b_ => Ending.returned (Value.bool b_)) HRET.out | (rw [HRET.out]) | (simp [errW_none, errW_some] <;> rfl) | (simp [*, errW_none, errW_some] <;> rfl), by repeat (first | (with_reducible first | exact HB.out | apply wA | apply wN | apply wD) | exact HB.out)⟩
             ·
              rw [if_neg c54] at H
              have c54b0 : ((t202 == 14) == false) = false := by simpa using c54
              (try (have c54b1 : decide ((t202 == 14) = false) = false := by simpa using c54))
              (try (have c54b2 : ((t202 == 14) == false) = false := by simpa using c54))
              (try (have c54b3 : ¬ ((t202 == 14) = false) := by simpa using c54))
              clear c54; exact absurd H (by simp)
           ·
            rw [if_neg c43] at H; have c43b0 : ((x10_2.length : Int) == (l0.length : Int)) = false := beq_eq_false_iff_ne.mpr c43; have c43b1 : ((x10_2.length : Int) != (l0.length : Int)) = true := bne_iff_ne.mpr c43
            have c43b2 : (x10_2.length == l0.length) = false := by first | simpa using c43 | (simp at c43 ⊢; omega)
            exact absurd H (by simp)
          ·
           replace c42 := Bool.eq_false_iff.mpr c42; subst c42
           have H1 : (some false) = some true := by rw [if_neg (show ¬ (false = true) by decide)] at H; exact H
           clear H; have H := H1; clear H1; exact absurd H (by simp)
         ·
          replace c40 := Bool.eq_false_iff.mpr c40; subst c40
          have H1 : (some false) = some true := by rw [if_neg (show ¬ (false = true) by decide)] at H; exact H
          clear H; have H := H1; clear H1; exact absurd H (by simp)

end Go.Proofs.Ytbaiicnibiogpaa.PName
