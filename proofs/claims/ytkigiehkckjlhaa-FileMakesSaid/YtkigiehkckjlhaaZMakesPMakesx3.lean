/- The Go functions that these laws reach, each as a Lean function with the same answers (a law itself where it answers true), and the proof that the code comes to them; conditions: those of each theorem. Laid by a program of this session over the print. -/
import Derived.Test.YtkigiehkckjlhaaZMakesPMakesx0
import Derived.Test.YtkigiehkckjlhaaZMakesPMakesx1
import Derived.Test.YtkigiehkckjlhaaZMakesPMakesx2
namespace Go.Proofs.Ytkigiehkckjlhaa.PMakes
open Go.RowKit Go.Proofs.YtkigiehkckjlhaaW.PrintWords Go.Proofs.YtkigiehkckjlhaaW.PrintLast Go.Proofs.YtkigiehkckjlhaaW.PrintMore
attribute [local go_sem] max2_int min2_int max_two min_two max_three min_three max_four min_four   -- for this text's walks alone
set_option linter.unusedVariables false
set_option linter.unusedSimpArgs false
open Go.Proofs.YtkigiehkckjlhaaW.PrintWords renaming blk_drewN → bN, blk_drew → bD, blk_alloc → bA, below_set → wS, below_alloc → wA, pw_below_drewN → wN, below_drew1 → wD, blk_below → bB, blk_far → bF, blk_cell → bC, blk_frozen → bZ
open List renaming setIfInBounds_toArray → lT, set_cons_zero → l0_, set_cons_succ → lS
/-- The first node that may not be, counted from i; -1 where there is none. -/
def badAt (k : Nat) : List S28 → Int → Option Int
 | [], _ => some (-1)
 | x :: r, i => (node_May.f k x.f0 x.f1 x.f2 x.f3 x.f4).bind fun b => if b = true then badAt k r (i + 1) else some i
theorem badAt_mono (k : Nat) : ∀ (l : List S28) (i : Int), LeO (badAt k l i) (badAt (k + 1) l i)
 | [], _ => LeO.refl _
 | x :: r, i => LeO.bind (node_May.mono _ _ _ _ _ _) (fun b => LeO.ite (badAt_mono k r (i + 1)) (LeO.refl _))
set_option maxHeartbeats 4000000 in
theorem bad_clo (k : Nat) (a0 a1 a2 : Int) (A3 : Option Addr) (c3 : Nat) (l3 : List Int) (A4 : Option Addr) (c4 : Nat) (l4 : List S78) (b : Bool) (w : World)
 (hr3 : Kd.C (Kd.int .i64) w A3 l3.length l3) (hc3 : l3.length ≤ c3) (hr4 : Kd.C k78 w A4 l4.length l4) (hc4 : l4.length ≤ c4) (h : node_May.f k a0 a1 a2 l3 l4 = some b) :
 Calls Try.prog 65 #[.agg #[.int .i64 a0, .int .i64 a1, .int .i64 a2, .slice A3 l3.length c3, .slice A4 l4.length c4]] w fun e w' => e = .returned (.bool (!b)) ∧ Below w.heap.size w w' := by
 have hu28 := Try.underlying28; have HR3 := Aside0.mk hr3; have HC3 := Aside0.mk hc3; clear hr3 hc3; have HR4 := Aside0.mk hr4; have HC4 := Aside0.mk hc4; clear hr4 hc4; have HB := Aside0.mk (Below.refl w.heap.size w); have HH := Aside0.mk h; clear h
 go_enter Try.func65, Try.ntmps65
 go_wp2_with (first | ((with_reducible refine gate_dst (N := 1) rfl ?_); refine box_event ?hg (N := 1) ?hd (cs := #[.int .i64 a0, .int .i64 a1, .int .i64 a2, .slice A3 l3.length c3, .slice A4 l4.length c4]) (t := 28) ?hr ?_; (case hd => rfl); (case hg => rfl); (case hr => first | (go_simp; done) | (go_simp; rfl)); intro gb hg w2 hbox hb; have n0_ := Aside0.mk (below_step HB.out hb); clear HB; have HB := n0_; clear n0_; clear hb hg; have hcz0 := (bC hbox 0).trans rfl; have hcz1 := (bC hbox 1).trans rfl; have hcz2 := (bC hbox 2).trans rfl; have hcz3 := (bC hbox 3).trans rfl; have hcz4 := (bC hbox 4).trans rfl) | (go_at_call 48; refine (node_May.calls k a0 a1 a2 _ _ l3 _ _ l4 b _ ?side1 ?side2 ?side3 ?side4 HH.out).mono ?_; (case side1 => exact (Kd.C_below HR3.out HB.out)); (case side2 => exact HC3.out); (case side3 => exact (Kd.C_below HR4.out HB.out)); (case side4 => exact HC4.out); rintro e w' ⟨rfl, hb⟩; have n0_ := Aside0.mk (below_step HB.out hb); clear HB; have HB := n0_; clear n0_ hb))
 all_goals (go_ret; exact ⟨by simp, HB.out⟩)
set_option maxHeartbeats 8000000 in
theorem off_idx (k : Nat) (A : Option Addr) (c : Nat) (l : List S28) (r : Int) (w : World) (hr : Kd.C k28 w A l.length l) (hc : l.length ≤ c) (hL : (l.length : Int) < 9223372036854775807) (hr_ : badAt k l 0 = some r) :
 Calls Try.prog 80 #[.slice A l.length c, .func (.func 65) #[] #[]] w fun e w' => e = .returned (.int .i64 r) ∧ Below w.heap.size w w' := by
 have hu28 := Try.underlying28; have HR0 := Aside0.mk hr; have HB := Aside0.mk (Below.refl w.heap.size w); have HP := Aside0.mk hr_; have LL := Aside0.mk hL; clear hr hc hr_ hL
 go_enter Try.func80, Try.ntmps80
 go_wp2
 go_loopg [5, 8] l.length (fun gk v5 v8 w' => ∃ kk : Nat, kk ≤ l.length ∧ l.length - kk ≤ gk ∧ v8 = .int .i64 kk ∧ Aside0 (badAt k (l.drop kk) kk = some r) ∧ Aside0 (Below w.heap.size w w'))
 case atStart => exact ⟨0, Nat.zero_le _, by omega, rfl, ⟨by simpa using HP.out⟩, HB⟩
 case round =>
  obtain ⟨kk, hkk, hgk, rfl, HQ, HB⟩ := hrel; clear HP
  by_cases hlt : kk < l.length
  ·
   have c3b0 : decide ((kk : Int) < (l.length : Int)) = true := decide_eq_true (by omega)
   have p124 : 0 ≤ (kk : Int) := by omega
   have q124 : (kk : Int) < (l.length : Int) := by omega
   obtain ⟨ad124, A3, c3, A4, c4, e124, hx124_0, hx124_1, hx124_2, hx124_3, hx124_4, hl3, hi3, hl4, hi4⟩ := at_T28 HR0.out kk p124 q124
   cases e124
   replace hx124_0 := (HB.out.cell (World.block_lt_of_cell? w _ hx124_0)).trans hx124_0; replace hx124_1 := (HB.out.cell (World.block_lt_of_cell? w _ hx124_1)).trans hx124_1; replace hx124_2 := (HB.out.cell (World.block_lt_of_cell? w _ hx124_2)).trans hx124_2; replace hx124_3 := (HB.out.cell (World.block_lt_of_cell? w _ hx124_3)).trans hx124_3; replace hx124_4 := (HB.out.cell (World.block_lt_of_cell? w _ hx124_4)).trans hx124_4; simp only [Int.toNat_natCast] at hx124_0 hx124_1 hx124_2 hx124_3 hx124_4; replace p124 := eq_true p124; replace q124 := eq_true q124
   have hd : l.drop kk = rd_T28 l kk :: l.drop (kk + 1) := by
    rw [List.drop_eq_getElem_cons hlt]; unfold rd_T28; rw [Int.toNat_natCast, List.getD_eq_getElem?_getD, List.getElem?_eq_getElem hlt]; rfl
   have hq := HQ.out; rw [hd] at hq; simp only [badAt] at hq; obtain ⟨b, hb0, hq⟩ := Option.bind_eq_some_iff.mp hq; have hW : kk + 1 ≤ l.length := hlt
   have HC0 := fun W hW => bad_clo k (rd_T28 l kk).f0 (rd_T28 l kk).f1 (rd_T28 l kk).f2 A3 c3 (rd_T28 l kk).f3 A4 c4 (rd_T28 l kk).f4 b W (Kd.C_below hi3 hW) hl3 (Kd.C_below hi4 hW) hl4 hb0
   have HC := Aside0.mk HC0; clear hd hi3 hi4 hl3 hl4 hb0 HC0
   cases b with
   | false =>
    rw [if_neg (by decide)] at hq; obtain rfl := Option.some.inj hq; clear hq
    go_wp2_with (go_at_call 65; refine (HC.out _ HB.out).mono ?_; rintro e w' ⟨rfl, hb'⟩)
    go_ret
    exact ⟨rfl, below_step HB.out hb'⟩
   | true =>
    rw [if_pos rfl] at hq; have HQ := Aside0.mk hq; clear hq
    go_wp2_with (go_at_call 65; refine (HC.out _ HB.out).mono ?_; rintro e w' ⟨rfl, hb'⟩)
    go_roundg (l.length - (kk + 1))
    case measure => omega
    case rel =>
     have e_ : wrap64 ((kk : Int) + 1) = ((kk + 1 : Nat) : Int) := by have := LL.out; unfold wrap64; omega
     exact ⟨kk + 1, by omega, by omega, by rw [e_], ⟨by have := HQ.out; push_cast; exact this⟩, ⟨below_step HB.out hb'⟩⟩
  ·
   have : kk = l.length := by omega
   subst this; have hq := HQ.out; rw [List.drop_length] at hq; simp only [badAt] at hq; obtain rfl := Option.some.inj hq
   go_wp2
   go_ret
   exact ⟨rfl, HB.out⟩
set_option maxHeartbeats 4000000 in
theorem off_any (k : Nat) (A : Option Addr) (c : Nat) (l : List S28) (r : Int) (w : World) (hr : Kd.C k28 w A l.length l) (hc : l.length ≤ c) (hL : (l.length : Int) < 9223372036854775807) (hr_ : badAt k l 0 = some r) :
 Calls Try.prog 64 #[.slice A l.length c, .func (.func 65) #[] #[]] w fun e w' => e = .returned (.bool (decide (0 ≤ r))) ∧ Below w.heap.size w w' := by
 have hcon := off_idx k A c l r w hr hc hL hr_; clear hr_ hr hc hL
 go_enter Try.func64, Try.ntmps64
 go_wp2_with (go_at_call 80; refine hcon.mono ?_; rintro e w' ⟨rfl, hb'⟩)
 go_ret
 exact ⟨rfl, hb'⟩
set_option maxHeartbeats 4000000 in
theorem off_walk (k : Nat) (A : Option Addr) (c : Nat) (l : List S28) (r : Bool) (w : World) (hr : Kd.C k28 w A l.length l) (hc : l.length ≤ c) (h : (if l.length = 12 then (badAt k l 0).bind fun i => some (decide (0 ≤ i)) else some true) = some r) :
 Calls Try.prog 45 #[.agg #[.slice A l.length c]] w fun e w' => e = .returned (.bool r) ∧ Below w.heap.size w w' := by
 have hu24 := Try.underlying24; have HB := Aside0.mk (Below.refl w.heap.size w)
 by_cases h4 : l.length = 12
 ·
  rw [if_pos h4] at h; obtain ⟨i, hi, h⟩ := Option.bind_eq_some_iff.mp h; obtain rfl := Option.some.inj h; have hcon := Aside0.mk (fun W (hW : Below w.heap.size w W) => off_any k A c l i W (Kd.C_below hr hW) hc (by omega) hi); have e4 : ((l.length : Int) != 12) = false := bne_eq_false_iff_eq.mpr (by omega); clear h4 hi hr hc
  go_enter Try.func45, Try.ntmps45
  go_wp2_with (first | ((with_reducible refine gate_dst (N := 1) rfl ?_); refine box_event ?hg (N := 1) ?hd (cs := #[.slice A l.length c]) (t := 24) ?hr ?_; (case hd => rfl); (case hg => rfl); (case hr => first | (go_simp; done) | (go_simp; rfl)); intro gb hg w2 hbox hb; have n0_ := Aside0.mk (below_step HB.out hb); clear HB; have HB := n0_; clear n0_; clear hb hg; have hcz0 : w2.cell? ⟨gb, 0, none⟩ = some (.slice A l.length c) := (bC hbox 0).trans rfl) | (go_at_call 64; refine (hcon.out _ HB.out).mono ?_; rintro e w' ⟨rfl, hb'⟩; have n0_ := Aside0.mk (below_step HB.out hb'); clear HB; have HB := n0_; clear n0_ hb'))
  go_ret
  exact ⟨rfl, HB.out⟩
 ·
  rw [if_neg h4] at h; obtain rfl := Option.some.inj h; have e4 : ((l.length : Int) != 12) = true := bne_iff_ne.mpr (by omega); clear hr hc
  go_enter Try.func45, Try.ntmps45
  go_wp2_with (first | ((with_reducible refine gate_dst (N := 1) rfl ?_); refine box_event ?hg (N := 1) ?hd (cs := #[.slice A l.length c]) (t := 24) ?hr ?_; (case hd => rfl); (case hg => rfl); (case hr => first | (go_simp; done) | (go_simp; rfl)); intro gb hg w2 hbox hb; have n0_ := Aside0.mk (below_step HB.out hb); clear HB; have HB := n0_; clear n0_; clear hb hg; have hcz0 : w2.cell? ⟨gb, 0, none⟩ = some (.slice A l.length c) := (bC hbox 0).trans rfl))
  go_ret
  exact ⟨rfl, HB.out⟩
def quota_off.f (k : Nat) (l0_0 : List (S28)) : Option (Bool) := if l0_0.length = 12 then (badAt k l0_0 0).bind fun i => some (decide (0 ≤ i)) else some true
theorem quota_off.mono : ∀ a0 k, LeO (quota_off.f k a0) (quota_off.f (k + 1) a0) := fun a0 k => LeO.ite (LeO.bind (badAt_mono k a0 0) (fun _ => LeO.refl _)) (LeO.refl _)
theorem quota_off.calls (k : Nat) (A0_0 : Option Addr) (c0_0 : Nat) (l0_0 : List (S28)) (r : Bool) (w : World) (hr0_0 : Kd.C k28 w A0_0 l0_0.length l0_0) (hc0_0 : l0_0.length ≤ c0_0) (h : quota_off.f k l0_0 = some r) :
 Calls Try.prog 45 #[.agg #[.slice A0_0 l0_0.length c0_0]] w fun e w' => e = .returned (.bool r) ∧ Below w.heap.size w w' := by
 unfold quota_off.f at h
 exact off_walk k A0_0 c0_0 l0_0 r w hr0_0 hc0_0 h
def node_Refs.l0 : Nat → List (S102) → List Int → Int → Int → Option ((List (S102)))
 | 0, _, _, _, _ => none
 | k + 1, x5, x22, x23, x24 => if x24 < x23 then (if 0 ≤ x24 then (if x24 < (x22.length : Int) then (if (rd x22 x24) = 0 then (node_Refs.l0 k x5 x22 x23 (wrap64 (x24 + 1))) else (none)) else (none)) else (none)) else (some x5)
def node_Refs.f (k : Nat) (a0 : Int) (a1_0 : Int) (a1_1 : Int) (a1_2 : Int) (l1_3 : List Int) (l1_4 : List (S78)) : Option ((List (S102))) := if a1_0 = 1 then ((node_May.f k a1_0 a1_1 a1_2 l1_3 l1_4).bind fun t116 => (if t116 = true then ((node_within.f a0 11).bind fun t117 => (if t117 = true then (node_Refs.l0 k ([] : List (S102)) l1_3 (l1_3.length : Int) 0) else (none))) else (none))) else (some ([] : List (S102)))
theorem node_Refs.mono_l : ∀ k, (∀ y0 y1 y2 y3, LeO (node_Refs.l0 k y0 y1 y2 y3) (node_Refs.l0 (k + 1) y0 y1 y2 y3))
 | 0 => fun _ _ _ _ r h => by simp [node_Refs.l0] at h
 | k + 1 => by
  have ih0 := node_Refs.mono_l k
  ·
   intro y0 y1 y2 y3
   unfold node_Refs.l0
   repeat' first
   | (with_reducible exact ih0 _ _ _ _)
   | (with_reducible exact node_May.mono _ _ _ _ _ _)
   | (with_reducible exact LeO.refl _)
   | (with_reducible exact LeO.none _)
   | (with_reducible refine LeO.ite ?_ ?_)
   | (with_reducible refine LeO.bind ?_ (fun _ => ?_))
   | exact ih0 _ _ _ _
   | exact node_May.mono _ _ _ _ _ _
   | exact LeO.none _
   | refine LeO.ite ?_ ?_
   | refine LeO.bind ?_ (fun _ => ?_)
theorem node_Refs.mono : ∀ a0 a1 a2 a3 a4 a5 k, LeO (node_Refs.f k a0 a1 a2 a3 a4 a5) (node_Refs.f (k + 1) a0 a1 a2 a3 a4 a5) := by
 intro a0 a1 a2 a3 a4 a5 k; have ih0 := node_Refs.mono_l k
 unfold node_Refs.f
 repeat' first
  | (with_reducible exact ih0 _ _ _ _)
  | (with_reducible exact node_May.mono _ _ _ _ _ _)
  | (with_reducible exact LeO.refl _)
  | (with_reducible exact LeO.none _)
  | (with_reducible refine LeO.ite ?_ ?_)
  | (with_reducible refine LeO.bind ?_ (fun _ => ?_))
  | exact ih0 _ _ _ _
  | exact node_May.mono _ _ _ _ _ _
  | exact LeO.none _
  | refine LeO.ite ?_ ?_
  | refine LeO.bind ?_ (fun _ => ?_)
set_option maxHeartbeats 8000000 in
set_option maxRecDepth 100000 in
theorem node_Refs.calls (k : Nat) (a0 : Int) (a1_0 : Int) (a1_1 : Int) (a1_2 : Int) (A1_3 : Option Addr) (c1_3 : Nat) (l1_3 : List Int) (A1_4 : Option Addr) (c1_4 : Nat) (l1_4 : List (S78)) (r : List (S102)) (w : World) (hr1_3 : Kd.C (Kd.int .i64) w A1_3 l1_3.length l1_3) (hc1_3 : l1_3.length ≤ c1_3) (hr1_4 : Kd.C k78 w A1_4 l1_4.length l1_4) (hc1_4 : l1_4.length ≤ c1_4) (h : node_Refs.f k a0 a1_0 a1_1 a1_2 l1_3 l1_4 = some r) :
 Calls Try.prog 66 #[.int .i64 a0, .agg #[.int .i64 a1_0, .int .i64 a1_1, .int .i64 a1_2, .slice A1_3 l1_3.length c1_3, .slice A1_4 l1_4.length c1_4]] w fun e w' => ∃ v0_ : Value, e = .returned (v0_) ∧ Kd.R k102 102 w' w.heap.size (fun _ => True) v0_ r ∧ Below w.heap.size w w' := by
 have hu28 := Try.underlying28; have hu102 := Try.underlying102; have HR1_3 := Aside0.mk hr1_3; have HC1_3 := Aside0.mk hc1_3; clear hr1_3 hc1_3; have HR1_4 := Aside0.mk hr1_4; have HC1_4 := Aside0.mk hc1_4; clear hr1_4 hc1_4; have HB := Aside0.mk (Below.refl w.heap.size w); have H : (if a1_0 = 1 then ((node_May.f k a1_0 a1_1 a1_2 l1_3 l1_4).bind fun t116 => (if t116 = true then ((node_within.f a0 11).bind fun t117 => (if t117 = true then (node_Refs.l0 k ([] : List (S102)) l1_3 (l1_3.length : Int) 0) else (none))) else (none))) else (some ([] : List (S102)))) = some r := h; clear h
 by_cases c3 : a1_0 = 1
 ·
  rw [if_pos c3] at H; have c3b0 : (a1_0 == 1) = true := beq_iff_eq.mpr c3; have c3b1 : (a1_0 != 1) = false := bne_eq_false_iff_eq.mpr c3; clear c3; replace H := Option.bind_eq_some_iff.mp H; obtain ⟨t116, A40, H⟩ := H; replace H : (if t116 = true then ((node_within.f a0 11).bind fun t117 => (if t117 = true then (node_Refs.l0 k ([] : List (S102)) l1_3 (l1_3.length : Int) 0) else (none))) else (none)) = some r := H; have A4 := Aside0.mk A40; clear A40
  by_cases c5 : t116 = true
  ·
   subst c5
   have H1 : ((node_within.f a0 11).bind fun t117 => (if t117 = true then (node_Refs.l0 k ([] : List (S102)) l1_3 (l1_3.length : Int) 0) else (none))) = some r := by rw [if_pos rfl] at H; exact H
   clear H; have H := H1; clear H1; replace H := Option.bind_eq_some_iff.mp H; obtain ⟨t117, A60, H⟩ := H; replace H : (if t117 = true then (node_Refs.l0 k ([] : List (S102)) l1_3 (l1_3.length : Int) 0) else (none)) = some r := H; have A6 := Aside0.mk A60; clear A60
   by_cases c7 : t117 = true
   ·
    subst c7
    have H1 : (node_Refs.l0 k ([] : List (S102)) l1_3 (l1_3.length : Int) 0) = some r := by rw [if_pos rfl] at H; exact H
    clear H; have H := H1; clear H1; have H' := Aside0.mk H; clear H
    go_enter Try.func66, Try.ntmps66
    go_wp2_with (first | ((with_reducible refine gate_dst (N := 3) rfl ?_); refine box_event ?hg (N := 3) ?hd (cs := #[.int .i64 a1_0, .int .i64 a1_1, .int .i64 a1_2, .slice A1_3 l1_3.length c1_3, .slice A1_4 l1_4.length c1_4]) (t := 28) ?hr ?_; (case hd => rfl); (case hg => rfl); (case hr => first | (go_simp; done) | (go_simp; rfl)); intro gb115 hg w8 hbox hb; have n0_ := Aside0.mk (below_step (by repeat (first | (with_reducible first | exact HB.out | apply wA | apply wN | apply wD) | exact HB.out)) hb); have n1_ := Aside0.mk (hbox); have n2_ := Aside0.mk ((by rw [hg]; exact (below_size (by repeat (first | (with_reducible first | exact HB.out | apply wA | apply wN | apply wD) | exact HB.out))) : w.heap.size ≤ gb115)); have n3_ := Aside0.mk ((by rw [hg]; exact (below_size (by repeat (first | (with_reducible first | exact HB.out | apply wA | apply wN | apply wD) | exact HB.out))) : w.heap.size ≤ gb115)); clear HB; have HB := n0_; have BK115 := n1_; have GW115 := n2_; have GE115 := n3_; clear n0_ n1_ n2_ n3_; clear hb hbox hg; have hcz9_0 : w8.cell? ⟨gb115, 0, none⟩ = some (.int .i64 a1_0) := (bC BK115.out 0).trans rfl; have hcz9_1 : w8.cell? ⟨gb115, 1, none⟩ = some (.int .i64 a1_1) := (bC BK115.out 1).trans rfl; have hcz9_2 : w8.cell? ⟨gb115, 2, none⟩ = some (.int .i64 a1_2) := (bC BK115.out 2).trans rfl; have hcz9_3 : w8.cell? ⟨gb115, 3, none⟩ = some (.slice A1_3 l1_3.length c1_3) := (bC BK115.out 3).trans rfl; have hcz9_4 : w8.cell? ⟨gb115, 4, none⟩ = some (.slice A1_4 l1_4.length c1_4) := (bC BK115.out 4).trans rfl; have hfz9_0 := bZ BK115.out 0; have hfz9_1 := bZ BK115.out 1; have hfz9_2 := bZ BK115.out 2; have hfz9_3 := bZ BK115.out 3; have hfz9_4 := bZ BK115.out 4) | (go_at_call 48; (with_reducible refine (node_May.calls k a1_0 a1_1 a1_2 _ _ l1_3 _ _ l1_4 true _ ?side1 ?side2 ?side3 ?side4 A4.out).mono ?_); (case side1 => repeat (first | exact (Kd.C_below HR1_3.out HB.out) | (with_reducible refine Kd.C_alloc ?_ _) | (with_reducible refine Kd.C_drewN ?_ _) | (with_reducible refine Kd.C_drew ?_))); (case side2 => exact HC1_3.out); (case side3 => repeat (first | exact (Kd.C_below HR1_4.out HB.out) | (with_reducible refine Kd.C_alloc ?_ _) | (with_reducible refine Kd.C_drewN ?_ _) | (with_reducible refine Kd.C_drew ?_))); (case side4 => exact HC1_4.out); rintro e w10 ⟨rfl, hb⟩; have n0_ := Aside0.mk (bB (g := gb115) (o := .cells #[.int .i64 a1_0, .int .i64 a1_1, .int .i64 a1_2, .slice A1_3 l1_3.length c1_3, .slice A1_4 l1_4.length c1_4] 28 (0, 0)) (by (with_reducible repeat (first | refine bN ?_ _ | refine bD ?_ | refine bA ?_ _)); exact BK115.out) hb); have n1_ := Aside0.mk (below_step (by repeat (first | (with_reducible first | exact HB.out | apply wA | apply wN | apply wD | refine wS ?_ GE115.out) | exact HB.out)) hb); clear BK115; clear HB; have BK115 := n0_; have HB := n1_; clear n0_ n1_; (try clear hb); (try clear hb2); (try clear hk); (try clear hi)) | (go_at_call 81; (with_reducible refine (node_within.calls a0 11 true _ A6.out).mono ?_); rintro e w' ⟨rfl, ⟨nd, rfl⟩⟩; have hcz11_0 : w10.cell? ⟨gb115, 0, none⟩ = some (.int .i64 a1_0) := (bC BK115.out 0).trans rfl; have hcz11_1 : w10.cell? ⟨gb115, 1, none⟩ = some (.int .i64 a1_1) := (bC BK115.out 1).trans rfl; have hcz11_2 : w10.cell? ⟨gb115, 2, none⟩ = some (.int .i64 a1_2) := (bC BK115.out 2).trans rfl; have hcz11_3 : w10.cell? ⟨gb115, 3, none⟩ = some (.slice A1_3 l1_3.length c1_3) := (bC BK115.out 3).trans rfl; have hcz11_4 : w10.cell? ⟨gb115, 4, none⟩ = some (.slice A1_4 l1_4.length c1_4) := (bC BK115.out 4).trans rfl; have hfz11_0 := bZ BK115.out 0; have hfz11_1 := bZ BK115.out 1; have hfz11_2 := bZ BK115.out 2; have hfz11_3 := bZ BK115.out 3; have hfz11_4 := bZ BK115.out 4))
    go_loopg [5, 24] k (fun kq v5 v24 w' => ∃ (x5_1 : List (S102)) (x24_1 : Int), v24 = .int .i64 x24_1 ∧ Aside0 (node_Refs.l0 kq x5_1 l1_3 (l1_3.length : Int) x24_1 = some r) ∧ Aside0 (kq ≤ k) ∧ Aside0 (Kd.R k102 102 w' w.heap.size (fun _ => True) v5 x5_1) ∧ Aside0 (w'.heap[gb115]? = some (.cells #[.int .i64 a1_0, .int .i64 a1_1, .int .i64 a1_2, (.slice A1_3 l1_3.length c1_3), (.slice A1_4 l1_4.length c1_4)] 28 (0, 0))) ∧ Aside0 (Below w.heap.size w w'))
    case atStart => exact ⟨(([] : List (S102))), (0), (by first | rfl | (simp; done) | (simp [*]; done)), H', ⟨Nat.le_refl _⟩, ⟨by first | exact Kd.R_nil _ _ _ _ _ | exact Kd.N_nil _ _ _ _ _ | exact Kd.V_nil _ _ _ _ _ | exact Kd.Q_nil _ _ _ _ _ | exact Kd.S_nil _ _ _ _ _⟩, ⟨by (with_reducible repeat (first | refine bN ?_ _ | refine bD ?_ | refine bA ?_ _)); exact BK115.out⟩, ⟨by repeat (first | (with_reducible first | exact HB.out | apply wA | apply wN | apply wD | refine wS ?_ GE115.out) | exact HB.out)⟩⟩
    case round =>
     clear H'
     try clear c1
     try clear p2
     try clear c3
     try clear c3b0
     try clear c3b1
     try clear c5
     try clear c6
     try clear c7
     try clear hcz11_0
     try clear hcz11_1
     try clear hcz11_2
     try clear hcz11_3
     try clear hcz11_4
     try clear hcz9_0
     try clear hcz9_1
     try clear hcz9_2
     try clear hcz9_3
     try clear hcz9_4
     try clear hfz11_0
     try clear hfz11_1
     try clear hfz11_2
     try clear hfz11_3
     try clear hfz11_4
     try clear hfz9_0
     try clear hfz9_1
     try clear hfz9_2
     try clear hfz9_3
     try clear hfz9_4
     obtain ⟨x5_1, x24_1, rfl, HA, HK1, HO_5, BK115, HB⟩ := hrel
     cases gk with
     | zero => exact absurd HA.out (by simp [node_Refs.l0])
     | succ k1 =>
      have H := HA.out; clear HA; simp only [node_Refs.l0] at H
      by_cases c12 : x24_1 < (l1_3.length : Int)
      ·
       rw [if_pos c12] at H; have c12b0 : decide (x24_1 < (l1_3.length : Int)) = true := decide_eq_true c12; clear c12
       by_cases c13 : 0 ≤ x24_1
       ·
        rw [if_pos c13] at H; have c13b0 : decide (0 ≤ x24_1) = true := decide_eq_true c13; clear c13
        by_cases c14 : x24_1 < (l1_3.length : Int)
        ·
         rw [if_pos c14] at H; have c14b0 : decide (x24_1 < (l1_3.length : Int)) = true := decide_eq_true c14; clear c14
         by_cases c15 : (rd l1_3 x24_1) = 0
         ·
          rw [if_pos c15] at H; have c15b0 : ((rd l1_3 x24_1) == 0) = true := beq_iff_eq.mpr c15; have c15b1 : ((rd l1_3 x24_1) != 0) = false := bne_eq_false_iff_eq.mpr c15; clear c15; have H' := Aside0.mk H; clear H; have p118 : 0 ≤ (x24_1 : Int) := of_decide_eq_true (by first | (with_reducible assumption) | assumption); have q118 : x24_1 < (l1_3.length : Int) := of_decide_eq_true (by first | (with_reducible assumption) | assumption); obtain ⟨ad118, e118, hx118_0⟩ := Kd.at_int HR1_3.out x24_1 p118 q118
          cases e118
          replace hx118_0 := (HB.out.cell (World.block_lt_of_cell? w _ hx118_0)).trans hx118_0; replace p118 := eq_true p118; replace q118 := eq_true q118
          go_wp2
          go_roundg k1
          case measure => have := HK1.out; omega
          case rel => exact ⟨(x5_1), (wrap64 (x24_1 + 1)), (by first | rfl | (simp; done) | (simp [*]; done)), H', ⟨by have := HK1.out; omega⟩, ⟨by (with_reducible repeat (first | apply Kd.R_alloc | apply Kd.R_drewN | apply Kd.R_drew)); exact HO_5.out⟩, ⟨by (with_reducible repeat (first | refine bN ?_ _ | refine bD ?_ | refine bA ?_ _)); exact BK115.out⟩, ⟨by repeat (first | (with_reducible first | exact HB.out | apply wA | apply wN | apply wD | refine wS ?_ GE115.out) | exact HB.out)⟩⟩
         ·
          rw [if_neg c15] at H; exact absurd H (by simp)
        ·
         rw [if_neg c14] at H; exact absurd H (by simp)
       ·
        rw [if_neg c13] at H; exact absurd H (by simp)
      ·
       rw [if_neg c12] at H; have c12b0 : decide (x24_1 < (l1_3.length : Int)) = false := decide_eq_false c12; clear c12; obtain rfl := Option.some.inj H
       go_wp2
       go_ret
       exact ⟨_, by first | rfl | exact congrArg (fun b_ => Ending.returned (Value.bool b_)) HRET.out | (rw [HRET.out]) | (simp [errW_none, errW_some] <;> rfl) | (simp [*, errW_none, errW_some] <;> rfl), by (with_reducible repeat (first | apply Kd.R_alloc | apply Kd.R_drewN | apply Kd.R_drew)); exact HO_5.out, by repeat (first | (with_reducible first | exact HB.out | apply wA | apply wN | apply wD | refine wS ?_ GE115.out) | exact HB.out)⟩
   ·
    replace c7 := Bool.eq_false_iff.mpr c7; subst c7
    have H1 : (none) = some r := by rw [if_neg (show ¬ (false = true) by decide)] at H; exact H
    clear H; have H := H1; clear H1; exact absurd H (by simp)
  ·
   replace c5 := Bool.eq_false_iff.mpr c5; subst c5
   have H1 : (none) = some r := by rw [if_neg (show ¬ (false = true) by decide)] at H; exact H
   clear H; have H := H1; clear H1; exact absurd H (by simp)
 ·
  rw [if_neg c3] at H; have c3b0 : (a1_0 == 1) = false := beq_eq_false_iff_ne.mpr c3; have c3b1 : (a1_0 != 1) = true := bne_iff_ne.mpr c3; obtain rfl := Option.some.inj H
  go_enter Try.func66, Try.ntmps66
  go_wp2_with (first | ((with_reducible refine gate_dst (N := 3) rfl ?_); refine box_event ?hg (N := 3) ?hd (cs := #[.int .i64 a1_0, .int .i64 a1_1, .int .i64 a1_2, .slice A1_3 l1_3.length c1_3, .slice A1_4 l1_4.length c1_4]) (t := 28) ?hr ?_; (case hd => rfl); (case hg => rfl); (case hr => first | (go_simp; done) | (go_simp; rfl)); intro gb115 hg w16 hbox hb; have n0_ := Aside0.mk (below_step (by repeat (first | (with_reducible first | exact HB.out | apply wA | apply wN | apply wD) | exact HB.out)) hb); have n1_ := Aside0.mk (hbox); have n2_ := Aside0.mk ((by rw [hg]; exact (below_size (by repeat (first | (with_reducible first | exact HB.out | apply wA | apply wN | apply wD) | exact HB.out))) : w.heap.size ≤ gb115)); have n3_ := Aside0.mk ((by rw [hg]; exact (below_size (by repeat (first | (with_reducible first | exact HB.out | apply wA | apply wN | apply wD) | exact HB.out))) : w.heap.size ≤ gb115)); clear HB; have HB := n0_; have BK115 := n1_; have GW115 := n2_; have GE115 := n3_; clear n0_ n1_ n2_ n3_; clear hb hbox hg; have hcz17_0 : w16.cell? ⟨gb115, 0, none⟩ = some (.int .i64 a1_0) := (bC BK115.out 0).trans rfl; have hcz17_1 : w16.cell? ⟨gb115, 1, none⟩ = some (.int .i64 a1_1) := (bC BK115.out 1).trans rfl; have hcz17_2 : w16.cell? ⟨gb115, 2, none⟩ = some (.int .i64 a1_2) := (bC BK115.out 2).trans rfl; have hcz17_3 : w16.cell? ⟨gb115, 3, none⟩ = some (.slice A1_3 l1_3.length c1_3) := (bC BK115.out 3).trans rfl; have hcz17_4 : w16.cell? ⟨gb115, 4, none⟩ = some (.slice A1_4 l1_4.length c1_4) := (bC BK115.out 4).trans rfl; have hfz17_0 := bZ BK115.out 0; have hfz17_1 := bZ BK115.out 1; have hfz17_2 := bZ BK115.out 2; have hfz17_3 := bZ BK115.out 3; have hfz17_4 := bZ BK115.out 4))
  go_ret
  exact ⟨_, by first | rfl | exact congrArg (fun b_ => Ending.returned (Value.bool b_)) HRET.out | (rw [HRET.out]) | (simp [errW_none, errW_some] <;> rfl) | (simp [*, errW_none, errW_some] <;> rfl), by first | exact Kd.R_nil _ _ _ _ _ | exact Kd.N_nil _ _ _ _ _ | exact Kd.V_nil _ _ _ _ _ | exact Kd.Q_nil _ _ _ _ _ | exact Kd.S_nil _ _ _ _ _, by repeat (first | (with_reducible first | exact HB.out | apply wA | apply wN | apply wD | refine wS ?_ GE115.out) | exact HB.out)⟩
def node_Pages.f (k : Nat) (a0_0 : Int) (a0_1 : Int) (a0_2 : Int) (l0_3 : List Int) (l0_4 : List (S78)) : Option (Int) := (node_Refs.f k 0 a0_0 a0_1 a0_2 l0_3 l0_4).bind fun t123 => (some (t123.length : Int))
theorem node_Pages.mono : ∀ a0 a1 a2 a3 a4 k, LeO (node_Pages.f k a0 a1 a2 a3 a4) (node_Pages.f (k + 1) a0 a1 a2 a3 a4) := by
 intro a0 a1 a2 a3 a4 k
 unfold node_Pages.f
 repeat' first
  | (with_reducible exact node_Refs.mono _ _ _ _ _ _ _)
  | (with_reducible exact LeO.refl _)
  | (with_reducible exact LeO.none _)
  | (with_reducible refine LeO.ite ?_ ?_)
  | (with_reducible refine LeO.bind ?_ (fun _ => ?_))
  | exact node_Refs.mono _ _ _ _ _ _ _
  | exact LeO.none _
  | refine LeO.ite ?_ ?_
  | refine LeO.bind ?_ (fun _ => ?_)
set_option maxHeartbeats 8000000 in
set_option maxRecDepth 100000 in
theorem node_Pages.calls (k : Nat) (a0_0 : Int) (a0_1 : Int) (a0_2 : Int) (A0_3 : Option Addr) (c0_3 : Nat) (l0_3 : List Int) (A0_4 : Option Addr) (c0_4 : Nat) (l0_4 : List (S78)) (r : Int) (w : World) (hr0_3 : Kd.C (Kd.int .i64) w A0_3 l0_3.length l0_3) (hc0_3 : l0_3.length ≤ c0_3) (hr0_4 : Kd.C k78 w A0_4 l0_4.length l0_4) (hc0_4 : l0_4.length ≤ c0_4) (h : node_Pages.f k a0_0 a0_1 a0_2 l0_3 l0_4 = some r) :
 Calls Try.prog 46 #[.agg #[.int .i64 a0_0, .int .i64 a0_1, .int .i64 a0_2, .slice A0_3 l0_3.length c0_3, .slice A0_4 l0_4.length c0_4]] w fun e w' => e = .returned (.int .i64 r) ∧ Below w.heap.size w w' := by
 have hu28 := Try.underlying28; have HR0_3 := Aside0.mk hr0_3; have HC0_3 := Aside0.mk hc0_3; clear hr0_3 hc0_3; have HR0_4 := Aside0.mk hr0_4; have HC0_4 := Aside0.mk hc0_4; clear hr0_4 hc0_4; have HB := Aside0.mk (Below.refl w.heap.size w); have H : ((node_Refs.f k 0 a0_0 a0_1 a0_2 l0_3 l0_4).bind fun t123 => (some (t123.length : Int))) = some r := h; clear h; replace H := Option.bind_eq_some_iff.mp H; obtain ⟨t123, A20, H⟩ := H; replace H : (some (t123.length : Int)) = some r := H; have A2 := Aside0.mk A20; clear A20; obtain rfl := Option.some.inj H
 go_enter Try.func46, Try.ntmps46
 go_wp2_with (first | ((with_reducible refine gate_dst (N := 1) rfl ?_); refine box_event ?hg (N := 1) ?hd (cs := #[.int .i64 a0_0, .int .i64 a0_1, .int .i64 a0_2, .slice A0_3 l0_3.length c0_3, .slice A0_4 l0_4.length c0_4]) (t := 28) ?hr ?_; (case hd => rfl); (case hg => rfl); (case hr => first | (go_simp; done) | (go_simp; rfl)); intro gb122 hg w3 hbox hb; have n0_ := Aside0.mk (below_step (by repeat (first | (with_reducible first | exact HB.out | apply wA | apply wN | apply wD) | exact HB.out)) hb); have n1_ := Aside0.mk (hbox); have n2_ := Aside0.mk ((by rw [hg]; exact (below_size (by repeat (first | (with_reducible first | exact HB.out | apply wA | apply wN | apply wD) | exact HB.out))) : w.heap.size ≤ gb122)); have n3_ := Aside0.mk ((by rw [hg]; exact (below_size (by repeat (first | (with_reducible first | exact HB.out | apply wA | apply wN | apply wD) | exact HB.out))) : w.heap.size ≤ gb122)); clear HB; have HB := n0_; have BK122 := n1_; have GW122 := n2_; have GE122 := n3_; clear n0_ n1_ n2_ n3_; clear hb hbox hg; have hcz4_0 : w3.cell? ⟨gb122, 0, none⟩ = some (.int .i64 a0_0) := (bC BK122.out 0).trans rfl; have hcz4_1 : w3.cell? ⟨gb122, 1, none⟩ = some (.int .i64 a0_1) := (bC BK122.out 1).trans rfl; have hcz4_2 : w3.cell? ⟨gb122, 2, none⟩ = some (.int .i64 a0_2) := (bC BK122.out 2).trans rfl; have hcz4_3 : w3.cell? ⟨gb122, 3, none⟩ = some (.slice A0_3 l0_3.length c0_3) := (bC BK122.out 3).trans rfl; have hcz4_4 : w3.cell? ⟨gb122, 4, none⟩ = some (.slice A0_4 l0_4.length c0_4) := (bC BK122.out 4).trans rfl; have hfz4_0 := bZ BK122.out 0; have hfz4_1 := bZ BK122.out 1; have hfz4_2 := bZ BK122.out 2; have hfz4_3 := bZ BK122.out 3; have hfz4_4 := bZ BK122.out 4) | ((with_reducible refine gate_callee (f := 66) rfl ?_); refine goesL_ (some 4) rfl rfl Try.func66 (by kernel_rfl) rfl #[.int .i64 0, .agg #[.int .i64 a0_0, .int .i64 a0_1, .int .i64 a0_2, .slice A0_3 l0_3.length c0_3, .slice A0_4 l0_4.length c0_4]] rfl (by (try simp only [List.map_toArray, List.map_cons, List.map_nil]); first | done | rfl | (simp only [List.length_drop, List.length_take]; rfl)) ?_; (with_reducible refine (node_Refs.calls k 0 a0_0 a0_1 a0_2 _ _ l0_3 _ _ l0_4 t123 _ ?side1 ?side2 ?side3 ?side4 A2.out).mono ?_); (case side1 => repeat (first | exact (Kd.C_below HR0_3.out HB.out) | (with_reducible refine Kd.C_alloc ?_ _) | (with_reducible refine Kd.C_drewN ?_ _) | (with_reducible refine Kd.C_drew ?_))); (case side2 => exact HC0_3.out); (case side3 => repeat (first | exact (Kd.C_below HR0_4.out HB.out) | (with_reducible refine Kd.C_alloc ?_ _) | (with_reducible refine Kd.C_drewN ?_ _) | (with_reducible refine Kd.C_drew ?_))); (case side4 => exact HC0_4.out); rintro e w5 ⟨v124, rfl, ho0, hb⟩; refine ⟨_, rfl, ?_⟩; have n0_ := Aside0.mk (Kd.R_lower ho0 (below_size (by repeat (first | (with_reducible first | exact HB.out | apply wA | apply wN | apply wD | refine wS ?_ GE122.out) | exact HB.out)))); have n1_ := Aside0.mk (bB (g := gb122) (o := .cells #[.int .i64 a0_0, .int .i64 a0_1, .int .i64 a0_2, .slice A0_3 l0_3.length c0_3, .slice A0_4 l0_4.length c0_4] 28 (0, 0)) (by (with_reducible repeat (first | refine bN ?_ _ | refine bD ?_ | refine bA ?_ _)); exact BK122.out) hb); have n2_ := Aside0.mk (below_step (by repeat (first | (with_reducible first | exact HB.out | apply wA | apply wN | apply wD | refine wS ?_ GE122.out) | exact HB.out)) hb); clear BK122; clear HB; have HO125 := n0_; have BK122 := n1_; have HB := n2_; clear n0_ n1_ n2_; (try clear hb); (try clear hb2); (try clear hk); (try clear hi); (try clear ho0); obtain ⟨Ao6, co6, eo6⟩ := Kd.R_slice HO125.out; subst eo6))
 go_ret
 exact ⟨by first | rfl | exact congrArg (fun b_ => Ending.returned (Value.bool b_)) HRET.out | (rw [HRET.out]) | (simp [errW_none, errW_some] <;> rfl) | (simp [*, errW_none, errW_some] <;> rfl), by repeat (first | (with_reducible first | exact HB.out | apply wA | apply wN | apply wD | refine wS ?_ GE122.out) | exact HB.out)⟩
def quota_Used.l0 : Nat → Int → List (S28) → Int → Int → Option (Int)
 | 0, _, _, _, _ => none
 | k + 1, x3, x9, x10, x11 => if x11 < x10 then (if 0 ≤ x11 then (if x11 < (x9.length : Int) then ((node_Pages.f k ((rd_T28 x9 x11).f0) ((rd_T28 x9 x11).f1) ((rd_T28 x9 x11).f2) ((rd_T28 x9 x11).f3) ((rd_T28 x9 x11).f4)).bind fun t130 => (quota_Used.l0 k (wrap64 (x3 + t130)) x9 x10 (wrap64 (x11 + 1)))) else (none)) else (none)) else (some x3)
def quota_Used.f (k : Nat) (l0_0 : List (S28)) : Option (Int) := (quota_off.f k l0_0).bind fun t127 => (if t127 = true then (none) else (quota_Used.l0 k 0 l0_0 (l0_0.length : Int) 0))
theorem quota_Used.mono_l : ∀ k, (∀ y0 y1 y2 y3, LeO (quota_Used.l0 k y0 y1 y2 y3) (quota_Used.l0 (k + 1) y0 y1 y2 y3))
 | 0 => fun _ _ _ _ r h => by simp [quota_Used.l0] at h
 | k + 1 => by
  have ih0 := quota_Used.mono_l k
  ·
   intro y0 y1 y2 y3
   unfold quota_Used.l0
   repeat' first
   | (with_reducible exact ih0 _ _ _ _)
   | (with_reducible exact node_Pages.mono _ _ _ _ _ _)
   | (with_reducible exact quota_off.mono _ _)
   | (with_reducible exact LeO.refl _)
   | (with_reducible exact LeO.none _)
   | (with_reducible refine LeO.ite ?_ ?_)
   | (with_reducible refine LeO.bind ?_ (fun _ => ?_))
   | exact ih0 _ _ _ _
   | exact node_Pages.mono _ _ _ _ _ _
   | exact quota_off.mono _ _
   | exact LeO.none _
   | refine LeO.ite ?_ ?_
   | refine LeO.bind ?_ (fun _ => ?_)
theorem quota_Used.mono : ∀ a0 k, LeO (quota_Used.f k a0) (quota_Used.f (k + 1) a0) := by
 intro a0 k; have ih0 := quota_Used.mono_l k
 unfold quota_Used.f
 repeat' first
  | (with_reducible exact ih0 _ _ _ _)
  | (with_reducible exact node_Pages.mono _ _ _ _ _ _)
  | (with_reducible exact quota_off.mono _ _)
  | (with_reducible exact LeO.refl _)
  | (with_reducible exact LeO.none _)
  | (with_reducible refine LeO.ite ?_ ?_)
  | (with_reducible refine LeO.bind ?_ (fun _ => ?_))
  | exact ih0 _ _ _ _
  | exact node_Pages.mono _ _ _ _ _ _
  | exact quota_off.mono _ _
  | exact LeO.none _
  | refine LeO.ite ?_ ?_
  | refine LeO.bind ?_ (fun _ => ?_)
set_option maxHeartbeats 8000000 in
set_option maxRecDepth 100000 in
theorem quota_Used.calls (k : Nat) (A0_0 : Option Addr) (c0_0 : Nat) (l0_0 : List (S28)) (r : Int) (w : World) (hr0_0 : Kd.C k28 w A0_0 l0_0.length l0_0) (hc0_0 : l0_0.length ≤ c0_0) (h : quota_Used.f k l0_0 = some r) :
 Calls Try.prog 16 #[.agg #[.slice A0_0 l0_0.length c0_0]] w fun e w' => e = .returned (.int .i64 r) ∧ Below w.heap.size w w' := by
 have hu24 := Try.underlying24; have hu28 := Try.underlying28; have HR0_0 := Aside0.mk hr0_0; have HC0_0 := Aside0.mk hc0_0; clear hr0_0 hc0_0; have HB := Aside0.mk (Below.refl w.heap.size w); have H : ((quota_off.f k l0_0).bind fun t127 => (if t127 = true then (none) else (quota_Used.l0 k 0 l0_0 (l0_0.length : Int) 0))) = some r := h; clear h; replace H := Option.bind_eq_some_iff.mp H; obtain ⟨t127, A20, H⟩ := H; replace H : (if t127 = true then (none) else (quota_Used.l0 k 0 l0_0 (l0_0.length : Int) 0)) = some r := H; have A2 := Aside0.mk A20; clear A20
 by_cases c3 : t127 = true
 ·
  subst c3
  have H1 : (none) = some r := by rw [if_pos rfl] at H; exact H
  clear H; have H := H1; clear H1; exact absurd H (by simp)
 ·
  replace c3 := Bool.eq_false_iff.mpr c3; subst c3
  have H1 : (quota_Used.l0 k 0 l0_0 (l0_0.length : Int) 0) = some r := by rw [if_neg (show ¬ (false = true) by decide)] at H; exact H
  clear H; have H := H1; clear H1; have H' := Aside0.mk H; clear H
  go_enter Try.func16, Try.ntmps16
  go_wp2_with (first | ((with_reducible refine gate_dst (N := 1) rfl ?_); refine box_event ?hg (N := 1) ?hd (cs := #[.slice A0_0 l0_0.length c0_0]) (t := 24) ?hr ?_; (case hd => rfl); (case hg => rfl); (case hr => first | (go_simp; done) | (go_simp; rfl)); intro gb126 hg w4 hbox hb; have n0_ := Aside0.mk (below_step (by repeat (first | (with_reducible first | exact HB.out | apply wA | apply wN | apply wD) | exact HB.out)) hb); have n1_ := Aside0.mk (hbox); have n2_ := Aside0.mk ((by rw [hg]; exact (below_size (by repeat (first | (with_reducible first | exact HB.out | apply wA | apply wN | apply wD) | exact HB.out))) : w.heap.size ≤ gb126)); have n3_ := Aside0.mk ((by rw [hg]; exact (below_size (by repeat (first | (with_reducible first | exact HB.out | apply wA | apply wN | apply wD) | exact HB.out))) : w.heap.size ≤ gb126)); clear HB; have HB := n0_; have BK126 := n1_; have GW126 := n2_; have GE126 := n3_; clear n0_ n1_ n2_ n3_; clear hb hbox hg; have hcz5_0 : w4.cell? ⟨gb126, 0, none⟩ = some (.slice A0_0 l0_0.length c0_0) := (bC BK126.out 0).trans rfl; have hfz5_0 := bZ BK126.out 0) | ((with_reducible refine gate_callee (f := 45) rfl ?_); refine goesL_ (some 7) rfl rfl Try.func45 (by kernel_rfl) rfl #[.agg #[.slice A0_0 l0_0.length c0_0]] rfl (by (try simp only [List.map_toArray, List.map_cons, List.map_nil]); first | done | rfl | (simp only [List.length_drop, List.length_take]; rfl)) ?_; (with_reducible refine (quota_off.calls k _ _ l0_0 false _ ?side1 ?side2 A2.out).mono ?_); (case side1 => repeat (first | exact (Kd.C_below HR0_0.out HB.out) | (with_reducible refine Kd.C_alloc ?_ _) | (with_reducible refine Kd.C_drewN ?_ _) | (with_reducible refine Kd.C_drew ?_))); (case side2 => exact HC0_0.out); rintro e w6 ⟨rfl, hb⟩; refine ⟨_, rfl, ?_⟩; have n0_ := Aside0.mk (bB (g := gb126) (o := .cells #[.slice A0_0 l0_0.length c0_0] 24 (0, 0)) (by (with_reducible repeat (first | refine bN ?_ _ | refine bD ?_ | refine bA ?_ _)); exact BK126.out) hb); have n1_ := Aside0.mk (below_step (by repeat (first | (with_reducible first | exact HB.out | apply wA | apply wN | apply wD | refine wS ?_ GE126.out) | exact HB.out)) hb); clear BK126; clear HB; have BK126 := n0_; have HB := n1_; clear n0_ n1_; (try clear hb); (try clear hb2); (try clear hk); (try clear hi); have hcz7_0 : w6.cell? ⟨gb126, 0, none⟩ = some (.slice A0_0 l0_0.length c0_0) := (bC BK126.out 0).trans rfl; have hfz7_0 := bZ BK126.out 0))
  go_loopg [3, 11] k (fun kq v3 v11 w' => ∃ (x3_1 : Int) (x11_1 : Int), v3 = .int .i64 x3_1 ∧ v11 = .int .i64 x11_1 ∧ Aside0 (quota_Used.l0 kq x3_1 l0_0 (l0_0.length : Int) x11_1 = some r) ∧ Aside0 (kq ≤ k) ∧ Aside0 (w'.heap[gb126]? = some (.cells #[(.slice A0_0 l0_0.length c0_0)] 24 (0, 0))) ∧ Aside0 (Below w.heap.size w w'))
  case atStart => exact ⟨(0), (0), (by first | rfl | (simp; done) | (simp [*]; done)), (by first | rfl | (simp; done) | (simp [*]; done)), H', ⟨Nat.le_refl _⟩, ⟨by (with_reducible repeat (first | refine bN ?_ _ | refine bD ?_ | refine bA ?_ _)); exact BK126.out⟩, ⟨by repeat (first | (with_reducible first | exact HB.out | apply wA | apply wN | apply wD | refine wS ?_ GE126.out) | exact HB.out)⟩⟩
  case round =>
   clear H'
   try clear c1
   try clear p2
   try clear c3
   try clear c4
   try clear hcz5_0
   try clear hcz7_0
   try clear hfz5_0
   try clear hfz7_0
   obtain ⟨x3_1, x11_1, rfl, rfl, HA, HK1, BK126, HB⟩ := hrel
   cases gk with
   | zero => exact absurd HA.out (by simp [quota_Used.l0])
   | succ k1 =>
    have H := HA.out; clear HA; simp only [quota_Used.l0] at H
    by_cases c8 : x11_1 < (l0_0.length : Int)
    ·
     rw [if_pos c8] at H; have c8b0 : decide (x11_1 < (l0_0.length : Int)) = true := decide_eq_true c8; clear c8
     by_cases c9 : 0 ≤ x11_1
     ·
      rw [if_pos c9] at H; have c9b0 : decide (0 ≤ x11_1) = true := decide_eq_true c9; clear c9
      by_cases c10 : x11_1 < (l0_0.length : Int)
      ·
       rw [if_pos c10] at H; have c10b0 : decide (x11_1 < (l0_0.length : Int)) = true := decide_eq_true c10; clear c10; replace H := Option.bind_eq_some_iff.mp H; obtain ⟨t130, A110, H⟩ := H; replace H : (quota_Used.l0 k1 (wrap64 (x3_1 + t130)) l0_0 (l0_0.length : Int) (wrap64 (x11_1 + 1))) = some r := H; have A11 := Aside0.mk A110; clear A110; have H' := Aside0.mk H; clear H; have p128 : 0 ≤ (x11_1 : Int) := of_decide_eq_true (by first | (with_reducible assumption) | assumption); have q128 : x11_1 < (l0_0.length : Int) := of_decide_eq_true (by first | (with_reducible assumption) | assumption); obtain ⟨ad128, A128_3, c128_3, A128_4, c128_4, e128, hx128_0, hx128_1, hx128_2, hx128_3, hx128_4, hl128_3, hi128_3, hl128_4, hi128_4⟩ := at_T28 HR0_0.out x11_1 p128 q128
       cases e128
       replace hx128_0 := (HB.out.cell (World.block_lt_of_cell? w _ hx128_0)).trans hx128_0; replace hx128_1 := (HB.out.cell (World.block_lt_of_cell? w _ hx128_1)).trans hx128_1; replace hx128_2 := (HB.out.cell (World.block_lt_of_cell? w _ hx128_2)).trans hx128_2; replace hx128_3 := (HB.out.cell (World.block_lt_of_cell? w _ hx128_3)).trans hx128_3; replace hx128_4 := (HB.out.cell (World.block_lt_of_cell? w _ hx128_4)).trans hx128_4; have HR128_3 := Aside0.mk hi128_3; have HC128_3 := Aside0.mk hl128_3; clear hi128_3 hl128_3; have HR128_4 := Aside0.mk hi128_4; have HC128_4 := Aside0.mk hl128_4; clear hi128_4 hl128_4; replace p128 := eq_true p128; replace q128 := eq_true q128
       go_wp2_with (first | ((with_reducible refine gate_dst (N := 5) rfl ?_); refine box_event ?hg (N := 5) ?hd (cs := #[.int .i64 0, .int .i64 0, .int .i64 0, .slice none 0 0, .slice none 0 0]) (t := 28) ?hr ?_; (case hd => rfl); (case hg => rfl); (case hr => first | (go_simp; done) | (go_simp; rfl)); intro gb129 hg w12 hbox hb; have n0_ := Aside0.mk (bB (g := gb126) (o := .cells #[.slice (some ad128) l0_0.length c0_0] 24 (0, 0)) (by (with_reducible repeat (first | refine bN ?_ _ | refine bD ?_ | refine bA ?_ _)); exact BK126.out) hb); have n1_ := Aside0.mk (below_step (by repeat (first | (with_reducible first | exact HB.out | apply wA | apply wN | apply wD | refine wS ?_ GE126.out) | exact HB.out)) hb); have n2_ := Aside0.mk (hbox); have n3_ := Aside0.mk ((by rw [hg]; exact (below_size (by repeat (first | (with_reducible first | exact HB.out | apply wA | apply wN | apply wD | refine wS ?_ GE126.out) | exact HB.out))) : w.heap.size ≤ gb129)); have n4_ := Aside0.mk ((by rw [hg]; exact (below_size (by repeat (first | (with_reducible first | exact HB.out | apply wA | apply wN | apply wD | refine wS ?_ GE126.out) | exact HB.out))) : w.heap.size ≤ gb129)); have n5_ := Aside0.mk ((by rw [hg]; exact Nat.ne_of_lt (blk_lt (g := gb126) (o := .cells #[.slice (some ad128) l0_0.length c0_0] 24 (0, 0)) (by (with_reducible repeat (first | refine bN ?_ _ | refine bD ?_ | refine bA ?_ _)); exact BK126.out)) : gb126 ≠ gb129)); have n6_ := Aside0.mk ((by rw [hg]; exact Nat.ne_of_gt (blk_lt (g := gb126) (o := .cells #[.slice (some ad128) l0_0.length c0_0] 24 (0, 0)) (by (with_reducible repeat (first | refine bN ?_ _ | refine bD ?_ | refine bA ?_ _)); exact BK126.out)) : gb129 ≠ gb126)); clear BK126; clear HB; have BK126 := n0_; have HB := n1_; have BK129 := n2_; have GW129 := n3_; have GE129 := n4_; have NB126_129 := n5_; have NB129_126 := n6_; clear n0_ n1_ n2_ n3_ n4_ n5_ n6_; clear hb hbox hg; have hnb13 := NB129_126.out; have hnc13 := NB126_129.out; have hcz14_0 : w12.cell? ⟨gb129, 0, none⟩ = some (.int .i64 0) := (bC BK129.out 0).trans rfl; have hcz14_1 : w12.cell? ⟨gb129, 1, none⟩ = some (.int .i64 0) := (bC BK129.out 1).trans rfl; have hcz14_2 : w12.cell? ⟨gb129, 2, none⟩ = some (.int .i64 0) := (bC BK129.out 2).trans rfl; have hcz14_3 : w12.cell? ⟨gb129, 3, none⟩ = some (.slice none 0 0) := (bC BK129.out 3).trans rfl; have hcz14_4 : w12.cell? ⟨gb129, 4, none⟩ = some (.slice none 0 0) := (bC BK129.out 4).trans rfl; have hfz14_0 := bZ BK129.out 0; have hfz14_1 := bZ BK129.out 1; have hfz14_2 := bZ BK129.out 2; have hfz14_3 := bZ BK129.out 3; have hfz14_4 := bZ BK129.out 4) | ((with_reducible refine gate_callee (f := 46) rfl ?_); refine goesL_ (some 17) rfl rfl Try.func46 (by kernel_rfl) rfl #[.agg #[.int .i64 ((rd_T28 l0_0 x11_1).f0), .int .i64 ((rd_T28 l0_0 x11_1).f1), .int .i64 ((rd_T28 l0_0 x11_1).f2), .slice A128_3 ((rd_T28 l0_0 x11_1).f3).length c128_3, .slice A128_4 ((rd_T28 l0_0 x11_1).f4).length c128_4]] rfl (by (try simp only [List.map_toArray, List.map_cons, List.map_nil]); first | done | rfl | (simp only [List.length_drop, List.length_take]; rfl)) ?_; (with_reducible refine (node_Pages.calls k1 ((rd_T28 l0_0 x11_1).f0) ((rd_T28 l0_0 x11_1).f1) ((rd_T28 l0_0 x11_1).f2) _ _ ((rd_T28 l0_0 x11_1).f3) _ _ ((rd_T28 l0_0 x11_1).f4) t130 _ ?side1 ?side2 ?side3 ?side4 A11.out).mono ?_); (case side1 => exact Kd.C_below HR128_3.out (by repeat (first | (with_reducible first | exact HB.out | apply wA | apply wN | apply wD | refine wS ?_ GE126.out | refine wS ?_ GE129.out) | exact HB.out))); (case side2 => exact HC128_3.out); (case side3 => exact Kd.C_below HR128_4.out (by repeat (first | (with_reducible first | exact HB.out | apply wA | apply wN | apply wD | refine wS ?_ GE126.out | refine wS ?_ GE129.out) | exact HB.out))); (case side4 => exact HC128_4.out); rintro e w15 ⟨rfl, hb⟩; refine ⟨_, rfl, ?_⟩; have n0_ := Aside0.mk (bB (g := gb126) (o := .cells #[.slice (some ad128) l0_0.length c0_0] 24 (0, 0)) (by (with_reducible repeat (first | refine bN ?_ _ | refine bD ?_ | refine bA ?_ _)); refine bF ?_ NB126_129.out _; (with_reducible repeat (first | refine bN ?_ _ | refine bD ?_ | refine bA ?_ _)); refine bF ?_ NB126_129.out _; (with_reducible repeat (first | refine bN ?_ _ | refine bD ?_ | refine bA ?_ _)); refine bF ?_ NB126_129.out _; (with_reducible repeat (first | refine bN ?_ _ | refine bD ?_ | refine bA ?_ _)); refine bF ?_ NB126_129.out _; (with_reducible repeat (first | refine bN ?_ _ | refine bD ?_ | refine bA ?_ _)); refine bF ?_ NB126_129.out _; (with_reducible repeat (first | refine bN ?_ _ | refine bD ?_ | refine bA ?_ _)); exact BK126.out) hb); have n1_ := Aside0.mk (bB (g := gb129) (o := .cells #[.int .i64 ((rd_T28 l0_0 x11_1).f0), .int .i64 ((rd_T28 l0_0 x11_1).f1), .int .i64 ((rd_T28 l0_0 x11_1).f2), .slice A128_3 ((rd_T28 l0_0 x11_1).f3).length c128_3, .slice A128_4 ((rd_T28 l0_0 x11_1).f4).length c128_4] 28 (0, 0)) (by (with_reducible repeat (first | refine bN ?_ _ | refine bD ?_ | refine bA ?_ _)); refine blk_put (cs := #[.int .i64 ((rd_T28 l0_0 x11_1).f0), .int .i64 ((rd_T28 l0_0 x11_1).f1), .int .i64 ((rd_T28 l0_0 x11_1).f2), .slice A128_3 ((rd_T28 l0_0 x11_1).f3).length c128_3, .slice none 0 0]) ?_ 4 _ rfl; (with_reducible repeat (first | refine bN ?_ _ | refine bD ?_ | refine bA ?_ _)); refine blk_put (cs := #[.int .i64 ((rd_T28 l0_0 x11_1).f0), .int .i64 ((rd_T28 l0_0 x11_1).f1), .int .i64 ((rd_T28 l0_0 x11_1).f2), .slice none 0 0, .slice none 0 0]) ?_ 3 _ rfl; (with_reducible repeat (first | refine bN ?_ _ | refine bD ?_ | refine bA ?_ _)); refine blk_put (cs := #[.int .i64 ((rd_T28 l0_0 x11_1).f0), .int .i64 ((rd_T28 l0_0 x11_1).f1), .int .i64 0, .slice none 0 0, .slice none 0 0]) ?_ 2 _ rfl; (with_reducible repeat (first | refine bN ?_ _ | refine bD ?_ | refine bA ?_ _)); refine blk_put (cs := #[.int .i64 ((rd_T28 l0_0 x11_1).f0), .int .i64 0, .int .i64 0, .slice none 0 0, .slice none 0 0]) ?_ 1 _ rfl; (with_reducible repeat (first | refine bN ?_ _ | refine bD ?_ | refine bA ?_ _)); refine blk_put (cs := #[.int .i64 0, .int .i64 0, .int .i64 0, .slice none 0 0, .slice none 0 0]) ?_ 0 _ rfl; (with_reducible repeat (first | refine bN ?_ _ | refine bD ?_ | refine bA ?_ _)); exact BK129.out) hb); have n2_ := Aside0.mk (below_step (by repeat (first | (with_reducible first | exact HB.out | apply wA | apply wN | apply wD | refine wS ?_ GE126.out | refine wS ?_ GE129.out) | exact HB.out)) hb); clear BK126; clear BK129; clear HB; have BK126 := n0_; have BK129 := n1_; have HB := n2_; clear n0_ n1_ n2_; (try clear hb); (try clear hb2); (try clear hk); (try clear hi)))
       go_roundg k1
       case measure => have := HK1.out; omega
       case rel => exact ⟨(wrap64 (x3_1 + t130)), (wrap64 (x11_1 + 1)), (by first | rfl | (simp; done) | (simp [*]; done)), (by first | rfl | (simp; done) | (simp [*]; done)), H', ⟨by have := HK1.out; omega⟩, ⟨by (with_reducible repeat (first | refine bN ?_ _ | refine bD ?_ | refine bA ?_ _)); exact BK126.out⟩, ⟨by repeat (first | (with_reducible first | exact HB.out | apply wA | apply wN | apply wD | refine wS ?_ GE126.out | refine wS ?_ GE129.out) | exact HB.out)⟩⟩
      ·
       rw [if_neg c10] at H; exact absurd H (by simp)
     ·
      rw [if_neg c9] at H; exact absurd H (by simp)
    ·
     rw [if_neg c8] at H; have c8b0 : decide (x11_1 < (l0_0.length : Int)) = false := decide_eq_false c8; clear c8; obtain rfl := Option.some.inj H
     go_wp2
     go_ret
     exact ⟨by first | rfl | exact congrArg (fun b_ => Ending.returned (Value.bool b_)) HRET.out | (rw [HRET.out]) | (simp [errW_none, errW_some] <;> rfl) | (simp [*, errW_none, errW_some] <;> rfl), by repeat (first | (with_reducible first | exact HB.out | apply wA | apply wN | apply wD | refine wS ?_ GE126.out) | exact HB.out)⟩
end Go.Proofs.Ytkigiehkckjlhaa.PMakes
