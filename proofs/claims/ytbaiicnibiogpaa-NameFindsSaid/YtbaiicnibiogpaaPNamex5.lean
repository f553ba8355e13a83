/- The Go functions that these laws reach, each as a Lean function with the same answers (a law itself where it answers true), and the proof that the code comes to them; conditions: those of each theorem. Laid by a program of this session over the print. -/
import Derived.Test.YtbaiicnibiogpaaPNamex0
namespace Go.Proofs.Ytbaiicnibiogpaa.PName
open Go.RowKit Go.Proofs.YtbaiicnibiogpaaW.PrintWords Go.Proofs.YtbaiicnibiogpaaW.PrintLast Go.Proofs.YtbaiicnibiogpaaW.PrintMore
attribute [local go_sem] max2_int min2_int max_two min_two max_three min_three max_four min_four   -- for this text's walks alone
set_option linter.unusedVariables false
set_option linter.unusedSimpArgs false
open Go.Proofs.YtbaiicnibiogpaaW.PrintWords renaming blk_drewN → bN, blk_drew → bD, blk_alloc → bA, below_set → wS, below_alloc → wA, pw_below_drewN → wN, below_drew1 → wD, blk_below → bB, blk_far → bF, blk_cell → bC, blk_frozen → bZ
open List renaming setIfInBounds_toArray → lT, set_cons_zero → l0_, set_cons_succ → lS

-- NOT PRINTED: function 52 (api_Entry_52)

/-! ### name_place: function 41 -/
theorem clo (s : ByteArray) (g : Nat) (W : World) (x : S38) (hc : W.cell? ⟨g, 0, none⟩ = some (.string s)) :
    Calls Try.prog 53 #[.agg #[.string x.f0, .int .i64 x.f1], .pointer (some ⟨g, 0, none⟩)] W fun e w' => e = .returned (.bool (x.f0.toList == s.toList)) ∧ Below W.heap.size W w' := by
  have hlt : g < W.heap.size := World.block_lt_of_cell? W _ hc
  have hne : g ≠ W.heap.size := Nat.ne_of_lt hlt
  go_enter Try.func53, Try.ntmps53
  go_wp2
  all_goals (go_ret; exact ⟨by simp_all, (Below.refl _ W).alloc (Nat.le_refl _) _⟩)

/-- The place of a name, counted from i; -1 where it is not. -/
def placeFrom : List S38 → List UInt8 → Int → Int
  | [], _, _ => -1
  | x :: r, s, i => if x.f0.toList = s then i else placeFrom r s (i + 1)

set_option maxHeartbeats 4000000 in
theorem idx (s : ByteArray) (g : Nat) (A : Option Addr) (l : List S38) (c : Nat) (w : World) (r : Int) (hg : w.cell? ⟨g, 0, none⟩ = some (.string s)) (hr : Kd.C k38 w A l.length l) (hc : l.length ≤ c) (hL : (l.length : Int) < 9223372036854775807) (hr_ : placeFrom l s.toList 0 = r) :
    Calls Try.prog 52 #[.slice A l.length c, .func (.func 53) #[] #[.pointer (some ⟨g, 0, none⟩)]] w fun e w' => e = .returned (.int .i64 r) ∧ Below w.heap.size w w' := by
  have hu38 := Try.underlying38; have HR0 := Aside0.mk hr; have HB := Aside0.mk (Below.refl w.heap.size w); have HP := Aside0.mk hr_; have LL := Aside0.mk hL; have HG := Aside0.mk hg; clear hr hc hr_ hL hg
  go_enter Try.func52, Try.ntmps52
  go_wp2
  go_loopg [5, 8] l.length (fun gk v5 v8 w' => ∃ kk : Nat, kk ≤ l.length ∧ l.length - kk ≤ gk ∧ v8 = .int .i64 kk ∧ Aside0 (placeFrom (l.drop kk) s.toList kk = r) ∧ Aside0 (Below w.heap.size w w'))
  case atStart => exact ⟨0, Nat.zero_le _, by omega, rfl, ⟨by simpa using HP.out⟩, HB⟩
  case round =>
    obtain ⟨kk, hkk, hgk, rfl, HQ, HB⟩ := hrel
    clear HP
    by_cases hlt : kk < l.length
    · have c3b0 : decide ((kk : Int) < (l.length : Int)) = true := decide_eq_true (by omega)
      have p124 : 0 ≤ (kk : Int) := by omega
      have q124 : (kk : Int) < (l.length : Int) := by omega
      obtain ⟨ad124, e124, hx124_0, hx124_1⟩ := at_T38 HR0.out kk p124 q124
      cases e124
      replace hx124_0 := (HB.out.cell (World.block_lt_of_cell? w _ hx124_0)).trans hx124_0; replace hx124_1 := (HB.out.cell (World.block_lt_of_cell? w _ hx124_1)).trans hx124_1; simp only [Int.toNat_natCast] at hx124_0 hx124_1; replace p124 := eq_true p124; replace q124 := eq_true q124
      have hd : l.drop kk = rd_T38 l kk :: l.drop (kk + 1) := by
        rw [List.drop_eq_getElem_cons hlt]; unfold rd_T38; rw [Int.toNat_natCast, List.getD_eq_getElem?_getD, List.getElem?_eq_getElem hlt]; rfl
      have hq := HQ.out
      rw [hd] at hq
      simp only [placeFrom] at hq
      have hW : kk + 1 ≤ l.length := hlt
      by_cases hn : (rd_T38 l kk).f0.toList = s.toList
      · rw [if_pos hn] at hq
        subst hq
        have HN := Aside0.mk hn; clear hn hd
        go_wp2_with (go_at_call 53; refine (clo s g _ (rd_T38 l kk) ((HB.out.cell (World.block_lt_of_cell? w _ HG.out)).trans HG.out)).mono ?_; rintro e w' ⟨rfl, hb'⟩; rw [show ((rd_T38 l kk).f0.toList == s.toList) = true from beq_iff_eq.2 HN.out])
        go_ret
        exact ⟨rfl, below_step HB.out hb'⟩
      · rw [if_neg hn] at hq
        have HN := Aside0.mk hn; have HQ := Aside0.mk hq; clear hn hd hq
        go_wp2_with (go_at_call 53; refine (clo s g _ (rd_T38 l kk) ((HB.out.cell (World.block_lt_of_cell? w _ HG.out)).trans HG.out)).mono ?_; rintro e w' ⟨rfl, hb'⟩; rw [show ((rd_T38 l kk).f0.toList == s.toList) = false from beq_eq_false_iff_ne.2 HN.out])
        go_roundg (l.length - (kk + 1))
        case measure => omega
        case rel =>
          have e_ : wrap64 ((kk : Int) + 1) = ((kk + 1 : Nat) : Int) := by have := LL.out; unfold wrap64; omega
          exact ⟨kk + 1, by omega, by omega, by rw [e_], ⟨by have := HQ.out; push_cast; exact this⟩, ⟨below_step HB.out hb'⟩⟩
    · have : kk = l.length := by omega
      subst this
      have hq := HQ.out
      rw [List.drop_length] at hq
      simp only [placeFrom] at hq
      subst hq
      go_wp2
      go_ret
      exact ⟨rfl, HB.out⟩

theorem place_walk (s : ByteArray) (A : Option Addr) (l : List S38) (c : Nat) (w : World) (hr : Kd.C k38 w A l.length l) (hc : l.length ≤ c) (hL : (l.length : Int) < 9223372036854775807) :
    Calls Try.prog 41 #[.slice A l.length c, .string s] w fun e w' => e = .returned (.int .i64 (placeFrom l s.toList 0)) ∧ Below w.heap.size w w' := by
  have hcon := idx s w.heap.size A l c (w.alloc (.cells #[.string s] 9)) _ (by simp) (Kd.C_alloc hr _) hc hL rfl
  generalize placeFrom l s.toList 0 = r at hcon ⊢
  go_enter Try.func41, Try.ntmps41
  go_wp2_with (go_at_call 52; refine hcon.mono ?_; rintro e w' ⟨rfl, hb'⟩)
  go_ret
  exact ⟨rfl, ((Below.refl _ w).alloc (Nat.le_refl _) _).trans (hb'.mono (by simp))⟩

def name_place.f (l0 : List (S38)) (a1 : ByteArray) : Option (Int) := if (l0.length : Int) < 9223372036854775807 then some (placeFrom l0 a1.toList 0) else none
theorem name_place.calls (A0 : Option Addr) (c0 : Nat) (l0 : List (S38)) (a1 : ByteArray) (r : Int) (w : World) (hr0 : Kd.C k38 w A0 l0.length l0) (hc0 : l0.length ≤ c0) (h : name_place.f l0 a1 = some r) :
 Calls Try.prog 41 #[.slice A0 l0.length c0, .string a1] w fun e w' => e = .returned (.int .i64 r) ∧ Below w.heap.size w w' := by
 unfold name_place.f at h
 by_cases hlim : (l0.length : Int) < 9223372036854775807
 ·
  rw [if_pos hlim] at h; obtain rfl := Option.some.inj h; exact place_walk a1 A0 l0 c0 w hr0 hc0 hlim
 ·
  rw [if_neg hlim] at h
  cases h

/-! ### api_Entry_54: function 54 -/
def api_Entry_54.f (l0 : List (S38)) (a1 : Int) : Option ((List (S38))) := if l0 = [] ∧ 0 ≤ a1 ∧ a1 < 5864062014805 then some [] else none
set_option maxHeartbeats 4000000 in
theorem grow_walk (n : Nat) (w : World) (hL : n < 5864062014805) :
    Calls Try.prog 54 #[.slice none 0 0, .int .i64 n] w fun e w' => ∃ v, e = .returned v ∧ Kd.R k38 38 w' w.heap.size (fun _ => True) v ([] : List (S38)) ∧ Below w.heap.size w w' := by
  have hm : (-9223372036854775808 : Int) ≤ (n : Int) ∧ (n : Int) ≤ 9223372036854775807 := by omega
  have hw : wrap64 ((n : Int)) = n := by unfold wrap64; omega
  have hn0 : ¬ (n : Int) < 0 := by omega
  by_cases hn : n = 0
  · subst hn
    go_enter Try.func54, Try.ntmps54
    go_wp2
    go_ret
    exact ⟨_, rfl, Kd.R_nil _ _ _ _ _, Below.refl _ _⟩
  · have hn1 : (0 : Int) < (n : Int) := by omega
    go_enter Try.func54, Try.ntmps54
    go_wp2_with ((with_reducible refine gate_builtin (b := .append) (xs := #[.tmp 20, .tmp 21]) rfl ?_); at_builtin; refine Kd.R_append_zeros k38 (w0 := w) w.heap.size rfl (.tmp 20) (.tmp 21) 26 3 38 (.agg #[.string ⟨#[]⟩, .int .i64 0]) 24 rfl Try.underlying26 Try.underlying3 info38 rfl (by decide) (by omega) (.slice none 0 0) [] z38 (n : Int) (fun _ => True) rfl rfl ?hz (fun _ _ => trivial) (Kd.R_nil _ _ _ _ _) (by omega) (Below.refl _ _) (Nat.le_refl _) ?hl ?_; (case hz => exact k38_mkM _ _ _ _); (case hl => simp only [List.length_nil, Int.toNat_natCast]; omega); intro v1 w1 HO hb hg hat; obtain ⟨A1, c1, hv1⟩ := Kd.R_slice HO; subst hv1; have HO' := Aside0.mk (Kd.R_take (m := 0) HO (Nat.zero_le _)); have HB := Aside0.mk hb; clear HO hb hg hat)
    go_ret
    exact ⟨_, rfl, HO'.out, HB.out⟩
theorem api_Entry_54.calls (A0 : Option Addr) (c0 : Nat) (l0 : List (S38)) (a1 : Int) (r : List (S38)) (w : World) (hA : A0 = none ∧ c0 = 0) (hc0 : l0.length ≤ c0) (h : api_Entry_54.f l0 a1 = some r) :
 Calls Try.prog 54 #[.slice A0 l0.length c0, .int .i64 a1] w fun e w' => ∃ v0_ : Value, e = .returned (v0_) ∧ Kd.R k38 38 w' w.heap.size (fun _ => True) v0_ r ∧ Below w.heap.size w w' := by
  obtain ⟨rfl, rfl⟩ := hA
  unfold api_Entry_54.f at h
  split at h
  · rename_i hc
    obtain ⟨rfl, h1, h2⟩ := hc
    obtain rfl := Option.some.inj h
    obtain ⟨n, rfl⟩ := Int.eq_ofNat_of_zero_le h1
    exact grow_walk n w (by omega)
  · cases h

/-! ### api_Entry_42: function 42 -/
mutual
def api_Entry_42.l0 : Nat → List (List (S38)) → Int → List (List (S38)) → Int → Int → Option ((List (S38)))
 | 0, _, _, _, _, _ => none
 | k + 1, x0, x3, x9, x10, x11 => if x11 < x10 then (if 0 ≤ x11 then (if x11 < (x9.length : Int) then (if (wrap64 (x3 + ((rd_L3 x9 x11).length : Int))) < 0 then (none) else (api_Entry_42.l0 k x0 (wrap64 (x3 + ((rd_L3 x9 x11).length : Int))) x9 x10 (wrap64 (x11 + 1)))) else (none)) else (none)) else ((api_Entry_54.f ([] : List (S38)) x3).bind fun t108 => (api_Entry_42.l1 k t108 x0 (x0.length : Int) 0))
def api_Entry_42.l1 : Nat → List (S38) → List (List (S38)) → Int → Int → Option ((List (S38)))
 | 0, _, _, _, _ => none
 | k + 1, x6, x25, x26, x27 => if x27 < x26 then (if 0 ≤ x27 then (if x27 < (x25.length : Int) then (if x6.length + (rd_L3 x25 x27).length < 5864062014805 then (api_Entry_42.l1 k (x6 ++ (rd_L3 x25 x27)) x25 x26 (wrap64 (x27 + 1))) else (none)) else (none)) else (none)) else (some x6)
end
def api_Entry_42.f (k : Nat) (l0 : List (List (S38))) : Option ((List (S38))) := api_Entry_42.l0 k l0 0 l0 (l0.length : Int) 0
theorem api_Entry_42.mono_l : ∀ k, (∀ y0 y1 y2 y3 y4, LeO (api_Entry_42.l0 k y0 y1 y2 y3 y4) (api_Entry_42.l0 (k + 1) y0 y1 y2 y3 y4)) ∧ (∀ y0 y1 y2 y3, LeO (api_Entry_42.l1 k y0 y1 y2 y3) (api_Entry_42.l1 (k + 1) y0 y1 y2 y3))
 | 0 => ⟨fun _ _ _ _ _ r h => by simp [api_Entry_42.l0] at h, fun _ _ _ _ r h => by simp [api_Entry_42.l1] at h⟩
 | k + 1 => by
  obtain ⟨ih0, ih1⟩ := api_Entry_42.mono_l k; refine ⟨?_, ?_⟩
  ·
   intro y0 y1 y2 y3 y4
   unfold api_Entry_42.l0
   repeat' first
   | (with_reducible exact ih0 _ _ _ _ _)
   | (with_reducible exact ih1 _ _ _ _)
   | (with_reducible exact LeO.refl _)
   | (with_reducible exact LeO.none _)
   | (with_reducible refine LeO.ite ?_ ?_)
   | (with_reducible refine LeO.bind ?_ (fun _ => ?_))
   | exact ih0 _ _ _ _ _
   | exact ih1 _ _ _ _
   | exact LeO.none _
   | refine LeO.ite ?_ ?_
   | refine LeO.bind ?_ (fun _ => ?_)
  ·
   intro y0 y1 y2 y3
   unfold api_Entry_42.l1
   repeat' first
   | (with_reducible exact ih0 _ _ _ _ _)
   | (with_reducible exact ih1 _ _ _ _)
   | (with_reducible exact LeO.refl _)
   | (with_reducible exact LeO.none _)
   | (with_reducible refine LeO.ite ?_ ?_)
   | (with_reducible refine LeO.bind ?_ (fun _ => ?_))
   | exact ih0 _ _ _ _ _
   | exact ih1 _ _ _ _
   | exact LeO.none _
   | refine LeO.ite ?_ ?_
   | refine LeO.bind ?_ (fun _ => ?_)
theorem api_Entry_42.mono : ∀ a0 k, LeO (api_Entry_42.f k a0) (api_Entry_42.f (k + 1) a0) := by
 intro a0 k; obtain ⟨ih0, ih1⟩ := api_Entry_42.mono_l k
 unfold api_Entry_42.f
 repeat' first
  | (with_reducible exact ih0 _ _ _ _ _)
  | (with_reducible exact ih1 _ _ _ _)
  | (with_reducible exact LeO.refl _)
  | (with_reducible exact LeO.none _)
  | (with_reducible refine LeO.ite ?_ ?_)
  | (with_reducible refine LeO.bind ?_ (fun _ => ?_))
  | exact ih0 _ _ _ _ _
  | exact ih1 _ _ _ _
  | exact LeO.none _
  | refine LeO.ite ?_ ?_
  | refine LeO.bind ?_ (fun _ => ?_)
set_option maxHeartbeats 8000000 in
set_option maxRecDepth 100000 in
theorem api_Entry_42.calls (k : Nat) (A0 : Option Addr) (c0 : Nat) (l0 : List (List (S38))) (r : List (S38)) (w : World) (hr0 : Kd.C (Kd.slice 38 k38) w A0 l0.length l0) (hc0 : l0.length ≤ c0) (h : api_Entry_42.f k l0 = some r) :
 Calls Try.prog 42 #[.slice A0 l0.length c0] w fun e w' => ∃ v0_ : Value, e = .returned (v0_) ∧ Kd.R k38 38 w' w.heap.size (fun _ => True) v0_ r ∧ Below w.heap.size w w' := by
 have HR0 := Aside0.mk hr0; have HC0 := Aside0.mk hc0; clear hr0 hc0; have HB := Aside0.mk (Below.refl w.heap.size w); have H : (api_Entry_42.l0 k l0 0 l0 (l0.length : Int) 0) = some r := h; clear h; have H' := Aside0.mk H; clear H
 go_enter Try.func42, Try.ntmps42
 go_wp2
 go_loopg [3, 11] k (fun kq v3 v11 w' => ∃ (x3_1 : Int) (x11_1 : Int), v3 = .int .i64 x3_1 ∧ v11 = .int .i64 x11_1 ∧ Aside0 (api_Entry_42.l0 kq l0 x3_1 l0 (l0.length : Int) x11_1 = some r) ∧ Aside0 (kq ≤ k) ∧ Aside0 (Below w.heap.size w w'))
 case atStart => exact ⟨(0), (0), (by first | rfl | (simp; done) | (simp [*]; done)), (by first | rfl | (simp; done) | (simp [*]; done)), H', ⟨Nat.le_refl _⟩, ⟨by repeat (first | (with_reducible first | exact HB.out | apply wA | apply wN | apply wD) | exact HB.out)⟩⟩
 case round =>
  clear H'; obtain ⟨x3_1, x11_1, rfl, rfl, HA, HK1, HB⟩ := hrel
  cases gk with
  | zero => exact absurd HA.out (by simp [api_Entry_42.l0])
  | succ k1 =>
   have H := HA.out; clear HA; simp only [api_Entry_42.l0] at H
   by_cases c2 : x11_1 < (l0.length : Int)
   ·
    rw [if_pos c2] at H; have c2b0 : decide (x11_1 < (l0.length : Int)) = true := decide_eq_true c2; clear c2
    by_cases c3 : 0 ≤ x11_1
    ·
     rw [if_pos c3] at H; have c3b0 : decide (0 ≤ x11_1) = true := decide_eq_true c3; clear c3
     by_cases c4 : x11_1 < (l0.length : Int)
     ·
      rw [if_pos c4] at H; have c4b0 : decide (x11_1 < (l0.length : Int)) = true := decide_eq_true c4; clear c4
      by_cases c5 : (wrap64 (x3_1 + ((rd_L3 l0 x11_1).length : Int))) < 0
      ·
       rw [if_pos c5] at H; exact absurd H (by simp)
      ·
       rw [if_neg c5] at H; have c5b0 : decide ((wrap64 (x3_1 + ((rd_L3 l0 x11_1).length : Int))) < 0) = false := decide_eq_false c5; clear c5; have H' := Aside0.mk H; clear H; have p107 : 0 ≤ (x11_1 : Int) := of_decide_eq_true (by first | (with_reducible assumption) | assumption); have q107 : x11_1 < (l0.length : Int) := of_decide_eq_true (by first | (with_reducible assumption) | assumption); obtain ⟨ad107, A107_0, c107_0, e107, hx107_0, hl107_0, hi107_0⟩ := at_L3 HR0.out x11_1 p107 q107
       cases e107
       replace hx107_0 := (HB.out.cell (World.block_lt_of_cell? w _ hx107_0)).trans hx107_0; have HR107_0 := Aside0.mk hi107_0; have HC107_0 := Aside0.mk hl107_0; clear hi107_0 hl107_0; replace p107 := eq_true p107; replace q107 := eq_true q107
       go_wp2
       go_roundg k1
       case measure => have := HK1.out; omega
       case rel => exact ⟨(wrap64 (x3_1 + ((rd_L3 l0 x11_1).length : Int))), (wrap64 (x11_1 + 1)), (by first | rfl | (simp; done) | (simp [*]; done)), (by first | rfl | (simp; done) | (simp [*]; done)), H', ⟨by have := HK1.out; omega⟩, ⟨by repeat (first | (with_reducible first | exact HB.out | apply wA | apply wN | apply wD) | exact HB.out)⟩⟩
     ·
      rw [if_neg c4] at H; exact absurd H (by simp)
    ·
     rw [if_neg c3] at H; exact absurd H (by simp)
   ·
    rw [if_neg c2] at H; have c2b0 : decide (x11_1 < (l0.length : Int)) = false := decide_eq_false c2; clear c2; replace H := Option.bind_eq_some_iff.mp H; obtain ⟨t108, A60, H⟩ := H; replace H : (api_Entry_42.l1 k1 t108 l0 (l0.length : Int) 0) = some r := H; have A6 := Aside0.mk A60; clear A60; have H' := Aside0.mk H; clear H
    go_wp2_with (first | ((with_reducible refine gate_callee (f := 54) rfl ?_); refine goesL_ (some 24) rfl rfl Try.func54 (by kernel_rfl) rfl #[.slice none 0 0, .int .i64 x3_1] rfl (by (try simp only [List.map_toArray, List.map_cons, List.map_nil]); first | done | rfl | (simp only [List.length_drop, List.length_take]; rfl)) ?_; (refine (api_Entry_54.calls _ _ ([] : List (S38)) x3_1 t108 _ ?side1 ?side2 A6.out).mono ?_); (case side1 => exact ⟨rfl, rfl⟩); (case side2 => exact Nat.le_refl _); rintro e w7 ⟨v109, rfl, ho0, hb⟩; refine ⟨_, rfl, ?_⟩; have n0_ := Aside0.mk (Kd.R_lower ho0 (below_size (by repeat (first | (with_reducible first | exact HB.out | apply wA | apply wN | apply wD) | exact HB.out)))); have n1_ := Aside0.mk (below_step (by repeat (first | (with_reducible first | exact HB.out | apply wA | apply wN | apply wD) | exact HB.out)) hb); clear HB; have HO110 := n0_; have HB := n1_; clear n0_ n1_; (try clear hb); (try clear hb2); (try clear hk); (try clear hi); (try clear ho0)))
    go_loopg [6, 27] k1 (fun kq v6 v27 w' => ∃ (x6_2 : List (S38)) (x27_2 : Int), v27 = .int .i64 x27_2 ∧ Aside0 (api_Entry_42.l1 kq x6_2 l0 (l0.length : Int) x27_2 = some r) ∧ Aside0 (kq ≤ k1) ∧ Aside0 (Kd.R k38 38 w' w.heap.size (fun _ => True) v6 x6_2) ∧ Aside0 (Below w.heap.size w w'))
    case atStart => exact ⟨(t108), (0), (by first | rfl | (simp; done) | (simp [*]; done)), H', ⟨Nat.le_refl _⟩, ⟨by (with_reducible repeat (first | apply Kd.R_alloc | apply Kd.R_drewN | apply Kd.R_drew)); exact HO110.out⟩, ⟨by repeat (first | (with_reducible first | exact HB.out | apply wA | apply wN | apply wD) | exact HB.out)⟩⟩
    case round =>
     clear H'
     try clear c1
     try clear p1
     try clear q1
     try clear hx1
     try clear c2
     try clear c2b0
     try clear p2
     try clear c3
     try clear c3b0
     try clear c4
     try clear c4b0
     try clear c5
     try clear c5b0
     try clear p6
     try clear hx107_0
     try clear p107
     try clear q107
     obtain ⟨x6_2, x27_2, rfl, HA, HK2, HO_6, HB⟩ := hrel
     cases gk with
     | zero => exact absurd HA.out (by simp [api_Entry_42.l1])
     | succ k2 =>
      have H := HA.out; clear HA; simp only [api_Entry_42.l1] at H
      by_cases c8 : x27_2 < (l0.length : Int)
      ·
       rw [if_pos c8] at H; have c8b0 : decide (x27_2 < (l0.length : Int)) = true := decide_eq_true c8; clear c8
       by_cases c9 : 0 ≤ x27_2
       ·
        rw [if_pos c9] at H; have c9b0 : decide (0 ≤ x27_2) = true := decide_eq_true c9; clear c9
        by_cases c10 : x27_2 < (l0.length : Int)
        ·
         rw [if_pos c10] at H; have c10b0 : decide (x27_2 < (l0.length : Int)) = true := decide_eq_true c10; clear c10
         by_cases c11 : x6_2.length + (rd_L3 l0 x27_2).length < 5864062014805
         ·
          rw [if_pos c11] at H; have LMc11 := Aside0.mk c11; clear c11; obtain ⟨y112, hy112⟩ : ∃ y_ : List (S38), y_ = (x6_2 ++ (rd_L3 l0 x27_2)) := ⟨_, rfl⟩
          replace H : (api_Entry_42.l1 k2 y112 l0 (l0.length : Int) (wrap64 (x27_2 + 1))) = some r := by first | (rw [hy112]; with_reducible exact H) | (have H2_ := (Option.bind_some _ _).symm.trans H; rw [hy112]; with_reducible exact H2_) | (have H2_ := (Option.bind_some _ _).symm.trans H; with_reducible exact H2_) | with_reducible exact H | (rw [hy112]; exact H) | exact H
          have Ny112 := Aside0.mk hy112; clear hy112; have H' := Aside0.mk H; clear H; have p111 : 0 ≤ (x27_2 : Int) := of_decide_eq_true (by first | (with_reducible assumption) | assumption); have q111 : x27_2 < (l0.length : Int) := of_decide_eq_true (by first | (with_reducible assumption) | assumption); obtain ⟨ad111, A111_0, c111_0, e111, hx111_0, hl111_0, hi111_0⟩ := at_L3 HR0.out x27_2 p111 q111
          cases e111
          replace hx111_0 := (HB.out.cell (World.block_lt_of_cell? w _ hx111_0)).trans hx111_0; have HR111_0 := Aside0.mk hi111_0; have HC111_0 := Aside0.mk hl111_0; clear hi111_0 hl111_0; replace p111 := eq_true p111; replace q111 := eq_true q111
          go_wp2_with (first | ((with_reducible refine gate_builtin (b := .append) (xs := #[.tmp 31, .tmp 32]) rfl ?_); at_builtin; refine Kd.R_append_rows k38 (w0 := w) w.heap.size rfl (.tmp 31) (.tmp 32) 26 38 (.agg #[(.string ⟨#[]⟩), (.int .i64 0)]) 24 rfl Try.underlying26 info38 rfl (by decide) (by omega) u6 x6_2 (rd_L3 l0 x27_2) _ _ _ (fun _ => True) (fun _ => False) rfl rfl ?aO ?aR (fun _ _ h => h) (fun _ h => h.elim) ?aF ?aB ?aS ?aL ?_; (case aR => repeat (first | exact (Kd.C_below HR111_0.out HB.out) | (with_reducible refine Kd.C_alloc ?_ _) | (with_reducible refine Kd.C_drewN ?_ _) | (with_reducible refine Kd.C_drew ?_))); (case aB => exact (by repeat (first | (with_reducible first | exact HB.out | apply wA | apply wN | apply wD) | exact HB.out))); (case aF => exact (fun _ _ => trivial)); (case aO => exact (by (with_reducible repeat (first | apply Kd.R_alloc | apply Kd.R_drewN | apply Kd.R_drew)); exact HO_6.out)); (case aS => exact (below_size (by repeat (first | (with_reducible first | exact HB.out | apply wA | apply wN | apply wD) | exact HB.out)))); (case aL => have := LMc11.out; omega); intro v113 w12 ho hb hg hat; rw [← Ny112.out] at ho; have n0_ := Aside0.mk (hb); have n1_ := Aside0.mk (ho); clear HB; clear HO_6; have HB := n0_; have HO114 := n1_; clear n0_ n1_; clear ho hb hg hat))
          go_roundg k2
          case measure => have := HK1.out; have := HK2.out; omega
          case rel => exact ⟨(y112), (wrap64 (x27_2 + 1)), (by first | rfl | (simp; done) | (simp [*]; done)), H', ⟨by have := HK1.out; have := HK2.out; omega⟩, ⟨by (with_reducible repeat (first | apply Kd.R_alloc | apply Kd.R_drewN | apply Kd.R_drew)); exact HO114.out⟩, ⟨by repeat (first | (with_reducible first | exact HB.out | apply wA | apply wN | apply wD) | exact HB.out)⟩⟩
         ·
          rw [if_neg c11] at H; exact absurd H (by simp)
        ·
         rw [if_neg c10] at H; exact absurd H (by simp)
       ·
        rw [if_neg c9] at H; exact absurd H (by simp)
      ·
       rw [if_neg c8] at H; have c8b0 : decide (x27_2 < (l0.length : Int)) = false := decide_eq_false c8; clear c8; obtain rfl := Option.some.inj H
       go_wp2
       go_ret
       exact ⟨_, by first | rfl | exact congrArg (fun b_ => Ending.returned (Value.bool b_)) HRET.out | (rw [HRET.out]) | (simp [errW_none, errW_some] <;> rfl) | (simp [*, errW_none, errW_some] <;> rfl), by (with_reducible repeat (first | apply Kd.R_alloc | apply Kd.R_drewN | apply Kd.R_drew)); exact HO_6.out, by repeat (first | (with_reducible first | exact HB.out | apply wA | apply wN | apply wD) | exact HB.out)⟩

end Go.Proofs.Ytbaiicnibiogpaa.PName
