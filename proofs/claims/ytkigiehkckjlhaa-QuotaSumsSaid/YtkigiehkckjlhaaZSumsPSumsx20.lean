/- The Go functions that these laws reach, each as a Lean function with the same answers (a law itself where it answers true), and the proof that the code comes to them; conditions: those of each theorem. Laid by a program of this session over the print. -/
import Derived.Test.YtkigiehkckjlhaaZSumsPSumsx0
import Derived.Test.YtkigiehkckjlhaaZSumsPSumsx17
import Derived.Test.YtkigiehkckjlhaaZSumsPSumsx19
namespace Go.Proofs.Ytkigiehkckjlhaa.PSums
open Go.RowKit Go.Proofs.YtkigiehkckjlhaaW.PrintWords Go.Proofs.YtkigiehkckjlhaaW.PrintLast Go.Proofs.YtkigiehkckjlhaaW.PrintMore
attribute [local go_sem] max2_int min2_int max_two min_two max_three min_three max_four min_four   -- for this text's walks alone
set_option linter.unusedVariables false
set_option linter.unusedSimpArgs false
open Go.Proofs.YtkigiehkckjlhaaW.PrintWords renaming blk_drewN → bN, blk_drew → bD, blk_alloc → bA, below_set → wS, below_alloc → wA, pw_below_drewN → wN, below_drew1 → wD, blk_below → bB, blk_far → bF, blk_cell → bC, blk_frozen → bZ
open List renaming setIfInBounds_toArray → lT, set_cons_zero → l0_, set_cons_succ → lS
/-- A node, but none where it is a file without a name. -/
def clr1 (x : S28) : S28 := if x.f0 = 1 ∧ x.f1 = 0 then z28 else x
/-- A tree's nodes without files that have no names. -/
def clr (l : List S28) : List S28 := l.map clr1
/-- The first i nodes are cleared. -/
def clrTo (l : List S28) (i : Nat) : List S28 := (l.take i).map clr1 ++ l.drop i
theorem clrTo_len (l : List S28) (i : Nat) : (clrTo l i).length = l.length := by
 unfold clrTo; rw [List.length_append, List.length_map, List.length_take, List.length_drop]; omega
theorem clrTo_get (l : List S28) (i : Nat) (h : i < l.length) : (clrTo l i).getD i z28 = l.getD i z28 := by
 unfold clrTo
 rw [List.getD_eq_getElem?_getD, List.getElem?_append_right (by rw [List.length_map, List.length_take]; omega), List.length_map, List.length_take, List.getElem?_drop, List.getD_eq_getElem?_getD]
 congr 2; omega
theorem clrTo_step (l : List S28) (i : Nat) (h : i < l.length) : clrTo l (i + 1) = (clrTo l i).set i (clr1 (l.getD i z28)) := by
 unfold clrTo
 have hl : ((l.take i).map clr1).length = i := by rw [List.length_map, List.length_take]; omega
 rw [List.take_succ_eq_append_getElem h, List.map_append, List.set_append, if_neg (by omega), hl, Nat.sub_self, List.drop_eq_getElem_cons h, l0_, List.append_assoc, List.getD_eq_getElem?_getD, List.getElem?_eq_getElem h]; rfl
theorem clrTo_same (l : List S28) (i : Nat) (h : i < l.length) (hx : clr1 (l.getD i z28) = l.getD i z28) : clrTo l (i + 1) = clrTo l i := by
 rw [clrTo_step l i h, hx]
 apply List.ext_getElem?
 intro j; rw [List.getElem?_set]
 by_cases c : i = j
 ·
  subst c
  have h2 : i < (clrTo l i).length := by rw [clrTo_len]; exact h
  rw [if_pos rfl, if_pos h2, ← clrTo_get l i h, List.getD_eq_getElem?_getD, List.getElem?_eq_getElem h2]; rfl
 ·
  rw [if_neg c]
theorem clrTo_all (l : List S28) (i : Nat) (h : l.length ≤ i) : clrTo l i = clr l := by
 unfold clrTo clr
 rw [List.take_of_length_le h, List.drop_eq_nil_iff.2 h, List.append_nil]
/-- Element i of a row of nodes: its five cells. -/
theorem row28 {w : World} {base g n cap : Nat} {xs : List S28} (h_ : Kd.S k28 28 w base (fun _ => True) (.slice (some ⟨g, 0, none⟩) n cap) xs) (i : Nat) (hi : i < n) :
 ∃ A3 c3 A4 c4, (w.cell? ⟨g, i * 5, none⟩ = some (.int .i64 (xs.getD i z28).f0) ∧ w.cell? ⟨g, i * 5 + 1, none⟩ = some (.int .i64 (xs.getD i z28).f1) ∧ w.cell? ⟨g, i * 5 + 2, none⟩ = some (.int .i64 (xs.getD i z28).f2) ∧
  w.cell? ⟨g, i * 5 + 3, none⟩ = some (.slice A3 (xs.getD i z28).f3.length c3) ∧ w.cell? ⟨g, i * 5 + 4, none⟩ = some (.slice A4 (xs.getD i z28).f4.length c4)) ∧
  (∀ j, w.frozen? ⟨g, i * 5 + j, none⟩ = false) ∧ (xs.getD i z28).f3.length ≤ c3 ∧ (xs.getD i z28).f4.length ≤ c4 := by
 obtain ⟨c, hcl, hM, hc, hf⟩ := Kd.R_elem (Kd.S_R h_) z28 (i : Int) (by omega) (by omega); rw [Int.toNat_natCast] at hM hc hf; obtain ⟨v3, v4, rfl, h3, h4⟩ := k28_openM hM; have r3 := Kd.R_reads h3; have r4 := Kd.R_reads h4; obtain ⟨A3, c3, rfl, l3, _⟩ := r3; obtain ⟨A4, c4, rfl, l4, _⟩ := r4; have hs : k28.sz = 5 := rfl; rw [hs] at hc hf; exact ⟨A3, c3, A4, c4, ⟨hc 0 _ rfl, hc 1 _ rfl, hc 2 _ rfl, hc 3 _ rfl, hc 4 _ rfl⟩, hf, l3, l4⟩
/-- Element i of a row of nodes is written with none. -/
theorem none28 {w : World} {base g n cap : Nat} {xs : List S28} (h : Kd.S k28 28 w base (fun _ => True) (.slice (some ⟨g, 0, none⟩) n cap) xs) (i : Nat) (hi : i < n) :
 Kd.S k28 28 (((((w.setCell ⟨g, i * 5, none⟩ (.int .i64 0)).setCell ⟨g, i * 5 + 1, none⟩ (.int .i64 0)).setCell ⟨g, i * 5 + 2, none⟩ (.int .i64 0)).setCell ⟨g, i * 5 + 3, none⟩ (.slice none 0 0)).setCell ⟨g, i * 5 + 4, none⟩ (.slice none 0 0)) base (fun _ => True) (.slice (some ⟨g, 0, none⟩) n cap) (xs.set i z28) := by
 obtain ⟨oki, c, hcl, hM, hc, hf, ho, hH⟩ := Kd.S_elem h z28 (i : Int) (by omega) (by omega); have hs : k28.sz = 5 := rfl
 have := (Kd.S_seg0 (okp := fun _ => False) hH (by omega) (by omega) (seg := [.int .i64 0, .int .i64 0, .int .i64 0, .slice none 0 0, .slice none 0 0]) (j := 0) (x' := z28) (by rw [hs]; decide)
  (by rw [List.take_zero, List.nil_append, List.drop_eq_nil_iff.2 (by rw [hcl, hs]; decide), List.append_nil]; exact k28_mkM w base _ z28 (Kd.R_nil _ _ _ _ _) (Kd.R_nil _ _ _ _ _)) (fun k hk => hk.elim)).1
 rw [Int.toNat_natCast] at this; exact this
theorem far28 {w : World} {g b i t : Nat} {cs : Array Value} (h : w.heap[b]? = some (.cells cs t (0, 0))) (hne : b ≠ g) (a0 a1 a2 a3 a4 : Value) : (((((w.setCell ⟨g, i * 5, none⟩ a0).setCell ⟨g, i * 5 + 1, none⟩ a1).setCell ⟨g, i * 5 + 2, none⟩ a2).setCell ⟨g, i * 5 + 3, none⟩ a3).setCell ⟨g, i * 5 + 4, none⟩ a4).heap[b]? = some (.cells cs t (0, 0)) :=
 bF (bF (bF (bF (bF h hne _) hne _) hne _) hne _) hne _
theorem bel28 {w0 w : World} {g i : Nat} (h : Below w0.heap.size w0 w) (hg : w0.heap.size ≤ g) (a0 a1 a2 a3 a4 : Value) : Below w0.heap.size w0 (((((w.setCell ⟨g, i * 5, none⟩ a0).setCell ⟨g, i * 5 + 1, none⟩ a1).setCell ⟨g, i * 5 + 2, none⟩ a2).setCell ⟨g, i * 5 + 3, none⟩ a3).setCell ⟨g, i * 5 + 4, none⟩ a4) :=
 wS (wS (wS (wS (wS h hg) hg) hg) hg) hg
theorem own5_R {w : World} {base g : Nat} {v : Value} {xs : List S28} (h : Kd.S k28 28 w base (fun k => True ∧ k ≠ g) v xs) (a0 a1 a2 a3 a4 : Value) :
 Kd.S k28 28 (((((w.setCell ⟨g, 0, none⟩ a0).setCell ⟨g, 1, none⟩ a1).setCell ⟨g, 2, none⟩ a2).setCell ⟨g, 3, none⟩ a3).setCell ⟨g, 4, none⟩ a4) base (fun _ => True) v xs :=
 Kd.S_mono (Kd.S_far (p := ⟨g, 4, none⟩) (Kd.S_far (p := ⟨g, 3, none⟩) (Kd.S_far (p := ⟨g, 2, none⟩) (Kd.S_far (p := ⟨g, 1, none⟩) (Kd.S_far (p := ⟨g, 0, none⟩) h (fun _ hk => hk.2) a0) (fun _ hk => hk.2) a1) (fun _ hk => hk.2) a2) (fun _ hk => hk.2) a3) (fun _ hk => hk.2) a4) (fun _ _ => trivial)
theorem R_one24 {w : World} {base g : Nat} {v : Value} {xs : List S28} {cs : Array Value} (h : Kd.S k28 28 w base (fun _ => True) v xs) (hb : w.heap[g]? = some (.cells cs 24 (0, 0))) (a : Value) : Kd.S k28 28 (w.setCell ⟨g, 0, none⟩ a) base (fun _ => True) v xs :=
 Kd.S_mono (Kd.S_far (p := ⟨g, 0, none⟩) (Kd.S_types h hb (by decide)) (fun _ hk => hk.2) a) (fun _ _ => trivial)
set_option maxHeartbeats 8000000 in
set_option maxRecDepth 100000 in
theorem clear_walk (k : Nat) (A : Option Addr) (c : Nat) (l : List S28) (r : List S28) (w : World) (hr : Kd.C k28 w A l.length l) (hc : l.length ≤ c) (h : ((potsherdref12_MayTree.f k l).bind fun b => if b = true then (potsherdref12_CopyTree.f k l).bind fun q => if q.length = 12 then some (clr q) else none else some []) = some r) :
 Calls Try.prog 30 #[.agg #[.slice A l.length c]] w fun e w' => ∃ v0_ : Value, e = .returned (.agg #[v0_]) ∧ Kd.S k28 28 w' w.heap.size (fun _ => True) v0_ r ∧ Below w.heap.size w w' := by
 have hu24 := Try.underlying24; have hu28 := Try.underlying28; have HB := Aside0.mk (Below.refl w.heap.size w); obtain ⟨b, hb, h⟩ := Option.bind_eq_some_iff.mp h; have HR := Aside0.mk hr; have HC := Aside0.mk hc; have HM := Aside0.mk hb; have H := Aside0.mk h; clear hr hc hb h
 go_enter Try.func30, Try.ntmps30
 go_upto_if 8 with (first | ((with_reducible refine gate_dst (N := 1) rfl ?_); (try (refine gate_guard (by rfl) ?_; dsimp only)); refine box_event ?hg (N := 1) ?hd (cs := #[.slice A l.length c]) (t := 24) ?hr ?_; (case hd => rfl); (case hg => rfl); (case hr => first | (go_simp; done) | (go_simp; rfl)); intro bt hg_ w1 hbox hb; have GT := Aside0.mk (show w.heap.size ≤ bt from by rw [hg_]; exact HB.out.size); have BT := Aside0.mk hbox; have m_HB := Aside0.mk (below_step HB.out hb); clear HB; have HB := m_HB; clear m_HB; clear hg_ hbox hb) | ((with_reducible refine gate_dst (N := 2) rfl ?_); (try (refine gate_guard (by rfl) ?_; dsimp only)); refine box_event ?hg (N := 2) ?hd (cs := #[.slice none 0 0]) (t := 24) ?hr ?_; (case hd => rfl); (case hg => rfl); (case hr => first | (go_simp; done) | (go_simp; rfl)); intro br hg_ w2 hbox hb; have NTR := Aside0.mk (show bt ≠ br from by rw [hg_]; exact Nat.ne_of_lt (blk_lt BT.out)); have GR := Aside0.mk (show w.heap.size ≤ br from by rw [hg_]; exact HB.out.size); have BR := Aside0.mk hbox; have m_BT := Aside0.mk (bB BT.out hb); have m_HB := Aside0.mk (below_step HB.out hb); clear BT HB; have BT := m_BT; have HB := m_HB; clear m_BT m_HB; have ht0 : w2.cell? ⟨bt, 0, none⟩ = some (.slice A l.length c) := (bC BT.out 0).trans rfl; clear hg_ hbox hb) | (go_at_call 29; refine (potsherdref12_MayTree.calls k A c l b _ (Kd.C_below HR.out HB.out) HC.out HM.out).mono ?_; rintro e_ w3 ⟨rfl, hb⟩; have m_BT := Aside0.mk (bB BT.out hb); have m_BR := Aside0.mk (bB BR.out hb); have m_HB := Aside0.mk (below_step HB.out hb); clear BT BR HB; have BT := m_BT; have BR := m_BR; have HB := m_HB; clear m_BT m_BR m_HB; clear hb ht0))
 cases b with
 | false =>
  obtain rfl := Option.some.inj (show some [] = some r from H.out); have hz0 : w3.cell? ⟨br, 0, none⟩ = some (.slice none 0 0) := (bC BR.out 0).trans rfl; have hf0 := bZ BR.out 0
  go_wp2
  refine bodyPost_ret (results_cell_row rfl _ _ br 24 #[.slice none 0 0] (0, 0) _ rfl (by (with_reducible repeat (first | refine bN ?_ _ | refine bD ?_ | refine bA ?_ _)); refine blk_put (cs := #[.slice none 0 0]) ?_ 0 _ rfl; (with_reducible repeat (first | refine bN ?_ _ | refine bD ?_ | refine bA ?_ _)); exact BR.out) Try.underlying24 rfl (by kernel_rfl)) rfl ?_
  exact ⟨_, rfl, Kd.S_nil _ _ _ _ _, wS HB.out GR.out⟩
 | true =>
  have h := H.out; clear H; rw [if_pos rfl] at h; obtain ⟨q, hq, h⟩ := Option.bind_eq_some_iff.mp h
  by_cases hl : q.length = 12
  case neg => rw [if_neg hl] at h; cases h
  case pos =>
   rw [if_pos hl] at h; obtain rfl := Option.some.inj h; have HQ := Aside0.mk hq; have HL := Aside0.mk hl; clear hq hl h; have ht0 : w3.cell? ⟨bt, 0, none⟩ = some (.slice A l.length c) := (bC BT.out 0).trans rfl
   go_upto_region 4 with (first | (go_at_call 32; refine (potsherdref12_CopyTree.calls k A c l q _ (Kd.C_below HR.out HB.out) HC.out HQ.out).mono ?_; rintro e_ w4 ⟨v0, rfl, ho, hb⟩; have HO := Aside0.mk (Kd.S_lower ho (below_size HB.out)); clear ho; have m_BT := Aside0.mk (bB BT.out hb); have m_BR := Aside0.mk (bB BR.out hb); have m_HB := Aside0.mk (below_step HB.out hb); clear BT BR HB; have BT := m_BT; have BR := m_BR; have HB := m_HB; clear m_BT m_BR m_HB; clear hb ht0; obtain ⟨g, cq, e0, -⟩ := Kd.S_form HO.out (by rw [HL.out]; decide); subst e0; rw [HL.out] at HO ⊢) | ((with_reducible refine gate_dst (N := 3) rfl ?_); (try (refine gate_guard (by rfl) ?_; dsimp only)); refine box_event ?hg (N := 3) ?hd (cs := #[.slice none 0 0]) (t := 24) ?hr ?_; (case hd => rfl); (case hg => rfl); (case hr => first | (go_simp; done) | (go_simp; rfl)); intro bo hg_ w5 hbox hb; have NTO := Aside0.mk (show bt ≠ bo from by rw [hg_]; exact Nat.ne_of_lt (blk_lt BT.out)); have NRO := Aside0.mk (show br ≠ bo from by rw [hg_]; exact Nat.ne_of_lt (blk_lt BR.out)); have GO := Aside0.mk (show w.heap.size ≤ bo from by rw [hg_]; exact HB.out.size); have BO := Aside0.mk hbox; have m_BT := Aside0.mk (bB BT.out hb); have m_BR := Aside0.mk (bB BR.out hb); have m_HB := Aside0.mk (below_step HB.out hb); have m_HO := Aside0.mk (Kd.S_below HO.out hb); clear BT BR HB HO; have BT := m_BT; have BR := m_BR; have HB := m_HB; have HO := m_HO; clear m_BT m_BR m_HB m_HO; have hz0 : w5.cell? ⟨bo, 0, none⟩ = some (.slice none 0 0) := (bC BO.out 0).trans rfl; have hf0 := bZ BO.out 0; clear hg_ hbox hb))
   have n0_ := Aside0.mk (bF (p := ⟨bo, 0, none⟩) BT.out NTO.out (.slice (some ⟨g, 0, none⟩) 12 cq)); have n1_ := Aside0.mk (bF (p := ⟨bo, 0, none⟩) BR.out NRO.out (.slice (some ⟨g, 0, none⟩) 12 cq)); have n2_ := Aside0.mk (blk_put (cs := #[.slice none 0 0]) BO.out 0 (.slice (some ⟨g, 0, none⟩) 12 cq) rfl); have n3_ := Aside0.mk (R_one24 HO.out BO.out (.slice (some ⟨g, 0, none⟩) 12 cq)); have n4_ := Aside0.mk (wS (j := 0) HB.out GO.out (v := .slice (some ⟨g, 0, none⟩) 12 cq)); clear BT BR BO HO HB hz0 hf0; generalize w5.setCell ⟨bo, 0, none⟩ (.slice (some ⟨g, 0, none⟩) 12 cq) = w6 at n0_ n1_ n2_ n3_ n4_ ⊢; have BT := n0_; have BR := n1_; have BO := Aside0.mk (show w6.heap[bo]? = some (.cells #[.slice (some ⟨g, 0, none⟩) 12 cq] 24 (0, 0)) from n2_.out); have HO := n3_; have HB := n4_; clear n0_ n1_ n2_ n3_ n4_; have ho0 : w6.cell? ⟨bo, 0, none⟩ = some (.slice (some ⟨g, 0, none⟩) 12 cq) := (bC BO.out 0).trans rfl; have GG := Aside0.mk (show w.heap.size ≤ g from Kd.S_base HO.out g rfl)
   go_wp2
   clear ho0
   go_loopg [15] 12 (fun gk v15 w' => ∃ i : Nat, v15 = .int .i64 i ∧ i ≤ 12 ∧ 12 - i ≤ gk ∧ Aside0 (w'.heap[bt]? = some (.cells #[.slice A l.length c] 24 (0, 0))) ∧ Aside0 (w'.heap[br]? = some (.cells #[.slice none 0 0] 24 (0, 0))) ∧ Aside0 (w'.heap[bo]? = some (.cells #[.slice (some ⟨g, 0, none⟩) 12 cq] 24 (0, 0))) ∧ Aside0 (Kd.S k28 28 w' w.heap.size (fun _ => True) (.slice (some ⟨g, 0, none⟩) 12 cq) (clrTo q i)) ∧ Aside0 (Below w.heap.size w w'))
   case atStart => exact ⟨0, rfl, by omega, by omega, BT, BR, BO, HO, HB⟩
   case round =>
    clear BT BR BO HO HB; obtain ⟨i, rfl, hi, hig, BT, BR, BO, HO, HB⟩ := hrel
    by_cases hlt : i < 12
    case neg =>
     have : i = 12 := by omega
     subst this; have hz0 : wr.cell? ⟨br, 0, none⟩ = some (.slice none 0 0) := (bC BR.out 0).trans rfl; have hf0 := bZ BR.out 0; have ho0 : wr.cell? ⟨bo, 0, none⟩ = some (.slice (some ⟨g, 0, none⟩) 12 cq) := (bC BO.out 0).trans rfl; clear hlt
     go_wp2
     refine bodyPost_ret (results_cell_row rfl _ _ br 24 #[.slice (some ⟨g, 0, none⟩) 12 cq] (0, 0) _ rfl (by (with_reducible repeat (first | refine bN ?_ _ | refine bD ?_ | refine bA ?_ _)); refine blk_put (cs := #[.slice none 0 0]) ?_ 0 _ rfl; (with_reducible repeat (first | refine bN ?_ _ | refine bD ?_ | refine bA ?_ _)); exact BR.out) Try.underlying24 rfl (by kernel_rfl)) rfl ?_
     exact ⟨_, rfl, (clrTo_all q 12 (by rw [HL.out]; exact Nat.le_refl _)) ▸ R_one24 HO.out BR.out _, wS HB.out GR.out⟩
    case pos =>
     have cd1 : decide ((i : Int) < 12) = true := decide_eq_true (by omega); have cd2 : decide (i < 12) = true := decide_eq_true (by omega); obtain ⟨A3, c3, A4, c4, ⟨hx0, hx1, hx2, hx3, hx4⟩, -, l3, l4⟩ := row28 HO.out i hlt; have hgq : (clrTo q i).getD i z28 = q.getD i z28 := clrTo_get q i (by rw [HL.out]; exact hlt)
     rw [hgq] at hx0 hx1 hx2 hx3 hx4 l3 l4; have HNq := Aside0.mk (show q.getD i z28 = q.getD i z28 from rfl); generalize hn : q.getD i z28 = n at hx0 hx1 hx2 hx3 hx4 l3 l4; have HN := Aside0.mk hn; clear hn hgq HNq; have p1 : (0 ≤ (i : Int)) = True := eq_true (by omega); have q1 : ((i : Int) < 12) = True := eq_true (by omega); have HLT := Aside0.mk hlt; have HL3 := Aside0.mk l3; have HL4 := Aside0.mk l4; clear hlt l3 l4
     go_upto_region 7 with ((with_reducible refine gate_dst (N := 5) rfl ?_); (try (refine gate_guard (by rfl) ?_; dsimp only)); refine box_event ?hg (N := 5) ?hd (cs := #[.int .i64 0, .int .i64 0, .int .i64 0, .slice none 0 0, .slice none 0 0]) (t := 28) ?hr ?_; (case hd => rfl); (case hg => rfl); (case hr => first | (go_simp; done) | (go_simp; rfl)); intro bn hg_ w7 hbox hb; have NTN := Aside0.mk (show bt ≠ bn from by rw [hg_]; exact Nat.ne_of_lt (blk_lt BT.out)); have NRN := Aside0.mk (show br ≠ bn from by rw [hg_]; exact Nat.ne_of_lt (blk_lt BR.out)); have NON := Aside0.mk (show bo ≠ bn from by rw [hg_]; exact Nat.ne_of_lt (blk_lt BO.out)); have GN := Aside0.mk (show w.heap.size ≤ bn from by rw [hg_]; exact HB.out.size); have HE := Aside0.mk (Kd.S_below (Kd.S_elderB HO.out bn (by rw [hg_]; exact Nat.le_refl _)) hb); clear HO; have BN := Aside0.mk hbox; have m_BT := Aside0.mk (bB BT.out hb); have m_BR := Aside0.mk (bB BR.out hb); have m_BO := Aside0.mk (bB BO.out hb); have m_HB := Aside0.mk (below_step HB.out hb); clear BT BR BO HB; have BT := m_BT; have BR := m_BR; have BO := m_BO; have HB := m_HB; clear m_BT m_BR m_BO m_HB; have hz0 : w7.cell? ⟨bn, 0, none⟩ = some (.int .i64 0) := (bC BN.out 0).trans rfl; have hf0 := bZ BN.out 0; have hz1 : w7.cell? ⟨bn, 1, none⟩ = some (.int .i64 0) := (bC BN.out 1).trans rfl; have hf1 := bZ BN.out 1; have hz2 : w7.cell? ⟨bn, 2, none⟩ = some (.int .i64 0) := (bC BN.out 2).trans rfl; have hf2 := bZ BN.out 2; have hz3 : w7.cell? ⟨bn, 3, none⟩ = some (.slice none 0 0) := (bC BN.out 3).trans rfl; have hf3 := bZ BN.out 3; have hz4 : w7.cell? ⟨bn, 4, none⟩ = some (.slice none 0 0) := (bC BN.out 4).trans rfl; have hf4 := bZ BN.out 4; clear hg_ hbox hb)
     have n0_ := Aside0.mk (mt_far5 BT.out NTN.out (.int .i64 n.f0) (.int .i64 n.f1) (.int .i64 n.f2) (.slice A3 n.f3.length c3) (.slice A4 n.f4.length c4)); have n1_ := Aside0.mk (mt_far5 BR.out NRN.out (.int .i64 n.f0) (.int .i64 n.f1) (.int .i64 n.f2) (.slice A3 n.f3.length c3) (.slice A4 n.f4.length c4)); have n2_ := Aside0.mk (mt_far5 BO.out NON.out (.int .i64 n.f0) (.int .i64 n.f1) (.int .i64 n.f2) (.slice A3 n.f3.length c3) (.slice A4 n.f4.length c4)); have n3_ := Aside0.mk (own5_R HE.out (.int .i64 n.f0) (.int .i64 n.f1) (.int .i64 n.f2) (.slice A3 n.f3.length c3) (.slice A4 n.f4.length c4)); have n4_ := Aside0.mk (mt_put5 BN.out (.int .i64 n.f0) (.int .i64 n.f1) (.int .i64 n.f2) (.slice A3 n.f3.length c3) (.slice A4 n.f4.length c4)); have n5_ := Aside0.mk (mt_bel5 HB.out GN.out (.int .i64 n.f0) (.int .i64 n.f1) (.int .i64 n.f2) (.slice A3 n.f3.length c3) (.slice A4 n.f4.length c4)); clear BT BR BO HE BN HB hz0 hf0 hz1 hf1 hz2 hf2 hz3 hf3 hz4 hf4 hx0 hx1 hx2 hx3 hx4; generalize (((((w7.setCell ⟨bn, 0, none⟩ (.int .i64 n.f0)).setCell ⟨bn, 1, none⟩ (.int .i64 n.f1)).setCell ⟨bn, 2, none⟩ (.int .i64 n.f2)).setCell ⟨bn, 3, none⟩ (.slice A3 n.f3.length c3)).setCell ⟨bn, 4, none⟩ (.slice A4 n.f4.length c4)) = w8 at n0_ n1_ n2_ n3_ n4_ n5_ ⊢; have BT := n0_; have BR := n1_; have BO := n2_; have HO := n3_; have BN := n4_; have HB := n5_; clear n0_ n1_ n2_ n3_ n4_ n5_; have hn0 : w8.cell? ⟨bn, 0, none⟩ = some (.int .i64 n.f0) := (bC BN.out 0).trans rfl; have hn1 : w8.cell? ⟨bn, 1, none⟩ = some (.int .i64 n.f1) := (bC BN.out 1).trans rfl
     by_cases k1 : n.f0 = 1
     case neg =>
      have f1 : (n.f0 == 1) = false := by simpa using k1
      have f3 : decide (n.f0 = 1) = false := decide_eq_false k1; have n0_ := Aside0.mk ((clrTo_same q i (by rw [HL.out]; exact HLT.out) (by rw [HN.out]; unfold clr1; rw [if_neg (fun h : n.f0 = 1 ∧ n.f1 = 0 => k1 h.1)])).symm ▸ HO.out)
      clear HO k1; have HO := n0_; clear n0_
      go_wp2
      go_roundg (12 - (i + 1))
      case measure => have := HLT.out; omega
      case rel => exact ⟨i + 1, by first | rfl | (push_cast; rfl) | exact mt_succ i (by have := HLT.out; omega), HLT.out, Nat.le_refl _, BT, BR, BO, HO, HB⟩
     case pos =>
      rw [k1] at hn0
      by_cases k2 : n.f1 = 0
      case neg =>
       have f1 : (n.f1 == 0) = false := by simpa using k2
       have f3 : decide (n.f1 = 0) = false := decide_eq_false k2; have n0_ := Aside0.mk ((clrTo_same q i (by rw [HL.out]; exact HLT.out) (by rw [HN.out]; unfold clr1; rw [if_neg (fun h : n.f0 = 1 ∧ n.f1 = 0 => k2 h.2)])).symm ▸ HO.out)
       clear HO k1 k2; have HO := n0_; clear n0_
       go_wp2
       go_roundg (12 - (i + 1))
       case measure => have := HLT.out; omega
       case rel => exact ⟨i + 1, by first | rfl | (push_cast; rfl) | exact mt_succ i (by have := HLT.out; omega), HLT.out, Nat.le_refl _, BT, BR, BO, HO, HB⟩
      case pos =>
       rw [k2] at hn1; have ho0 : w8.cell? ⟨bo, 0, none⟩ = some (.slice (some ⟨g, 0, none⟩) 12 cq) := (bC BO.out 0).trans rfl; obtain ⟨A3', c3', A4', c4', ⟨hy0, hy1, hy2, hy3, hy4⟩, hfz, -, -⟩ := row28 HO.out i HLT.out; have hf0 := hfz 0; have hf1 := hfz 1; have hf2 := hfz 2; have hf3 := hfz 3; have hf4 := hfz 4; rw [Nat.add_zero] at hf0; clear hfz
       go_upto_region 9 with (fail)
       have NT := Aside0.mk (show bt ≠ g from fun e => Kd.S_ne HO.out BT.out (by decide) (by rw [e]; rfl))
       have NR := Aside0.mk (show br ≠ g from fun e => Kd.S_ne HO.out BR.out (by decide) (by rw [e]; rfl))
       have NO := Aside0.mk (show bo ≠ g from fun e => Kd.S_ne HO.out BO.out (by decide) (by rw [e]; rfl))
       have n0_ := Aside0.mk (far28 (i := i) BT.out NT.out (.int .i64 0) (.int .i64 0) (.int .i64 0) (.slice none 0 0) (.slice none 0 0)); have n1_ := Aside0.mk (far28 (i := i) BR.out NR.out (.int .i64 0) (.int .i64 0) (.int .i64 0) (.slice none 0 0) (.slice none 0 0)); have n2_ := Aside0.mk (far28 (i := i) BO.out NO.out (.int .i64 0) (.int .i64 0) (.int .i64 0) (.slice none 0 0) (.slice none 0 0)); have n3_ := Aside0.mk (none28 HO.out i HLT.out); have n5_ := Aside0.mk (bel28 (i := i) HB.out GG.out (.int .i64 0) (.int .i64 0) (.int .i64 0) (.slice none 0 0) (.slice none 0 0)); clear BT BR BO HO BN HB hn0 hn1 ho0 hy0 hy1 hy2 hy3 hy4 hf0 hf1 hf2 hf3 hf4; generalize (((((w8.setCell ⟨g, i * 5, none⟩ (.int .i64 0)).setCell ⟨g, i * 5 + 1, none⟩ (.int .i64 0)).setCell ⟨g, i * 5 + 2, none⟩ (.int .i64 0)).setCell ⟨g, i * 5 + 3, none⟩ (.slice none 0 0)).setCell ⟨g, i * 5 + 4, none⟩ (.slice none 0 0)) = w9 at n0_ n1_ n2_ n3_ n5_ ⊢; have BT := n0_; have BR := n1_; have BO := n2_; have HB := n5_
       have HO := Aside0.mk (show Kd.S k28 28 w9 w.heap.size (fun _ => True) (.slice (some ⟨g, 0, none⟩) 12 cq) (clrTo q (i + 1)) from by
        rw [clrTo_step q i (by rw [HL.out]; exact HLT.out), HN.out]
        rw [show clr1 n = z28 from by unfold clr1; rw [if_pos ⟨k1, k2⟩]]
        exact n3_.out)
       clear n0_ n1_ n2_ n3_ n5_ k1 k2
       go_wp2
       go_roundg (12 - (i + 1))
       case measure => have := HLT.out; omega
       case rel => exact ⟨i + 1, by first | rfl | (push_cast; rfl) | exact mt_succ i (by have := HLT.out; omega), HLT.out, Nat.le_refl _, BT, BR, BO, HO, HB⟩
def potsherdref12_Clear.f (k : Nat) (l0_0 : List (S28)) : Option ((List (S28))) := (potsherdref12_MayTree.f k l0_0).bind fun b => if b = true then (potsherdref12_CopyTree.f k l0_0).bind fun q => if q.length = 12 then some (clr q) else none else some []
theorem potsherdref12_Clear.mono : ∀ a0 k, LeO (potsherdref12_Clear.f k a0) (potsherdref12_Clear.f (k + 1) a0) := fun a0 k => LeO.bind (potsherdref12_MayTree.mono a0 k) (fun _ => LeO.ite (LeO.bind (potsherdref12_CopyTree.mono a0 k) (fun _ => LeO.refl _)) (LeO.refl _))
theorem potsherdref12_Clear.calls (k : Nat) (A0_0 : Option Addr) (c0_0 : Nat) (l0_0 : List (S28)) (r : List (S28)) (w : World) (hr0_0 : Kd.C k28 w A0_0 l0_0.length l0_0) (hc0_0 : l0_0.length ≤ c0_0) (h : potsherdref12_Clear.f k l0_0 = some r) :
 Calls Try.prog 30 #[.agg #[.slice A0_0 l0_0.length c0_0]] w fun e w' => ∃ v0_ : Value, e = .returned (.agg #[v0_]) ∧ Kd.S k28 28 w' w.heap.size (fun _ => True) v0_ r ∧ Below w.heap.size w w' := by
 unfold potsherdref12_Clear.f at h
 exact clear_walk k A0_0 c0_0 l0_0 r w hr0_0 hc0_0 h
end Go.Proofs.Ytkigiehkckjlhaa.PSums
