/- The Go functions that these laws reach, each as a Lean function with the same answers (a law itself where it answers true), and the proof that the code comes to them; conditions: those of each theorem. Laid by a program of this session over the print. -/
import Derived.Maps.OwnSet
import Derived.Maps.OwnOps
import Derived.Maps.Views
import Derived.Test.YtkigiehkckjlhaaZMakesPMakesx0
import Derived.Test.YtkigiehkckjlhaaZMakesPMakesx10
namespace Go.Proofs.Ytkigiehkckjlhaa.PMakes
open Go.RowKit Go.Proofs.YtkigiehkckjlhaaW.PrintWords Go.Proofs.YtkigiehkckjlhaaW.PrintLast Go.Proofs.YtkigiehkckjlhaaW.PrintMore
attribute [local go_sem] max2_int min2_int max_two min_two max_three min_three max_four min_four   -- for this text's walks alone
set_option linter.unusedVariables false
set_option linter.unusedSimpArgs false
open Go.Proofs.YtkigiehkckjlhaaW.PrintWords renaming blk_drewN → bN, blk_drew → bD, blk_alloc → bA, below_set → wS, below_alloc → wA, pw_below_drewN → wN, below_drew1 → wD, blk_below → bB, blk_far → bF, blk_cell → bC, blk_frozen → bZ
open List renaming setIfInBounds_toArray → lT, set_cons_zero → l0_, set_cons_succ → lS
/-- Writings that have not been met; none where one has. -/
def apSeqs : List Int → List Int → Option (Option (List Int))
 | seen, [] => some (some seen)
 | seen, s :: r => if (Lit.int .i64 s).wf = true then (if seen.length < 1000 then (if s ≠ 0 ∧ s ∈ seen then some none else apSeqs (s :: seen) r) else none) else none
/-- Nodes, whose writings have not been met. -/
def apScan : List Int → List S28 → Option (Option (List Int))
 | seen, [] => some (some seen)
 | seen, n :: r => (apSeqs seen n.f3).bind fun q => (match q with | some seen' => apScan seen' r | none => some none)
/-- A map of the writings that have been met: how often each was. -/
def CntIs (D : DataW Unit) (seen : List Int) : Prop :=
 Maps.Tidy D ∧ ∀ p : Int, (Lit.int .i64 p).wf = true → D.atKey (.int .i64 p) (.lit (.int .i64 0)) = .lit (.int .i64 (seen.count p : Int))
def CntOf (w : World) (b : Nat) (seen : List Int) : Prop := ∃ D : DataW Unit, w.ownsMap Try.prog 3 (plainElem Try.prog 3) b seen.length D ∧ CntIs D seen
theorem ap_keyLit (p : Int) : WideAt.IsKeyLit (.int .i64 p) := trivial
theorem ap_key_ne {p q : Int} (h : p ≠ q) : (Lit.int .i64 p) ≠ (Lit.int .i64 q) := fun e => h (by injection e)
theorem CntOf_kept {w w' : World} {b : Nat} {s : List Int} (hM : CntOf w b s) {B : Nat} (hb : Below B w w') (hB : b < B) : CntOf w' b s := by
 obtain ⟨D, ⟨es, clock, hc, F, hs, hD⟩, hI⟩ := hM; exact ⟨D, ⟨es, clock, (hb.block b hB).trans hc, F, hs, hD⟩, hI⟩
theorem CntOf_far {w : World} {b : Nat} {s : List Int} (hM : CntOf w b s) {p : Addr} (hp : b ≠ p.block) (v : Value) : CntOf (w.setCell p v) b s := by
 obtain ⟨D, ⟨es, clock, hc, F, hs, hD⟩, hI⟩ := hM; exact ⟨D, ⟨es, clock, (Below.heap_setCell w p v b hp).trans hc, F, hs, hD⟩, hI⟩
theorem CntOf_lt {w : World} {b : Nat} {s : List Int} (hM : CntOf w b s) : b < w.heap.size := by obtain ⟨D, h1, h2⟩ := hM; exact h1.lt
theorem CntOf_obj {w : World} {b : Nat} {s : List Int} (hM : CntOf w b s) : ∃ es c, w.heap[b]? = some (.map es c) := by
 obtain ⟨D, ⟨es, clock, hc, _⟩, _⟩ := hM; exact ⟨es, clock, hc⟩
theorem CntOf_made (w : World) : CntOf (w.alloc (.map #[] 0)) w.heap.size [] :=
 ⟨.map [], World.ownsMap_made w _ _ _, Maps.tidy_empty, fun p _ => by simp [DataW.atKey]⟩
theorem ap_seen5 {w : World} {g b : Nat} {s : List Int} (h : CntOf w b s) (hne : b ≠ g) (a0 a1 a2 a3 a4 : Value) : CntOf (((((w.setCell ⟨g, 0, none⟩ a0).setCell ⟨g, 1, none⟩ a1).setCell ⟨g, 2, none⟩ a2).setCell ⟨g, 3, none⟩ a3).setCell ⟨g, 4, none⟩ a4) b s :=
 CntOf_far (p := ⟨g, 4, none⟩) (CntOf_far (p := ⟨g, 3, none⟩) (CntOf_far (p := ⟨g, 2, none⟩) (CntOf_far (p := ⟨g, 1, none⟩) (CntOf_far (p := ⟨g, 0, none⟩) h hne _) hne _) hne _) hne _) hne _
section
variable {w : World} {ops : Array Oper} {rest : List Oper} {o : Oper} {a : Act} {Q : Exit → Act → World → Prop} {b : Nat} {seen : List Int}
theorem wp_cnt (hg : o.guard = none) (m x : Operand) (hop : o.op = Op.lookup 76 m x false) (hM : CntOf w b seen) (hm : a.eval m = .map (some b)) (p : Int) (hw : (Lit.int .i64 p).wf = true) (hx : a.eval x = .int .i64 p)
 (hK : ∀ n : Int, n = (seen.count p : Int) → wpList Try.prog ops Q rest (a.put o.dst (.int .i64 n)) w) : wpList Try.prog ops Q (o :: rest) a w := by
 obtain ⟨D, hown, hT, ha⟩ := hM; refine wpList_lookup_own_int w hg m x 76 hop 3 3 .i64 (Maps.int_keyed Try.underlying3) Try.underlying76 Try.underlying3 (by kernel_rfl) b _ D hm hown _ _ hx (Maps.keyOf_int_mk Try.underlying3 hw) ?_; intro c hc _; rw [ha p hw] at hc
 injection hc with hc; injection hc with _ hc
 exact hK c hc.symm
theorem wp_up (hg : o.guard = none) (m x v : Operand) (hop : o.op = Op.mapUpdate 76 m x v) (hM : CntOf w b seen) (hn : seen.length < 1000) (hm : a.eval m = .map (some b)) (p : Int) (hw : (Lit.int .i64 p).wf = true)
 (hx : a.eval x = .int .i64 p) {n : Int} (hnn : n = (seen.count p : Int)) (hv : a.eval v = .int .i64 (wrap64 (n + 1)))
 (hK : ∀ w', CntOf w' b (p :: seen) → w.grownBy w' (some b) → wpList Try.prog ops Q rest (a.put o.dst undef) w') : wpList Try.prog ops Q (o :: rest) a w := by
 obtain ⟨D, hown, hT, ha⟩ := hM; have hcl : seen.count p ≤ seen.length := List.count_le_length
 have hval : wrap64 (n + 1) = (((p :: seen).count p : Nat) : Int) := by rw [List.count_cons_self, hnn]; unfold wrap64; push_cast; omega
 have hcl2 : (p :: seen).count p ≤ 1000 := by rw [List.count_cons_self]; omega
 rw [hval] at hv
 refine wpList_mapUpdate_own w hg m x v 76 hop 3 3 (Maps.int_keyed Try.underlying3) Try.underlying76 _ b _ D hm hown (by unfold maxLen; omega) _ _ _ hx hv (Maps.keyOf_int_mk Try.underlying3 hw) (.lit (.int .i64 (((p :: seen).count p : Nat) : Int))) [] (plainElem_int Try.underlying3 (by
  generalize (p :: seen).count p = z at hcl2
  simp [Lit.wf, IntKind.min, IntKind.max, IntKind.signed, IntKind.bits]; omega)) ?_
 intro w' hown' hgr; refine hK w' ⟨_, hown', hT.put (ap_keyLit _) _, fun r hr => ?_⟩ hgr
 by_cases c : r = p
 ·
  subst c; rw [Maps.atKey_put_same hT.isMap (ap_keyLit _)]
 ·
  rw [Maps.atKey_put_other (ap_key_ne c), ha r hr, List.count_cons_of_ne (Ne.symm c)]
end
theorem ap_gt {m x : Int} {seen : List Int} (h : m = (((x :: seen).count x : Nat) : Int)) (hx : x ∈ seen) : decide (1 < m) = true := by
 have := List.count_pos_iff.2 hx; rw [List.count_cons_self] at h; exact decide_eq_true (by omega)
theorem ap_ng {m x : Int} {seen : List Int} (h : m = (((x :: seen).count x : Nat) : Int)) (hx : x ∉ seen) : decide (1 < m) = false := by
 have := List.count_eq_zero.2 hx; rw [List.count_cons_self] at h; exact decide_eq_false (by omega)
set_option maxHeartbeats 8000000 in
set_option maxRecDepth 100000 in
theorem apart_walk (A : Option Addr) (c : Nat) (l : List S28) (r : Bool) (w : World) (hr : Kd.C k28 w A l.length l) (hc : l.length ≤ c) (h : (if l.length = 12 then (apScan [] l).bind fun s => some s.isSome else none) = some r) :
 Calls Try.prog 75 #[.agg #[.slice A l.length c]] w fun e w' => e = .returned (.bool r) ∧ Below w.heap.size w w' := by
 have hu24 := Try.underlying24; have hu28 := Try.underlying28; have HB := Aside0.mk (Below.refl w.heap.size w)
 by_cases hl : l.length = 12
 case neg => rw [if_neg hl] at h; cases h
 case pos =>
  rw [if_pos hl] at h; have HR := Aside0.mk (show Kd.C k28 w A 12 l from hl ▸ hr); have HC := Aside0.mk (show 12 ≤ c from hl ▸ hc); have HL := Aside0.mk hl; rw [hl]; clear hr hc hl; obtain ⟨ad, _, _, _, _, e0, -⟩ := at_T28 HR.out 0 (by omega) (by omega); subst e0; obtain ⟨s, hs, h⟩ := Option.bind_eq_some_iff.mp h; obtain rfl := Option.some.inj h; have HS := Aside0.mk hs; clear h hs
  have hmk : ∀ W : World, (Instr.makeMap 76 none).run Try.prog W = .ok (.map (some W.heap.size)) (W.alloc (.map #[] 0)) := fun W => run_makeMap 76 W
  go_enter Try.func75, Try.ntmps75
  go_upto_region 2 with ((with_reducible refine gate_dst (N := 1) rfl ?_); (try (refine gate_guard (by rfl) ?_; dsimp only)); refine box_event ?hg (N := 1) ?hd (cs := #[.slice (some ad) 12 c]) (t := 24) ?hr ?_; (case hd => rfl); (case hg => rfl); (case hr => first | (go_simp; done) | (go_simp; rfl)); intro bt hg_ w1 hbox hb; have GT := Aside0.mk (show w.heap.size ≤ bt from by rw [hg_]; exact HB.out.size); have BT := Aside0.mk hbox; have m_HB := Aside0.mk (below_step HB.out hb); clear HB; have HB := m_HB; clear m_HB; have ht0 : w1.cell? ⟨bt, 0, none⟩ = some (.slice (some ad) 12 c) := (bC BT.out 0).trans rfl; clear hg_ hbox hb)
  clear hmk ht0; have n0_ := Aside0.mk (CntOf_made w1); have n1_ := Aside0.mk (bA BT.out (.map #[] 0)); have n2_ := Aside0.mk (wA HB.out (.map #[] 0)); have GM := Aside0.mk HB.out.size; clear BT HB; generalize w1.heap.size = b at GM n0_ ⊢; generalize w1.alloc (.map #[] 0) = w2 at n0_ n1_ n2_ ⊢; have HM := n0_; have BT := n1_; have HB := n2_; clear n0_ n1_ n2_; have ht0 : w2.cell? ⟨bt, 0, none⟩ = some (.slice (some ad) 12 c) := (bC BT.out 0).trans rfl
  go_wp2
  clear ht0
  go_loopg [12] 12 (fun gk v12 w' => ∃ (i : Nat) (seen : List Int), v12 = .int .i64 i ∧ i ≤ 12 ∧ 12 - i ≤ gk ∧ Aside0 (w'.heap[bt]? = some (.cells #[.slice (some ad) 12 c] 24 (0, 0))) ∧ Aside0 (CntOf w' b seen) ∧ Aside0 (Below w.heap.size w w') ∧ Aside0 (apScan seen (l.drop i) = some s))
  case atStart => exact ⟨0, [], rfl, by omega, by omega, BT, HM, HB, HS⟩
  case round =>
   clear HM BT HB HS; obtain ⟨i, seen, rfl, hi12, hig, BT, HM, HB, HS⟩ := hrel
   by_cases hlt : i < 12
   case neg =>
    have : i = 12 := by omega
    subst this; have hd := HS.out; clear HS; rw [show l.drop 12 = [] from by rw [List.drop_eq_nil_iff, HL.out]; exact Nat.le_refl _] at hd
    obtain rfl := Option.some.inj (show some (some seen) = some s from hd); clear hd hlt HM
    go_wp2
    go_ret
    exact ⟨rfl, HB.out⟩
   case pos =>
    have cd1 : decide ((i : Int) < 12) = true := decide_eq_true (by omega); have cd2 : decide (i < 12) = true := decide_eq_true (by omega); have hd := HS.out; clear HS; rw [mt_drop (show i < l.length by rw [HL.out]; exact hlt) z28] at hd
    simp only [apScan] at hd; obtain ⟨q, hq, hd⟩ := Option.bind_eq_some_iff.mp hd; have HQ := Aside0.mk hq; clear hq; have HD := Aside0.mk hd; clear hd; obtain ⟨ad', A3, c3, A4, c4, e0, hx0, hx1, hx2, hx3, hx4, l3, g3, -⟩ := at_T28 HR.out i (by omega) (by omega)
    cases e0
    have hrd : rd_T28 l (i : Int) = l.getD i z28 := by unfold rd_T28; rw [Int.toNat_natCast]
    rw [hrd] at hx0 hx1 hx2 hx3 hx4 l3 g3; clear hrd; generalize l.getD i z28 = n at hx0 hx1 hx2 hx3 hx4 l3 g3 HQ; have HR3 := Aside0.mk g3; have HC3 := Aside0.mk l3; clear g3 l3; replace hx0 := (HB.out.cell (World.block_lt_of_cell? w _ hx0)).trans hx0; replace hx1 := (HB.out.cell (World.block_lt_of_cell? w _ hx1)).trans hx1; replace hx2 := (HB.out.cell (World.block_lt_of_cell? w _ hx2)).trans hx2; replace hx3 := (HB.out.cell (World.block_lt_of_cell? w _ hx3)).trans hx3; replace hx4 := (HB.out.cell (World.block_lt_of_cell? w _ hx4)).trans hx4; simp only [Int.toNat_natCast] at hx0 hx1 hx2 hx3 hx4; have p1 : (0 ≤ (i : Int)) = True := eq_true (by omega); have q1 : ((i : Int) < 12) = True := eq_true (by omega); have HLT := Aside0.mk hlt; clear hlt
    go_upto_region 5 with ((with_reducible refine gate_dst (N := 5) rfl ?_); (try (refine gate_guard (by rfl) ?_; dsimp only)); refine box_event ?hg (N := 5) ?hd (cs := #[.int .i64 0, .int .i64 0, .int .i64 0, .slice none 0 0, .slice none 0 0]) (t := 28) ?hr ?_; (case hd => rfl); (case hg => rfl); (case hr => first | (go_simp; done) | (go_simp; rfl)); intro bn hg_ w3 hbox hb; have NTN := Aside0.mk (show bt ≠ bn from by rw [hg_]; exact Nat.ne_of_lt (blk_lt BT.out)); have NMN := Aside0.mk (show b ≠ bn from by rw [hg_]; exact Nat.ne_of_lt (CntOf_lt HM.out)); have GN := Aside0.mk (show w.heap.size ≤ bn from by rw [hg_]; exact HB.out.size); have BN := Aside0.mk hbox; have m_BT := Aside0.mk (bB BT.out hb); have m_HM := Aside0.mk (CntOf_kept HM.out hb (CntOf_lt HM.out)); have m_HB := Aside0.mk (below_step HB.out hb); clear BT HM HB; have BT := m_BT; have HM := m_HM; have HB := m_HB; clear m_BT m_HM m_HB; have hz0 : w3.cell? ⟨bn, 0, none⟩ = some (.int .i64 0) := (bC BN.out 0).trans rfl; have hf0 := bZ BN.out 0; have hz1 : w3.cell? ⟨bn, 1, none⟩ = some (.int .i64 0) := (bC BN.out 1).trans rfl; have hf1 := bZ BN.out 1; have hz2 : w3.cell? ⟨bn, 2, none⟩ = some (.int .i64 0) := (bC BN.out 2).trans rfl; have hf2 := bZ BN.out 2; have hz3 : w3.cell? ⟨bn, 3, none⟩ = some (.slice none 0 0) := (bC BN.out 3).trans rfl; have hf3 := bZ BN.out 3; have hz4 : w3.cell? ⟨bn, 4, none⟩ = some (.slice none 0 0) := (bC BN.out 4).trans rfl; have hf4 := bZ BN.out 4; clear hg_ hbox hb)
    have n0_ := Aside0.mk (mt_far5 BT.out NTN.out (.int .i64 n.f0) (.int .i64 n.f1) (.int .i64 n.f2) (.slice A3 n.f3.length c3) (.slice A4 n.f4.length c4)); have n1_ := Aside0.mk (ap_seen5 HM.out NMN.out (.int .i64 n.f0) (.int .i64 n.f1) (.int .i64 n.f2) (.slice A3 n.f3.length c3) (.slice A4 n.f4.length c4)); have n2_ := Aside0.mk (mt_put5 BN.out (.int .i64 n.f0) (.int .i64 n.f1) (.int .i64 n.f2) (.slice A3 n.f3.length c3) (.slice A4 n.f4.length c4)); have n3_ := Aside0.mk (mt_bel5 HB.out GN.out (.int .i64 n.f0) (.int .i64 n.f1) (.int .i64 n.f2) (.slice A3 n.f3.length c3) (.slice A4 n.f4.length c4)); clear BT HM BN HB hz0 hf0 hz1 hf1 hz2 hf2 hz3 hf3 hz4 hf4 hx0 hx1 hx2 hx3 hx4 p1 q1; generalize (((((w3.setCell ⟨bn, 0, none⟩ (.int .i64 n.f0)).setCell ⟨bn, 1, none⟩ (.int .i64 n.f1)).setCell ⟨bn, 2, none⟩ (.int .i64 n.f2)).setCell ⟨bn, 3, none⟩ (.slice A3 n.f3.length c3)).setCell ⟨bn, 4, none⟩ (.slice A4 n.f4.length c4)) = w4 at n0_ n1_ n2_ n3_ ⊢; have BT := n0_; have HM := n1_; have BN := n2_; have HB := n3_; clear n0_ n1_ n2_ n3_; have hn3 : w4.cell? ⟨bn, 3, none⟩ = some (.slice A3 n.f3.length c3) := (bC BN.out 3).trans rfl
    go_wp2
    clear hn3; clear GN NTN NMN BN
    go_loopg [19] n.f3.length (fun gk v19 w' => ∃ (j : Nat) (seen' : List Int), v19 = .int .i64 j ∧ j ≤ n.f3.length ∧ n.f3.length - j ≤ gk ∧ Aside0 (w'.heap[bt]? = some (.cells #[.slice (some ad) 12 c] 24 (0, 0))) ∧ Aside0 (CntOf w' b seen') ∧ Aside0 (Below w.heap.size w w') ∧ Aside0 (apSeqs seen' (n.f3.drop j) = some q))
    case atStart => exact ⟨0, seen, rfl, Nat.zero_le _, by omega, BT, HM, HB, HQ⟩
    case round =>
     clear BT HM HB HQ; obtain ⟨j, seen', rfl, hj, hjg, BT, HM, HB, HQ⟩ := hrel
     by_cases hlt : j < n.f3.length
     case pos =>
      have cd1 : decide ((j : Int) < (n.f3.length : Int)) = true := decide_eq_true (by omega); have cd2 : decide (j < n.f3.length) = true := decide_eq_true (by omega); have hd := HQ.out; clear HQ; rw [mt_drop hlt 0] at hd; simp only [apSeqs] at hd; obtain ⟨ad3, e3, hy0⟩ := Kd.at_int HR3.out j (by omega) (by omega)
      cases e3
      rw [mt_rd] at hy0; generalize n.f3.getD j 0 = x at hy0 hd
      by_cases cw : (Lit.int .i64 x).wf = true
      case neg => rw [if_neg cw] at hd; cases hd
      case pos =>
       rw [if_pos cw] at hd; have CW := Aside0.mk cw; clear cw
       by_cases cl : seen'.length < 1000
       case neg => rw [if_neg cl] at hd; cases hd
       case pos =>
        rw [if_pos cl] at hd; have CL := Aside0.mk cl; clear cl; replace hy0 := (HB.out.cell (World.block_lt_of_cell? w _ hy0)).trans hy0; simp only [Int.toNat_natCast] at hy0; have p2 : (0 ≤ (j : Int)) = True := eq_true (by omega); have q2 : ((j : Int) < (n.f3.length : Int)) = True := eq_true (by omega); have HLT := Aside0.mk hlt; clear hlt
        by_cases c0 : x = 0
        case pos =>
         subst c0; rw [if_neg (fun h => h.1 rfl)] at hd; have HQ := Aside0.mk hd; clear hd
         go_wp2_with (first | (at_lookup; (try (refine gate_guard (by rfl) ?_; dsimp only)); refine wp_cnt rfl _ _ rfl HM.out rfl 0 CW.out rfl ?_; intro m hm; have HE := Aside0.mk hm; clear hm) | (at_mapUpdate; refine wp_up rfl _ _ _ rfl HM.out CL.out rfl 0 CW.out rfl HE.out rfl ?_; intro w8 hM8 hg8; have n0_ := Aside0.mk hM8; have n1_ := Aside0.mk (blk_map BT.out (CntOf_obj HM.out) hg8); have n2_ := Aside0.mk (below_map HB.out hg8 GM.out HB.out.size); clear HM BT HB HE; have HM := n0_; have BT := n1_; have HB := n2_; clear n0_ n1_ n2_ hM8 hg8))
         go_roundg (n.f3.length - (j + 1))
         case measure => have := HLT.out; omega
         case rel => exact ⟨j + 1, _, mt_succ j (by have := HLT.out; have := Kd.C_max HR3.out; omega), HLT.out, Nat.le_refl _, BT, HM, HB, HQ⟩
        case neg =>
         have k1 : (x == 0) = false := by simpa using c0
         have k2 : (x != 0) = true := by simpa using c0
         have k3 : decide (x = 0) = false := decide_eq_false c0
         by_cases cm : x ∈ seen'
         case pos =>
          rw [if_pos ⟨c0, cm⟩] at hd; have CM := Aside0.mk cm; clear cm c0; obtain rfl := Option.some.inj hd; clear hd; obtain rfl := Option.some.inj (show some none = some s from HD.out)
          go_wp2_with (first | (at_lookup; (try (refine gate_guard (by rfl) ?_; dsimp only)); refine wp_cnt rfl _ _ rfl HM.out rfl x CW.out rfl ?_; intro m hm; have HE := Aside0.mk hm; clear hm; (try (have cgt := ap_gt HE.out CM.out))) | (at_mapUpdate; refine wp_up rfl _ _ _ rfl HM.out CL.out rfl x CW.out rfl HE.out rfl ?_; intro w8 hM8 hg8; have n0_ := Aside0.mk hM8; have n1_ := Aside0.mk (blk_map BT.out (CntOf_obj HM.out) hg8); have n2_ := Aside0.mk (below_map HB.out hg8 GM.out HB.out.size); clear HM BT HB HE; have HM := n0_; have BT := n1_; have HB := n2_; clear n0_ n1_ n2_ hM8 hg8))
          go_ret
          exact ⟨rfl, HB.out⟩
         case neg =>
          rw [if_neg (fun h => cm h.2)] at hd; have CM := Aside0.mk cm; clear cm c0; have HQ := Aside0.mk hd; clear hd
          go_wp2_with (first | (at_lookup; (try (refine gate_guard (by rfl) ?_; dsimp only)); refine wp_cnt rfl _ _ rfl HM.out rfl x CW.out rfl ?_; intro m hm; have HE := Aside0.mk hm; clear hm; (try (have cgt := ap_ng HE.out CM.out))) | (at_mapUpdate; refine wp_up rfl _ _ _ rfl HM.out CL.out rfl x CW.out rfl HE.out rfl ?_; intro w8 hM8 hg8; have n0_ := Aside0.mk hM8; have n1_ := Aside0.mk (blk_map BT.out (CntOf_obj HM.out) hg8); have n2_ := Aside0.mk (below_map HB.out hg8 GM.out HB.out.size); clear HM BT HB HE; have HM := n0_; have BT := n1_; have HB := n2_; clear n0_ n1_ n2_ hM8 hg8))
          go_roundg (n.f3.length - (j + 1))
          case measure => have := HLT.out; omega
          case rel => exact ⟨j + 1, _, mt_succ j (by have := HLT.out; have := Kd.C_max HR3.out; omega), HLT.out, Nat.le_refl _, BT, HM, HB, HQ⟩
     case neg =>
      have : j = n.f3.length := by omega
      subst this; have cd1 : decide ((n.f3.length : Int) < (n.f3.length : Int)) = false := decide_eq_false (by omega); have hd := HQ.out; clear HQ; rw [List.drop_length] at hd; obtain rfl := Option.some.inj (show some (some seen') = some q from hd); clear hd hlt; have HS := Aside0.mk (show apScan seen' (l.drop (i + 1)) = some s from HD.out); clear HD
      go_wp2
      go_roundg (12 - (i + 1))
      case measure => have := HLT.out; omega
      case rel => exact ⟨i + 1, seen', by first | rfl | (push_cast; rfl) | exact mt_succ i (by have := HLT.out; omega), HLT.out, Nat.le_refl _, BT, HM, HB, HS⟩
def dir_apart.f (l0_0 : List (S28)) : Option (Bool) := if l0_0.length = 12 then (apScan [] l0_0).bind fun s => some s.isSome else none
theorem dir_apart.calls (A0_0 : Option Addr) (c0_0 : Nat) (l0_0 : List (S28)) (r : Bool) (w : World) (hr0_0 : Kd.C k28 w A0_0 l0_0.length l0_0) (hc0_0 : l0_0.length ≤ c0_0) (h : dir_apart.f l0_0 = some r) :
 Calls Try.prog 75 #[.agg #[.slice A0_0 l0_0.length c0_0]] w fun e w' => e = .returned (.bool r) ∧ Below w.heap.size w w' := by
 unfold dir_apart.f at h
 exact apart_walk A0_0 c0_0 l0_0 r w hr0_0 hc0_0 h
end Go.Proofs.Ytkigiehkckjlhaa.PMakes
