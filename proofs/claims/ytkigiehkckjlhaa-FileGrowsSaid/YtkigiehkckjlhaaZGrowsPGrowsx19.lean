/- The Go functions that these laws reach, each as a Lean function with the same answers (a law itself where it answers true), and the proof that the code comes to them; conditions: those of each theorem. Laid by a program of this session over the print. -/
import Derived.Test.YtkigiehkckjlhaaZGrowsPGrowsShort
import Derived.Maps.OwnSet
import Derived.Maps.OwnOps
import Derived.Maps.Views
import Derived.Test.YtkigiehkckjlhaaZGrowsPGrowsx0
import Derived.Test.YtkigiehkckjlhaaZGrowsPGrowsx7
import Derived.Test.YtkigiehkckjlhaaZGrowsPGrowsx12
import Derived.Test.YtkigiehkckjlhaaZGrowsPGrowsx17
namespace Go.Proofs.Ytkigiehkckjlhaa.PGrows
open Go.RowKit Go.Proofs.YtkigiehkckjlhaaW.PrintWords Go.Proofs.YtkigiehkckjlhaaW.PrintLast Go.Proofs.YtkigiehkckjlhaaW.PrintMore
attribute [local go_sem] max2_int min2_int max_two min_two max_three min_three max_four min_four   -- for this text's walks alone
set_option linter.unusedVariables false
set_option linter.unusedSimpArgs false
open Go.Proofs.YtkigiehkckjlhaaW.PrintWords renaming blk_drewN → bN, blk_drew → bD, blk_alloc → bA, below_set → wS, below_alloc → wA, pw_below_drewN → wN, below_drew1 → wD, blk_below → bB, blk_far → bF, blk_cell → bC, blk_frozen → bZ
open List renaming setIfInBounds_toArray → lT, set_cons_zero → l0_, set_cons_succ → lS
def apSeqs : List Int → List Int → Option (Option (List Int))
 | seen, [] => some (some seen)
 | seen, s :: r => if (Lit.int .i64 s).wf = true then (if seen.length < 1000 then (if s ≠ 0 ∧ s ∈ seen then some none else apSeqs (s :: seen) r) else none) else none
def apScan : List Int → List S28 → Option (Option (List Int))
 | seen, [] => some (some seen)
 | seen, n :: r => (apSeqs seen n.f3).bind fun q => (match q with | some seen' => apScan seen' r | none => some none)
def CntIs (D : DataW Unit) (seen : List Int) : Prop :=
 Maps.Tidy D ∧ ∀ p : Int, (Lit.int .i64 p).wf = true → D.atKey (.int .i64 p) (.lit (.int .i64 0)) = .lit (.int .i64 (seen.count p : Int))
def CntOf (w : World) (b : Nat) (seen : List Int) : Prop := ∃ D : DataW Unit, w.ownsMap Try.prog 3 (plainElem Try.prog 3) b seen.length D ∧ CntIs D seen
theorem ap_keyLit (p : Int) : WideAt.IsKeyLit (.int .i64 p) := trivial
theorem ap_key_ne {p q : Int} (h : p ≠ q) : (Lit.int .i64 p) ≠ (Lit.int .i64 q) := fun e => h (by injection e)
theorem CntOf_kept {w w' : World} {b : Nat} {s : List Int} (hM : CntOf w b s) {B : Nat} (hb : Below B w w') (hB : b < B) : CntOf w' b s := by
 obtain ⟨D, ⟨es, clock, hc, F, hs, hD⟩, hI⟩ := hM; exact ⟨D, ⟨es, clock, (hb.block b hB).trans hc, F, hs, hD⟩, hI⟩
theorem CntOf_far {w : World} {b : Nat} {s : List Int} (hM : CntOf w b s) {p : Addr} (hp : b ≠ p.block) (v : Value) : CntOf (w.setCell p v) b s := by
 obtain ⟨D, ⟨es, clock, hc, F, hs, hD⟩, hI⟩ := hM; exact ⟨D, ⟨es, clock, (Below.heap_setCell w p v b hp).trans hc, F, hs, hD⟩, hI⟩
theorem CntOf_lt {w : World} {b : Nat} {s : List Int} (hM : CntOf w b s) : b < w.heap.size := by obtain ⟨D, h1, h2⟩ := hM; exact h1.lt
theorem CntOf_obj {w : World} {b : Nat} {s : List Int} (hM : CntOf w b s) : ∃ es c, w.heap[b]? = some (.map es c) := by
 obtain ⟨D, ⟨es, clock, hc, _⟩, _⟩ := hM; exact ⟨es, clock, hc⟩
theorem CntOf_made (w : World) : CntOf (w.alloc (.map #[] 0)) w.heap.size [] :=
 ⟨.map [], World.ownsMap_made w _ _ _, Maps.tidy_empty, fun p _ => by simp [DataW.atKey]⟩
theorem ap_seen5 {w : World} {g b : Nat} {s : List Int} (h : CntOf w b s) (hne : b ≠ g) (a0 a1 a2 a3 a4 : Value) : CntOf (((((w.setCell ⟨g, 0, none⟩ a0).setCell ⟨g, 1, none⟩ a1).setCell ⟨g, 2, none⟩ a2).setCell ⟨g, 3, none⟩ a3).setCell ⟨g, 4, none⟩ a4) b s :=
 CntOf_far (p := ⟨g, 4, none⟩) (CntOf_far (p := ⟨g, 3, none⟩) (CntOf_far (p := ⟨g, 2, none⟩) (CntOf_far (p := ⟨g, 1, none⟩) (CntOf_far (p := ⟨g, 0, none⟩) h hne _) hne _) hne _) hne _) hne _
section
variable {w : World} {ops : Array Oper} {rest : List Oper} {o : Oper} {a : Act} {Q : Exit → Act → World → Prop} {b : Nat} {seen : List Int}
theorem wp_cnt (hg : o.guard = none) (m x : Operand) (hop : o.op = Op.lookup 76 m x false) (hM : CntOf w b seen) (hm : a.eval m = .map (some b)) (p : Int) (hw : (Lit.int .i64 p).wf = true) (hx : a.eval x = .int .i64 p)
 (hK : ∀ n : Int, n = (seen.count p : Int) → wpList Try.prog ops Q rest (a.put o.dst (.int .i64 n)) w) : wpList Try.prog ops Q (o :: rest) a w := by
 obtain ⟨D, hown, hT, ha⟩ := hM; refine wpList_lookup_own_int w hg m x 76 hop 3 3 .i64 (Maps.int_keyed Try.underlying3) Try.underlying76 Try.underlying3 (by kernel_rfl) b _ D hm hown _ _ hx (Maps.keyOf_int_mk Try.underlying3 hw) ?_; intro c hc _; rw [ha p hw] at hc
 injection hc with hc; injection hc with _ hc
 exact hK c hc.symm
theorem wp_up (hg : o.guard = none) (m x v : Operand) (hop : o.op = Op.mapUpdate 76 m x v) (hM : CntOf w b seen) (hn : seen.length < 1000) (hm : a.eval m = .map (some b)) (p : Int) (hw : (Lit.int .i64 p).wf = true)
 (hx : a.eval x = .int .i64 p) {n : Int} (hnn : n = (seen.count p : Int)) (hv : a.eval v = .int .i64 (wrap64 (n + 1)))
 (hK : ∀ w', CntOf w' b (p :: seen) → w.grownBy w' (some b) → wpList Try.prog ops Q rest (a.put o.dst undef) w') : wpList Try.prog ops Q (o :: rest) a w := by
 obtain ⟨D, hown, hT, ha⟩ := hM; have hcl : seen.count p ≤ seen.length := List.count_le_length
 have hval : wrap64 (n + 1) = (((p :: seen).count p : Nat) : Int) := by rw [List.count_cons_self, hnn]; unfold wrap64; push_cast; omega
 have hcl2 : (p :: seen).count p ≤ 1000 := by rw [List.count_cons_self]; omega
 rw [hval] at hv
 refine wpList_mapUpdate_own w hg m x v 76 hop 3 3 (Maps.int_keyed Try.underlying3) Try.underlying76 _ b _ D hm hown (by unfold maxLen; omega) _ _ _ hx hv (Maps.keyOf_int_mk Try.underlying3 hw) (.lit (.int .i64 (((p :: seen).count p : Nat) : Int))) [] (plainElem_int Try.underlying3 (by
  generalize (p :: seen).count p = z at hcl2
  simp [Lit.wf, IntKind.min, IntKind.max, IntKind.signed, IntKind.bits]; omega)) ?_
 intro w' hown' hgr; refine hK w' ⟨_, hown', hT.put (ap_keyLit _) _, fun r hr => ?_⟩ hgr
 by_cases c : r = p
 ·
  subst c; rw [Maps.atKey_put_same hT.isMap (ap_keyLit _)]
 ·
  rw [Maps.atKey_put_other (ap_key_ne c), ha r hr, List.count_cons_of_ne (Ne.symm c)]
end
theorem ap_gt {m x : Int} {seen : List Int} (h : m = (((x :: seen).count x : Nat) : Int)) (hx : x ∈ seen) : decide (1 < m) = true := by
 have := List.count_pos_iff.2 hx; rw [List.count_cons_self] at h; exact decide_eq_true (by omega)
theorem ap_ng {m x : Int} {seen : List Int} (h : m = (((x :: seen).count x : Nat) : Int)) (hx : x ∉ seen) : decide (1 < m) = false := by
 have := List.count_eq_zero.2 hx; rw [List.count_cons_self] at h; exact decide_eq_false (by omega)
set_option maxHeartbeats 8000000 in
set_option maxRecDepth 100000 in
theorem apart_walk (A : Option Addr) (c : Nat) (l : List S28) (r : Bool) (w : World) (hr : Kd.C k28 w A l.length l) (hc : l.length ≤ c) (h : (if l.length = 12 then (apScan [] l).bind fun s => some s.isSome else none) = some r) :
 Calls Try.prog 75 #[.agg #[.slice A l.length c]] w fun e w' => e = .returned (.bool r) ∧ Below w.heap.size w w' := by
 have hu24 := Try.underlying24; have hu28 := Try.underlying28; have HB := Aside0.mk (Below.refl w.heap.size w)
 by_cases hl : l.length = 12
 case neg => rw [if_neg hl] at h; cases h
 case pos =>
  rw [if_pos hl] at h; have HR := Aside0.mk (show Kd.C k28 w A 12 l from hl ▸ hr); have HC := Aside0.mk (show 12 ≤ c from hl ▸ hc); have HL := Aside0.mk hl; rw [hl]; clear hr hc hl; obtain ⟨ad, _, _, _, _, e0, -⟩ := at_T28 HR.out 0 (by omega) (by omega); subst e0; obtain ⟨s, hs, h⟩ := Option.bind_eq_some_iff.mp h; obtain rfl := Option.some.inj h; have HS := Aside0.mk hs; clear h hs
  have hmk : ∀ W : World, (Instr.makeMap 76 none).run Try.prog W = .ok (.map (some W.heap.size)) (W.alloc (.map #[] 0)) := fun W => run_makeMap 76 W
  go_enter Try.func75, Try.ntmps75
  go_upto_region 2 with ((with_reducible refine gate_dst (N := 1) rfl ?_); (try (refine gate_guard (by rfl) ?_; dsimp only)); refine bxE 24 (cs := #[.slice (some ad) 12 c]) ?_; intro bt hg_ w1 hbox hb; have GT := Aside0.mk (show w.heap.size ≤ bt from by rw [hg_]; exact HB.out.size); have BT := Aside0.mk hbox; have m_HB := Aside0.mk (below_step HB.out hb); clear HB; have HB := m_HB; clear m_HB; have ht0 := cZ0 BT; clear hg_ hbox hb)
  clear hmk ht0; have n0_ := Aside0.mk (CntOf_made w1); have n1_ := Aside0.mk (bA BT.out (.map #[] 0)); have n2_ := Aside0.mk (wA HB.out (.map #[] 0)); have GM := Aside0.mk HB.out.size; clear BT HB; generalize w1.heap.size = b at GM n0_ ⊢; generalize w1.alloc (.map #[] 0) = w2 at n0_ n1_ n2_ ⊢; have HM := n0_; have BT := n1_; have HB := n2_; clear n0_ n1_ n2_; have ht0 := cZ0 BT
  go_wp2
  clear ht0
  go_loopg [12] 12 (fun gk v12 w' => ∃ (i : Nat) (seen : List Int), v12 = .int .i64 i ∧ i ≤ 12 ∧ 12 - i ≤ gk ∧ Aside0 (w'.heap[bt]? = some (.cells #[.slice (some ad) 12 c] 24 (0, 0))) ∧ Aside0 (CntOf w' b seen) ∧ Aside0 (Below w.heap.size w w') ∧ Aside0 (apScan seen (l.drop i) = some s))
  case atStart => exact ⟨0, [], rfl, by omega, by omega, BT, HM, HB, HS⟩
  case round =>
   clear HM BT HB HS; obtain ⟨i, seen, rfl, hi12, hig, BT, HM, HB, HS⟩ := hrel
   by_cases hlt : i < 12
   case neg =>
    have : i = 12 := by omega
    subst this; have hd := HS.out; clear HS; rw [show l.drop 12 = [] from by rw [List.drop_eq_nil_iff, HL.out]; exact Nat.le_refl _] at hd
    obtain rfl := Option.some.inj (show some (some seen) = some s from hd); clear hd hlt HM
    go_wp2
    go_ret
    exact ⟨rfl, HB.out⟩
   case pos =>
    have cd1 : decide ((i : Int) < 12) = true := decide_eq_true (by omega); have cd2 : decide (i < 12) = true := decide_eq_true (by omega); have hd := HS.out; clear HS; rw [mt_drop (show i < l.length by rw [HL.out]; exact hlt) z28] at hd
    simp only [apScan] at hd; obtain ⟨q, hq, hd⟩ := Option.bind_eq_some_iff.mp hd; have HQ := Aside0.mk hq; clear hq; have HD := Aside0.mk hd; clear hd; obtain ⟨ad', A3, c3, A4, c4, e0, hx0, hx1, hx2, hx3, hx4, l3, g3, -⟩ := at_T28 HR.out i (by omega) (by omega)
    cases e0
    have hrd : rd_T28 l (i : Int) = l.getD i z28 := by unfold rd_T28; rw [Int.toNat_natCast]
    rw [hrd] at hx0 hx1 hx2 hx3 hx4 l3 g3; clear hrd; generalize l.getD i z28 = n at hx0 hx1 hx2 hx3 hx4 l3 g3 HQ; have HR3 := Aside0.mk g3; have HC3 := Aside0.mk l3; clear g3 l3; replace hx0 := xC HB hx0; replace hx1 := xC HB hx1; replace hx2 := xC HB hx2; replace hx3 := xC HB hx3; replace hx4 := xC HB hx4; simp only [Int.toNat_natCast] at hx0 hx1 hx2 hx3 hx4; have p1 : (0 ≤ (i : Int)) = True := eq_true (by omega); have q1 : ((i : Int) < 12) = True := eq_true (by omega); have HLT := Aside0.mk hlt; clear hlt
    go_upto_region 5 with ((with_reducible refine gate_dst (N := 5) rfl ?_); (try (refine gate_guard (by rfl) ?_; dsimp only)); refine bxE 28 (cs := #[.int .i64 0, .int .i64 0, .int .i64 0, .slice none 0 0, .slice none 0 0]) ?_; intro bn hg_ w3 hbox hb; have NTN := Aside0.mk (show bt ≠ bn from by rw [hg_]; exact Nat.ne_of_lt (blk_lt BT.out)); have NMN := Aside0.mk (show b ≠ bn from by rw [hg_]; exact Nat.ne_of_lt (CntOf_lt HM.out)); have GN := Aside0.mk (show w.heap.size ≤ bn from by rw [hg_]; exact HB.out.size); have BN := Aside0.mk hbox; have m_BT := Aside0.mk (bB BT.out hb); have m_HM := Aside0.mk (CntOf_kept HM.out hb (CntOf_lt HM.out)); have m_HB := Aside0.mk (below_step HB.out hb); clear BT HM HB; have BT := m_BT; have HM := m_HM; have HB := m_HB; clear m_BT m_HM m_HB; have hz0 := cZ0 BN; have hf0 := bZ BN.out 0; have hz1 := cZ1 BN; have hf1 := bZ BN.out 1; have hz2 := cZ2 BN; have hf2 := bZ BN.out 2; have hz3 := cZ3 BN; have hf3 := bZ BN.out 3; have hz4 := cZ4 BN; have hf4 := bZ BN.out 4; clear hg_ hbox hb)
    have n0_ := Aside0.mk (mt_far5 BT.out NTN.out (.int .i64 n.f0) (.int .i64 n.f1) (.int .i64 n.f2) (.slice A3 n.f3.length c3) (.slice A4 n.f4.length c4)); have n1_ := Aside0.mk (ap_seen5 HM.out NMN.out (.int .i64 n.f0) (.int .i64 n.f1) (.int .i64 n.f2) (.slice A3 n.f3.length c3) (.slice A4 n.f4.length c4)); have n2_ := Aside0.mk (mt_put5 BN.out (.int .i64 n.f0) (.int .i64 n.f1) (.int .i64 n.f2) (.slice A3 n.f3.length c3) (.slice A4 n.f4.length c4)); have n3_ := Aside0.mk (mt_bel5 HB.out GN.out (.int .i64 n.f0) (.int .i64 n.f1) (.int .i64 n.f2) (.slice A3 n.f3.length c3) (.slice A4 n.f4.length c4)); clear BT HM BN HB hz0 hf0 hz1 hf1 hz2 hf2 hz3 hf3 hz4 hf4 hx0 hx1 hx2 hx3 hx4 p1 q1; generalize (((((w3.setCell ⟨bn, 0, none⟩ (.int .i64 n.f0)).setCell ⟨bn, 1, none⟩ (.int .i64 n.f1)).setCell ⟨bn, 2, none⟩ (.int .i64 n.f2)).setCell ⟨bn, 3, none⟩ (.slice A3 n.f3.length c3)).setCell ⟨bn, 4, none⟩ (.slice A4 n.f4.length c4)) = w4 at n0_ n1_ n2_ n3_ ⊢; have BT := n0_; have HM := n1_; have BN := n2_; have HB := n3_; clear n0_ n1_ n2_ n3_; have hn3 := cZ3 BN
    go_wp2
    clear hn3; clear GN NTN NMN BN
    go_loopg [19] n.f3.length (fun gk v19 w' => ∃ (j : Nat) (seen' : List Int), v19 = .int .i64 j ∧ j ≤ n.f3.length ∧ n.f3.length - j ≤ gk ∧ Aside0 (w'.heap[bt]? = some (.cells #[.slice (some ad) 12 c] 24 (0, 0))) ∧ Aside0 (CntOf w' b seen') ∧ Aside0 (Below w.heap.size w w') ∧ Aside0 (apSeqs seen' (n.f3.drop j) = some q))
    case atStart => exact ⟨0, seen, rfl, Nat.zero_le _, by omega, BT, HM, HB, HQ⟩
    case round =>
     clear BT HM HB HQ; obtain ⟨j, seen', rfl, hj, hjg, BT, HM, HB, HQ⟩ := hrel
     by_cases hlt : j < n.f3.length
     case pos =>
      have cd1 : decide ((j : Int) < (n.f3.length : Int)) = true := decide_eq_true (by omega); have cd2 : decide (j < n.f3.length) = true := decide_eq_true (by omega); have hd := HQ.out; clear HQ; rw [mt_drop hlt 0] at hd; simp only [apSeqs] at hd; obtain ⟨ad3, e3, hy0⟩ := Kd.at_int HR3.out j (by omega) (by omega)
      cases e3
      rw [mt_rd] at hy0; generalize n.f3.getD j 0 = x at hy0 hd
      by_cases cw : (Lit.int .i64 x).wf = true
      case neg => rw [if_neg cw] at hd; cases hd
      case pos =>
       rw [if_pos cw] at hd; have CW := Aside0.mk cw; clear cw
       by_cases cl : seen'.length < 1000
       case neg => rw [if_neg cl] at hd; cases hd
       case pos =>
        rw [if_pos cl] at hd; have CL := Aside0.mk cl; clear cl; replace hy0 := xC HB hy0; simp only [Int.toNat_natCast] at hy0; have p2 : (0 ≤ (j : Int)) = True := eq_true (by omega); have q2 : ((j : Int) < (n.f3.length : Int)) = True := eq_true (by omega); have HLT := Aside0.mk hlt; clear hlt
        by_cases c0 : x = 0
        case pos =>
         subst c0; rw [if_neg (fun h => h.1 rfl)] at hd; have HQ := Aside0.mk hd; clear hd
         go_wp2_with (first | (at_lookup; (try (refine gate_guard (by rfl) ?_; dsimp only)); refine wp_cnt rfl _ _ rfl HM.out rfl 0 CW.out rfl ?_; intro m hm; have HE := Aside0.mk hm; clear hm) | (at_mapUpdate; refine wp_up rfl _ _ _ rfl HM.out CL.out rfl 0 CW.out rfl HE.out rfl ?_; intro w8 hM8 hg8; replace BT := Aside0.mk (blk_map BT.out (CntOf_obj HM.out) hg8); replace HM := Aside0.mk hM8; replace HB := Aside0.mk (below_map HB.out hg8 GM.out HB.out.size); clear HE))
         go_roundg (n.f3.length - (j + 1))
         case measure => have := HLT.out; omega
         case rel => exact ⟨j + 1, _, mt_succ j (by have := HLT.out; have := Kd.C_max HR3.out; omega), HLT.out, Nat.le_refl _, BT, HM, HB, HQ⟩
        case neg =>
         have k1 : (x == 0) = false := by simpa using c0
         have k2 : (x != 0) = true := by simpa using c0
         have k3 := decide_eq_false c0
         by_cases cm : x ∈ seen'
         case pos =>
          rw [if_pos ⟨c0, cm⟩] at hd; have CM := Aside0.mk cm; clear cm c0; obtain rfl := Option.some.inj hd; clear hd; obtain rfl := Option.some.inj (show some none = some s from HD.out)
          go_wp2_with (first | (at_lookup; (try (refine gate_guard (by rfl) ?_; dsimp only)); refine wp_cnt rfl _ _ rfl HM.out rfl x CW.out rfl ?_; intro m hm; have HE := Aside0.mk hm; clear hm; (try (have cgt := ap_gt HE.out CM.out))) | (at_mapUpdate; refine wp_up rfl _ _ _ rfl HM.out CL.out rfl x CW.out rfl HE.out rfl ?_; intro w8 hM8 hg8; replace BT := Aside0.mk (blk_map BT.out (CntOf_obj HM.out) hg8); replace HM := Aside0.mk hM8; replace HB := Aside0.mk (below_map HB.out hg8 GM.out HB.out.size); clear HE))
          go_ret
          exact ⟨rfl, HB.out⟩
         case neg =>
          rw [if_neg (fun h => cm h.2)] at hd; have CM := Aside0.mk cm; clear cm c0; have HQ := Aside0.mk hd; clear hd
          go_wp2_with (first | (at_lookup; (try (refine gate_guard (by rfl) ?_; dsimp only)); refine wp_cnt rfl _ _ rfl HM.out rfl x CW.out rfl ?_; intro m hm; have HE := Aside0.mk hm; clear hm; (try (have cgt := ap_ng HE.out CM.out))) | (at_mapUpdate; refine wp_up rfl _ _ _ rfl HM.out CL.out rfl x CW.out rfl HE.out rfl ?_; intro w8 hM8 hg8; replace BT := Aside0.mk (blk_map BT.out (CntOf_obj HM.out) hg8); replace HM := Aside0.mk hM8; replace HB := Aside0.mk (below_map HB.out hg8 GM.out HB.out.size); clear HE))
          go_roundg (n.f3.length - (j + 1))
          case measure => have := HLT.out; omega
          case rel => exact ⟨j + 1, _, mt_succ j (by have := HLT.out; have := Kd.C_max HR3.out; omega), HLT.out, Nat.le_refl _, BT, HM, HB, HQ⟩
     case neg =>
      have : j = n.f3.length := by omega
      subst this; have cd1 : decide ((n.f3.length : Int) < (n.f3.length : Int)) = false := decide_eq_false (by omega); have hd := HQ.out; clear HQ; rw [List.drop_length] at hd; obtain rfl := Option.some.inj (show some (some seen') = some q from hd); clear hd hlt; have HS := Aside0.mk (show apScan seen' (l.drop (i + 1)) = some s from HD.out); clear HD
      go_wp2
      go_roundg (12 - (i + 1))
      case measure => have := HLT.out; omega
      case rel => exact ⟨i + 1, seen', by first | rfl | (push_cast; rfl) | exact mt_succ i (oK HLT), HLT.out, Nat.le_refl _, BT, HM, HB, HS⟩
def dir_apart.f (l0_0 : List (S28)) : Option (Bool) := if l0_0.length = 12 then (apScan [] l0_0).bind fun s => some s.isSome else none
theorem dir_apart.calls (A0_0 : Option Addr) (c0_0 : Nat) (l0_0 : List (S28)) (r : Bool) (w : World) (hr0_0 : Kd.C k28 w A0_0 l0_0.length l0_0) (hc0_0 : l0_0.length ≤ c0_0) (h : dir_apart.f l0_0 = some r) :
 Calls Try.prog 75 #[.agg #[.slice A0_0 l0_0.length c0_0]] w fun e w' => e = .returned (.bool r) ∧ Below w.heap.size w w' := by
 unfold dir_apart.f at h
 exact apart_walk A0_0 c0_0 l0_0 r w hr0_0 hc0_0 h
abbrev B20_0 : Array Bool := #[false, false, false, false, false, false]
abbrev B20_1 : Array Bool := B20_0.set! 0 true
abbrev B20_2 : Array Bool := B20_1.set! 2 true
abbrev B20_3 : Array Bool := B20_2.set! 1 true
abbrev B20_4 : Array Bool := B20_3.set! 3 true
abbrev B20_5 : Array Bool := B20_4.set! 4 true
abbrev B20_6 : Array Bool := B20_5.set! 5 true
abbrev B20_7 : Array Bool := #[false, false, false, false, false, false, false, false, false, false, false, false]
abbrev B20_8 : Array Bool := B20_7.set! 1 true
abbrev B20_9 : Array Bool := B20_8.set! 2 true
abbrev B20_10 : Array Bool := B20_9.set! 3 true
abbrev B20_11 : Array Bool := B20_10.set! 4 true
abbrev B20_12 : Array Bool := B20_11.set! 6 true
abbrev B20_13 : Array Bool := B20_12.set! 7 true
abbrev B20_14 : Array Bool := B20_13.set! 8 true
abbrev B20_15 : Array Bool := B20_14.set! 0 true
abbrev B20_16 : Array Bool := B20_15.set! 5 true
abbrev B20_17 : Array Bool := B20_16.set! 9 true
abbrev B20_18 : Array Bool := B20_17.set! 10 true
abbrev B20_19 : Array Bool := B20_18.set! 11 true
mutual
def dir_May.j0 : Nat → Bool → List (S28) → Option (Bool)
 | 0, _, _ => none
 | k + 1, x23, x208000 => if x23 = true then (none) else ((dir_names.f k x208000).bind fun t210 => ((dir_below.f k x208000 0).bind fun t213 => (dir_May.l0 k t210 t213 x208000 (x208000.length : Int) 0 x208000)))
def dir_May.l0 : Nat → List Int → List Bool → List (S28) → Int → Int → List (S28) → Option (Bool)
 | 0, _, _, _, _, _, _ => none
 | k + 1, x3, x4, x29, x30, x31, x208000 => if x31 < x30 then (if 0 ≤ x31 then (if x31 < (x29.length : Int) then (if x31 < (x3.length : Int) then (if x31 < (x4.length : Int) then ((dir_hangs.f ((rd_T28 x29 x31).f0) ((rd_T28 x29 x31).f1) ((rd_T28 x29 x31).f2) ((rd_T28 x29 x31).f3) ((rd_T28 x29 x31).f4) x31 (rd x3 x31) (rdOf false x4 x31)).bind fun t220 => (if t220 = true then (dir_May.l0 k x3 x4 x29 x30 (wrap64 (x31 + 1)) x208000) else (none))) else (none)) else (none)) else (none)) else (none)) else ((dir_apart.f x208000).bind fun t221 => (some t221))
end
def dir_May.f (k : Nat) (l0_0 : List (S28)) : Option (Bool) := if (l0_0.length : Int) = 12 then ((api_Node_64.f k l0_0).bind fun t208 => (if t208 = true then (none) else (if 0 < (l0_0.length : Int) then (dir_May.j0 k (((rd_T28 l0_0 0).f0) != 2) l0_0) else (none)))) else (none)
theorem dir_May.mono_l : ∀ k, (∀ y0 y1, LeO (dir_May.j0 k y0 y1) (dir_May.j0 (k + 1) y0 y1)) ∧ (∀ y0 y1 y2 y3 y4 y5, LeO (dir_May.l0 k y0 y1 y2 y3 y4 y5) (dir_May.l0 (k + 1) y0 y1 y2 y3 y4 y5))
 | 0 => ⟨fun _ _ r h => by simp [dir_May.j0] at h, fun _ _ _ _ _ _ r h => by simp [dir_May.l0] at h⟩
 | k + 1 => by
  obtain ⟨ih0, ih1⟩ := dir_May.mono_l k; refine ⟨?_, ?_⟩
  ·
   intro y0 y1
   unfold dir_May.j0
   repeat' with_reducible first | apply ih0 | apply ih1 | apply api_Node_64.mono | apply dir_below.mono | apply dir_names.mono | exact LeO.refl _ | exact LeO.none _ | refine LeO.ite ?_ ?_ | refine LeO.bind ?_ (fun _ => ?_)
  ·
   intro y0 y1 y2 y3 y4 y5
   unfold dir_May.l0
   repeat' with_reducible first | apply ih0 | apply ih1 | apply api_Node_64.mono | apply dir_below.mono | apply dir_names.mono | exact LeO.refl _ | exact LeO.none _ | refine LeO.ite ?_ ?_ | refine LeO.bind ?_ (fun _ => ?_)
theorem dir_May.mono : ∀ a0 k, LeO (dir_May.f k a0) (dir_May.f (k + 1) a0) := by
 intro a0 k; obtain ⟨ih0, ih1⟩ := dir_May.mono_l k
 unfold dir_May.f
 repeat' with_reducible first | apply ih0 | apply ih1 | apply api_Node_64.mono | apply dir_below.mono | apply dir_names.mono | exact LeO.refl _ | exact LeO.none _ | refine LeO.ite ?_ ?_ | refine LeO.bind ?_ (fun _ => ?_)
def dir_May.T7 : Bool × List (List Nat × List Nat) := (true, [([], []), ([], []), ([], []), ([], []), ([2, 3], [2, 3]), ([4], [4]), ([], []), ([], []), ([6, 7], [6, 7]), ([8], [8]), ([0, 1, 5, 9], [0, 1, 5, 9]), ([10], [10])])
def dir_May.B7 : List Nat := [0, 0, 0, 0, 12, 28, 0, 0, 192, 448, 1023, 2047]
theorem dir_May.tab7 : rtab .any (opsOf Try.f55 7) = dir_May.T7 := by kernel_rfl
theorem dir_May.bits7 : waitsOk dir_May.T7.2 dir_May.B7 = true := by kernel_rfl
set_option maxHeartbeats 8000000 in
set_option maxRecDepth 100000 in
theorem dir_May.calls (k : Nat) (A0_0 : Option Addr) (c0_0 : Nat) (l0_0 : List (S28)) (r : Bool) (w : World) (hr0_0 : Kd.C k28 w A0_0 l0_0.length l0_0) (hc0_0 : l0_0.length ≤ c0_0) (h : dir_May.f k l0_0 = some r) :
 Calls Try.prog 55 #[.agg #[.slice A0_0 l0_0.length c0_0]] w fun e w' => e = .returned (.bool r) ∧ Below w.heap.size w w' := by
 have hu24 := Try.underlying24; have hu28 := Try.underlying28; have HR0_0 := Aside0.mk hr0_0; have HC0_0 := Aside0.mk hc0_0; clear hr0_0 hc0_0; have HB := Aside0.mk (Below.refl w.heap.size w); have H : (if (l0_0.length : Int) = 12 then ((api_Node_64.f k l0_0).bind fun t208 => (if t208 = true then (none) else (if 0 < (l0_0.length : Int) then (dir_May.j0 k (((rd_T28 l0_0 0).f0) != 2) l0_0) else (none)))) else (none)) = some r := h; clear h; have HC2 := Aside0.mk H; clear H
 go_enter Try.func55, Try.ntmps55
 go_upto_region 1 with (first | ((with_reducible refine gate_dst (N := 1) rfl ?_); refine bxE 24 (cs := #[.slice A0_0 l0_0.length c0_0]) ?_; intro gb207 hg w3 hbox hb; have BK207 := Aside0.mk hbox; have GW207 := kG HB hg; have GE207 := kG HB hg; replace HB := kH HB hb; clear hb hbox hg))
 (try simp only [Act.put, lT, l0_, lS])
 go_cut [23] (fun v23 wc => ∃ (kq : Nat) (x23_1 : Bool), v23 = .bool x23_1 ∧ Aside0 (dir_May.j0 kq x23_1 l0_0 = some r) ∧ Aside0 (kq ≤ k) ∧ Aside0 (wc.heap[gb207]? = some (.cells #[(.slice A0_0 l0_0.length c0_0)] 24 (0, 0))) ∧ Aside0 (Below w.heap.size w wc))
 case first =>
  have H := HC2.out; clear HC2
  replace H := nP H; obtain ⟨c4, H⟩ := H; obtain ⟨c4b0, c4b1⟩ := eP c4; clear c4
  (first | rw [c4b0] | (simp only [i64_w, i32_w]; rw [c4b0]) | skip)
  replace H := Option.bind_eq_some_iff.mp H; obtain ⟨t208, A50, H⟩ := H; have A5 := Aside0.mk A50; clear A50
  by_cases c6 : t208 = true
  ·
   subst c6
   have H1 : (none) = some r := by rw [if_pos rfl] at H; exact H
   clear H; have H := H1; clear H1; exact absurd H (by simp)
  ·
   replace c6 := Bool.eq_false_iff.mpr c6; subst c6
   have H1 : (if 0 < (l0_0.length : Int) then (dir_May.j0 k (((rd_T28 l0_0 0).f0) != 2) l0_0) else (none)) = some r := by rw [if_neg (show ¬ (false = true) by decide)] at H; exact H
   clear H; have H := H1; clear H1
   replace H := nP H; obtain ⟨c7, H⟩ := H; have c7b0 := decide_eq_true c7; have c7b1 : decide (0 < l0_0.length) = true := decide_eq_true (by omega); clear c7; have H' := Aside0.mk H; clear H; obtain ⟨hcz8_0, hfz8_0⟩ := cY0 BK207
   go_wp2_with (first | (go_at_call 64; (with_reducible refine (api_Node_64.calls k _ _ l0_0 false _ ?side1 ?side2 A5.out).mono ?_); (case side1 => exact mC HR0_0 HB); (case side2 => exact HC0_0.out); rintro e w9 ⟨rfl, hb⟩; replace BK207 := kB BK207 hb; replace HB := kH HB hb; (try clear hb); obtain ⟨hcz10_0, hfz10_0⟩ := cY0 BK207; have p209 : 0 ≤ (0 : Int) := (by omega); have q209 : 0 < (l0_0.length : Int) := dT; obtain ⟨ad209, A209_3, c209_3, A209_4, c209_4, e209, hx209_0, hx209_1, hx209_2, hx209_3, hx209_4, hl209_3, hi209_3, hl209_4, hi209_4⟩ := at_T28 HR0_0.out 0 p209 q209; cases e209; have qi209 : (0 < l0_0.length) = True := eq_true (by omega); (try rw [show ((0 : Int)).toNat = 0 from rfl] at hx209_0); (try rw [show 0 * 5 = 0 from rfl] at hx209_0); (try rw [Addr.add_zero'] at hx209_0); (try rw [show ((0 : Int)).toNat = 0 from rfl] at hx209_1); (try rw [show 0 * 5 = 0 from rfl] at hx209_1); (try rw [Addr.add_zero'] at hx209_1); (try rw [show ((0 : Int)).toNat = 0 from rfl] at hx209_2); (try rw [show 0 * 5 = 0 from rfl] at hx209_2); (try rw [Addr.add_zero'] at hx209_2); (try rw [show ((0 : Int)).toNat = 0 from rfl] at hx209_3); (try rw [show 0 * 5 = 0 from rfl] at hx209_3); (try rw [Addr.add_zero'] at hx209_3); (try rw [show ((0 : Int)).toNat = 0 from rfl] at hx209_4); (try rw [show 0 * 5 = 0 from rfl] at hx209_4); (try rw [Addr.add_zero'] at hx209_4); replace hx209_0 := xC HB hx209_0; replace hx209_1 := xC HB hx209_1; replace hx209_2 := xC HB hx209_2; replace hx209_3 := xC HB hx209_3; replace hx209_4 := xC HB hx209_4; have HR209_3 := Aside0.mk hi209_3; have HC209_3 := Aside0.mk hl209_3; clear hi209_3 hl209_3; have HR209_4 := Aside0.mk hi209_4; have HC209_4 := Aside0.mk hl209_4; clear hi209_4 hl209_4; replace p209 := eq_true p209; replace q209 := eq_true q209))
   go_meet
   case rel => exact ⟨_, ((((rd_T28 l0_0 0).f0) != 2)), sI, H', ⟨by first | omega | exact Nat.le_refl _⟩, ⟨mB BK207⟩, ⟨mH HB⟩⟩
 case rest =>
  clear HC2
  obtain ⟨kq, x23_1, rfl, HA, HJ1, BK207, HB⟩ := hcut
  cases kq with
  | zero => exact absurd HA.out (by simp [dir_May.j0])
  | succ kj1 =>
   have H := HA.out; clear HA; simp only [dir_May.j0] at H
   by_cases c11 : x23_1 = true
   ·
    subst c11
    have H1 : (none) = some r := by rw [if_pos rfl] at H; exact H
    clear H; have H := H1; clear H1; exact absurd H (by simp)
   ·
    replace c11 := Bool.eq_false_iff.mpr c11; subst c11
    have H1 : ((dir_names.f kj1 l0_0).bind fun t210 => ((dir_below.f kj1 l0_0 0).bind fun t213 => (dir_May.l0 kj1 t210 t213 l0_0 (l0_0.length : Int) 0 l0_0))) = some r := by rw [if_neg (show ¬ (false = true) by decide)] at H; exact H
    clear H; have H := H1; clear H1; replace H := Option.bind_eq_some_iff.mp H; obtain ⟨t210, A120, H⟩ := H; have A12 := Aside0.mk A120; clear A120; replace H := Option.bind_eq_some_iff.mp H; obtain ⟨t213, A130, H⟩ := H; have A13 := Aside0.mk A130; clear A130; have H' := Aside0.mk H; clear H
    try go_wp2
    replace BK207 := Aside0.mk (bD BK207.out); replace HB := Aside0.mk (wD HB.out); refine start_ (n := 6) (S := fun w' => w'.cell? ⟨gb207, 0, none⟩ = some (.slice A0_0 l0_0.length c0_0)) (ds := []) B20_0 (by kernel_rfl) rfl rfl ((bC BK207.out 0).trans rfl) (fun hHeld => ?_); generalize wc.drew = w14 at BK207 HB hHeld ⊢; refine take_ (i := 0) (N := some 24) (v := ?_) (a' := ?_) B20_1 rfl rfl (by kernel_rfl) (fun _ _ _ h => h) (Or.inl ⟨by rfl, ?_⟩) hHeld ?_ ?_; rotate_left
    ·
     intro w' s0; go_simp; with_reducible rfl
    rotate_left
    ·
     simp only [Act.put, lT, l0_, lS, i64_w, i32_w]; rfl
    refine take_ (i := 2) (N := some 26) (v := ?_) (a' := ?_) B20_2 rfl rfl (by kernel_rfl) (fun _ _ _ h => h) (Or.inl ⟨by rfl, ?_⟩) hHeld ?_ ?_; rotate_left
    ·
     intro w' s0; go_simp; with_reducible rfl
    rotate_left
    ·
     simp only [Act.put, lT, l0_, lS, i64_w, i32_w]; rfl
    refine one_ (i := 1) (N := some 25) B20_3 rfl rfl (by kernel_rfl) (by decide) (fun K hK => ?_); refine goes_ Try.func72 (by kernel_rfl) rfl #[.agg #[.slice A0_0 l0_0.length c0_0]] (by rfl) rfl rfl (by (try simp only [List.map_toArray, List.map_cons, List.map_nil]); first | done | rfl | (simp only [List.length_drop, List.length_take]; rfl)) ?_
    with_reducible refine (dir_names.calls kj1 _ _ l0_0 t210 _ ?side1 ?side2 A12.out).mono ?_
    (case side1 => exact mC HR0_0 HB)
    (case side2 => exact HC0_0.out)
    rintro e w15 ⟨v211, rfl, ho0, hb⟩; refine ⟨_, rfl, ?_⟩; have HO212 := Aside0.mk (Kd.R_lower ho0 (below_size (mH HB))); replace BK207 := kB BK207 hb; replace HB := kH HB hb
    (try clear hb); (try clear ho0)
    refine hK.out _ _ ((bC BK207.out 0).trans rfl) (fun hHeld => ?_); clear hK K; refine norm_ (a' := ?_) ?_ ?_; rotate_left
    ·
     show Act.put _ (some 25) _ = _
     simp only [Act.put, lT, l0_, lS, i64_w, i32_w]; rfl
    refine one_ (i := 3) (N := some 27) B20_4 rfl rfl (by kernel_rfl) (by decide) (fun K hK => ?_); refine goes_ Try.func73 (by kernel_rfl) rfl #[.agg #[.slice A0_0 l0_0.length c0_0], .int .i64 0] (by rfl) rfl rfl (by (try simp only [List.map_toArray, List.map_cons, List.map_nil]); first | done | rfl | (simp only [List.length_drop, List.length_take]; rfl)) ?_
    with_reducible refine (dir_below.calls kj1 _ _ l0_0 0 t213 _ ?side1 ?side2 A13.out).mono ?_
    (case side1 => exact mC HR0_0 HB)
    (case side2 => exact HC0_0.out)
    rintro e w16 ⟨v214, rfl, ho0, hb⟩; refine ⟨_, rfl, ?_⟩; replace HO212 := kR HO212 hb; have HO215 := Aside0.mk (Kd.R_lower ho0 (below_size (mH HB))); replace BK207 := kB BK207 hb; replace HB := kH HB hb
    (try clear hb); (try clear ho0)
    refine hK.out _ _ ((bC BK207.out 0).trans rfl) (fun hHeld => ?_); clear hK K; refine norm_ (a' := ?_) ?_ ?_; rotate_left
    ·
     show Act.put _ (some 27) _ = _
     simp only [Act.put, lT, l0_, lS, i64_w, i32_w]; rfl
    refine pureE 4 (some 3) B20_5 (by kernel_rfl) ?_
    refine pureE 5 (some 4) B20_6 (by kernel_rfl) ?_
    refine done_ (by kernel_rfl) ?_; obtain ⟨hcz17_0, hfz17_0⟩ := cY0 BK207
    try go_wp2
    go_loopg [31] kj1 (fun kq v31 w' => ∃ (x31_2 : Int), v31 = .int .i64 x31_2 ∧ Aside0 (dir_May.l0 kq t210 t213 l0_0 (l0_0.length : Int) x31_2 l0_0 = some r) ∧ Aside0 (kq ≤ kj1) ∧ Aside0 (Kd.R (Kd.int .i64) 3 w' w.heap.size (fun _ => True) v211 t210) ∧ Aside0 (Kd.R Kd.bool 4 w' w.heap.size (fun _ => True) v214 t213) ∧ Aside0 (w'.heap[gb207]? = some (.cells #[(.slice A0_0 l0_0.length c0_0)] 24 (0, 0))) ∧ Aside0 (Below w.heap.size w w'))
    case atStart => exact ⟨(0), sI, H', ⟨Nat.le_refl _⟩, ⟨mR HO212⟩, ⟨mR HO215⟩, ⟨mB BK207⟩, ⟨mH HB⟩⟩
    case round =>
     clear H'
     (try clear c11); (try clear hcz17_0); (try clear hfz17_0)
     obtain ⟨x31_2, rfl, HA, HK2, HO_3, HO_4, BK207, HB⟩ := hrel
     cases gk with
     | zero => exact absurd HA.out (by simp [dir_May.l0])
     | succ k2 =>
      have H := HA.out; clear HA; simp only [dir_May.l0] at H
      by_cases c18 : x31_2 < (l0_0.length : Int)
      ·
       rw [if_pos c18] at H; have c18b0 := decide_eq_true c18; clear c18
       replace H := nP H; obtain ⟨c19, H⟩ := H; have c19b0 := decide_eq_true c19; clear c19
       replace H := nP H; obtain ⟨c20, H⟩ := H; have c20b0 := decide_eq_true c20; clear c20
       replace H := nP H; obtain ⟨c21, H⟩ := H; have c21b0 := decide_eq_true c21; clear c21
       replace H := nP H; obtain ⟨c22, H⟩ := H; have c22b0 := decide_eq_true c22; clear c22; replace H := Option.bind_eq_some_iff.mp H; obtain ⟨t220, A230, H⟩ := H; have A23 := Aside0.mk A230; clear A230
       by_cases c24 : t220 = true
       ·
        subst c24
        have H1 : (dir_May.l0 k2 t210 t213 l0_0 (l0_0.length : Int) (wrap64 (x31_2 + 1)) l0_0) = some r := by rw [if_pos rfl] at H; exact H
        clear H; have H := H1; clear H1; have H' := Aside0.mk H; clear H; have p216 : 0 ≤ (x31_2 : Int) := dT; have q216 : x31_2 < (l0_0.length : Int) := dT; obtain ⟨ad216, A216_3, c216_3, A216_4, c216_4, e216, hx216_0, hx216_1, hx216_2, hx216_3, hx216_4, hl216_3, hi216_3, hl216_4, hi216_4⟩ := at_T28 HR0_0.out x31_2 p216 q216
        cases e216
        replace hx216_0 := xC HB hx216_0; replace hx216_1 := xC HB hx216_1; replace hx216_2 := xC HB hx216_2; replace hx216_3 := xC HB hx216_3; replace hx216_4 := xC HB hx216_4; have HR216_3 := Aside0.mk hi216_3; have HC216_3 := Aside0.mk hl216_3; clear hi216_3 hl216_3; have HR216_4 := Aside0.mk hi216_4; have HC216_4 := Aside0.mk hl216_4; clear hi216_4 hl216_4; replace p216 := eq_true p216; replace q216 := eq_true q216
        try go_wp2_with (first | ((with_reducible refine gate_dst (N := 6) rfl ?_); refine bxE 28 (cs := #[.int .i64 0, .int .i64 0, .int .i64 0, .slice none 0 0, .slice none 0 0]) ?_; intro gb217 hg w25 hbox hb; replace HO_3 := kR HO_3 hb; replace HO_4 := kR HO_4 hb; have BK217 := Aside0.mk hbox; have GW217 := kG HB hg; have GE217 := kG HB hg; replace HB := kH HB hb; have NB207_217 := kL BK207 hg; have NB217_207 := kQ BK207 hg; replace BK207 := kB BK207 hb; clear hb hbox hg; have hnb26 := NB217_207.out; have hnc26 := NB207_217.out; obtain ⟨hcz27_0, hfz27_0⟩ := cY0 BK217; obtain ⟨hcz27_1, hfz27_1⟩ := cY1 BK217; obtain ⟨hcz27_2, hfz27_2⟩ := cY2 BK217; obtain ⟨hcz27_3, hfz27_3⟩ := cY3 BK217; obtain ⟨hcz27_4, hfz27_4⟩ := cY4 BK217))
        obtain ⟨w28, hw_, n_⟩ : ∃ W_, ((((w25.setCell ⟨gb217, 0, none⟩ (.int .i64 ((rd_T28 l0_0 x31_2).f0))).setCell ⟨gb217, 1, none⟩ (.int .i64 ((rd_T28 l0_0 x31_2).f1))).setCell ⟨gb217, 2, none⟩ (.int .i64 ((rd_T28 l0_0 x31_2).f2))).setCell ⟨gb217, 3, none⟩ (.slice A216_3 ((rd_T28 l0_0 x31_2).f3).length c216_3)).setCell ⟨gb217, 4, none⟩ (.slice A216_4 ((rd_T28 l0_0 x31_2).f4).length c216_4) = W_ ∧ Aside0 (Kd.R (Kd.int .i64) 3 W_ w.heap.size (fun _ => True) v211 t210) ∧ Aside0 (Kd.R Kd.bool 4 W_ w.heap.size (fun _ => True) v214 t213) ∧ Aside0 (W_.heap[gb207]? = some (.cells #[.slice (some ad216) l0_0.length c0_0] 24 (0, 0))) ∧ Aside0 (W_.heap[gb217]? = some (.cells #[.int .i64 ((rd_T28 l0_0 x31_2).f0), .int .i64 ((rd_T28 l0_0 x31_2).f1), .int .i64 ((rd_T28 l0_0 x31_2).f2), .slice A216_3 ((rd_T28 l0_0 x31_2).f3).length c216_3, .slice A216_4 ((rd_T28 l0_0 x31_2).f4).length c216_4] 28 (0, 0))) ∧ Aside0 (Below w.heap.size w W_) := ⟨_, rfl, ⟨fR ⟨Kd.R_types HO_3.out BK217.out (by decide)⟩⟩, ⟨fR ⟨Kd.R_types HO_4.out BK217.out (by decide)⟩⟩, ⟨mF BK207⟩, ⟨pP BK217⟩, ⟨mH HB⟩⟩
        (try clear HO_3); (try clear HO_4); (try clear BK207); (try clear BK217); (try clear HB); rewrite [hw_]; clear hw_; obtain ⟨HO_3, HO_4, BK207, BK217, HB⟩ := n_; replace HO_3 := Aside0.mk (Kd.R_drew HO_3.out); replace HO_4 := Aside0.mk (Kd.R_drew HO_4.out); replace BK207 := Aside0.mk (bD BK207.out); replace BK217 := Aside0.mk (bD BK217.out); replace HB := Aside0.mk (wD HB.out); obtain ⟨Ao30, co30, eo30⟩ := Kd.R_slice HO_3.out
        (first | subst eo30 | (injection eo30 with f1_ f2_ f3_; have f4_ := f1_.symm; have f5_ := f3_.symm; clear f1_ f2_ f3_; subst f4_; subst f5_))
        have p218 : 0 ≤ (x31_2 : Int) := dT; have q218 : x31_2 < (t210.length : Int) := dT; obtain ⟨ad218, e218, hx218_0⟩ := Kd.at_int (Kd.R_reads' HO_3.out).2.2 x31_2 p218 q218
        cases e218
        replace p218 := eq_true p218; replace q218 := eq_true q218; obtain ⟨Ao31, co31, eo31⟩ := Kd.R_slice HO_4.out
        (first | subst eo31 | (injection eo31 with f1_ f2_ f3_; have f4_ := f1_.symm; have f5_ := f3_.symm; clear f1_ f2_ f3_; subst f4_; subst f5_))
        have p219 : 0 ≤ (x31_2 : Int) := dT; have q219 : x31_2 < (t213.length : Int) := dT; obtain ⟨ad219, e219, hx219_0⟩ := Kd.at_bool (Kd.R_reads' HO_4.out).2.2 x31_2 p219 q219
        cases e219
        replace p219 := eq_true p219; replace q219 := eq_true q219; refine start_ (n := 12) (S := fun w' => w'.cell? ⟨gb217, 0, none⟩ = some (.int .i64 ((rd_T28 l0_0 x31_2).f0)) ∧ w'.cell? ⟨gb217, 1, none⟩ = some (.int .i64 ((rd_T28 l0_0 x31_2).f1)) ∧ w'.cell? ⟨gb217, 2, none⟩ = some (.int .i64 ((rd_T28 l0_0 x31_2).f2)) ∧ w'.cell? ⟨gb217, 3, none⟩ = some (.slice A216_3 ((rd_T28 l0_0 x31_2).f3).length c216_3) ∧ w'.cell? ⟨gb217, 4, none⟩ = some (.slice A216_4 ((rd_T28 l0_0 x31_2).f4).length c216_4) ∧ w'.cell? (ad218.add (x31_2).toNat) = some (.int .i64 (rd t210 x31_2)) ∧ w'.cell? (ad219.add (x31_2).toNat) = some (.bool (rdOf false t213 x31_2))) (ds := []) B20_7 (by kernel_rfl) rfl rfl ⟨(bC BK217.out 0).trans rfl, (bC BK217.out 1).trans rfl, (bC BK217.out 2).trans rfl, (bC BK217.out 3).trans rfl, (bC BK217.out 4).trans rfl, hx218_0, hx219_0⟩ (fun hHeld => ?_); refine with_tabW dir_May.tab7 dir_May.bits7 (fun HT_ HW_ => ?_); generalize w28.drew = w29 at HO_3 HO_4 BK207 BK217 HB hx218_0 hx219_0 hHeld ⊢; refine pure_ (i := 1) (N := some 37) (v := ?_) (a' := ?_) B20_8 rfl rfl (any_of HT_.out (by kernel_rfl)) (fun _ _ _ h => h) (Or.inl ⟨by rfl, ?_⟩) ?_ ?_; rotate_left
        ·
         intro w'; go_simp; with_reducible rfl
        rotate_left
        ·
         simp only [Act.put, lT, l0_, lS, i64_w, i32_w]; rfl
        refine pureE 2 (some 38) B20_9 (any_of HT_.out (by kernel_rfl)) ?_
        refine pureE 3 (some 39) B20_10 (any_of HT_.out (by kernel_rfl)) ?_
        refine pureE 4 (some 40) B20_11 (any_of HT_.out (by kernel_rfl)) ?_
        refine pureE 6 (some 42) B20_12 (any_of HT_.out (by kernel_rfl)) ?_
        refine pureE 7 (some 43) B20_13 (any_of HT_.out (by kernel_rfl)) ?_
        refine pureE 8 (some 44) B20_14 (any_of HT_.out (by kernel_rfl)) ?_
        refine take_ (i := 0) (N := some 36) (v := ?_) (a' := ?_) B20_15 rfl rfl (take_ofW HT_.out HW_.out (by kernel_rfl)) (fun _ _ _ h => h) (Or.inl ⟨by rfl, ?_⟩) hHeld ?_ ?_; rotate_left
        ·
         rintro w' ⟨s0, s1, s2, s3, s4, s5, s6⟩; go_simp; with_reducible rfl
        rotate_left
        ·
         simp only [Act.put, lT, l0_, lS, i64_w, i32_w]; rfl
        refine take_ (i := 5) (N := some 41) (v := ?_) (a' := ?_) B20_16 rfl rfl (take_ofW HT_.out HW_.out (by kernel_rfl)) (fun _ _ _ h => h) (Or.inl ⟨by rfl, ?_⟩) hHeld ?_ ?_; rotate_left
        ·
         rintro w' ⟨s0, s1, s2, s3, s4, s5, s6⟩; go_simp; with_reducible rfl
        rotate_left
        ·
         simp only [Act.put, lT, l0_, lS, i64_w, i32_w]; rfl
        refine take_ (i := 9) (N := some 45) (v := ?_) (a' := ?_) B20_17 rfl rfl (take_ofW HT_.out HW_.out (by kernel_rfl)) (fun _ _ _ h => h) (Or.inl ⟨by rfl, ?_⟩) hHeld ?_ ?_; rotate_left
        ·
         rintro w' ⟨s0, s1, s2, s3, s4, s5, s6⟩; go_simp; with_reducible rfl
        rotate_left
        ·
         simp only [Act.put, lT, l0_, lS, i64_w, i32_w]; rfl
        refine one_ (i := 10) (N := some 46) B20_18 rfl rfl (one_of HT_.out (by kernel_rfl)) (by decide) (fun K hK => ?_); refine goes_ Try.func74 (by kernel_rfl) rfl #[.agg #[.int .i64 ((rd_T28 l0_0 x31_2).f0), .int .i64 ((rd_T28 l0_0 x31_2).f1), .int .i64 ((rd_T28 l0_0 x31_2).f2), .slice A216_3 ((rd_T28 l0_0 x31_2).f3).length c216_3, .slice A216_4 ((rd_T28 l0_0 x31_2).f4).length c216_4], .int .i64 x31_2, .int .i64 (rd t210 x31_2), .bool (rdOf false t213 x31_2)] (by rfl) rfl rfl (by (try simp only [List.map_toArray, List.map_cons, List.map_nil]); first | done | rfl | (simp only [List.length_drop, List.length_take]; rfl)) ?_
        with_reducible refine (dir_hangs.calls ((rd_T28 l0_0 x31_2).f0) ((rd_T28 l0_0 x31_2).f1) ((rd_T28 l0_0 x31_2).f2) _ _ ((rd_T28 l0_0 x31_2).f3) _ _ ((rd_T28 l0_0 x31_2).f4) x31_2 (rd t210 x31_2) (rdOf false t213 x31_2) true _ ?side1 ?side2 ?side3 ?side4 A23.out).mono ?_
        (case side1 => exact mC HR216_3 HB)
        (case side2 => exact HC216_3.out)
        (case side3 => exact mC HR216_4 HB)
        (case side4 => exact HC216_4.out)
        rintro e w32 ⟨rfl, hb⟩; have HS5_ := (hb.cell (World.block_lt_of_cell? _ _ (hHeld.2.2.2.2.2.1))).trans (hHeld.2.2.2.2.2.1); have HS6_ := (hb.cell (World.block_lt_of_cell? _ _ (hHeld.2.2.2.2.2.2))).trans (hHeld.2.2.2.2.2.2); refine ⟨_, rfl, ?_⟩; replace HO_3 := kR HO_3 hb; replace HO_4 := kR HO_4 hb; replace BK207 := kB BK207 hb; replace BK217 := kB BK217 hb; replace HB := kH HB hb
        (try clear hb); (try clear hk)
        refine hK.out _ _ ⟨(bC BK217.out 0).trans rfl, (bC BK217.out 1).trans rfl, (bC BK217.out 2).trans rfl, (bC BK217.out 3).trans rfl, (bC BK217.out 4).trans rfl, HS5_, HS6_⟩ (fun hHeld => ?_); clear hK K; refine norm_ (a' := ?_) ?_ ?_; rotate_left
        ·
         show Act.put _ (some 46) _ = _
         simp only [Act.put, lT, l0_, lS, i64_w, i32_w]; rfl
        refine pureE 11 (some 47) B20_19 (any_of HT_.out (by kernel_rfl)) ?_
        refine done_ (done_of HT_.out (by kernel_rfl)) ?_
        try go_wp2
        go_roundg k2
        case measure => have := HJ1.out; have := HK2.out; omega
        case rel => exact ⟨(wrap64 (x31_2 + 1)), sI, H', ⟨oM HJ1 HK2⟩, ⟨mR HO_3⟩, ⟨mR HO_4⟩, ⟨mB BK207⟩, ⟨mH HB⟩⟩
       ·
        replace c24 := Bool.eq_false_iff.mpr c24; subst c24
        have H1 : (none) = some r := by rw [if_neg (show ¬ (false = true) by decide)] at H; exact H
        clear H; have H := H1; clear H1; exact absurd H (by simp)
      ·
       rw [if_neg c18] at H; have c18b0 := decide_eq_false c18; clear c18; replace H := Option.bind_eq_some_iff.mp H; obtain ⟨t221, A330, H⟩ := H; have A33 := Aside0.mk A330; clear A330; obtain rfl := Option.some.inj H; obtain ⟨hcz34_0, hfz34_0⟩ := cY0 BK207
       go_wp2_with (first | ((with_reducible refine gate_callee (f := 75) rfl ?_); refine goesK (some 50) Try.func75 #[.agg #[.slice A0_0 l0_0.length c0_0]] ?_; (with_reducible refine (dir_apart.calls _ _ l0_0 t221 _ ?side1 ?side2 A33.out).mono ?_); (case side1 => exact mC HR0_0 HB); (case side2 => exact HC0_0.out); rintro e w35 ⟨rfl, hb⟩; refine ⟨_, rfl, ?_⟩; replace HO_3 := kR HO_3 hb; replace HO_4 := kR HO_4 hb; replace BK207 := kB BK207 hb; replace HB := kH HB hb; (try clear hb)))
       go_ret
       exact ⟨rT, mH HB⟩
end Go.Proofs.Ytkigiehkckjlhaa.PGrows
