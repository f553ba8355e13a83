/- A map of rows of bytes, by the kit's own map laws; potsherdlaw20.read, walked by hand: what file.Read tells, read off the pages; conditions: those of each theorem. -/
import Derived.Test.YtkigiehkckjlhaaZReadsPReadsShort
import Derived.Test.YtkigiehkckjlhaaZReadsPReadsx33
import Derived.Test.YtkigiehkckjlhaaZReadsReadsLibD
import Derived.Maps.OwnSet
import Derived.Maps.OwnOps
import Derived.Maps.Views
import Derived.Deep.RegionHeld3
namespace Go.Proofs.Ytkigiehkckjlhaa.ReadsWalk
set_option linter.unusedVariables false
set_option linter.unusedSimpArgs false
open Go.RowKit Go.Proofs.Ytkigiehkckjlhaa.PReads Go.Proofs.YtkigiehkckjlhaaW.PrintWords
open Go.Proofs.YtkigiehkckjlhaaW.PrintLast Go.Proofs.Ytkigiehkckjlhaa.ReadsLib
open Go Go.Proofs.Ytkigiehkckjlhaa.Plain Go.Proofs.YtkigiehkckjlhaaW.PrintMore
def heldElem (v : Value) : Option (DataW Value × List MemPlace) := some (.held v, [])
abbrev noRow : Value := .slice none 0 0
def RowsOf (w : World) (b n : Nat) (V : Int → Value) : Prop :=
  ∃ D : DataW Value, w.ownsMap Try.prog 3 heldElem b n D ∧ Maps.IsMap D ∧ ∀ p : Int, (Lit.int .i64 p).wf = true → D.atKey (.int .i64 p) (.held noRow) = .held (V p)
theorem keyLit (p : Int) : WideAt.IsKeyLit (.int .i64 p) := trivial
theorem key_ne {p q : Int} (h : p ≠ q) : (Lit.int .i64 p) ≠ (Lit.int .i64 q) := fun e => h (by injection e)
theorem RowsOf.kept {w w' : World} {b n : Nat} {V : Int → Value} (hM : RowsOf w b n V) {B : Nat} (hb : Below B w w') (hB : b < B) : RowsOf w' b n V := by
  obtain ⟨D, ⟨es, clock, hc, F, hs, hD⟩, hI⟩ := hM
  exact ⟨D, ⟨es, clock, (hb.block b hB).trans hc, F, hs, hD⟩, hI⟩
theorem RowsOf.lt {w : World} {b n : Nat} {V : Int → Value} (hM : RowsOf w b n V) : b < w.heap.size := by
  obtain ⟨D, h1, h2⟩ := hM; exact h1.lt
theorem RowsOf.below {w w' : World} {b n : Nat} {V : Int → Value} (hM : RowsOf w b n V) (hb : Below w.heap.size w w') : RowsOf w' b n V := hM.kept hb hM.lt
theorem RowsOf.mono {w : World} {b n n' : Nat} {V : Int → Value} (hM : RowsOf w b n V) (hn : n ≤ n') : RowsOf w b n' V := by
  obtain ⟨D, h1, h2⟩ := hM; exact ⟨D, h1.mono hn, h2⟩
theorem RowsOf.far {w : World} {b n : Nat} {V : Int → Value} (hM : RowsOf w b n V) {p : Addr} (hp : b ≠ p.block) (v : Value) : RowsOf (w.setCell p v) b n V := by
  obtain ⟨D, h1, h2⟩ := hM; exact ⟨D, h1.setCell hp v, h2⟩
theorem RowsOf.grown {w w' : World} {b n : Nat} {V : Int → Value} (hM : RowsOf w b n V) {row : Option Nat} (hg : w.grownBy w' row) (hp : some b ≠ row) : RowsOf w' b n V := by
  obtain ⟨D, h1, h2⟩ := hM; exact ⟨D, h1.kept hg hp, h2⟩
theorem RowsOf.obj {w : World} {b n : Nat} {V : Int → Value} (hM : RowsOf w b n V) : ∃ es c, w.heap[b]? = some (.map es c) := by
  obtain ⟨D, ⟨es, clock, hc, _⟩, _⟩ := hM; exact ⟨es, clock, hc⟩
theorem RowsOf.ne {w : World} {b n : Nat} {V : Int → Value} (hM : RowsOf w b n V) {g : Nat} {cs : Array Value} {t : TypeId} {fr : Nat × Nat} (hg : w.heap[g]? = some (.cells cs t fr)) : b ≠ g := by
  obtain ⟨es, c, h⟩ := hM.obj
  intro e; subst e; rw [h] at hg; cases hg
theorem rows_made (w : World) : RowsOf (w.alloc (.map #[] 0)) w.heap.size 0 (fun _ => noRow) :=
  ⟨.map [], World.ownsMap_made w _ _ _, Maps.isMap_empty, fun p _ => by simp [DataW.atKey]⟩
theorem RowsOf.look {w : World} {b n : Nat} {V : Int → Value} (hM : RowsOf w b n V) {p : Int} (hw : (Lit.int .i64 p).wf = true) : (Instr.lookup 65 (.map (some b)) (.int .i64 p) false).run Try.prog w = .ok (V p) w := by
  obtain ⟨D, hown, hT, ha⟩ := hM
  obtain ⟨v, ps, hrun, hv⟩ := hown.lookup (t := 65) (e := 50) (z := noRow) (zd := .held noRow) (zp := []) (Maps.int_keyed Try.underlying3) Try.underlying65 (by kernel_rfl) rfl (Maps.keyOf_int_mk Try.underlying3 hw)
  rw [ha p hw] at hv
  simp only [heldElem, Option.some.injEq, Prod.mk.injEq, DataW.held.injEq] at hv
  rw [hrun, hv.1]
section
variable {w : World} {ops : Array Oper} {rest : List Oper} {o : Oper} {a : Act} {Q : Exit → Act → World → Prop} {b n : Nat} {V : Int → Value}
theorem wp_row (hg : o.guard = none) (m x : Operand) (hop : o.op = Op.lookup 65 m x false) (hM : RowsOf w b n V) (hm : a.eval m = .map (some b)) (p : Int) (hw : (Lit.int .i64 p).wf = true) (hx : a.eval x = .int .i64 p)
    (hK : wpList Try.prog ops Q rest (a.put o.dst (V p)) w) : wpList Try.prog ops Q (o :: rest) a w := by
  refine wpList_plain hg fun K' hK' => ?_
  unfold Oper.wp
  simp [execOp, hop, hm, hx, hM.look hw, Result.andThen]
  exact hK' _ _ hK
theorem wp_rowput (hg : o.guard = none) (m x v : Operand) (hop : o.op = Op.mapUpdate 65 m x v) (hM : RowsOf w b n V) (hn : n < maxLen) (hm : a.eval m = .map (some b)) (p : Int) (hw : (Lit.int .i64 p).wf = true) (u : Value)
    (hx : a.eval x = .int .i64 p) (hv : a.eval v = u)
    (hK : ∀ w', RowsOf w' b (n + 1) (fun r => if r = p then u else V r) → w.grownBy w' (some b) → wpList Try.prog ops Q rest (a.put o.dst undef) w') : wpList Try.prog ops Q (o :: rest) a w := by
  obtain ⟨D, hown, hT, ha⟩ := hM
  refine wpList_mapUpdate_own w hg m x v 65 hop 3 50 (Maps.int_keyed Try.underlying3) Try.underlying65 heldElem b n D hm hown hn _ _ _ hx hv (Maps.keyOf_int_mk Try.underlying3 hw) (.held u) [] rfl ?_
  intro w' hown' hgr
  refine hK w' ⟨_, hown', hT.put _ _, fun r hr => ?_⟩ hgr
  by_cases c : r = p
  · subst c; rw [Maps.atKey_put_same hT (keyLit _)]; simp only [if_true]
  · rw [Maps.atKey_put_other (key_ne c), ha r hr]; simp only [if_neg c]
end
theorem below_map {B b : Nat} {w0 w w' : World} (hb : Below B w0 w) (hg : w.grownBy w' (some b)) (hB : B ≤ b) (hs : B ≤ w.heap.size) : Below B w0 w' :=
  hb.trans ⟨hg.os, hg.tape, hg.output, hg.size, fun k hk => hg.block k (by omega) (by intro e; injection e with e; omega)⟩
theorem blk_map {w w' : World} {b g : Nat} {o : Obj} (hc : w.heap[g]? = some o) (hg : w.grownBy w' (some b)) (hn : g ≠ b) : w'.heap[g]? = some o := by
  rw [hg.block g (Array.getElem?_eq_some_iff.1 hc).1 (by intro e; injection e with e; exact hn e)]; exact hc
theorem pieceB_len (P : Int → List Int) (q : List Int) (p : S41) (n : Nat) : (pieceB P q p n).length = n := by unfold pieceB; simp
theorem pieceB_succ (P : Int → List Int) (q : List Int) (p : S41) (n : Nat) : pieceB P q p (n + 1) = pieceB P q p n ++ [(P (rd q p.f0)).getD (p.f1.toNat + n) 0] := by
  unfold pieceB; rw [List.range_succ, List.map_append]; rfl
theorem readB_succ (P : Int → List Int) (q : List Int) (L : List S41) (i : Nat) (h : i < L.length) : readB P q (L.take (i + 1)) = readB P q (L.take i) ++ pieceB P q (rX L i) (rX L i).f2.toNat := by
  unfold readB
  rw [List.take_succ_eq_append_getElem h, List.flatMap_append]
  have e : rX L (i : Int) = L[i] := by unfold rX; rw [Int.toNat_natCast, qG, List.getElem?_eq_getElem h]; rfl
  rw [e]; simp
theorem readB_len (P : Int → List Int) (q : List Int) (L : List S41) (h : ∀ p ∈ L, p.f2 ≤ 16) : (readB P q L).length ≤ 16 * L.length := by
  induction L with
  | nil => simp [readB]
  | cons p L ih =>
    have h1 := ih (fun x hx => h x (by simp [hx]))
    have h2 := h p (by simp)
    unfold readB at h1 ⊢
    rw [List.flatMap_cons, List.length_append, pieceB_len, List.length_cons]; omega
theorem add_five (ad : Addr) : (ad.add 5).off = ad.off + 5 := by unfold Addr.add; simp
set_option maxHeartbeats 8000000 in
set_option maxRecDepth 100000 in
theorem read_walk (A : Option Addr) (c : Nat) (T : List S28) (bp n : Nat) (V : Int → Value) (P : Int → List Int) (L : List S41) (k : Nat) (w : World) (hr : Kd.C k28 w A T.length T) (hc : T.length ≤ c) (hM : RowsOf w bp n V)
    (hV : ∀ p : Int, (Lit.int .i64 p).wf = true → ∃ A c, V p = .slice A (P p).length c ∧ (P p).length ≤ c ∧ Kd.C (Kd.int .u8) w A (P p).length (P p)) (h : file_Read.f k T 1 0 1000 = some (L, 0)) (hT : 1 < T.length) (q : List Int) (hqe : (rU T 1).f3 = q) (h5 : q.length = 5)
    (hL6 : L.length ≤ 6) (hL : ∀ p ∈ L, 0 ≤ p.f0 ∧ p.f0 < 5 ∧ 0 ≤ p.f1 ∧ 0 ≤ p.f2 ∧ p.f1 + p.f2 ≤ 16) (hq : ∀ x ∈ q, (Lit.int .i64 x).wf = true) :
    Calls Try.prog 42 #[.agg #[.slice A T.length c], .map (some bp)] w fun e w' => ∃ v0_ : Value, e = .returned (.tuple #[v0_, .bool true]) ∧ Kd.R (Kd.int .u8) 5 w' w.heap.size (fun _ => True) v0_ (readB P q L) ∧ Below w.heap.size w w' := by
  have hu50 := Try.underlying50; have hu24 := Try.underlying24; have hu5 := Try.underlying5; have hu41 := Try.underlying41; have hu28 := Try.underlying28; have hu22 := Try.underlying22; have hu25 := Try.underlying25; have hu38 := Try.underlying38
  have HB := kA (Below.refl w.heap.size w)
  have HR := kA hr; have HC := kA hc; have HM := kA hM; have HV := kA hV; have HF := kA h; have HT := kA hT; have H5 := kA h5; have HL6 := kA hL6; have HL := kA hL; have HQ := kA hq; have HE := kA hqe
  clear hr hc hM hV h hT h5 hL6 hL hq hqe
  go_enter Try.func42, Try.ntmps42
  go_upto_region 1 with ((with_reducible refine gate_dst (N := 2) rfl ?_); (try (refine gate_guard (by rfl) ?_; dsimp only)); refine bxE 24 (cs := #[.slice A T.length c]) ?_; intro bt hg w1 hbox hb; have BT := kA hbox; have HB0 := kA hb; clear hb hbox hg)
  have n1_ := kA (Kd.C_below HR.out HB0.out)
  have n2_ := kA (HM.out.below HB0.out)
  clear HR HM HB
  have HR := n1_; have HM := n2_; clear n1_ n2_
  obtain ⟨hct0, hft0⟩ := cY0 BT
  go_upto_region 2 with ((with_reducible refine gate_callee (f := 54) rfl ?_); refine goesK (some 15) Try.func54 #[.agg #[.slice A T.length c], .int .i64 1, .int .i64 0, .int .i64 1000] ?_; (with_reducible refine (file_Read.calls k _ _ T 1 0 1000 L 0 _ ?side1 ?side2 HF.out).mono ?_); (case side1 => exact HR.out); (case side2 => exact HC.out); rintro e w2 ⟨vl, rfl, ho, hb⟩; refine ⟨_, rfl, ?_⟩; have HL1 := kA ho; have HB1 := kA hb; clear ho hb)
  obtain ⟨Al, cl, hvl, hcl, hCl⟩ := Kd.R_reads HL1.out; subst hvl
  have HRL := kA hCl; clear hCl hcl HL1
  have n1_ := kA (Kd.C_below HR.out HB1.out)
  have n2_ := kA (HM.out.below HB1.out)
  have n3_ := kA (below_step HB0.out HB1.out)
  have n4_ := kA (blk_below BT.out HB1.out)
  have n5_ := kA (show ∀ p : Int, (Lit.int .i64 p).wf = true → ∃ A c, V p = .slice A (P p).length c ∧ (P p).length ≤ c ∧ Kd.C (Kd.int .u8) w2 A (P p).length (P p) from fun p hp => by
    obtain ⟨A, c, h1, h2, h3⟩ := HV.out p hp
    exact ⟨A, c, h1, h2, Kd.C_below h3 n3_.out⟩)
  clear HR HM HB0 HB1 BT HV hct0 hft0 HF
  have HR := n1_; have HM := n2_; have HB0 := n3_; have BT := n4_; have HV := n5_; clear n1_ n2_ n3_ n4_ n5_
  have HB := kA (Below.refl w2.heap.size w2)
  obtain ⟨adT, A3, c3, A4, c4, eT, -, -, -, hx3, -, hl3, hC3, -, -⟩ := at_T28 HR.out 1 (by decide) (by have := HT.out; omega)
  subst eT
  have HX3 := kA hx3; have HC3 := kA hC3; clear hx3 hC3 hl3
  rw [HE.out] at HX3 HC3
  go_wp2
  go_loopg [8, 20] L.length (fun gk v8 v20 w' => ∃ i : Nat, v20 = .int .i64 i ∧ i ≤ L.length ∧ L.length - i ≤ gk ∧ Aside0 (Kd.R (Kd.int .u8) 5 w' w2.heap.size (fun _ => True) v8 (readB P q (L.take i))) ∧ Aside0 (Below w2.heap.size w2 w'))
  case atStart => exact ⟨0, rfl, Nat.zero_le _, by omega, ⟨Kd.R_nil _ _ _ _ _⟩, HB⟩
  case round =>
    clear HB
    obtain ⟨i, rfl, hi, hig, HO, HB⟩ := hrel
    by_cases hlt : i < L.length
    case neg =>
      have : i = L.length := by omega
      subst this
      have d1 : decide ((L.length : Int) < (L.length : Int)) = false := qF (by omega)
      have d2 : decide (L.length < L.length) = false := qF (by omega)
      obtain ⟨Ao, co, eo⟩ := Kd.R_slice HO.out; subst eo
      clear hlt hi hig
      go_wp2
      go_ret2
      refine ⟨_, rfl, ?_, below_step HB0.out HB.out⟩
      have e_ := HO.out
      rw [List.take_length] at e_ ⊢
      exact Kd.R_lower e_ (below_size HB0.out)
    case pos =>
      have hm : rX L (i : Int) ∈ L := by
        unfold rX; rw [Int.toNat_natCast, qG, List.getElem?_eq_getElem hlt]; exact List.getElem_mem hlt
      have hp := HL.out _ hm
      have d1 : decide ((i : Int) < (L.length : Int)) = true := qT (by omega)
      have d2 : decide (i < L.length) = true := qT hlt
      have p1 : 0 ≤ (i : Int) := by omega
      have q1 : (i : Int) < (L.length : Int) := by omega
      obtain ⟨adl, el, hx0, hx1, hx2⟩ := at_T41 HRL.out i p1 q1
      cases el
      simp only [Int.toNat_natCast] at hx0 hx1 hx2
      replace hx0 := xC HB hx0; replace hx1 := xC HB hx1; replace hx2 := xC HB hx2
      replace p1 := eq_true p1; replace q1 := eq_true q1
      have HS := kA (readB_succ P q L i hlt)
      have HLT := kA hlt; clear hlt hm
      generalize rX L (i : Int) = pc at hp hx0 hx1 hx2 HS
      obtain ⟨f0, f1, f2⟩ := pc
      dsimp only at hp hx0 hx1 hx2
      have HP := kA hp; clear hp
      go_upto_region 6 with ((with_reducible refine gate_dst (N := 10) rfl ?_); (try (refine gate_guard (by rfl) ?_; dsimp only)); refine bxE 41 (cs := #[.int .i64 0, .int .i64 0, .int .i64 0]) ?_; intro bq hg w5 hbox hb; have BQ := kA hbox; have GQ := kG HB hg; have HO2 := kR HO hb; replace HB := kH HB hb; clear HO hb hbox hg; obtain ⟨hcq0, hfq0⟩ := cY0 BQ; obtain ⟨hcq1, hfq1⟩ := cY1 BQ; obtain ⟨hcq2, hfq2⟩ := cY2 BQ)
      have n0_ := kA (show (((w5.setCell ⟨bq, 0, none⟩ (.int .i64 f0)).setCell ⟨bq, 1, none⟩ (.int .i64 f1)).setCell ⟨bq, 2, none⟩ (.int .i64 f2)).heap[bq]? = some (.cells #[.int .i64 f0, .int .i64 f1, .int .i64 f2] 41 (0, 0)) from pP BQ)
      have n1_ := kA (show Below w2.heap.size w2 (((w5.setCell ⟨bq, 0, none⟩ (.int .i64 f0)).setCell ⟨bq, 1, none⟩ (.int .i64 f1)).setCell ⟨bq, 2, none⟩ (.int .i64 f2)) from mH HB)
      have n2_ := kA (show Kd.R (Kd.int .u8) 5 (((w5.setCell ⟨bq, 0, none⟩ (.int .i64 f0)).setCell ⟨bq, 1, none⟩ (.int .i64 f1)).setCell ⟨bq, 2, none⟩ (.int .i64 f2)) w2.heap.size (fun _ => True) u8 (readB P q (L.take i)) from fR ⟨Kd.R_types HO2.out BQ.out (by decide)⟩)
      clear hcq0 hcq1 hcq2 hfq0 hfq1 hfq2 hx0 hx1 hx2 p1 q1 BQ HB HO2
      generalize (((w5.setCell ⟨bq, 0, none⟩ (.int .i64 f0)).setCell ⟨bq, 1, none⟩ (.int .i64 f1)).setCell ⟨bq, 2, none⟩ (.int .i64 f2)) = w6 at n0_ n1_ n2_ ⊢
      have BQ := n0_; have HB := n1_; have HO := n2_; clear n0_ n1_ n2_
      obtain ⟨hcq0, hfq0⟩ := cY0 BQ; obtain ⟨hcq1, hfq1⟩ := cY1 BQ; obtain ⟨hcq2, hfq2⟩ := cY2 BQ
      have e1 : decide (f0 < 0) = false := qF (by have := HP.out; omega)
      have e2 : decide (5 ≤ f0) = false := qF (by have := HP.out; omega)
      have e3 : decide (f1 < 0) = false := qF (by have := HP.out; omega)
      have e4 : decide (f2 < 0) = false := qF (by have := HP.out; omega)
      have e5 : wrap64 (f1 + f2) = f1 + f2 := w64 (by have := HP.out; omega) (by have := HP.out; omega)
      have e6 : decide (16 < f1 + f2) = false := qF (by have := HP.out; omega)
      have e7 : ((q.length : Int) != 5) = false := bne_eq_false_iff_eq.mpr (by have := H5.out; omega)
      have e8 : decide ((1 : Int) < (T.length : Int)) = true := qT (by have := HT.out; omega)
      have e9 : ((1 : Int) < (T.length : Int)) = True := eq_true (by have := HT.out; omega)
      have e10 : 1 < T.length := HT.out
      have hct0 := xC HB (cZ0 BT)
      have hx3 := xC HB HX3.out
      rw [show (adT.add (Int.toNat 1 * 5)).block = adT.block from add_block _ _, show (adT.add (Int.toNat 1 * 5)).off = adT.off + 5 from add_five adT] at hx3
      go_upto_region 8 with (fail)
      have p3 : 0 ≤ f0 := by have := HP.out; omega
      have q3 : f0 < (q.length : Int) := by have := HP.out; have := H5.out; omega
      obtain ⟨ad3, ea3, hx4⟩ := Kd.at_int HC3.out f0 p3 q3
      subst ea3
      replace hx4 := xC HB hx4
      have hkm : rd q f0 ∈ q := by
        unfold rd; rw [qG, List.getElem?_eq_getElem (show f0.toNat < q.length by omega)]; exact List.getElem_mem _
      have hkw := HQ.out _ hkm
      obtain ⟨Ap, cp, hVp, hcp, hCp⟩ := HV.out _ hkw
      have HLK := kA (show ∀ w_ : World, RowsOf w_ bp n V → (Instr.lookup 65 (.map (some bp)) (.int .i64 (rd q f0)) false).run Try.prog w_ = .ok (.slice Ap (P (rd q f0)).length cp) w_ from fun w_ h_ => by rw [← hVp]; exact h_.look hkw)
      have HSP := kA (show ∀ nn : Nat, pieceB P q ⟨f0, f1, f2⟩ (nn + 1) = pieceB P q ⟨f0, f1, f2⟩ nn ++ [(P (rd q f0)).getD (f1.toNat + nn) 0] from fun nn => pieceB_succ _ _ _ _)
      have HMW := kA (show RowsOf w6 bp n V from HM.out.below HB.out)
      have hlk := HLK.out w6 HMW.out
      have HCp := kA hCp; clear hkm hkw hVp hcp hCp
      generalize rd q f0 = key at hx4 hlk HCp HSP HLK
      generalize P key = pg at hlk HCp HSP HLK
      replace p3 := eq_true p3; replace q3 := eq_true q3
      go_region_held3 (fun w_ => w_.cell? ⟨bt, 0, none⟩ = some (.slice (some adT) T.length c) ∧ w_.cell? ⟨adT.block, adT.off + 5 + 3, none⟩ = some (.slice (some ad3) q.length c3) ∧ w_.cell? ⟨bq, 0, none⟩ = some (.int .i64 f0) ∧ w_.cell? (ad3.add f0.toNat) = some (.int .i64 key) ∧ (Instr.lookup 65 (.map (some bp)) (.int .i64 key) false).run Try.prog w_ = .ok (.slice Ap pg.length cp) w_) (exact ⟨hct0, hx3, hcq0, hx4, HLK.out _ HMW.out⟩) (fail)
      have n1_ := kA (show w6.drew.heap[bq]? = some (.cells #[.int .i64 f0, .int .i64 f1, .int .i64 f2] 41 (0, 0)) from mB BQ)
      have n2_ := kA (show Below w2.heap.size w2 w6.drew from mH HB)
      have n3_ := kA (Kd.R_drew HO.out)
      clear BQ HB HO HMW hlk HLK hct0 hx3 hx4 hcq0 hcq1 hcq2 hfq0 hfq1 hfq2 p3 q3 e1 e2 e3 e4 e6 e7 e8 e9 e10
      generalize w6.drew = w7 at n1_ n2_ n3_ ⊢
      have BQ := n1_; have HB := n2_; have HO := n3_; clear n1_ n2_ n3_
      have hcq1 := cZ1 BQ
      have HE5 := kA e5; clear e5
      go_wp2
      clear hcq1
      go_loopg [8, 12] f2.toNat (fun gk v8 v12 w' => ∃ (j : Nat) (x : Int), v12 = .int .i64 x ∧ x = f1 + (j : Int) ∧ (j : Int) ≤ f2 ∧ (f2 - (j : Int)).toNat ≤ gk ∧ Aside0 (Kd.R (Kd.int .u8) 5 w' w2.heap.size (fun _ => True) v8 (readB P q (L.take i) ++ pieceB P q ⟨f0, f1, f2⟩ j)) ∧ Aside0 (w'.heap[bq]? = some (.cells #[.int .i64 f0, .int .i64 f1, .int .i64 f2] 41 (0, 0))) ∧ Aside0 (Below w2.heap.size w2 w'))
      case atStart => exact ⟨0, f1, rfl, by omega, by have := HP.out; omega, by omega, ⟨by have h := HO.out; rw [show pieceB P q ⟨f0, f1, f2⟩ 0 = [] from rfl, List.append_nil]; exact h⟩, BQ, HB⟩
      case round =>
        clear HB BQ HO
        obtain ⟨j, x, rfl, hxe, hj, hjg, HO, BQ, HB⟩ := hrel
        have HOL := kA (show (readB P q (L.take i) ++ pieceB P q ⟨f0, f1, f2⟩ j).length ≤ 1000 from by
          have h1 := readB_len P q (L.take i) (fun p hp => by have := HL.out p (List.mem_of_mem_take hp); omega)
          have h2 := HL6.out
          have h3 : (L.take i).length ≤ 6 := by rw [List.length_take]; omega
          have := HP.out
          rw [List.length_append, pieceB_len]; omega)
        obtain ⟨O, hO⟩ : ∃ O : List Int, O = readB P q (L.take i) ++ pieceB P q ⟨f0, f1, f2⟩ j := ⟨_, rfl⟩
        rw [← hO] at HO HOL
        have HOE := kA hO; clear hO
        obtain ⟨Ao, co, eo⟩ := Kd.R_slice HO.out; subst eo
        obtain ⟨hcq1, hfq1⟩ := cY1 BQ; obtain ⟨hcq2, hfq2⟩ := cY2 BQ
        have HXE := kA hxe; have e5 := HE5.out
        by_cases hlt : x < f1 + f2
        case neg =>
          have d1 : decide (x < f1 + f2) = false := qF hlt
          have hjj : j = f2.toNat := by have := HP.out; omega
          subst hjj
          have n1_ := kA (show Kd.R (Kd.int .u8) 5 wr w2.heap.size (fun _ => True) (.slice Ao O.length co) (readB P q (L.take (i + 1))) from by
            have h := HO.out
            rw [HS.out]; rw [HOE.out] at h ⊢; exact h)
          clear hlt hj hjg hxe
          clear HO
          have HO := n1_; clear n1_
          go_wp2
          go_roundg (L.length - (i + 1))
          case measure => have := HLT.out; omega
          case rel => exact ⟨i + 1, by rw [mt_succ i (by have := HLT.out; have := HL6.out; omega)], HLT.out, Nat.le_refl _, HO, HB⟩
        case pos =>
          have d1 : decide (x < f1 + f2) = true := qT hlt
          have HXL := kA hlt; have HJG := kA hjg; clear hlt hj hjg hxe
          by_cases hin : x < (pg.length : Int)
          case pos =>
            have d2 : decide (x < (pg.length : Int)) = true := qT hin
            have p4 : 0 ≤ x := by have := HXE.out; have := HP.out; omega
            obtain ⟨adp, ep, hy⟩ := Kd.at_int HCp.out x p4 hin
            subst ep
            replace hy := xC HB hy
            have HXI := kA (show pg.getD (f1.toNat + j) 0 = rd pg x from by unfold rd; have := HXE.out; have := HP.out; congr 1; omega)
            replace p4 := eq_true p4; have q4 := eq_true hin; clear hin
            go_wp2_with (first | ((with_reducible refine gate_builtin (b := .append) (xs := #[.tmp 85, .tmp 90]) rfl ?_); at_builtin; refine Kd.R_append (Kd.int .u8) (w0 := w2) w2.heap.size rfl (.tmp 85) (.tmp 90) 50 5 (.int .u8 0) 1 rfl Try.underlying50 info5 rfl (by decide) (by omega) (.slice Ao O.length co) O (rd pg x) [.int .u8 (rd pg x)] (fun _ => True) (fun _ => False) rfl rfl ?aP (fun _ hk => hk.elim) ?aF ?aO ?aB ?aS ?aL ?_; (case aP => exact rfl); (case aB => exact (mH HB)); (case aF => exact (fun _ _ => trivial)); (case aO => exact (mR HO)); (case aS => exact (below_size (mH HB))); (case aL => have := HOL.out; omega); intro v1 w4 ho hb hg hat; have BQ2 := kA (blk_grown (g := bq) (o := .cells #[.int .i64 f0, .int .i64 f1, .int .i64 f2] 41 (0, 0)) (mB BQ) hg (Kd.R_ne HO.out BQ.out (by decide))); replace HB := kA (hb); have HO2 := kA (ho); clear HO BQ; clear ho hb hg hat))
            go_roundg ((f2 - ((j + 1 : Nat) : Int)).toNat)
            case measure => have := HXE.out; have := HXL.out; have := HJG.out; omega
            case rel => exact ⟨j + 1, _, rfl, by have := HXE.out; have := HXL.out; have := HP.out; rw [w64 (by omega) (by omega)]; push_cast; omega, by have := HXE.out; have := HXL.out; omega, Nat.le_refl _, ⟨by have h := HO2.out; rw [HOE.out, List.append_assoc] at h; rw [HSP.out, HXI.out]; exact h⟩, BQ2, HB⟩
          case neg =>
            have d2 : decide (x < (pg.length : Int)) = false := qF hin
            have HXI := kA (show pg.getD (f1.toNat + j) 0 = 0 from by
              have := HXE.out; have := HP.out
              rw [qG, List.getElem?_eq_none (by omega)]; rfl)
            clear hin
            go_wp2_with (first | ((with_reducible refine gate_builtin (b := .append) (xs := #[.tmp 92, .tmp 93]) rfl ?_); at_builtin; refine Kd.R_append (Kd.int .u8) (w0 := w2) w2.heap.size rfl (.tmp 92) (.tmp 93) 50 5 (.int .u8 0) 1 rfl Try.underlying50 info5 rfl (by decide) (by omega) (.slice Ao O.length co) O (0) [.int .u8 (0)] (fun _ => True) (fun _ => False) rfl rfl ?aP (fun _ hk => hk.elim) ?aF ?aO ?aB ?aS ?aL ?_; (case aP => exact rfl); (case aB => exact (mH HB)); (case aF => exact (fun _ _ => trivial)); (case aO => exact (mR HO)); (case aS => exact (below_size (mH HB))); (case aL => have := HOL.out; omega); intro v1 w4 ho hb hg hat; have BQ2 := kA (blk_grown (g := bq) (o := .cells #[.int .i64 f0, .int .i64 f1, .int .i64 f2] 41 (0, 0)) (mB BQ) hg (Kd.R_ne HO.out BQ.out (by decide))); replace HB := kA (hb); have HO2 := kA (ho); clear HO BQ; clear ho hb hg hat))
            go_roundg ((f2 - ((j + 1 : Nat) : Int)).toNat)
            case measure => have := HXE.out; have := HXL.out; have := HJG.out; omega
            case rel => exact ⟨j + 1, _, rfl, by have := HXE.out; have := HXL.out; have := HP.out; rw [w64 (by omega) (by omega)]; push_cast; omega, by have := HXE.out; have := HXL.out; omega, Nat.le_refl _, ⟨by have h := HO2.out; rw [HOE.out, List.append_assoc] at h; rw [HSP.out, HXI.out]; exact h⟩, BQ2, HB⟩
end Go.Proofs.Ytkigiehkckjlhaa.ReadsWalk
