/- The Go functions that these laws reach, each as a Lean function with the same answers (a law itself where it answers true), and the proof that the code comes to them; conditions: those of each theorem. Laid by a program of this session over the print. -/
import Derived.Test.YtkigiehkckjlhaaZGrowsPGrowsShort
import Derived.Test.YtkigiehkckjlhaaZGrowsPGrowsx0
import Derived.Test.YtkigiehkckjlhaaZGrowsPGrowsx7
namespace Go.Proofs.Ytkigiehkckjlhaa.PGrows
open Go.RowKit Go.Proofs.YtkigiehkckjlhaaW.PrintWords Go.Proofs.YtkigiehkckjlhaaW.PrintLast Go.Proofs.YtkigiehkckjlhaaW.PrintMore
attribute [local go_sem] max2_int min2_int max_two min_two max_three min_three max_four min_four   -- for this text's walks alone
set_option linter.unusedVariables false
set_option linter.unusedSimpArgs false
open Go.Proofs.YtkigiehkckjlhaaW.PrintWords renaming blk_drewN → bN, blk_drew → bD, blk_alloc → bA, below_set → wS, below_alloc → wA, pw_below_drewN → wN, below_drew1 → wD, blk_below → bB, blk_far → bF, blk_cell → bC, blk_frozen → bZ
open List renaming setIfInBounds_toArray → lT, set_cons_zero → l0_, set_cons_succ → lS
abbrev B25_0 : Array Bool := #[false, false, false, false, false]
abbrev B25_1 : Array Bool := B25_0.set! 0 true
abbrev B25_2 : Array Bool := B25_1.set! 1 true
abbrev B25_3 : Array Bool := B25_2.set! 2 true
abbrev B25_4 : Array Bool := B25_3.set! 3 true
abbrev B25_5 : Array Bool := #[true, true, true, true, true]
def mkKeep (old : List Int) (keep : Int) : Nat := (mn (mx keep 0) (old.length : Int)).toNat
def mkBase (old : List Int) (keep : Int) : List Int := (old.take (mkKeep old keep) ++ List.replicate 16 0).take 16
def mkIdx (frm : Int) (data : List Int) (i : Nat) : Int := wrap64 ((i : Int) - mx frm (-(data.length : Int)))
def mkAt (old : List Int) (keep frm : Int) (data : List Int) : Nat → List Int
 | 0 => mkBase old keep
 | i + 1 => if 0 ≤ mkIdx frm data i ∧ mkIdx frm data i < data.length then (mkAt old keep frm data i).set i (rd data (mkIdx frm data i)) else mkAt old keep frm data i
abbrev mkV (x : Int) : Value := .int .u8 x
theorem mkBase_len (old : List Int) (keep : Int) : (mkBase old keep).length = 16 := by
 unfold mkBase; rw [List.length_take, List.length_append, List.length_replicate]; omega
theorem mkAt_len (old : List Int) (keep frm : Int) (data : List Int) : ∀ i, (mkAt old keep frm data i).length = 16
 | 0 => mkBase_len old keep
 | i + 1 => by
  simp only [mkAt]
  split
  ·
   rw [List.length_set]; exact mkAt_len old keep frm data i
  ·
   exact mkAt_len old keep frm data i
theorem mk_splice (old : List Int) (n : Nat) (h : n ≤ old.length) : splice ((List.replicate 16 (0 : Int)).map mkV) 0 (((old.take n).take 16).map mkV) = ((old.take n ++ List.replicate 16 0).take 16).map mkV := by
 unfold splice
 rw [List.take_zero, List.nil_append, Nat.zero_add, List.length_map, ← List.map_drop, ← List.map_append]
 congr 1
 rw [List.take_append, List.length_take, List.drop_replicate, List.take_replicate, List.length_take]
 congr 2
 omega
theorem mk_info5 : (Try.prog.info? 5).map (fun ti => (ti.zero, ti.size, ti.bytes)) = some (some (Value.int IntKind.u8 0), 1, 1) := by kernel_rfl
theorem mk_made : madeCells (Value.int .u8 0).cells (Int.toNat 16 * 1) = ((List.replicate 16 (0 : Int)).map mkV).toArray := by kernel_rfl
theorem mk_put {w : World} {g i : Nat} {L : List Int} {x : Int} (h : w.heap[g]? = some (.cells (L.map mkV).toArray 5 (0, 0))) : (w.setCell ⟨g, i, none⟩ (mkV x)).heap[g]? = some (.cells ((L.set i x).map mkV).toArray 5 (0, 0)) :=
 blk_put h i _ (by rw [lT, List.map_set])
theorem mk_cell {w : World} {g i : Nat} {L : List Int} (h : w.heap[g]? = some (.cells (L.map mkV).toArray 5 (0, 0))) (hi : i < L.length) : w.cell? ⟨g, i, none⟩ = some (mkV (L.getD i 0)) := by
 rw [bC h i, List.getElem?_toArray, List.getElem?_map, List.getD_eq_getElem?_getD, List.getElem?_eq_getElem hi]; rfl
set_option maxHeartbeats 8000000 in
set_option maxRecDepth 100000 in
theorem make_walk (A : Option Addr) (c : Nat) (old : List Int) (a0 a1 a2 keep frm : Int) (A5 : Option Addr) (c5 : Nat) (data : List Int) (w : World) (hr : Kd.C (Kd.int .u8) w A old.length old) (hc : old.length ≤ c) (hr5 : Kd.C (Kd.int .u8) w A5 data.length data) (hc5 : data.length ≤ c5) :
 Calls Try.prog 37 #[.slice A old.length c, .agg #[.int .i64 a0, .int .i64 a1, .int .i64 a2, .int .i64 keep, .int .i64 frm, .slice A5 data.length c5]] w fun e w' => ∃ v0_ : Value, e = .returned (v0_) ∧ Kd.R (Kd.int .u8) 5 w' w.heap.size (fun _ => True) v0_ (mkAt old keep frm data 16) ∧ Below w.heap.size w w' := by
 have hu50 := Try.underlying50; have hu60 := Try.underlying60; have hu5 := Try.underlying5; have HB := Aside0.mk (Below.refl w.heap.size w); have HR := Aside0.mk hr; have HC := Aside0.mk hc; have HR5 := Aside0.mk hr5; have HC5 := Aside0.mk hc5; have HM := Aside0.mk (Kd.C_max hr); have HM5 := Aside0.mk (Kd.C_max hr5); clear hr hc hr5 hc5
 obtain ⟨ti, hti, htz⟩ : ∃ ti, Try.prog.info? 5 = some ti ∧ (ti.zero, ti.size, ti.bytes) = (some (Value.int IntKind.u8 0), 1, 1) := by
  have h := mk_info5
  cases hq : Try.prog.info? 5 with
  | none => rw [hq] at h; cases h
  | some ti => rw [hq] at h; exact ⟨ti, rfl, Option.some.inj h⟩
 simp only [Prod.mk.injEq] at htz; obtain ⟨Z, hZ⟩ : ∃ Z : Array Value, Z = ((List.replicate 16 (0 : Int)).map mkV).toArray := ⟨_, rfl⟩
 have hmk : ∀ W : World, (Instr.makeSlice 50 (.int .i64 16) (.int .i64 16)).run Try.prog W = .ok (.slice (some ⟨W.heap.size, 0, none⟩) 16 16) (W.alloc (.cells Z 5)) := fun W => by
  have := run_make W 50 5 ti (.int .u8 0) Try.underlying50 hti htz.1 .i64 .i64 16 16 (by decide) (by decide) (by rw [htz.2.2]; decide) (by decide)
  rw [htz.2.1] at this; exact this.trans (by rw [mk_made, hZ]; rfl)
 clear hti htz; have HZ := Aside0.mk hZ; clear hZ
 go_enter Try.func37, Try.ntmps37
 go_upto_region 2 with ((with_reducible refine gate_dst (N := 3) rfl ?_); (try (refine gate_guard (by rfl) ?_; dsimp only)); refine bxE 60 (cs := #[.int .i64 a0, .int .i64 a1, .int .i64 a2, .int .i64 keep, .int .i64 frm, .slice A5 data.length c5]) ?_; intro bd hg_ w1 hbox hb; have GD := Aside0.mk (show w.heap.size ≤ bd from by rw [hg_]; exact HB.out.size); have BD := Aside0.mk hbox; have m_ := Aside0.mk (below_step HB.out hb); clear HB; have HB := m_; clear m_; clear hg_ hbox hb)
 clear hmk; have n0_ := Aside0.mk (show (w1.alloc (.cells Z 5)).heap[w1.heap.size]? = some (.cells Z 5 (0, 0)) from by show (w1.heap.push _)[w1.heap.size]? = _; simp)
 have n1_ := Aside0.mk (bA BD.out (.cells Z 5)); have n2_ := Aside0.mk (wA HB.out (.cells Z 5)); have GG := Aside0.mk HB.out.size; have NDG := Aside0.mk (blk_lt BD.out); clear BD HB; generalize w1.heap.size = g at GG n0_ NDG ⊢; generalize w1.alloc (.cells Z 5) = w2 at n0_ n1_ n2_ ⊢; rw [HZ.out] at n0_; have HG := n0_; have BD := n1_; have HB := n2_; clear n0_ n1_ n2_; have hd3 := cZ3 BD
 have hn0 : 0 ≤ mn (mx keep 0) (old.length : Int) := by unfold mn mx; split <;> split <;> omega
 have hn1 : mn (mx keep 0) (old.length : Int) ≤ (old.length : Int) := by unfold mn; split <;> omega
 have HN := Aside0.mk (show mkKeep old keep = (mn (mx keep 0) (old.length : Int)).toNat from rfl); obtain ⟨n, hn⟩ : ∃ n : Nat, mn (mx keep 0) (old.length : Int) = (n : Int) := ⟨_, (Int.toNat_of_nonneg hn0).symm⟩; have HN2 := Aside0.mk (show mkKeep old keep = n from by rw [HN.out, hn, Int.toNat_natCast]); have HN1 := Aside0.mk (show n ≤ old.length from by omega); have hm1 : (if keep < 0 then (0 : Int) else keep) = mx keep 0 := rfl; have hm2 : (if (old.length : Int) < mx keep 0 then (old.length : Int) else mx keep 0) = (n : Int) := hn; have e0 : (0 ≤ (n : Int)) = True := eq_true (by omega); have e1 : decide ((n : Int) ≤ (old.length : Int)) = true := decide_eq_true (by omega); have e2 : ((n : Int) ≤ (old.length : Int)) = True := eq_true (by omega); have e3 : n ≤ old.length := HN1.out; have e4 : n ≤ c := Nat.le_trans HN1.out HC.out; clear hn0 hn1 HN hn
 have hlen : (((old.take n).take 16).map mkV).length = Nat.min n 16 := by rw [List.length_map, List.length_take, List.length_take]; have := HN1.out; show min 16 (min n old.length) = min n 16; omega
 have hsrc : 0 < (((old.take n).take 16).map mkV).length → (some (⟨g, 0, none⟩ : Addr)) = some ⟨g, 0, none⟩ ∧ ∃ ad, A = some ad ∧ ∀ j v, (((old.take n).take 16).map mkV)[j]? = some v → w2.cell? (ad.add j) = some v := by
  intro hp; rw [hlen] at hp
  have hp' : 0 < n := by have : Nat.min n 16 ≤ n := Nat.min_le_left _ _; omega
  obtain ⟨ad, e0, -⟩ := Kd.at_int HR.out 0 (by omega) (oK HN1)
  refine ⟨rfl, ad, e0, fun j v hj => ?_⟩; rw [List.getElem?_map] at hj; obtain ⟨x, hx, rfl⟩ := Option.map_eq_some_iff.1 hj; have hjl := (List.getElem?_eq_some_iff.1 hx).1; rw [List.length_take, List.length_take] at hjl; obtain ⟨ad', e1, hc1⟩ := Kd.at_int HR.out (j : Int) (by omega) (by omega); rw [e0] at e1
  cases e1
  rw [mt_rd, Int.toNat_natCast] at hc1
  have hx2 : old.getD j 0 = x := by
   rw [List.getElem?_take, if_pos (by omega), List.getElem?_take, if_pos (by omega)] at hx; rw [List.getD_eq_getElem?_getD, hx]; rfl
  rw [hx2] at hc1; exact xC HB hc1
 have HLEN := Aside0.mk hlen; have HSRC := Aside0.mk hsrc; clear hlen hsrc
 go_wp2_with ((with_reducible refine gate_builtin (b := .copy) (xs := #[.tmp 9, .tmp 17]) rfl ?_); go_loud (refine wpList_copy_splice rfl _ _ 50 50 rfl 5 Try.underlying50 (by rfl) (some ⟨g, 0, none⟩) A 16 16 n c rfl rfl g 0 ((List.replicate 16 (0 : Int)).map mkV) 5 HG.out (((old.take n).take 16).map mkV) HLEN.out HSRC.out ?fit ?one g w2 (Below.refl g w2) (Nat.le_refl _) ?_); (case fit => rw [HLEN.out, List.length_map, List.length_replicate]; have : Nat.min n 16 ≤ 16 := Nat.min_le_right _ _; omega); (case one => intro v hv; obtain ⟨x, _, rfl⟩ := List.mem_map.1 hv; rfl); intro w3 hg3 hb3)
 replace HG := Aside0.mk (show w3.heap[g]? = some (.cells ((mkAt old keep frm data 0).map mkV).toArray 5 (0, 0)) from by
  have h : w3.heap[g]? = some (.cells (splice ((List.replicate 16 (0 : Int)).map mkV) 0 (((old.take n).take 16).map mkV)).toArray 5 (0, 0)) := hg3; rw [mk_splice old n HN1.out] at h
  show w3.heap[g]? = some (.cells ((mkBase old keep).map mkV).toArray 5 (0, 0))
  unfold mkBase; rw [HN2.out]; exact h); replace BD := Aside0.mk ((hb3.block bd NDG.out).trans BD.out); replace HB := Aside0.mk (HB.out.trans (hb3.mono GG.out)); clear hg3 hb3 hm1 hm2 e0 e1 e2 e3 e4 hd3 HLEN HSRC
 go_loopg [21] 16 (fun gk v21 w' => ∃ i : Nat, v21 = .int .i64 i ∧ i ≤ 16 ∧ 16 - i ≤ gk ∧ Aside0 (w'.heap[g]? = some (.cells ((mkAt old keep frm data i).map mkV).toArray 5 (0, 0))) ∧ Aside0 (w'.heap[bd]? = some (.cells #[.int .i64 a0, .int .i64 a1, .int .i64 a2, .int .i64 keep, .int .i64 frm, .slice A5 data.length c5] 60 (0, 0))) ∧ Aside0 (Below w.heap.size w w'))
 case atStart => exact ⟨0, rfl, by omega, by omega, HG, BD, HB⟩
 case round =>
  clear HG BD HB; obtain ⟨i, rfl, hi, hig, HG, BD, HB⟩ := hrel
  by_cases hlt : i < 16
  case neg =>
   have : i = 16 := by omega
   subst this; clear hlt
   go_wp2
   go_ret
   refine ⟨.slice (some ⟨g, 0, none⟩) 16 16, rfl, ?_, HB.out⟩; refine Kd.R_of_own (enc := Value.int .u8) (h1 := fun _ => rfl) ?_ (fun _ _ => trivial); have hl := mkAt_len old keep frm data 16; refine ⟨by rw [encs_length, Nat.mul_one], Or.inr ⟨g, 16, ((mkAt old keep frm data 16).map mkV).toArray, by rw [hl], GG.out, HG.out, by omega, by decide, by simp [hl], ?_⟩⟩; rw [Nat.mul_one, hl]; exact List.take_of_length_le (by rw [List.length_map, hl]; exact Nat.le_refl _)
  case pos =>
   have cd1 : decide ((i : Int) < 16) = true := decide_eq_true (by omega); have cd2 : decide (i < 16) = true := decide_eq_true (by omega); have hd4 := cZ4 BD; have hd5 := cZ5 BD; have HLT := Aside0.mk hlt; clear hlt; have hm1 : (if frm < -(data.length : Int) then -(data.length : Int) else frm) = mx frm (-(data.length : Int)) := rfl
   go_upto_region 7 with (fail)
   generalize ho : (if frm < wrap64 (-(data.length : Int)) then wrap64 (-(data.length : Int)) else frm) = oo; generalize hk : wrap64 ((i : Int) - oo) = kk
   have hk2 : mkIdx frm data i = kk := by
    rw [← hk, ← ho]; unfold mkIdx mx
    rw [show wrap64 (-(data.length : Int)) = -(data.length : Int) from by have := HM5.out; unfold wrap64; omega]
   have HK := Aside0.mk hk2; clear hk hk2 ho hm1 hd4
   by_cases c1 : 0 ≤ kk
   case neg =>
    have d1 := decide_eq_false c1; replace HG := Aside0.mk (show wr.heap[g]? = some (.cells ((mkAt old keep frm data (i + 1)).map mkV).toArray 5 (0, 0)) from by simp only [mkAt]; rw [if_neg (fun h => c1 (HK.out ▸ h.1))]; exact HG.out); clear c1
    go_wp2
    go_roundg (16 - (i + 1))
    case measure => have := HLT.out; omega
    case rel => exact ⟨i + 1, by first | rfl | (push_cast; rfl) | exact mt_succ i (oK HLT), HLT.out, Nat.le_refl _, HG, BD, HB⟩
   case pos =>
    have d1 := decide_eq_true c1
    by_cases c2 : kk < (data.length : Int)
    case neg =>
     have d2 := decide_eq_false c2; replace HG := Aside0.mk (show wr.heap[g]? = some (.cells ((mkAt old keep frm data (i + 1)).map mkV).toArray 5 (0, 0)) from by simp only [mkAt]; rw [if_neg (fun h => c2 (HK.out ▸ h.2))]; exact HG.out); clear c1 c2
     go_wp2
     go_roundg (16 - (i + 1))
     case measure => have := HLT.out; omega
     case rel => exact ⟨i + 1, by first | rfl | (push_cast; rfl) | exact mt_succ i (oK HLT), HLT.out, Nat.le_refl _, HG, BD, HB⟩
    case pos =>
     have d2 := decide_eq_true c2; obtain ⟨ad5, e5, hy0⟩ := Kd.at_int HR5.out kk c1 c2; subst e5; replace hy0 := xC HB hy0; have hz0 : wr.cell? ⟨g, i, none⟩ = some (mkV ((mkAt old keep frm data i).getD i 0)) := mk_cell HG.out (by rw [mkAt_len]; exact HLT.out)
     have hf0 := bZ HG.out i; have hst := Aside0.mk (show mkAt old keep frm data (i + 1) = (mkAt old keep frm data i).set i (rd data kk) from by simp only [mkAt]; rw [HK.out, if_pos ⟨c1, c2⟩])
     have p1 : (0 ≤ kk) = True := eq_true c1; have q1 : (kk < (data.length : Int)) = True := eq_true c2; have p2 : (0 ≤ (i : Int)) = True := eq_true (by omega); have q2 : ((i : Int) < 16) = True := eq_true (oK HLT)
     clear c1 c2
     go_upto_region 9 with (fail)
     have n0_ := Aside0.mk (mk_put (i := i) (x := rd data kk) HG.out); rw [← hst.out] at n0_; have n1_ := Aside0.mk (bF (p := ⟨g, i, none⟩) BD.out (Nat.ne_of_lt NDG.out) (mkV (rd data kk))); have n2_ := Aside0.mk (wS (j := i) HB.out GG.out (v := mkV (rd data kk))); clear HG BD HB hz0 hf0 hy0 hst p1 q1 p2 q2; generalize wr.setCell ⟨g, i, none⟩ (mkV (rd data kk)) = w4 at n0_ n1_ n2_ ⊢; have HG := n0_; have BD := n1_; have HB := n2_; clear n0_ n1_ n2_
     go_wp2
     go_roundg (16 - (i + 1))
     case measure => have := HLT.out; omega
     case rel => exact ⟨i + 1, by first | rfl | (push_cast; rfl) | exact mt_succ i (oK HLT), HLT.out, Nat.le_refl _, HG, BD, HB⟩
def file_Make.f (l0 : List Int) (a1_0 : Int) (a1_1 : Int) (a1_2 : Int) (a1_3 : Int) (a1_4 : Int) (l1_5 : List Int) : Option (List Int) := some (mkAt l0 a1_3 a1_4 l1_5 16)
theorem file_Make.calls (A0 : Option Addr) (c0 : Nat) (l0 : List Int) (a1_0 : Int) (a1_1 : Int) (a1_2 : Int) (a1_3 : Int) (a1_4 : Int) (A1_5 : Option Addr) (c1_5 : Nat) (l1_5 : List Int) (r : List Int) (w : World) (hr0 : Kd.C (Kd.int .u8) w A0 l0.length l0) (hc0 : l0.length ≤ c0) (hr1_5 : Kd.C (Kd.int .u8) w A1_5 l1_5.length l1_5) (hc1_5 : l1_5.length ≤ c1_5) (h : file_Make.f l0 a1_0 a1_1 a1_2 a1_3 a1_4 l1_5 = some r) :
 Calls Try.prog 37 #[.slice A0 l0.length c0, .agg #[.int .i64 a1_0, .int .i64 a1_1, .int .i64 a1_2, .int .i64 a1_3, .int .i64 a1_4, .slice A1_5 l1_5.length c1_5]] w fun e w' => ∃ v0_ : Value, e = .returned (v0_) ∧ Kd.R (Kd.int .u8) 5 w' w.heap.size (fun _ => True) v0_ r ∧ Below w.heap.size w w' := by
 unfold file_Make.f at h
 obtain rfl := Option.some.inj h; exact make_walk A0 c0 l0 a1_0 a1_1 a1_2 a1_3 a1_4 A1_5 c1_5 l1_5 w hr0 hc0 hr1_5 hc1_5
def potsherdref12_EmptyNode.f (a0 : Int) : Option (Int × Int × Int × List Int × (List (S78))) := if a0 = 1 then (if 5 ≤ 35184372088832 then (some (a0, 1, 0, (List.replicate 5 0), ([] : List (S78)))) else (none)) else (if a0 = 2 then (some (a0, 1, 0, ([] : List Int), ([] : List (S78)))) else (none))
set_option maxHeartbeats 8000000 in
set_option maxRecDepth 100000 in
theorem potsherdref12_EmptyNode.calls (a0 : Int) (r1 : Int) (r2 : Int) (r3 : Int) (r4 : List Int) (r5 : List (S78)) (w : World) (h : potsherdref12_EmptyNode.f a0 = some (r1, r2, r3, r4, r5)) :
 Calls Try.prog 53 #[.int .i64 a0] w fun e w' => ∃ v3_ v4_ : Value, e = .returned (.agg #[.int .i64 r1, .int .i64 r2, .int .i64 r3, v3_, v4_]) ∧ Kd.R (Kd.int .i64) 3 w' w.heap.size (fun _ => True) v3_ r4 ∧ Kd.R k78 78 w' w.heap.size (fun _ => True) v4_ r5 ∧ Below w.heap.size w w' := by
 have hu28 := Try.underlying28; have HB := Aside0.mk (Below.refl w.heap.size w); have H : (if a0 = 1 then (if 5 ≤ 35184372088832 then (some (a0, 1, 0, (List.replicate 5 0), ([] : List (S78)))) else (none)) else (if a0 = 2 then (some (a0, 1, 0, ([] : List Int), ([] : List (S78)))) else (none))) = some (r1, r2, r3, r4, r5) := h; clear h
 by_cases c2 : a0 = 1
 ·
  rw [if_pos c2] at H; obtain ⟨c2b0, c2b1⟩ := eP c2; clear c2
  replace H := nP H; obtain ⟨c3, H⟩ := H; have c3b0 := eq_true c3; have c3b1 := decide_eq_true c3; clear c3; obtain ⟨y309, hy309⟩ : ∃ y_ : List Int, y_ = (List.replicate 5 0) := ⟨_, rfl⟩
  replace H : (some (a0, 1, 0, y309, ([] : List (S78)))) = some (r1, r2, r3, r4, r5) := rH H hy309
  have Ny309 := Aside0.mk hy309; clear hy309; simp only [Option.some.injEq, Prod.mk.injEq] at H; obtain ⟨rfl, rfl, rfl, rfl, rfl⟩ := H
  go_enter Try.func53, Try.ntmps53
  go_wp2_with (first | ((with_reducible refine gate_dst (N := 2) rfl ?_); refine bxE 28 (cs := #[.int .i64 0, .int .i64 0, .int .i64 0, .slice none 0 0, .slice none 0 0]) ?_; intro gb308 hg w4 hbox hb; have BK308 := Aside0.mk hbox; have GW308 := kG HB hg; have GE308 := kG HB hg; replace HB := kH HB hb; clear hb hbox hg) | ((with_reducible refine gate_dst (N := 7) rfl ?_); refine Kd.R_make (Kd.int .i64) _ 3 rfl (N := 7) rfl 25 _ _ rfl 5 rfl rfl Try.underlying25 (.int .i64 0) 8 info3 rfl (by decide) (by omega) 0 (ok := fun _ => True) (okp := fun _ => True) rfl (fun _ hk => hk) trivial (by omega) (by omega) (Below.refl _ _) (Nat.le_refl _) ?_; intro v310 w5 ho6 hb hg_ hnew_; clear hg_ hnew_; (first | rw [← Ny309.out] at ho6 | (simp only [Int.reduceToNat] at ho6; rw [← Ny309.out] at ho6)); have HO311 := Aside0.mk (Kd.R_lower ho6 (below_size (mH HB))); replace BK308 := kB BK308 hb; replace HB := kH HB hb; clear hb ho6; obtain ⟨Ao7, co7, eo7⟩ := Kd.R_slice HO311.out; subst eo7; obtain ⟨hcz8_0, hfz8_0⟩ := cY0 BK308; obtain ⟨hcz8_1, hfz8_1⟩ := cY1 BK308; obtain ⟨hcz8_2, hfz8_2⟩ := cY2 BK308; obtain ⟨hcz8_3, hfz8_3⟩ := cY3 BK308; obtain ⟨hcz8_4, hfz8_4⟩ := cY4 BK308))
  refine bodyPost_ret (results_cell_row rfl _ _ gb308 28 #[.int .i64 a0, .int .i64 1, .int .i64 0, .slice Ao7 y309.length co7, .slice none 0 0] (0, 0) _ rfl (pP BK308) Try.underlying28 rfl (by kernel_rfl)) rfl ?_
  exact ⟨_, _, rT, fR ⟨Kd.R_types HO311.out BK308.out (by decide)⟩, by first | exact Kd.R_nil _ _ _ _ _ | exact Kd.N_nil _ _ _ _ _ | exact Kd.V_nil _ _ _ _ _ | exact Kd.Q_nil _ _ _ _ _ | exact Kd.S_nil _ _ _ _ _, mH HB⟩
 ·
  rw [if_neg c2] at H; obtain ⟨c2b0, c2b1⟩ := eN c2
  replace H := nP H; obtain ⟨c9, H⟩ := H; obtain ⟨c9b0, c9b1⟩ := eP c9; clear c9; simp only [Option.some.injEq, Prod.mk.injEq] at H; obtain ⟨rfl, rfl, rfl, rfl, rfl⟩ := H
  go_enter Try.func53, Try.ntmps53
  go_wp2_with (first | ((with_reducible refine gate_dst (N := 2) rfl ?_); refine bxE 28 (cs := #[.int .i64 0, .int .i64 0, .int .i64 0, .slice none 0 0, .slice none 0 0]) ?_; intro gb308 hg w10 hbox hb; have BK308 := Aside0.mk hbox; have GW308 := kG HB hg; have GE308 := kG HB hg; replace HB := kH HB hb; clear hb hbox hg; obtain ⟨hcz11_0, hfz11_0⟩ := cY0 BK308; obtain ⟨hcz11_1, hfz11_1⟩ := cY1 BK308; obtain ⟨hcz11_2, hfz11_2⟩ := cY2 BK308; obtain ⟨hcz11_3, hfz11_3⟩ := cY3 BK308; obtain ⟨hcz11_4, hfz11_4⟩ := cY4 BK308))
  refine bodyPost_ret (results_cell_row rfl _ _ gb308 28 #[.int .i64 a0, .int .i64 1, .int .i64 0, .slice none 0 0, .slice none 0 0] (0, 0) _ rfl (pP BK308) Try.underlying28 rfl (by kernel_rfl)) rfl ?_
  exact ⟨_, _, rT, by first | exact Kd.R_nil _ _ _ _ _ | exact Kd.N_nil _ _ _ _ _ | exact Kd.V_nil _ _ _ _ _ | exact Kd.Q_nil _ _ _ _ _ | exact Kd.S_nil _ _ _ _ _, by first | exact Kd.R_nil _ _ _ _ _ | exact Kd.N_nil _ _ _ _ _ | exact Kd.V_nil _ _ _ _ _ | exact Kd.Q_nil _ _ _ _ _ | exact Kd.S_nil _ _ _ _ _, mH HB⟩
def potsherdref12_First.f  : Option ((List (S28))) := if 12 ≤ 3909374676536 then ((some (List.replicate 12 z28 : List (S28))).bind fun y313 => ((potsherdref12_EmptyNode.f 2).bind fun bt317 => (if 0 < (y313.length : Int) then (some (y313.set (0 : Int).toNat (⟨bt317.1, bt317.2.1, bt317.2.2.1, bt317.2.2.2.1, bt317.2.2.2.2⟩ : S28))) else (none)))) else (none)
set_option maxHeartbeats 8000000 in
set_option maxRecDepth 100000 in
theorem potsherdref12_First.calls  (r : List (S28)) (w : World) (h : potsherdref12_First.f  = some r) :
 Calls Try.prog 31 #[] w fun e w' => ∃ v0_ : Value, e = .returned (.agg #[v0_]) ∧ Kd.N k28 28 w' w.heap.size (fun k_ => (w.heap.size ≤ k_)) v0_ r ∧ Below w.heap.size w w' := by
 have hu24 := Try.underlying24; have hu28 := Try.underlying28; have HB := Aside0.mk (Below.refl w.heap.size w); have H : (if 12 ≤ 3909374676536 then ((some (List.replicate 12 z28 : List (S28))).bind fun y313 => ((potsherdref12_EmptyNode.f 2).bind fun bt317 => (if 0 < (y313.length : Int) then (some (y313.set (0 : Int).toNat (⟨bt317.1, bt317.2.1, bt317.2.2.1, bt317.2.2.2.1, bt317.2.2.2.2⟩ : S28))) else (none)))) else (none)) = some r := h; clear h
 replace H := nP H; obtain ⟨c1, H⟩ := H; have c1b0 := eq_true c1; have c1b1 := decide_eq_true c1; clear c1; obtain ⟨y313, hy313⟩ : ∃ y_ : List (S28), y_ = (List.replicate 12 z28) := ⟨_, rfl⟩
 replace H : ((potsherdref12_EmptyNode.f 2).bind fun bt317 => (if 0 < (y313.length : Int) then (some (y313.set (0 : Int).toNat (⟨bt317.1, bt317.2.1, bt317.2.2.1, bt317.2.2.2.1, bt317.2.2.2.2⟩ : S28))) else (none))) = some r := rH H hy313
 have Ny313 := Aside0.mk hy313; clear hy313; replace H := Option.bind_eq_some_iff.mp H; obtain ⟨⟨t317, t318, t319, t320, t323⟩, A20, H⟩ := H; replace H : (if 0 < (y313.length : Int) then (some (y313.set (0 : Int).toNat (⟨t317, t318, t319, t320, t323⟩ : S28))) else (none)) = some r := H; have A2 := Aside0.mk A20; clear A20
 replace H := nP H; obtain ⟨c3, H⟩ := H; have c3b0 := decide_eq_true c3; have c3b1 : decide (0 < y313.length) = true := decide_eq_true (by omega); clear c3; obtain ⟨y326, hy326⟩ : ∃ y_ : List (S28), y_ = (y313.set (0 : Int).toNat (⟨t317, t318, t319, t320, t323⟩ : S28)) := ⟨_, rfl⟩
 replace H : (some y326) = some r := rH H hy326
 have Ny326 := Aside0.mk hy326; clear hy326; obtain rfl := Option.some.inj H
 go_enter Try.func31, Try.ntmps31
 try go_wp2_with (first | ((with_reducible refine gate_dst (N := 0) rfl ?_); refine bxE 24 (cs := #[.slice none 0 0]) ?_; intro gb312 hg w5 hbox hb; have BK312 := Aside0.mk hbox; have GW312 := kG HB hg; have GE312 := kG HB hg; replace HB := kH HB hb; clear hb hbox hg) | ((with_reducible refine gate_dst (N := 2) rfl ?_); refine Kd.N_make k28 _ 28 rfl (N' := 2) rfl 22 _ _ rfl 12 rfl rfl Try.underlying22 (.agg #[(.int .i64 0), (.int .i64 0), (.int .i64 0), (.slice none 0 0), (.slice none 0 0)]) 72 info28 rfl (by decide) (by omega) z28 (ok := fun k_ => w5.heap.size ≤ k_) (okp := fun _ => False) (k28_mkF _ _ z28 (Nat.le_refl _) (Kd.F_nil _ _ _) (Nat.le_refl _) (Kd.F_nil _ _ _)) (fun _ hk => hk.elim) (Nat.le_refl _) (by omega) (by omega) (Below.refl _ _) (Nat.le_refl _) ?_; intro v314 w6 ho7 hb hg_ hnew_; clear hg_ hnew_; (first | rw [← Ny313.out] at ho7 | (simp only [Int.reduceToNat] at ho7; rw [← Ny313.out] at ho7)); have HO315 := Aside0.mk (Kd.N_lower (Kd.N_mono (ok' := fun k_ => (w.heap.size ≤ k_) ∧ k_ ≠ gb312) ho7 (fun k_ hk_ => ⟨(Nat.le_trans (below_size (mH HB)) hk_), (Kd.freshB (g := gb312) (o := .cells #[.slice none 0 0] 24 (0, 0)) (mB BK312) k_ hk_)⟩)) (below_size (mH HB))); replace BK312 := kB BK312 hb; replace HB := kH HB hb; clear hb ho7; obtain ⟨Ao8, co8, eo8⟩ := Kd.N_slice HO315.out; subst eo8) | ((with_reducible refine gate_dst (N := 1) rfl ?_); refine bxE 24 (cs := #[.slice none 0 0]) ?_; intro gb316 hg w9 hbox hb; replace HO315 := Aside0.mk (Kd.N_below (Kd.N_elderB (mN HO315) gb316 (Nat.le_of_eq hg.symm)) hb); have BK316 := Aside0.mk hbox; have GW316 := kG HB hg; have GE316 := kG HB hg; replace HB := kH HB hb; have NB312_316 := kL BK312 hg; have NB316_312 := kQ BK312 hg; replace BK312 := kB BK312 hb; clear hb hbox hg; have hnb10 := NB316_312.out; have hnc10 := NB312_316.out; obtain ⟨hcz11_0, hfz11_0⟩ := cY0 BK316))
 obtain ⟨w12, hw_, n_⟩ : ∃ W_, w9.setCell ⟨gb316, 0, none⟩ (.slice Ao8 y313.length co8) = W_ ∧ Aside0 (Kd.N k28 28 W_ w.heap.size (fun k_ => (w.heap.size ≤ k_) ∧ k_ ≠ gb312 ∧ k_ ≠ gb316) (.slice Ao8 y313.length co8) y313) ∧ Aside0 (W_.heap[gb312]? = some (.cells #[.slice none 0 0] 24 (0, 0))) ∧ Aside0 (W_.heap[gb316]? = some (.cells #[.slice Ao8 y313.length co8] 24 (0, 0))) ∧ Aside0 (Below w.heap.size w W_) := ⟨_, rfl, ⟨fN HO315 (fun _ hk => ⟨hk.1.1, ⟨hk.1.2, hk.2⟩⟩)⟩, ⟨mF BK312⟩, ⟨pP BK316⟩, ⟨mH HB⟩⟩
 (try clear HO315); (try clear BK312); (try clear BK316); (try clear HB); rewrite [hw_]; clear hw_; obtain ⟨HO315, BK312, BK316, HB⟩ := n_; replace HO315 := Aside0.mk (Kd.N_drew HO315.out); replace BK312 := Aside0.mk (bD BK312.out); replace BK316 := Aside0.mk (bD BK316.out); replace HB := Aside0.mk (wD HB.out); refine start_ (n := 5) (S := fun w' => w'.cell? ⟨gb316, 0, none⟩ = some (.slice Ao8 y313.length co8)) (ds := [4]) B25_0 (by kernel_rfl) rfl rfl ((bC BK316.out 0).trans rfl) (fun hHeld => ?_); generalize w12.drew = w13 at HO315 BK312 BK316 HB hHeld ⊢; refine pureE 0 (some 4) B25_1 (by kernel_rfl) ?_
 refine take_ (i := 1) (N := some 5) (v := ?_) (a' := ?_) B25_2 rfl rfl (by kernel_rfl) (fun _ _ _ h => h) (Or.inl ⟨by rfl, ?_⟩) hHeld ?_ ?_; rotate_left
 ·
  intro w' s0; go_simp; with_reducible rfl
 rotate_left
 ·
  simp only [Act.put, lT, l0_, lS, i64_w, i32_w]; rfl
 refine one_ (i := 2) (N := some 6) B25_3 rfl rfl (by kernel_rfl) (by decide) (fun K hK => ?_); refine goes_ Try.func53 (by kernel_rfl) rfl #[.int .i64 2] (by rfl) rfl rfl (by (try simp only [List.map_toArray, List.map_cons, List.map_nil]); first | done | rfl | (simp only [List.length_drop, List.length_take]; rfl)) ?_
 with_reducible refine (potsherdref12_EmptyNode.calls 2 t317 t318 t319 t320 t323 _ A2.out).mono ?_
 rintro e w14 ⟨v321, v324, rfl, ho0, ho1, hb⟩; refine ⟨_, rfl, ?_⟩; replace HO315 := Aside0.mk (Kd.N_mono (Kd.N_told (Kd.N_told (Kd.N_old (mN HO315) hb) (Kd.R_base ho0)) (Kd.R_base ho1)) (fun _ h_ => h_.1)); have HO322 := Aside0.mk (Kd.R_lower (Kd.R_newM (M := fun k_ => (w.heap.size ≤ k_)) ho0 (below_size (mH HB)) (fun k_ h_ => h_)) (below_size (mH HB))); have HO325 := Aside0.mk (Kd.R_lower (Kd.R_newM (M := fun k_ => (w.heap.size ≤ k_)) ho1 (below_size (mH HB)) (fun k_ h_ => h_)) (below_size (mH HB))); replace BK312 := kB BK312 hb; replace BK316 := kB BK316 hb; replace HB := kH HB hb
 (try clear hb); (try clear hk); (try clear ho0); (try clear ho1)
 have p4 : 0 ≤ (0 : Int) := (by omega); have q4 : (0 : Int) < ((y313.length : Int) : Int) := dT; have qi4 : (0 < y313.length) = True := eq_true (by omega); obtain ⟨go4, co4, eo4, gb4, gl4, cl4, HG4⟩ := Kd.N_form HO315.out (by omega)
 (first | cases eo4 | (injection eo4 with ea_ en_ ec_; (first | subst ea_ | (injection ea_ with ea_; subst ea_)); subst ec_; clear en_))
 have GB4 := Aside0.mk gb4; have GG4 := Aside0.mk HG4; clear gb4 gl4 HG4; obtain ⟨ce4, hcl4, hM4, hcc4, hfr4⟩ := Kd.N_elem HO315.out z28 (0 : Int) p4 q4; obtain ⟨ua4_3, uc4_3, ua4_4, uc4_4, rfl, ul4_3, ge4_3, ul4_4, ge4_4⟩ := k28_openF hM4; have hx4_0 : World.cell? _ ⟨go4, (0 : Int).toNat * 5, none⟩ = some (.int .i64 ((rd_T28 y313 0).f0)) := hcc4 0 _ rfl; have hx4_1 : World.cell? _ ⟨go4, (0 : Int).toNat * 5 + 1, none⟩ = some (.int .i64 ((rd_T28 y313 0).f1)) := hcc4 1 _ rfl; have hx4_2 : World.cell? _ ⟨go4, (0 : Int).toNat * 5 + 2, none⟩ = some (.int .i64 ((rd_T28 y313 0).f2)) := hcc4 2 _ rfl; have hx4_3 : World.cell? _ ⟨go4, (0 : Int).toNat * 5 + 3, none⟩ = some (.slice ua4_3 ((rd_T28 y313 0).f3).length uc4_3) := hcc4 3 _ rfl; have hx4_4 : World.cell? _ ⟨go4, (0 : Int).toNat * 5 + 4, none⟩ = some (.slice ua4_4 ((rd_T28 y313 0).f4).length uc4_4) := hcc4 4 _ rfl; have hf4_0 : World.frozen? _ ⟨go4, (0 : Int).toNat * 5, none⟩ = false := hfr4 0; have hf4_1 : World.frozen? _ ⟨go4, (0 : Int).toNat * 5 + 1, none⟩ = false := hfr4 1; have hf4_2 : World.frozen? _ ⟨go4, (0 : Int).toNat * 5 + 2, none⟩ = false := hfr4 2; have hf4_3 : World.frozen? _ ⟨go4, (0 : Int).toNat * 5 + 3, none⟩ = false := hfr4 3; have hf4_4 : World.frozen? _ ⟨go4, (0 : Int).toNat * 5 + 4, none⟩ = false := hfr4 4; clear hcl4 hcc4 hfr4 hM4
 (try rw [show ((0 : Int)).toNat = 0 from rfl] at hx4_0)
 (try simp only [Nat.reduceMul, Nat.zero_mul, Nat.zero_add, Nat.reduceAdd] at hx4_0)
 (try rw [show ((0 : Int)).toNat = 0 from rfl] at hf4_0)
 (try simp only [Nat.reduceMul, Nat.zero_mul, Nat.zero_add, Nat.reduceAdd] at hf4_0)
 (try rw [show ((0 : Int)).toNat = 0 from rfl] at hx4_1)
 (try simp only [Nat.reduceMul, Nat.zero_mul, Nat.zero_add, Nat.reduceAdd] at hx4_1)
 (try rw [show ((0 : Int)).toNat = 0 from rfl] at hf4_1)
 (try simp only [Nat.reduceMul, Nat.zero_mul, Nat.zero_add, Nat.reduceAdd] at hf4_1)
 (try rw [show ((0 : Int)).toNat = 0 from rfl] at hx4_2)
 (try simp only [Nat.reduceMul, Nat.zero_mul, Nat.zero_add, Nat.reduceAdd] at hx4_2)
 (try rw [show ((0 : Int)).toNat = 0 from rfl] at hf4_2)
 (try simp only [Nat.reduceMul, Nat.zero_mul, Nat.zero_add, Nat.reduceAdd] at hf4_2)
 (try rw [show ((0 : Int)).toNat = 0 from rfl] at hx4_3)
 (try simp only [Nat.reduceMul, Nat.zero_mul, Nat.zero_add, Nat.reduceAdd] at hx4_3)
 (try rw [show ((0 : Int)).toNat = 0 from rfl] at hf4_3)
 (try simp only [Nat.reduceMul, Nat.zero_mul, Nat.zero_add, Nat.reduceAdd] at hf4_3)
 (try rw [show ((0 : Int)).toNat = 0 from rfl] at hx4_4)
 (try simp only [Nat.reduceMul, Nat.zero_mul, Nat.zero_add, Nat.reduceAdd] at hx4_4)
 (try rw [show ((0 : Int)).toNat = 0 from rfl] at hf4_4)
 (try simp only [Nat.reduceMul, Nat.zero_mul, Nat.zero_add, Nat.reduceAdd] at hf4_4)
 replace p4 := eq_true p4; replace q4 := eq_true q4; obtain ⟨Azv321, czv321, ezv321⟩ := Kd.R_slice HO322.out; subst ezv321; obtain ⟨Azv324, czv324, ezv324⟩ := Kd.R_slice HO325.out; subst ezv324; have HX15 := Aside0.mk (show Kd.N k28 28 _ w.heap.size (fun k_ => (w.heap.size ≤ k_) ∧ some k_ ≠ ((Value.slice Azv321 t320.length czv321) : Value).ownBlock ∧ some k_ ≠ ((Value.slice Azv324 t323.length czv324) : Value).ownBlock ∧ k_ ≠ gb312 ∧ k_ ≠ gb316) (.slice (some ⟨go4, 0, none⟩) y313.length co8) y313 from (Kd.N_mono (HO315.out) (fun k_ hk => ⟨hk.1.1.1, ⟨hk.1.2, ⟨hk.2, ⟨hk.1.1.2.1, hk.1.1.2.2⟩⟩⟩⟩))); replace HX15 := Aside0.mk (show Kd.N k28 28 _ w.heap.size (fun k_ => (w.heap.size ≤ k_) ∧ k_ ≠ gb312 ∧ k_ ≠ gb316) (.slice (some ⟨go4, 0, none⟩) y313.length co8) y313 from Kd.N_mono HX15.out (fun k_ hk => ⟨hk.1, ⟨hk.2.2.2.1, hk.2.2.2.2⟩⟩)); obtain ⟨ce15, hcl15, hM15, hcc15, hfr15⟩ := Kd.N_elem HX15.out z28 (0 : Int) (by omega) (by have h_ : (0 : Int) < ((y313.length : Int) : Int) := dT; first | exact h_ | (have e_ := (Kd.N_reads' HO315.out).1; omega) | simpa using h_)
 obtain ⟨ua15_3, uc15_3, ua15_4, uc15_4, rfl, ul15_3, ge15_3, ul15_4, ge15_4⟩ := k28_openF hM15; have HP15 := (Kd.N_seg HX15.out (0 : Int) (by omega) (by have h_ : (0 : Int) < ((y313.length : Int) : Int) := dT; first | exact h_ | (have e_ := (Kd.N_reads' HO315.out).1; omega) | simpa using h_) (seg := [.int .i64 t317, .int .i64 t318, .int .i64 t319, (Value.slice Azv321 t320.length czv321), (Value.slice Azv324 t323.length czv324)]) (j := 0) hcl15 hcc15 (show 5 ≤ 5 from by decide) (x' := (⟨t317, t318, t319, t320, t323⟩ : S28)) (k28_mkF _ _ (⟨t317, t318, t319, t320, t323⟩ : S28) (Kd.R_reads' (Kd.R_mono (ok' := (fun k_ => ((fun k_ => (w.heap.size ≤ k_) ∧ k_ ≠ gb312 ∧ k_ ≠ gb316)) k_ ∧ k_ ≠ go4)) (Kd.R_types (Kd.R_types (Kd.R_apart' (HO322.out) (Kd.N_typed HO315.out) (by decide)) BK312.out (by decide)) BK316.out (by decide)) (fun k_ hk => ⟨⟨hk.1.1.1.1, ⟨hk.1.2, hk.2⟩⟩, fun e_ => (hk.1.1.2) (by rw [e_]; rfl)⟩))).2.1 (Kd.R_F (Kd.R_mono (ok' := (fun k_ => ((fun k_ => (w.heap.size ≤ k_) ∧ k_ ≠ gb312 ∧ k_ ≠ gb316)) k_ ∧ k_ ≠ go4)) (Kd.R_types (Kd.R_types (Kd.R_apart' (HO322.out) (Kd.N_typed HO315.out) (by decide)) BK312.out (by decide)) BK316.out (by decide)) (fun k_ hk => ⟨⟨hk.1.1.1.1, ⟨hk.1.2, hk.2⟩⟩, fun e_ => (hk.1.1.2) (by rw [e_]; rfl)⟩))) (Kd.R_reads' (Kd.R_mono (ok' := (fun k_ => ((fun k_ => (w.heap.size ≤ k_) ∧ k_ ≠ gb312 ∧ k_ ≠ gb316)) k_ ∧ k_ ≠ go4)) (Kd.R_types (Kd.R_types (Kd.R_apart' (HO325.out) (Kd.N_typed HO315.out) (by decide)) BK312.out (by decide)) BK316.out (by decide)) (fun k_ hk => ⟨⟨hk.1.1.1.1, ⟨hk.1.2, hk.2⟩⟩, fun e_ => (hk.1.1.2) (by rw [e_]; rfl)⟩))).2.1 (Kd.R_F (Kd.R_mono (ok' := (fun k_ => ((fun k_ => (w.heap.size ≤ k_) ∧ k_ ≠ gb312 ∧ k_ ≠ gb316)) k_ ∧ k_ ≠ go4)) (Kd.R_types (Kd.R_types (Kd.R_apart' (HO325.out) (Kd.N_typed HO315.out) (by decide)) BK312.out (by decide)) BK316.out (by decide)) (fun k_ hk => ⟨⟨hk.1.1.1.1, ⟨hk.1.2, hk.2⟩⟩, fun e_ => (hk.1.1.2) (by rw [e_]; rfl)⟩)))) (fun _ hk => hk)).1
 rw [← Ny326.out] at HP15; have HQ15 := Aside0.mk HP15; clear hcl15 hcc15 hfr15 hM15 HP15; refine hK.out _ _ ((bC BK316.out 0).trans rfl) (fun hHeld => ?_); clear hK K; refine norm_ (a' := ?_) ?_ ?_; rotate_left
 ·
  show Act.put _ (some 6) _ = _
  simp only [Act.put, lT, l0_, lS, i64_w, i32_w]; rfl
 refine pureE 3 (some 7) B25_4 (by kernel_rfl) ?_
 refine last_ (i := 4) (N := none) B25_5 rfl rfl (by kernel_rfl) (by decide) (fun K hK => ?_); refine skip_ (w1 := ?_) (by rfl) rfl ?_ ?_; rotate_left
 ·
  go_simp; rfl
 refine hK.out _ _ ?_; clear hK K; refine done_ (by kernel_rfl) ?_
 obtain ⟨w16, hw_, n_⟩ : ∃ W_, ((((w14.setCell ⟨go4, 0, none⟩ (.int .i64 t317)).setCell ⟨go4, 1, none⟩ (.int .i64 t318)).setCell ⟨go4, 2, none⟩ (.int .i64 t319)).setCell ⟨go4, 3, none⟩ ((Value.slice Azv321 t320.length czv321))).setCell ⟨go4, 4, none⟩ ((Value.slice Azv324 t323.length czv324)) = W_ ∧ Aside0 (Kd.N k28 28 W_ w.heap.size (fun k_ => (w.heap.size ≤ k_) ∧ k_ ≠ gb312 ∧ k_ ≠ gb316) (.slice (some ⟨go4, 0, none⟩) y313.length co8) y326) ∧ Aside0 (W_.heap[gb312]? = some (.cells #[.slice none 0 0] 24 (0, 0))) ∧ Aside0 (W_.heap[gb316]? = some (.cells #[.slice (some ⟨go4, 0, none⟩) y313.length co8] 24 (0, 0))) ∧ Aside0 (Below w.heap.size w W_) := ⟨_, rfl, ⟨mN HQ15⟩, ⟨by (with_reducible repeat (first | refine bN ?_ _ | refine bD ?_ | refine bA ?_ _)); refine bF ?_ (by have h_ := Kd.N_away HO315.out (fun _ hk => by first | exact hk.2.1 | exact hk.1.1.2.1 | exact hk.1.2.1); intro e_; exact h_ (by rw [e_]; rfl)) _; (with_reducible repeat (first | refine bN ?_ _ | refine bD ?_ | refine bA ?_ _)); refine bF ?_ (by have h_ := Kd.N_away HO315.out (fun _ hk => by first | exact hk.2.1 | exact hk.1.1.2.1 | exact hk.1.2.1); intro e_; exact h_ (by rw [e_]; rfl)) _; (with_reducible repeat (first | refine bN ?_ _ | refine bD ?_ | refine bA ?_ _)); refine bF ?_ (by have h_ := Kd.N_away HO315.out (fun _ hk => by first | exact hk.2.1 | exact hk.1.1.2.1 | exact hk.1.2.1); intro e_; exact h_ (by rw [e_]; rfl)) _; (with_reducible repeat (first | refine bN ?_ _ | refine bD ?_ | refine bA ?_ _)); refine bF ?_ (by have h_ := Kd.N_away HO315.out (fun _ hk => by first | exact hk.2.1 | exact hk.1.1.2.1 | exact hk.1.2.1); intro e_; exact h_ (by rw [e_]; rfl)) _; (with_reducible repeat (first | refine bN ?_ _ | refine bD ?_ | refine bA ?_ _)); refine bF ?_ (by have h_ := Kd.N_away HO315.out (fun _ hk => by first | exact hk.2.1 | exact hk.1.1.2.1 | exact hk.1.2.1); intro e_; exact h_ (by rw [e_]; rfl)) _; (with_reducible repeat (first | refine bN ?_ _ | refine bD ?_ | refine bA ?_ _)); exact BK312.out⟩, ⟨by (with_reducible repeat (first | refine bN ?_ _ | refine bD ?_ | refine bA ?_ _)); refine bF ?_ (by have h_ := Kd.N_away HO315.out (fun _ hk => by first | exact hk.2.2 | exact hk.1.1.2.2 | exact hk.1.2.2); intro e_; exact h_ (by rw [e_]; rfl)) _; (with_reducible repeat (first | refine bN ?_ _ | refine bD ?_ | refine bA ?_ _)); refine bF ?_ (by have h_ := Kd.N_away HO315.out (fun _ hk => by first | exact hk.2.2 | exact hk.1.1.2.2 | exact hk.1.2.2); intro e_; exact h_ (by rw [e_]; rfl)) _; (with_reducible repeat (first | refine bN ?_ _ | refine bD ?_ | refine bA ?_ _)); refine bF ?_ (by have h_ := Kd.N_away HO315.out (fun _ hk => by first | exact hk.2.2 | exact hk.1.1.2.2 | exact hk.1.2.2); intro e_; exact h_ (by rw [e_]; rfl)) _; (with_reducible repeat (first | refine bN ?_ _ | refine bD ?_ | refine bA ?_ _)); refine bF ?_ (by have h_ := Kd.N_away HO315.out (fun _ hk => by first | exact hk.2.2 | exact hk.1.1.2.2 | exact hk.1.2.2); intro e_; exact h_ (by rw [e_]; rfl)) _; (with_reducible repeat (first | refine bN ?_ _ | refine bD ?_ | refine bA ?_ _)); refine bF ?_ (by have h_ := Kd.N_away HO315.out (fun _ hk => by first | exact hk.2.2 | exact hk.1.1.2.2 | exact hk.1.2.2); intro e_; exact h_ (by rw [e_]; rfl)) _; (with_reducible repeat (first | refine bN ?_ _ | refine bD ?_ | refine bA ?_ _)); exact BK316.out⟩, ⟨mH HB⟩⟩
 (try clear HO315); (try clear BK312); (try clear BK316); (try clear HB); rewrite [hw_]; clear hw_; obtain ⟨HO315, BK312, BK316, HB⟩ := n_; obtain ⟨hcz17_0, hfz17_0⟩ := cY0 BK316; obtain ⟨hcz18_0, hfz18_0⟩ := cY0 BK312
 try go_wp2
 refine bodyPost_ret (results_cell_row rfl _ _ gb312 24 #[.slice (some ⟨go4, 0, none⟩) y313.length co8] (0, 0) _ rfl (pP BK312) Try.underlying24 rfl (by kernel_rfl)) rfl ?_
 exact ⟨_, rT, fN HO315 (hg := fun _ hk => hk.2.1), mH HB⟩
abbrev B26_0 : Array Bool := #[false, false, false, false, false, false, false, false, false, false]
abbrev B26_1 : Array Bool := B26_0.set! 0 true
abbrev B26_2 : Array Bool := B26_1.set! 3 true
abbrev B26_3 : Array Bool := B26_2.set! 1 true
abbrev B26_4 : Array Bool := B26_3.set! 4 true
abbrev B26_5 : Array Bool := B26_4.set! 2 true
abbrev B26_6 : Array Bool := B26_5.set! 6 true
abbrev B26_7 : Array Bool := B26_6.set! 5 true
abbrev B26_8 : Array Bool := B26_7.set! 7 true
abbrev B26_9 : Array Bool := B26_8.set! 8 true
abbrev B26_10 : Array Bool := B26_9.set! 9 true
def potsherdref12_CopyNode.f (a0_0 : Int) (a0_1 : Int) (a0_2 : Int) (l0_3 : List Int) (l0_4 : List (S78)) : Option (Int × Int × Int × List Int × (List (S78))) := if ([] : List Int).length + l0_3.length < 17592186044416 then (if ([] : List (S78)).length + l0_4.length < 5864062014805 then (some (a0_0, a0_1, a0_2, (([] : List Int) ++ l0_3), (([] : List (S78)) ++ l0_4))) else (none)) else (none)
def potsherdref12_CopyNode.T1 : Bool × List (List Nat × List Nat) := (true, [([], []), ([0], [0]), ([1], [1]), ([], []), ([3], [3]), ([4, 2], [4]), ([0, 1, 2, 3, 4], []), ([6, 2, 5, 0, 1, 2, 3, 4], [2, 6]), ([0, 1, 2, 3, 4, 5, 6, 7], []), ([8, 5, 7, 0, 1, 2, 3, 4, 5, 6, 7], [5, 8])])
def potsherdref12_CopyNode.B1 : List Nat := [0, 1, 3, 0, 8, 31, 31, 127, 255, 511]
theorem potsherdref12_CopyNode.tab1 : rtab .any (opsOf Try.f26 1) = potsherdref12_CopyNode.T1 := by kernel_rfl
theorem potsherdref12_CopyNode.bits1 : waitsOk potsherdref12_CopyNode.T1.2 potsherdref12_CopyNode.B1 = true := by kernel_rfl
set_option maxHeartbeats 8000000 in
set_option maxRecDepth 100000 in
theorem potsherdref12_CopyNode.calls (a0_0 : Int) (a0_1 : Int) (a0_2 : Int) (A0_3 : Option Addr) (c0_3 : Nat) (l0_3 : List Int) (A0_4 : Option Addr) (c0_4 : Nat) (l0_4 : List (S78)) (r1 : Int) (r2 : Int) (r3 : Int) (r4 : List Int) (r5 : List (S78)) (w : World) (hr0_3 : Kd.C (Kd.int .i64) w A0_3 l0_3.length l0_3) (hc0_3 : l0_3.length ≤ c0_3) (hr0_4 : Kd.C k78 w A0_4 l0_4.length l0_4) (hc0_4 : l0_4.length ≤ c0_4) (h : potsherdref12_CopyNode.f a0_0 a0_1 a0_2 l0_3 l0_4 = some (r1, r2, r3, r4, r5)) :
 Calls Try.prog 26 #[.agg #[.int .i64 a0_0, .int .i64 a0_1, .int .i64 a0_2, .slice A0_3 l0_3.length c0_3, .slice A0_4 l0_4.length c0_4]] w fun e w' => ∃ v3_ v4_ : Value, e = .returned (.agg #[.int .i64 r1, .int .i64 r2, .int .i64 r3, v3_, v4_]) ∧ Kd.R (Kd.int .i64) 3 w' w.heap.size (fun _ => True) v3_ r4 ∧ Kd.R k78 78 w' w.heap.size (fun _ => True) v4_ r5 ∧ Below w.heap.size w w' := by
 have hu28 := Try.underlying28; have HR0_3 := Aside0.mk hr0_3; have HC0_3 := Aside0.mk hc0_3; clear hr0_3 hc0_3; have HR0_4 := Aside0.mk hr0_4; have HC0_4 := Aside0.mk hc0_4; clear hr0_4 hc0_4; have HB := Aside0.mk (Below.refl w.heap.size w); have H : (if ([] : List Int).length + l0_3.length < 17592186044416 then (if ([] : List (S78)).length + l0_4.length < 5864062014805 then (some (a0_0, a0_1, a0_2, (([] : List Int) ++ l0_3), (([] : List (S78)) ++ l0_4))) else (none)) else (none)) = some (r1, r2, r3, r4, r5) := h; clear h
 replace H := nP H; obtain ⟨c2, H⟩ := H; have LMc2 := Aside0.mk c2; clear c2; obtain ⟨y329, hy329⟩ : ∃ y_ : List Int, y_ = (([] : List Int) ++ l0_3) := ⟨_, rfl⟩
 replace H : (if ([] : List (S78)).length + l0_4.length < 5864062014805 then (some (a0_0, a0_1, a0_2, y329, (([] : List (S78)) ++ l0_4))) else (none)) = some (r1, r2, r3, r4, r5) := rH H hy329
 have Ny329 := Aside0.mk hy329; clear hy329
 replace H := nP H; obtain ⟨c3, H⟩ := H; have LMc3 := Aside0.mk c3; clear c3; obtain ⟨y332, hy332⟩ : ∃ y_ : List (S78), y_ = (([] : List (S78)) ++ l0_4) := ⟨_, rfl⟩
 replace H : (some (a0_0, a0_1, a0_2, y329, y332)) = some (r1, r2, r3, r4, r5) := rH H hy332
 have Ny332 := Aside0.mk hy332; clear hy332; simp only [Option.some.injEq, Prod.mk.injEq] at H; obtain ⟨rfl, rfl, rfl, rfl, rfl⟩ := H
 go_enter Try.func26, Try.ntmps26
 try go_wp2_with (first | ((with_reducible refine gate_dst (N := 1) rfl ?_); refine bxE 28 (cs := #[.int .i64 a0_0, .int .i64 a0_1, .int .i64 a0_2, .slice A0_3 l0_3.length c0_3, .slice A0_4 l0_4.length c0_4]) ?_; intro gb327 hg w4 hbox hb; have BK327 := Aside0.mk hbox; have GW327 := kG HB hg; have GE327 := kG HB hg; replace HB := kH HB hb; clear hb hbox hg) | ((with_reducible refine gate_dst (N := 2) rfl ?_); refine bxE 28 (cs := #[.int .i64 0, .int .i64 0, .int .i64 0, .slice none 0 0, .slice none 0 0]) ?_; intro gb328 hg w5 hbox hb; have BK328 := Aside0.mk hbox; have GW328 := kG HB hg; have GE328 := kG HB hg; replace HB := kH HB hb; have NB327_328 := kL BK327 hg; have NB328_327 := kQ BK327 hg; replace BK327 := kB BK327 hb; clear hb hbox hg))
 replace BK327 := Aside0.mk (bD BK327.out); replace BK328 := Aside0.mk (bD BK328.out); replace HB := Aside0.mk (wD HB.out); refine start_ (n := 10) (S := fun w' => w'.cell? ⟨gb327, 0, none⟩ = some (.int .i64 a0_0) ∧ w'.cell? ⟨gb327, 1, none⟩ = some (.int .i64 a0_1) ∧ w'.cell? ⟨gb327, 2, none⟩ = some (.int .i64 a0_2) ∧ w'.cell? ⟨gb327, 3, none⟩ = some (.slice A0_3 l0_3.length c0_3) ∧ w'.cell? ⟨gb327, 4, none⟩ = some (.slice A0_4 l0_4.length c0_4)) (ds := [7, 9]) B26_0 (by kernel_rfl) rfl rfl ⟨(bC BK327.out 0).trans rfl, (bC BK327.out 1).trans rfl, (bC BK327.out 2).trans rfl, (bC BK327.out 3).trans rfl, (bC BK327.out 4).trans rfl⟩ (fun hHeld => ?_); refine with_tabW potsherdref12_CopyNode.tab1 potsherdref12_CopyNode.bits1 (fun HT_ HW_ => ?_); generalize w5.drew = w6 at BK327 BK328 HB hHeld ⊢; refine pureE 0 (some 3) B26_1 (any_of HT_.out (by kernel_rfl)) ?_
 refine pureE 3 (some 6) B26_2 (any_of HT_.out (by kernel_rfl)) ?_
 refine take_ (i := 1) (N := some 4) (v := ?_) (a' := ?_) B26_3 rfl rfl (take_ofW HT_.out HW_.out (by kernel_rfl)) (fun _ _ _ h => h) (Or.inl ⟨by rfl, ?_⟩) hHeld ?_ ?_; rotate_left
 ·
  rintro w' ⟨s0, s1, s2, s3, s4⟩; go_simp; with_reducible rfl
 rotate_left
 ·
  simp only [Act.put, lT, l0_, lS, i64_w, i32_w]; rfl
 refine take_ (i := 4) (N := some 7) (v := ?_) (a' := ?_) B26_4 rfl rfl (take_ofW HT_.out HW_.out (by kernel_rfl)) (fun _ _ _ h => h) (Or.inl ⟨by rfl, ?_⟩) hHeld ?_ ?_; rotate_left
 ·
  rintro w' ⟨s0, s1, s2, s3, s4⟩; go_simp; with_reducible rfl
 rotate_left
 ·
  simp only [Act.put, lT, l0_, lS, i64_w, i32_w]; rfl
 refine one_ (i := 2) (N := some 5) B26_5 rfl rfl (one_of HT_.out (by kernel_rfl)) (by decide) (fun K hK => ?_); refine Kd.R_append_rows_step (Kd.int .i64) (w0 := w) w.heap.size rfl (.const (.slice none 0 0)) (.tmp 4) 25 3 (.int .i64 0) 8 rfl Try.underlying25 info3 rfl (by decide) (by omega) (.slice none 0 0) ([] : List Int) l0_3 _ _ _ (fun _ => True) (fun _ => False) rfl rfl ?aO ?aR (fun _ _ h => h) (fun _ h => h.elim) ?aF ?aB ?aS ?aL ?_
 (case aR => repeat (first | exact (Kd.C_below HR0_3.out HB.out) | (with_reducible refine Kd.C_alloc ?_ _) | (with_reducible refine Kd.C_drewN ?_ _) | (with_reducible refine Kd.C_drew ?_)))
 (case aB => exact (mH HB))
 (case aF => exact (fun _ _ => trivial))
 (case aO => exact ((Kd.R_nil _ _ _ _ (fun _ => True))))
 (case aS => exact (below_size (mH HB)))
 (case aL => have := LMc2.out; omega)
 intro v330 w7 ho hb hg hat; rw [← Ny329.out] at ho; replace BK327 := Aside0.mk (blk_grown (g := gb327) (o := .cells #[.int .i64 a0_0, .int .i64 a0_1, .int .i64 a0_2, .slice A0_3 l0_3.length c0_3, .slice A0_4 l0_4.length c0_4] 28 (0, 0)) (mB BK327) hg (by simp [Value.ownBlock])); replace BK328 := Aside0.mk (blk_grown (g := gb328) (o := .cells #[.int .i64 0, .int .i64 0, .int .i64 0, .slice none 0 0, .slice none 0 0] 28 (0, 0)) (mB BK328) hg (by simp [Value.ownBlock])); replace HB := Aside0.mk (hb); have HO331 := Aside0.mk (ho); clear ho hb hg hat; refine hK.out _ _ ⟨(bC BK327.out 0).trans rfl, (bC BK327.out 1).trans rfl, (bC BK327.out 2).trans rfl, (bC BK327.out 3).trans rfl, (bC BK327.out 4).trans rfl⟩ (fun hHeld => ?_); clear hK K; refine norm_ (a' := ?_) ?_ ?_; rotate_left
 ·
  show Act.put _ (some 5) _ = _
  simp only [Act.put, lT, l0_, lS, i64_w, i32_w]; rfl
 refine pureE 6 (some 9) B26_6 (any_of HT_.out (by kernel_rfl)) ?_
 refine one_ (i := 5) (N := some 8) B26_7 rfl rfl (one_of HT_.out (by kernel_rfl)) (by decide) (fun K hK => ?_); refine Kd.R_append_rows_step k78 (w0 := w) w.heap.size rfl (.const (.slice none 0 0)) (.tmp 7) 26 78 (.agg #[(.string ⟨#[]⟩), (.int .i64 0)]) 24 rfl Try.underlying26 info78 rfl (by decide) (by omega) (.slice none 0 0) ([] : List (S78)) l0_4 _ _ _ (fun _ => True) (fun _ => False) rfl rfl ?aO ?aR (fun _ _ h => h) (fun _ h => h.elim) ?aF ?aB ?aS ?aL ?_
 (case aR => repeat (first | exact (Kd.C_below HR0_4.out HB.out) | (with_reducible refine Kd.C_alloc ?_ _) | (with_reducible refine Kd.C_drewN ?_ _) | (with_reducible refine Kd.C_drew ?_)))
 (case aB => exact (mH HB))
 (case aF => exact (fun _ _ => trivial))
 (case aO => exact ((Kd.R_nil _ _ _ _ (fun _ => True))))
 (case aS => exact (below_size (mH HB)))
 (case aL => have := LMc3.out; omega)
 intro v333 w8 ho hb hg hat; rw [← Ny332.out] at ho; replace BK327 := Aside0.mk (blk_grown (g := gb327) (o := .cells #[.int .i64 a0_0, .int .i64 a0_1, .int .i64 a0_2, .slice A0_3 l0_3.length c0_3, .slice A0_4 l0_4.length c0_4] 28 (0, 0)) (mB BK327) hg (by simp [Value.ownBlock])); replace BK328 := Aside0.mk (blk_grown (g := gb328) (o := .cells #[.int .i64 0, .int .i64 0, .int .i64 0, .slice none 0 0, .slice none 0 0] 28 (0, 0)) (mB BK328) hg (by simp [Value.ownBlock])); replace HO331 := Aside0.mk (Kd.R_grown (mR HO331) hg (fun _ _ => by simp [Value.ownBlock])); replace HB := Aside0.mk (hb); have HO334 := Aside0.mk (ho); clear ho hb hg hat; obtain ⟨Ao9, co9, eo9⟩ := Kd.R_slice HO331.out
 (first | subst eo9 | (injection eo9 with f1_ f2_ f3_; have f4_ := f1_.symm; have f5_ := f3_.symm; clear f1_ f2_ f3_; subst f4_; subst f5_))
 obtain ⟨Ao11, co11, eo11⟩ := Kd.R_slice HO334.out
 (first | subst eo11 | (injection eo11 with f1_ f2_ f3_; have f4_ := f1_.symm; have f5_ := f3_.symm; clear f1_ f2_ f3_; subst f4_; subst f5_))
 refine hK.out _ _ ⟨(bC BK327.out 0).trans rfl, (bC BK327.out 1).trans rfl, (bC BK327.out 2).trans rfl, (bC BK327.out 3).trans rfl, (bC BK327.out 4).trans rfl⟩ (fun hHeld => ?_); clear hK K; refine norm_ (a' := ?_) ?_ ?_; rotate_left
 ·
  show Act.put _ (some 8) _ = _
  simp only [Act.put, lT, l0_, lS, i64_w, i32_w]; rfl
 refine last_ (i := 7) (N := none) B26_8 rfl rfl (one_of HT_.out (by kernel_rfl)) (by decide) (fun K hK => ?_); have hs10 := cZ3 BK327; have hfs10 := bZ BK327.out 3; have hns10_1 := NB328_327.out; have hms10_1 := NB327_328.out; refine skip_ (w1 := ?_) (by rfl) rfl ?_ ?_; rotate_left
 ·
  go_simp; rfl
 refine hK.out _ _ ?_; clear hK K; refine pureE 8 (some 10) B26_9 (any_of HT_.out (by kernel_rfl)) ?_
 refine last_ (i := 9) (N := none) B26_10 rfl rfl (one_of HT_.out (by kernel_rfl)) (by decide) (fun K hK => ?_); have hs12 := cZ4 BK327; have hfs12 := bZ BK327.out 4; have hns12_1 := NB328_327.out; have hms12_1 := NB327_328.out; refine skip_ (w1 := ?_) (by rfl) rfl ?_ ?_; rotate_left
 ·
  go_simp; rfl
 refine hK.out _ _ ?_; clear hK K; refine done_ (done_of HT_.out (by kernel_rfl)) ?_; have hnb13 := NB327_328.out; have hnc13 := NB328_327.out; obtain ⟨hcz14_0, hfz14_0⟩ := cY0 BK327; obtain ⟨hcz14_1, hfz14_1⟩ := cY1 BK327; obtain ⟨hcz14_2, hfz14_2⟩ := cY2 BK327; obtain ⟨hcz14_3, hfz14_3⟩ := cY3 BK327; obtain ⟨hcz14_4, hfz14_4⟩ := cY4 BK327; obtain ⟨hcz15_0, hfz15_0⟩ := cY0 BK328; obtain ⟨hcz15_1, hfz15_1⟩ := cY1 BK328; obtain ⟨hcz15_2, hfz15_2⟩ := cY2 BK328; obtain ⟨hcz15_3, hfz15_3⟩ := cY3 BK328; obtain ⟨hcz15_4, hfz15_4⟩ := cY4 BK328
 try go_wp2
 refine bodyPost_ret (results_cell_row rfl _ _ gb328 28 #[.int .i64 a0_0, .int .i64 a0_1, .int .i64 a0_2, .slice Ao9 y329.length co9, .slice Ao11 y332.length co11] (0, 0) _ rfl (by (with_reducible repeat (first | refine bN ?_ _ | refine bD ?_ | refine bA ?_ _)); refine blk_put (cs := #[.int .i64 a0_0, .int .i64 a0_1, .int .i64 a0_2, .slice Ao9 y329.length co9, .slice none 0 0]) ?_ 4 _ rfl; (with_reducible repeat (first | refine bN ?_ _ | refine bD ?_ | refine bA ?_ _)); refine blk_put (cs := #[.int .i64 a0_0, .int .i64 a0_1, .int .i64 a0_2, .slice none 0 0, .slice none 0 0]) ?_ 3 _ rfl; (with_reducible repeat (first | refine bN ?_ _ | refine bD ?_ | refine bA ?_ _)); refine blk_put (cs := #[.int .i64 a0_0, .int .i64 a0_1, .int .i64 0, .slice none 0 0, .slice none 0 0]) ?_ 2 _ rfl; (with_reducible repeat (first | refine bN ?_ _ | refine bD ?_ | refine bA ?_ _)); refine blk_put (cs := #[.int .i64 a0_0, .int .i64 0, .int .i64 0, .slice none 0 0, .slice none 0 0]) ?_ 1 _ rfl; (with_reducible repeat (first | refine bN ?_ _ | refine bD ?_ | refine bA ?_ _)); refine blk_put (cs := #[.int .i64 0, .int .i64 0, .int .i64 0, .slice none 0 0, .slice none 0 0]) ?_ 0 _ rfl; (with_reducible repeat (first | refine bN ?_ _ | refine bD ?_ | refine bA ?_ _)); refine bF ?_ NB328_327.out _; (with_reducible repeat (first | refine bN ?_ _ | refine bD ?_ | refine bA ?_ _)); refine bF ?_ NB328_327.out _; (with_reducible repeat (first | refine bN ?_ _ | refine bD ?_ | refine bA ?_ _)); exact BK328.out) Try.underlying28 rfl (by kernel_rfl)) rfl ?_
 exact ⟨_, _, rT, by (with_reducible repeat (first | apply Kd.R_alloc | apply Kd.R_drewN | apply Kd.R_drew)); exact Kd.R_mono (Kd.R_far (p := ⟨gb328, 4, none⟩) (Kd.R_far (p := ⟨gb328, 3, none⟩) (Kd.R_far (p := ⟨gb328, 2, none⟩) (Kd.R_far (p := ⟨gb328, 1, none⟩) (Kd.R_far (p := ⟨gb328, 0, none⟩) (Kd.R_far (p := ⟨gb327, 4, none⟩) (Kd.R_far (p := ⟨gb327, 3, none⟩) (Kd.R_types (Kd.R_types HO331.out BK327.out (by decide)) BK328.out (by decide)) (fun _ hk => hk.1.2) (.slice Ao9 y329.length co9)) (fun _ hk => hk.1.2) (.slice Ao11 y332.length co11)) (fun _ hk => hk.2) (.int .i64 a0_0)) (fun _ hk => hk.2) (.int .i64 a0_1)) (fun _ hk => hk.2) (.int .i64 a0_2)) (fun _ hk => hk.2) (.slice Ao9 y329.length co9)) (fun _ hk => hk.2) (.slice Ao11 y332.length co11)) (fun _ hk => trivial), by (with_reducible repeat (first | apply Kd.R_alloc | apply Kd.R_drewN | apply Kd.R_drew)); exact Kd.R_mono (Kd.R_far (p := ⟨gb328, 4, none⟩) (Kd.R_far (p := ⟨gb328, 3, none⟩) (Kd.R_far (p := ⟨gb328, 2, none⟩) (Kd.R_far (p := ⟨gb328, 1, none⟩) (Kd.R_far (p := ⟨gb328, 0, none⟩) (Kd.R_far (p := ⟨gb327, 4, none⟩) (Kd.R_far (p := ⟨gb327, 3, none⟩) (Kd.R_types (Kd.R_types HO334.out BK327.out (by decide)) BK328.out (by decide)) (fun _ hk => hk.1.2) (.slice Ao9 y329.length co9)) (fun _ hk => hk.1.2) (.slice Ao11 y332.length co11)) (fun _ hk => hk.2) (.int .i64 a0_0)) (fun _ hk => hk.2) (.int .i64 a0_1)) (fun _ hk => hk.2) (.int .i64 a0_2)) (fun _ hk => hk.2) (.slice Ao9 y329.length co9)) (fun _ hk => hk.2) (.slice Ao11 y332.length co11)) (fun _ hk => trivial), mH HB⟩
end Go.Proofs.Ytkigiehkckjlhaa.PGrows
