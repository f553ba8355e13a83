/- potsherdlaw20.after, walked by hand: a row of bytes behind a step; conditions: the rows are short, the step lies within 80 bytes. -/
import Derived.Test.YtkigiehkckjlhaaZReadsPReadsShort
import Derived.Test.YtkigiehkckjlhaaZReadsPReadsx24
import Derived.Test.YtkigiehkckjlhaaZReadsReadsLibD
import Derived.Laws.CopyOwn
import Derived.Deep.RegionHeld3
namespace Go.Proofs.Ytkigiehkckjlhaa.ReadsWalk
set_option linter.unusedVariables false
set_option linter.unusedSimpArgs false
open Go.RowKit Go.Proofs.Ytkigiehkckjlhaa.PReads Go.Proofs.YtkigiehkckjlhaaW.PrintWords
open Go.Proofs.YtkigiehkckjlhaaW.PrintLast Go.Proofs.Ytkigiehkckjlhaa.ReadsLib
open Go Go.Proofs.Ytkigiehkckjlhaa.Plain Go.Proofs.YtkigiehkckjlhaaW.PrintMore
attribute [local go_sem] max2_int min2_int max_two min_two
theorem cutB_len (b : List Int) (e : Nat) : (cutB b e).length = e := by
  unfold cutB; rw [List.length_take, List.length_append, List.length_replicate]; omega
theorem splice_take {α : Type} (L : List α) (p e : Nat) (cs : List α) (h : p + cs.length ≤ e) (h2 : e ≤ L.length) : (splice L p cs).take e = splice (L.take e) p cs := by
  unfold splice
  rw [List.take_append, List.take_append, List.length_take, List.take_take, List.take_take, List.drop_take]
  congr 1
  · congr 1; omega
  · congr 1
    · exact List.take_of_length_le (by omega)
    · congr 1; omega
theorem map_splice {α β : Type} (f : α → β) (L : List α) (p : Nat) (cs : List α) : (splice L p cs).map f = splice (L.map f) p (cs.map f) := by
  unfold splice; rw [List.map_append, List.map_append, List.map_take, List.map_drop, List.length_map]
set_option maxHeartbeats 8000000 in
set_option maxRecDepth 100000 in
theorem after_walk (A : Option Addr) (c : Nat) (b : List Int) (do_ at_ : Int) (A2 : Option Addr) (c2 : Nat) (d : List Int) (w : World) (hr : Kd.C (Kd.int .u8) w A b.length b) (hc : b.length ≤ c) (hr2 : Kd.C (Kd.int .u8) w A2 d.length d) (hc2 : d.length ≤ c2)
    (hb80 : b.length ≤ 80) (hd : d.length ≤ 200) (hat : do_ = 0 ∨ d.length ≠ 0 → 0 ≤ at_ ∧ at_ ≤ 80) (hfit : do_ ≠ 0 → d.length ≠ 0 → at_ + (d.length : Int) ≤ 80) :
    Calls Try.prog 41 #[.slice A b.length c, .agg #[.int .i64 do_, .int .i64 at_, .slice A2 d.length c2]] w fun e w' => ∃ v0_ : Value, e = .returned v0_ ∧ Kd.R (Kd.int .u8) 5 w' w.heap.size (fun _ => True) v0_ (afterB b do_ at_ d) ∧ Below w.heap.size w w' := by
  have hu50 := Try.underlying50; have hu67 := Try.underlying67; have hu5 := Try.underlying5
  have HB := kA (Below.refl w.heap.size w)
  have HR := kA hr; have HC := kA hc; have HR2 := kA hr2; have HC2 := kA hc2
  have HB80 := kA hb80; have HD := kA hd; have HAT := kA hat; have HF := kA hfit
  clear hr hc hr2 hc2 hb80 hd hat hfit
  go_enter Try.func41, Try.ntmps41
  go_upto_region 1 with ((with_reducible refine gate_dst (N := 3) rfl ?_); (try (refine gate_guard (by rfl) ?_; dsimp only)); refine bxE 67 (cs := #[.int .i64 do_, .int .i64 at_, .slice A2 d.length c2]) ?_; intro bd hg w1 hbox hb; have BD := kA hbox; have HB0 := kA hb; clear hb hbox hg)
  have n1_ := kA (Kd.C_below HR.out HB0.out); have n2_ := kA (Kd.C_below HR2.out HB0.out)
  clear HR HR2
  have HR := n1_; have HR2 := n2_; clear n1_ n2_
  have HB := kA (Below.refl w1.heap.size w1)
  have BD0 := BD
  go_upto_region 2 with (first | ((with_reducible refine gate_dst (N := 6) rfl ?_); refine Kd.R_lit (Kd.int .u8) _ 5 ?hg (N := 6) ?hd (xs := ([] : List (Int))) (inner := []) (ok := fun _ => True) (okp := fun _ => True) ?hr ?hp (fun _ hk => hk) trivial (Below.refl _ _) (Nat.le_refl _) (by simp) ?_; (case hd => rfl); (case hg => rfl); (case hr => first | (go_simp; done) | (go_simp; rfl)); (case hp => exact (Reps.none _ _)); intro v6 wb ho4 hb hg_ hnew_; clear hg_ hnew_; have HO6 := kA (Kd.R_lower ho4 (below_size (mH HB))); replace HB := kH HB hb; clear hb ho4) | ((with_reducible refine gate_builtin (b := .append) (xs := #[.tmp 6, .tmp 7]) rfl ?_); at_builtin; refine Kd.R_append_rows (Kd.int .u8) (w0 := w1) w1.heap.size rfl (.tmp 6) (.tmp 7) 50 5 (.int .u8 0) 1 rfl Try.underlying50 info5 rfl (by decide) (by omega) v6 [] b _ _ _ (fun _ => True) (fun _ => False) rfl rfl ?aO ?aR (fun _ _ h => h) (fun _ h => h.elim) ?aF ?aB ?aS ?aL ?_; (case aR => repeat (first | exact (Kd.C_below HR.out HB.out) | (with_reducible refine Kd.C_alloc ?_ _))); (case aB => exact (mH HB)); (case aF => exact (fun _ _ => trivial)); (case aO => exact (mR HO6)); (case aS => exact (below_size (mH HB))); (case aL => have := HB80.out; simp only [List.length_nil]; omega); intro v0 wc ho hb hg hat; rw [List.nil_append] at ho; replace HB := kA (hb); have HO := kA (ho); clear HO6; clear ho hb hg hat))
  replace BD := kA (blk_below BD0.out HB.out)
  obtain ⟨hcd0, hfd0⟩ := cY0 BD; obtain ⟨hcd1, hfd1⟩ := cY1 BD; obtain ⟨hcd2, hfd2⟩ := cY2 BD
  obtain ⟨Ab, cb, eb⟩ := Kd.R_slice HO.out; subst eb
  by_cases c0 : do_ = 0
  · have d0 : (do_ != 0) = false := bne_eq_false_iff_eq.mpr c0
    have hat := HAT.out (Or.inl c0)
    obtain ⟨e, he⟩ : ∃ e : Nat, at_ = (e : Int) := ⟨at_.toNat, by omega⟩
    subst he
    have HE := kA (show e ≤ 80 from by omega)
    have HC0 := kA c0; clear c0 hat
    go_wp2
    go_loopg [0] 80 (fun gk v0 w' => ∃ j : Nat, b.length + j ≤ max b.length e ∧ max b.length e - (b.length + j) ≤ gk ∧ Aside0 (Kd.R (Kd.int .u8) 5 w' w1.heap.size (fun _ => True) v0 (b ++ List.replicate j 0)) ∧ Aside0 (Below w1.heap.size w1 w'))
    case atStart => exact ⟨0, by omega, by have := HB80.out; have := HE.out; omega, ⟨by rw [List.replicate_zero, List.append_nil]; exact HO.out⟩, HB⟩
    case round =>
      clear HO HB BD hcd0 hcd1 hcd2 hfd0 hfd1 hfd2
      obtain ⟨j, hj, hjg, HO, HB⟩ := hrel; have BD := kA (blk_below BD0.out HB.out)
      obtain ⟨Ao, co, eo⟩ := Kd.R_slice HO.out; subst eo
      have HLL := kA (show (b ++ List.replicate j 0).length = b.length + j from by rw [List.length_append, List.length_replicate])
      obtain ⟨L, hL⟩ : ∃ L : List Int, L = b ++ List.replicate j 0 := ⟨_, rfl⟩
      rw [← hL] at HO HLL
      try rw [← hL]
      have HLD := kA hL; clear hL
      by_cases hlt : L.length < e
      case pos =>
        have d1 : decide (L.length < e) = true := qT hlt
        have d2 : decide ((L.length : Int) < (e : Int)) = true := qT (by omega)
        have HLT := kA hlt; clear hlt
        have HJ := kA hj; clear hj
        go_wp2_with (first | ((with_reducible refine gate_builtin (b := .append) (xs := #[.tmp 32, .tmp 33]) rfl ?_); at_builtin; refine Kd.R_append (Kd.int .u8) (w0 := w1) w1.heap.size rfl (.tmp 32) (.tmp 33) 50 5 (.int .u8 0) 1 rfl Try.underlying50 info5 rfl (by decide) (by omega) (.slice Ao L.length co) L 0 [.int .u8 0] (fun _ => True) (fun _ => False) rfl rfl ?aP (fun _ hk => hk.elim) ?aF ?aO ?aB ?aS ?aL ?_; (case aP => exact rfl); (case aB => exact (mH HB)); (case aF => exact (fun _ _ => trivial)); (case aO => exact (mR HO)); (case aS => exact (below_size (mH HB))); (case aL => have := HLT.out; have := HE.out; omega); intro v1 w4 ho hb hg hat; replace HB := kA (hb); have HO2 := kA (ho); clear HO BD; clear ho hb hg hat))
        go_roundg (max b.length e - (b.length + (j + 1)))
        case measure => have := HLT.out; have := HLL.out; omega
        case rel => exact ⟨j + 1, by have := HLT.out; have := HLL.out; omega, Nat.le_refl _, ⟨by have h := HO2.out; rw [HLD.out, List.append_assoc, ← List.replicate_succ'] at h; exact h⟩, HB⟩
      case neg =>
        have d1 : decide (L.length < e) = false := qF hlt
        have d2 : decide ((L.length : Int) < (e : Int)) = false := qF (by omega)
        have HLT := kA (show L.length = max b.length e from by have := HLL.out; omega)
        have HCO := kA (show L.length ≤ co from (Kd.R_reads' HO.out).2.1)
        clear hlt hj hjg
        have s0 : (0 ≤ (e : Int)) = True := eq_true (by omega)
        have s1 : e ≤ L.length := by have := HLT.out; omega
        have s2 : e ≤ co := Nat.le_trans s1 HCO.out
        have s3 : ((e : Int) ≤ (co : Int)) = True := eq_true (by omega)
        have s4 : decide ((e : Int) ≤ (co : Int)) = true := qT (by omega)
        obtain ⟨hcd0, hfd0⟩ := cY0 BD; obtain ⟨hcd1, hfd1⟩ := cY1 BD; obtain ⟨hcd2, hfd2⟩ := cY2 BD
        have hcut : L.take e = cutB b e := by
          have h1 := HLT.out; have h2 := HLL.out
          have hjj : j = e - b.length := by omega
          rw [HLD.out, hjj]; rfl
        have HO3 := kA (show Kd.R (Kd.int .u8) 5 wr w1.heap.size (fun _ => True) (.slice Ao e co) (cutB b e) from hcut ▸ Kd.R_take HO.out s1)
        clear HO hcut
        go_wp2
        go_ret
        refine ⟨_, rfl, ?_, below_step HB0.out HB.out⟩
        have e_ : afterB b do_ (e : Int) d = cutB b e := by unfold afterB; rw [if_pos HC0.out, Int.toNat_natCast]
        rw [e_]; exact Kd.R_lower HO3.out (below_size HB0.out)
  · have d0 : (do_ != 0) = true := bne_iff_ne.mpr c0
    by_cases c1 : d.length = 0
    · have d1 : ((d.length : Int) == 0) = true := beq_iff_eq.mpr (by omega)
      have HC1 := kA c1; have HC0 := kA c0; clear c1 c0
      go_wp2
      go_ret
      refine ⟨_, rfl, ?_, below_step HB0.out HB.out⟩
      have e_ : afterB b do_ at_ d = b := by unfold afterB; rw [if_neg HC0.out, if_pos HC1.out]
      rw [e_]; exact Kd.R_lower HO.out (below_size HB0.out)
    · have d1 : ((d.length : Int) == 0) = false := beq_eq_false_iff_ne.mpr (by omega)
      have hat := HAT.out (Or.inr c1)
      have hfit := HF.out c0 c1
      obtain ⟨p, hp⟩ : ∃ p : Nat, at_ = (p : Int) := ⟨at_.toNat, by omega⟩
      subst hp
      obtain ⟨e, he⟩ : ∃ e : Nat, e = max b.length (p + d.length) := ⟨_, rfl⟩
      have hw : wrap64 ((p : Int) + (d.length : Int)) = ((p + d.length : Nat) : Int) := by unfold wrap64; omega
      have HED := kA he
      have HE := kA (show e ≤ 80 from by have := HB80.out; omega)
      have HC1 := kA c1; have HC0 := kA c0; have HPF := kA (show p + d.length ≤ 80 from by omega); clear c1 c0 hat hfit
      have hmx : (if (b.length : Int) < (p : Int) + (d.length : Int) then (p : Int) + (d.length : Int) else (b.length : Int)) = (e : Int) := by
        rw [he]; split <;> omega
      clear he
      go_wp2
      clear hmx hw
      go_loopg [0] 80 (fun gk v0 w' => ∃ j : Nat, b.length + j ≤ max b.length e ∧ max b.length e - (b.length + j) ≤ gk ∧ Aside0 (Kd.R (Kd.int .u8) 5 w' w1.heap.size (fun _ => True) v0 (b ++ List.replicate j 0)) ∧ Aside0 (Below w1.heap.size w1 w'))
      case atStart => exact ⟨0, by omega, by have := HB80.out; have := HE.out; omega, ⟨by rw [List.replicate_zero, List.append_nil]; exact HO.out⟩, HB⟩
      case round =>
        clear HO HB BD hcd0 hcd1 hcd2 hfd0 hfd1 hfd2
        obtain ⟨j, hj, hjg, HO, HB⟩ := hrel; have BD := kA (blk_below BD0.out HB.out)
        obtain ⟨Ao, co, eo⟩ := Kd.R_slice HO.out; subst eo
        have HLL := kA (show (b ++ List.replicate j 0).length = b.length + j from by rw [List.length_append, List.length_replicate])
        obtain ⟨L, hL⟩ : ∃ L : List Int, L = b ++ List.replicate j 0 := ⟨_, rfl⟩
        rw [← hL] at HO HLL
        try rw [← hL]
        have HLD := kA hL; clear hL
        by_cases hlt : L.length < e
        case pos =>
          have d1 : decide (L.length < e) = true := qT hlt
          have d2 : decide ((L.length : Int) < (e : Int)) = true := qT (by omega)
          have HLT := kA hlt; clear hlt
          have HJ := kA hj; clear hj
          go_wp2_with (first | ((with_reducible refine gate_builtin (b := .append) (xs := #[.tmp 32, .tmp 33]) rfl ?_); at_builtin; refine Kd.R_append (Kd.int .u8) (w0 := w1) w1.heap.size rfl (.tmp 32) (.tmp 33) 50 5 (.int .u8 0) 1 rfl Try.underlying50 info5 rfl (by decide) (by omega) (.slice Ao L.length co) L 0 [.int .u8 0] (fun _ => True) (fun _ => False) rfl rfl ?aP (fun _ hk => hk.elim) ?aF ?aO ?aB ?aS ?aL ?_; (case aP => exact rfl); (case aB => exact (mH HB)); (case aF => exact (fun _ _ => trivial)); (case aO => exact (mR HO)); (case aS => exact (below_size (mH HB))); (case aL => have := HLT.out; have := HE.out; omega); intro v1 w4 ho hb hg hat; replace HB := kA (hb); have HO2 := kA (ho); clear HO BD; clear ho hb hg hat))
          go_roundg (max b.length e - (b.length + (j + 1)))
          case measure => have := HLT.out; have := HLL.out; omega
          case rel => exact ⟨j + 1, by have := HLT.out; have := HLL.out; omega, Nat.le_refl _, ⟨by have h := HO2.out; rw [HLD.out, List.append_assoc, ← List.replicate_succ'] at h; exact h⟩, HB⟩
        case neg =>
          have d1 : decide (L.length < e) = false := qF hlt
          have d2 : decide ((L.length : Int) < (e : Int)) = false := qF (by omega)
          have HLT := kA (show L.length = max b.length e from by have := HLL.out; omega)
          have HCO := kA (show L.length ≤ co from (Kd.R_reads' HO.out).2.1)
          clear hlt hj hjg
          have s0 : (0 ≤ (e : Int)) = True := eq_true (by omega)
          have s1 : e ≤ L.length := by have := HLT.out; omega
          have s2 : e ≤ co := Nat.le_trans s1 HCO.out
          have s3 : ((e : Int) ≤ (co : Int)) = True := eq_true (by omega)
          have s4 : decide ((e : Int) ≤ (co : Int)) = true := qT (by omega)
          obtain ⟨hcd0, hfd0⟩ := cY0 BD; obtain ⟨hcd1, hfd1⟩ := cY1 BD; obtain ⟨hcd2, hfd2⟩ := cY2 BD
          have hcut : L.take e = cutB b e := by
            have h1 := HLT.out; have h2 := HLL.out
            have hjj : j = e - b.length := by omega
            rw [HLD.out, hjj]; rfl
          have HO3 := kA (show Kd.R (Kd.int .u8) 5 wr w1.heap.size (fun _ => True) (.slice Ao e co) (cutB b e) from hcut ▸ Kd.R_take HO.out s1)
          clear HO hcut
          have HBL := kA (show p + d.length ≤ e from by rw [HED.out]; omega)
          have hof := Kd.own_of_R (enc := mkV) (h1 := fun _ => rfl) HO3.out
          rw [cutB_len] at hof
          obtain ⟨hn0, hof⟩ := hof
          rcases hof with ⟨hx, hz⟩ | ⟨g, cap, cur, hv, hgb, hh, hnc, hcm, hsz, htk⟩
          · exact absurd hz (by have := HBL.out; have := HC1.out; omega)
          injection hv with hv1 _ hv2
          subst hv1; subst hv2
          have HG := kA (show wr.heap[g]? = some (.cells cur.toList.toArray 5 (0, 0)) from hh)
          have HGB := kA hgb; have HCM := kA hcm; have HSZ := kA hsz; have HTK := kA htk; have HNC := kA hnc
          clear hn0 hh hgb hcm hsz htk hnc HO3
          have q0 : (0 ≤ (p : Int)) = True := eq_true (by omega)
          have q1 : p ≤ e := by have := HBL.out; omega
          have q2 : ((p : Int) ≤ (e : Int)) = True := eq_true (by omega)
          have q3 : decide ((p : Int) ≤ (e : Int)) = true := qT (by omega)
          have q4 : p < co := by have := HBL.out; have := HNC.out; have := HC1.out; omega
          have q5 : (co = p) = False := eq_false (by omega)
          have q6 : p ≤ co := by omega
          go_upto_region 11 with (fail)
          have HLEN := kA (show (d.map mkV).length = Nat.min d.length (e - p) from by rw [List.length_map]; have := HBL.out; show d.length = min d.length (e - p); omega)
          have HSRC := kA (show 0 < (d.map mkV).length → (some (⟨g, p, none⟩ : Addr)) = some ⟨g, p, none⟩ ∧ ∃ ad, A2 = some ad ∧ ∀ j v, (d.map mkV)[j]? = some v → wr.drew.cell? (ad.add j) = some v from fun hp => by
            rw [List.length_map] at hp
            obtain ⟨ad, e0, -⟩ := Kd.at_int HR2.out 0 (by omega) (by omega)
            refine ⟨rfl, ad, e0, fun j v hj => ?_⟩
            rw [List.getElem?_map] at hj
            obtain ⟨x, hx, rfl⟩ := Option.map_eq_some_iff.1 hj
            have hjl := (List.getElem?_eq_some_iff.1 hx).1
            obtain ⟨ad', e1, hc1⟩ := Kd.at_int HR2.out (j : Int) (by omega) (by omega)
            rw [e0] at e1
            cases e1
            rw [mt_rd, Int.toNat_natCast, qG, hx] at hc1
            exact ((below_drew1 HB.out).cell (World.block_lt_of_cell? w1 _ hc1)).trans hc1)
          go_region_held3 (fun w_ => w_.cell? ⟨bd, 1, none⟩ = some (.int .i64 p) ∧ w_.cell? ⟨bd, 2, none⟩ = some (.slice A2 d.length c2)) (exact ⟨hcd1, hcd2⟩) (((refine step_copy_splice rfl (.tmp 44) (.tmp 46) 50 50 rfl 5 Try.underlying50 (by rfl) (some ⟨g, p, none⟩) A2 (e - p) (co - p) d.length c2 (by rfl) (by rfl) g p cur.toList 5 HG.out (d.map mkV) HLEN.out HSRC.out ?fit ?one w1.heap.size w1 (below_drew1 HB.out) HGB.out ?_); (case fit => have h1 := HSZ.out; have h2 : cur.toList.length = cur.size := Array.length_toList; have := HBL.out; have := HNC.out; rw [h2, List.length_map]; omega); (case one => intro v hv; obtain ⟨x, _, rfl⟩ := List.mem_map.1 hv; rfl); intro w5 hg5 hb5; have hcd1 := cZ1 (kA (blk_below BD0.out hb5)); have hcd2 := cZ2 (kA (blk_below BD0.out hb5))))
          have HG5 := kA (show w5.heap[g]? = some (.cells (splice cur.toList p (d.map mkV)).toArray 5 (0, 0)) from hg5)
          have HB5 := kA hb5
          clear HG HB hg5 hb5 hcd1 hcd2
          go_wp2
          go_ret
          refine ⟨.slice (some ⟨g, 0, none⟩) e co, rfl, ?_, below_step HB0.out HB5.out⟩
          have e_ : afterB b do_ (p : Int) d = splice (cutB b e) p d := by unfold afterB; rw [if_neg HC0.out, if_neg HC1.out, Int.toNat_natCast, ← HED.out]; rfl
          rw [e_]
          have h1 := HSZ.out; have h2 : cur.toList.length = cur.size := Array.length_toList; have h3 := HBL.out; have h4 := HNC.out; have h5 := HTK.out
          rw [Nat.mul_one] at h1 h5
          have hsl : (splice (cutB b e) p d).length = e := by
            unfold splice; rw [List.length_append, List.length_append, List.length_take, List.length_drop, cutB_len]; omega
          refine Kd.R_lower ?_ (below_size HB0.out)
          refine Kd.R_of_own (enc := mkV) (h1 := fun _ => rfl) ?_ (fun _ _ => trivial)
          refine ⟨by rw [encs_length, hsl, Nat.mul_one], Or.inr ⟨g, co, (splice cur.toList p (d.map mkV)).toArray, by rw [hsl], HGB.out, HG5.out, by rw [hsl]; exact h4, HCM.out, ?_, ?_⟩⟩
          · rw [Nat.mul_one, List.size_toArray]
            unfold splice
            rw [List.length_append, List.length_append, List.length_take, List.length_drop, List.length_map]; omega
          · rw [hsl, Nat.mul_one]
            show List.take e (splice cur.toList p (d.map mkV)) = (splice (cutB b e) p d).map mkV
            rw [splice_take _ _ _ _ (by rw [List.length_map]; exact h3) (by omega), map_splice, h5]; rfl
end Go.Proofs.Ytkigiehkckjlhaa.ReadsWalk
