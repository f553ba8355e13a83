/- The Go functions that these laws reach, each as a Lean function with the same answers (a law itself where it answers true), and the proof that the code comes to them; conditions: those of each theorem. Laid by a program of this session over the print. -/
import Derived.Test.YtkigiehkckjlhaaZDonePDoneShort
import Derived.Test.YtkigiehkckjlhaaZDonePDonex0
import Derived.Test.YtkigiehkckjlhaaZDonePDonex2
import Derived.Test.YtkigiehkckjlhaaZDonePDonex6
import Derived.Test.YtkigiehkckjlhaaZDonePDonex9
import Derived.Test.YtkigiehkckjlhaaZDonePDonex24
import Derived.Test.YtkigiehkckjlhaaZDonePDonex26
import Derived.Test.YtkigiehkckjlhaaZDonePDonex33
import Derived.Test.YtkigiehkckjlhaaZDonePDonex34
import Derived.Test.YtkigiehkckjlhaaZDonePDonex35
namespace Go.Proofs.Ytkigiehkckjlhaa.PDone
open Go.RowKit Go.Proofs.YtkigiehkckjlhaaW.PrintWords Go.Proofs.YtkigiehkckjlhaaW.PrintLast Go.Proofs.YtkigiehkckjlhaaW.PrintMore
attribute [local go_sem] max2_int min2_int max_two min_two max_three min_three max_four min_four   -- for this text's walks alone
set_option linter.unusedVariables false
set_option linter.unusedSimpArgs false
open Go.Proofs.YtkigiehkckjlhaaW.PrintWords renaming blk_drewN → bN, blk_drew → bD, blk_alloc → bA, below_set → wS, below_alloc → wA, pw_below_drewN → wN, below_drew1 → wD, blk_below → bB, blk_far → bF, blk_cell → bC, blk_frozen → bZ
open List renaming setIfInBounds_toArray → lT, set_cons_zero → l0_, set_cons_succ → lS
theorem app_keep {P : Program} {w w1 : World} {base : Nat} {t ty e : TypeId} {i : TypeInfo} {z : Value} {size : Nat} (ht : P.underlying t = some (.slice e)) (hi : P.info? e = some i) (hz : i.zero = some z) (hsize : i.size = size)
    {v v1 : Value} {n : Nat} {xs : List Value} (hown : w.ownsRow base e size v n xs) {a : Addr} {m c : Nat} {news : List Value} (hl : news.length = m * size) (hnews : ∀ j u, news[j]? = some u → w.cell? (a.add j) = some u) (h1 : ∀ u ∈ news, u.oneCell' = true)
    (h63 : n + m ≤ maxLen) (hbytes : (n + m) * i.bytes ≤ 140737488355328) (hr : (Builtin.append_ #[t, t] ty #[v, .slice (some a) m c]).run P w = .ok v1 w1) : w1.ownsRow base e size v n xs := by
  subst hsize
  have hsmall : n + m ≤ 9223372036854775807 := by simp only [maxLen] at h63; omega
  rcases hown.2 with ⟨rfl, rfl⟩ | ⟨g, cap, cur, rfl, hbg, hg, hnc, hcm, hcs, htake⟩
  · have hx : xs = [] := List.eq_nil_of_length_eq_zero (by simpa using hown.1)
    subst hx
    exact World.ownsRow_nil _ _ _ _
  · by_cases hroom : n + m ≤ cap
    · have hfit : n * i.size + news.length ≤ cur.size := by rw [hl, hcs, ← Nat.add_mul]; exact Nat.mul_le_mul_right _ hroom
      have h2 := run_append_room (P := P) w t ty e i ht hi g n cap cur hg a m c news hl hnews h1 hroom hfit
      have h3 := hr.symm.trans h2
      injection h3 with h4 h5
      subst h5
      refine ⟨hown.1, .inr ⟨g, cap, _, rfl, hbg, setRow_heap w g cur _ e _ hg, hnc, hcm, ?_, ?_⟩⟩
      · simp only [List.size_toArray, List.length_append, List.length_take, List.length_drop, Array.length_toList]
        omega
      · have hlen : (cur.toList.take (n * i.size)).length = n * i.size := by rw [htake]; exact hown.1
        simp only [List.append_assoc]
        rw [List.take_append_of_le_length (by omega), List.take_of_length_le (by omega)]
        exact htake
    · have holds : ∀ j u, xs[j]? = some u → w.cell? ((⟨g, 0, none⟩ : Addr).add j) = some u := hown.cells (g := g) rfl
      have h2 := run_append_grow (P := P) w t ty e i z ht hi hz ⟨g, 0, none⟩ n cap xs hown.1 holds a m c news hl hnews (by omega) (by omega) (growslice_fits (by omega) hbytes)
      have h3 := hr.symm.trans h2
      injection h3 with h4 h5
      subst h5
      have hlt : g < w.heap.size := (Array.getElem?_eq_some_iff.1 hg).1
      exact ⟨hown.1, .inr ⟨g, cap, cur, rfl, hbg, (heap_alloc_old w.drew _ hlt).trans hg, hnc, hcm, hcs, htake⟩⟩
section
variable {α : Type} {enc : α → Value} {h1 : ∀ x, (enc x).oneCell' = true} {P : Program} {ops : Array Oper} {o : Oper} {a : Act} {Q : Exit → Act → World → Prop} {Kc : Act → World → Prop}
theorem app_step {w0 W : World} (base : Nat) (hw : Region.wanted o (yielded ops a.tmps) = true) (s x : Operand) (t e : TypeId) (z : Value) (bytes : Nat)
    (ho : o.op = .call { callee := .builtin .append, args := #[s, x], argTypes := #[t, t] })
    (ht : P.underlying t = some (.slice e)) (hinfo : (P.info? e).map (fun i => (i.zero, i.size, i.bytes)) = some (some z, 1, bytes)) (hz : z.cells.size = 1) (hb0 : 0 < bytes)
    (v : Value) (xs ys : List α) (A : Option Addr) (m c : Nat) (ok : Nat → Prop) (hs : a.eval s = v) (hx : a.eval x = .slice A m c)
    (HO : (Kd.scalar enc h1).R e W base ok v xs) (HR : (Kd.scalar enc h1).C W A m ys) (hfresh : ∀ k, W.heap.size ≤ k → ok k)
    (HB : Below base w0 W) (hbase : base ≤ W.heap.size) (hl : (xs.length + m) * bytes ≤ 140737488355328)
    (h : ∀ v1 w1, (Kd.scalar enc h1).R e w1 base ok v1 (xs ++ ys) → Below base w0 w1 → W.grownBy w1 v.ownBlock → (v1.ownBlock = v.ownBlock ∨ ∃ b, v1.ownBlock = some b ∧ W.heap.size ≤ b) → (Kd.scalar enc h1).R e w1 base ok v xs → Kc (a.put o.dst v1) w1) :
    if Region.wanted o (yielded ops a.tmps) = true then Oper.wp P o a W Kc Q else Kc (a.put o.dst undef) W := by
  obtain ⟨i0, hi, hzz⟩ := Option.map_eq_some_iff.1 hinfo
  simp only [Prod.mk.injEq] at hzz
  obtain ⟨hz0, hz1, hz2⟩ := hzz
  have hm : ys.length = m := HR.1
  have hlen : xs.length + m ≤ 140737488355328 := Nat.le_trans (Nat.le_mul_of_pos_right _ hb0) hl
  have hown := Kd.own_of_R HO
  have hrun : ∃ v1 w1, (Builtin.append_ #[t, t] o.type #[v, .slice A m c]).run P W = .ok v1 w1 ∧ (Kd.scalar enc h1).R e w1 base ok v1 (xs ++ ys) ∧ W.grownBy w1 v.ownBlock ∧ (v1.ownBlock = v.ownBlock ∨ ∃ b, v1.ownBlock = some b ∧ W.heap.size ≤ b) ∧ (Kd.scalar enc h1).R e w1 base ok v xs := by
    rcases A with _ | ad
    · have h0 : m = 0 := by
        rcases Nat.eq_zero_or_pos m with h0 | h0
        · exact h0
        · obtain ⟨ad, h, _⟩ := HR.2.2 h0
          cases h
      subst h0
      obtain rfl : ys = [] := List.eq_nil_of_length_eq_zero hm
      refine ⟨v, W, ?_, by rw [List.append_nil]; exact HO, World.grownBy.refl W _, .inl rfl, HO⟩
      rcases hown.2 with ⟨rfl, hn⟩ | ⟨g, cap, cur, rfl, _, _, hnc, _⟩
      · simp [Builtin.append_, run_underlying ht, sizeOf, typeInfo, hi, Builtin.lenOf, Builtin.firstCells]
      · simp [Builtin.append_, run_underlying ht, sizeOf, typeInfo, hi, Builtin.lenOf, Builtin.firstCells, hnc, storeCells]
    · have hnews : ∀ j u, (encs enc ys)[j]? = some u → W.cell? (ad.add j) = some u := by
        intro j u hj
        unfold encs at hj
        rw [List.getElem?_map, Option.map_eq_some_iff] at hj
        obtain ⟨p, hp, rfl⟩ := hj
        have hj2 : j < ys.length := (List.getElem?_eq_some_iff.1 hp).1
        obtain ⟨ad', e1, hc⟩ := HR.2.2 (by omega)
        injection e1 with e1
        subst e1
        obtain ⟨c', hc1, hc2, hc3⟩ := hc j p hp
        have hc4 : c' = [enc p] := hc2
        subst hc4
        have := hc3 0 (enc p) rfl
        simpa [Kd.scalar] using this
      have hnl : (encs enc ys).length = m * 1 := by rw [encs_length, hm, Nat.mul_one]
      have hone : ∀ u ∈ encs enc ys, u.oneCell' = true := by
        intro u hu
        unfold encs at hu
        obtain ⟨p, _, rfl⟩ := List.mem_map.1 hu
        exact h1 p
      obtain ⟨v1, w1, hr1, h2, hg, _, hat⟩ := run_append_own_at (P := P) W base t o.type e i0 z 1 bytes ht hi hz0 hz1 hz2 hz (by decide) v xs.length _ hown ad m c _ hnl hnews hone (by simp only [maxLen]; omega) hl hbase
      have hk := app_keep ht hi hz0 hz1 hown hnl hnews hone (by simp only [maxLen]; omega) (by rw [hz2]; exact hl) hr1
      have hat' : v1.ownBlock = v.ownBlock ∨ ∃ b, v1.ownBlock = some b ∧ W.heap.size ≤ b := by
        rcases hat with hat | hat
        · exact .inl hat
        · exact .inr ⟨_, hat, Nat.le_refl _⟩
      have hR1 : (Kd.scalar enc h1).R e w1 base ok v1 (xs ++ ys) := by
        refine Kd.R_of_own (by rw [show encs enc (xs ++ ys) = encs enc xs ++ encs enc ys from by simp [encs], List.length_append, hm]; exact h2) (fun k hk => ?_)
        rcases hat' with hat | ⟨b, hb, hle⟩
        · exact HO.1 k (hat ▸ hk)
        · rw [hb] at hk
          injection hk with hk
          exact hfresh k (by omega)
      have hR0 : (Kd.scalar enc h1).R e w1 base ok v xs := Kd.R_of_own hk HO.1
      exact ⟨v1, w1, hr1, hR1, hg, hat', hR0⟩
  obtain ⟨v1, w1, hrun, hR1, hg, hat', hR0⟩ := hrun
  rw [if_pos hw]
  unfold Oper.wp execOp
  simp only [ho, resolve, invoke, builtin, Sem.run_bind, Sem.run_pure, Result.andThen_ok, List.map_toArray, List.map_cons, List.map_nil, hs, hx, hrun]
  exact h v1 w1 hR1 (HB.grown hg hbase (own_base hown)) hg hat' hR0
theorem app_stepI {kd : IntKind} {w0 W : World} (base : Nat) (hw : Region.wanted o (yielded ops a.tmps) = true) (s x : Operand) (t e : TypeId) (z : Value) (bytes : Nat)
    (ho : o.op = .call { callee := .builtin .append, args := #[s, x], argTypes := #[t, t] })
    (ht : P.underlying t = some (.slice e)) (hinfo : (P.info? e).map (fun i => (i.zero, i.size, i.bytes)) = some (some z, 1, bytes)) (hz : z.cells.size = 1) (hb0 : 0 < bytes)
    (v : Value) (xs ys : List Int) (A : Option Addr) (m c : Nat) (ok : Nat → Prop) (hs : a.eval s = v) (hx : a.eval x = .slice A m c)
    (HO : (Kd.int kd).R e W base ok v xs) (HR : (Kd.int kd).C W A m ys) (hfresh : ∀ k, W.heap.size ≤ k → ok k)
    (HB : Below base w0 W) (hbase : base ≤ W.heap.size) (hl : (xs.length + m) * bytes ≤ 140737488355328)
    (h : ∀ v1 w1, (Kd.int kd).R e w1 base ok v1 (xs ++ ys) → Below base w0 w1 → W.grownBy w1 v.ownBlock → (v1.ownBlock = v.ownBlock ∨ ∃ b, v1.ownBlock = some b ∧ W.heap.size ≤ b) → (Kd.int kd).R e w1 base ok v xs → Kc (a.put o.dst v1) w1) :
    if Region.wanted o (yielded ops a.tmps) = true then Oper.wp P o a W Kc Q else Kc (a.put o.dst undef) W := app_step (enc := Value.int kd) (h1 := fun _ => rfl) base hw s x t e z bytes ho ht hinfo hz hb0 v xs ys A m c ok hs hx HO HR hfresh HB hbase hl h
end
abbrev B36_0 : Array Bool := #[false, false, false, false, false, false, false, false, false, false, false, false]
abbrev B36_1 := B36_0.set! 1 true
abbrev B36_2 := B36_1.set! 2 true
abbrev B36_3 := B36_2.set! 0 true
abbrev B36_4 : Array Bool := #[true, true, true, true, true, true, true, true, true, true, false, false]
abbrev B36_5 := B36_3.set! 3 true
abbrev B36_6 := B36_3.set! 9 true
abbrev B36_7 := B36_5.set! 4 true
abbrev B36_8 := B36_5.set! 9 true
abbrev B36_9 := B36_7.set! 5 true
abbrev B36_10 := B36_7.set! 9 true
abbrev B36_11 := B36_9.set! 6 true
abbrev B36_12 := B36_11.set! 7 true
abbrev B36_13 := B36_4.set! 9 false
abbrev B36_14 := B36_9.set! 9 true
abbrev B36_15 := B36_11.set! 9 true
abbrev B36_16 := B36_4.set! 8 false
abbrev B36_17 := B36_4.set! 10 true
abbrev B36_18 := B36_17.set! 11 true
abbrev B36_19 : Array Bool := #[false, false, false, false, false, false, false, false, false, false, false, false, false, false, false, false, false, false, false, false, false, false, false, false, false, false, false, false, false, false, false]
abbrev B36_20 := B36_19.set! 0 true
abbrev B36_21 := B36_20.set! 2 true
abbrev B36_22 := B36_21.set! 1 true
abbrev B36_23 := B36_22.set! 3 true
abbrev B36_24 := B36_23.set! 4 true
abbrev B36_25 := B36_24.set! 5 true
abbrev B36_26 := B36_25.set! 6 true
abbrev B36_27 := B36_26.set! 7 true
abbrev B36_28 := B36_27.set! 8 true
abbrev B36_29 := B36_28.set! 9 true
abbrev B36_30 := B36_29.set! 10 true
abbrev B36_31 := B36_30.set! 11 true
abbrev B36_32 := B36_31.set! 12 true
abbrev B36_33 := B36_32.set! 13 true
abbrev B36_34 := B36_33.set! 14 true
abbrev B36_35 := B36_34.set! 15 true
abbrev B36_36 := B36_35.set! 17 true
abbrev B36_37 := B36_36.set! 21 true
abbrev B36_38 := B36_37.set! 25 true
abbrev B36_39 := B36_38.set! 26 true
abbrev B36_40 := B36_39.set! 27 true
abbrev B36_41 := B36_40.set! 16 true
abbrev B36_42 := B36_41.set! 18 true
abbrev B36_43 := B36_42.set! 19 true
abbrev B36_44 := B36_43.set! 20 true
abbrev B36_45 := B36_44.set! 22 true
abbrev B36_46 := B36_45.set! 23 true
abbrev B36_47 := B36_46.set! 24 true
abbrev B36_48 := B36_47.set! 28 true
abbrev B36_49 := B36_48.set! 29 true
abbrev B36_50 := B36_49.set! 30 true
abbrev B36_51 : Array Bool := #[false, false, false, false, false, false, false, false, false, false, false, false, false, false, false, false, false, false, false, false]
abbrev B36_52 := B36_51.set! 0 true
abbrev B36_53 := B36_52.set! 2 true
abbrev B36_54 := B36_53.set! 6 true
abbrev B36_55 := B36_54.set! 8 true
abbrev B36_56 := B36_55.set! 10 true
abbrev B36_57 := B36_56.set! 14 true
abbrev B36_58 := B36_57.set! 1 true
abbrev B36_59 := B36_58.set! 3 true
abbrev B36_60 := B36_59.set! 4 true
abbrev B36_61 := B36_60.set! 5 true
abbrev B36_62 := B36_61.set! 7 true
abbrev B36_63 := B36_62.set! 9 true
abbrev B36_64 := B36_63.set! 11 true
abbrev B36_65 := B36_64.set! 12 true
abbrev B36_66 := B36_65.set! 13 true
abbrev B36_67 := B36_66.set! 15 true
abbrev B36_68 := B36_67.set! 16 true
abbrev B36_69 := B36_68.set! 17 true
abbrev B36_70 := B36_69.set! 18 true
abbrev B36_71 := B36_70.set! 19 true
mutual
def potsherdlaw20_FileDone.j0 : Nat → Int → Int → List Int → Bool → List (S28) → Option (Bool)
 | 0, _, _, _, _, _ => none
 | k + 1, x1, x2, x3, x38, x502000 => if x38 = true then ((potsherdlaw20_awake.f k).bind fun t504 => (some t504)) else ((file_Write.f k x502000 60 x1 (wrap64 (Int.tmod (IntKind.u64.wrap (x2)) 81)) x3).bind fun bt505 => (if bt505.2.2 = 0 then ((potsherdlaw20_light.f k bt505.2.1).bind fun t513 => (potsherdlaw20_FileDone.j1 k x1 bt505.2.1 bt505.2.2 (!t513) x502000 bt505.1)) else (potsherdlaw20_FileDone.j1 k x1 bt505.2.1 bt505.2.2 true x502000 bt505.1)))
def potsherdlaw20_FileDone.j1 : Nat → Int → List (S60) → Int → Bool → List (S28) → List (S28) → Option (Bool)
 | 0, _, _, _, _, _, _ => none
 | k + 1, x1, x10, x11, x59, x502000, x513000 => if x59 = true then (if x11 = 0 then (none) else (if (x10.length : Int) = 0 then ((potsherdlaw20_awake.f k).bind fun t514 => (some t514)) else (none))) else (potsherdlaw20_FileDone.l0 k x1 x10 0 x502000 (x502000.length : Int) 0 x513000)
def potsherdlaw20_FileDone.l0 : Nat → Int → List (S60) → Int → List (S28) → Int → Int → List (S28) → Option (Bool)
 | 0, _, _, _, _, _, _, _ => none
 | k + 1, x1, x10, x12, x71, x72, x73, x513000 => if x73 < x72 then (if 0 ≤ x73 then (if x73 < (x71.length : Int) then (potsherdlaw20_FileDone.l1 k x1 x10 x12 x71 x72 x73 ((rd_T28 x71 x73).f3) (((rd_T28 x71 x73).f3).length : Int) 0 x513000) else (none)) else (none)) else (if x12 > 1099511627766 then ((potsherdlaw20_awake.f k).bind fun t518 => (some t518)) else (potsherdlaw20_FileDone.l2 k x1 x10 x12 ([] : List Int) (x10.length : Int) 0 x513000))
def potsherdlaw20_FileDone.l1 : Nat → Int → List (S60) → Int → List (S28) → Int → Int → List Int → Int → Int → List (S28) → Option (Bool)
 | 0, _, _, _, _, _, _, _, _, _, _ => none
 | k + 1, x1, x10, x12, x71, x72, x73, x78, x79, x80, x513000 => if x80 < x79 then (if 0 ≤ x80 then (if x80 < (x78.length : Int) then (potsherdlaw20_FileDone.l1 k x1 x10 (mx x12 (rd x78 x80)) x71 x72 x73 x78 x79 (wrap64 (x80 + 1)) x513000) else (none)) else (none)) else (potsherdlaw20_FileDone.l0 k x1 x10 x12 x71 x72 (wrap64 (x73 + 1)) x513000)
def potsherdlaw20_FileDone.l2 : Nat → Int → List (S60) → Int → List Int → Int → Int → List (S28) → Option (Bool)
 | 0, _, _, _, _, _, _, _ => none
 | k + 1, x1, x10, x12, x17, x93, x94, x513000 => if x94 < x93 then ((some (([wrap64 ((wrap64 (x12 + 1)) + x94)] : List Int) : List Int)).bind fun y519 => (if x17.length + y519.length < 17592186044416 then (potsherdlaw20_FileDone.l2 k x1 x10 x12 (x17 ++ y519) x93 (wrap64 (x94 + 1)) x513000) else (none))) else ((file_Done.f k x513000 x10 x17).bind fun bt525 => ((some (([1] : List Int) : List Int)).bind fun y530 => (if x17.length + y530.length < 17592186044416 then ((file_Done.f k x513000 x10 (x17 ++ y530)).bind fun bt536 => (if bt525.2 = 0 then (if bt536.2 = 1 then (if (bt525.1.length : Int) = (x513000.length : Int) then (if x1 < 0 then (none) else (if x1 ≥ (bt525.1.length : Int) then (none) else (if 0 ≤ x1 then (if x1 < (bt525.1.length : Int) then (potsherdlaw20_FileDone.j5 k x1 x10 x17 ((((rd_T28 bt525.1 x1).f3).length : Int) != 5) x513000 bt525.1) else (none)) else (none)))) else (none)) else (none)) else (none))) else (none))))
def potsherdlaw20_FileDone.j5 : Nat → Int → List (S60) → List Int → Bool → List (S28) → List (S28) → Option (Bool)
 | 0, _, _, _, _, _, _ => none
 | k + 1, x1, x10, x17, x156, x513000, x530000 => if x156 = true then (none) else ((potsherdref12_CopyTree.f k x530000).bind fun t542 => (potsherdlaw20_FileDone.l3 k x1 x17 x10 (x10.length : Int) 0 x513000 x530000 t542))
def potsherdlaw20_FileDone.l3 : Nat → Int → List Int → List (S60) → Int → Int → List (S28) → List (S28) → List (S28) → Option (Bool)
 | 0, _, _, _, _, _, _, _, _ => none
 | k + 1, x1, x17, x159, x160, x161, x513000, x530000, x546000 => if x161 < x160 then (if 0 ≤ x161 then (if x161 < (x159.length : Int) then (if ((rd_T60 x159 x161).f0) = x1 then (if ((rd_T60 x159 x161).f1) < 0 then (none) else (if ((rd_T60 x159 x161).f1) ≥ 5 then (none) else (if 0 ≤ x1 then (if x1 < (x530000.length : Int) then (if 0 ≤ ((rd_T60 x159 x161).f1) then (if ((rd_T60 x159 x161).f1) < (((rd_T28 x530000 x1).f3).length : Int) then (if x161 < (x17.length : Int) then (potsherdlaw20_FileDone.j7 k x1 x17 x159 x160 x161 ((rd ((rd_T28 x530000 x1).f3) ((rd_T60 x159 x161).f1)) != (rd x17 x161)) x513000 x530000 x546000 ((rd_T60 x159 x161).f0) ((rd_T60 x159 x161).f1) ((rd_T60 x159 x161).f2) ((rd_T60 x159 x161).f3) ((rd_T60 x159 x161).f4)) else (none)) else (none)) else (none)) else (none)) else (none)))) else (none)) else (none)) else (none)) else ((potsherdref12_SameTree.f k x546000 x513000).bind fun t557 => (if t557 = true then ((potsherdlaw20_awake.f k).bind fun t558 => (some t558)) else (none)))
def potsherdlaw20_FileDone.j7 : Nat → Int → List Int → List (S60) → Int → Int → Bool → List (S28) → List (S28) → List (S28) → Int → Int → Int → Int → Int → Option (Bool)
 | 0, _, _, _, _, _, _, _, _, _, _, _, _, _, _ => none
 | k + 1, x1, x17, x159, x160, x161, x196, x513000, x530000, x546000, x548000, x548001, x548002, x548003, x548004 => if x196 = true then (none) else (if 0 ≤ x1 then (if x1 < (x546000.length : Int) then (if x1 < (x513000.length : Int) then (if 0 ≤ x548001 then (if x548001 < (((rd_T28 x513000 x1).f3).length : Int) then (if x548001 < (((rd_T28 x546000 x1).f3).length : Int) then (potsherdlaw20_FileDone.l3 k x1 x17 x159 x160 (wrap64 (x161 + 1)) x513000 x530000 (x546000.set (x1 : Int).toNat (⟨(rd_T28 x546000 x1).f0, (rd_T28 x546000 x1).f1, (rd_T28 x546000 x1).f2, (((rd_T28 x546000 x1).f3).set (x548001 : Int).toNat (rd ((rd_T28 x513000 x1).f3) x548001)), (rd_T28 x546000 x1).f4⟩ : S28))) else (none)) else (none)) else (none)) else (none)) else (none)) else (none))
end
def potsherdlaw20_FileDone.f (k : Nat) (l0_0 : List (S28)) (a1 : Int) (a2 : Int) (l3 : List Int) : Option (Bool) := (potsherdlaw15_Light.f k l0_0).bind fun t502 => (if t502 > 0 then (potsherdlaw20_FileDone.j0 k a1 a2 l3 true l0_0) else ((potsherdref12_MayTree.f k l0_0).bind fun t503 => (if t503 = true then (potsherdlaw20_FileDone.j0 k a1 a2 l3 (decide ((l3.length : Int) > 80)) l0_0) else (potsherdlaw20_FileDone.j0 k a1 a2 l3 true l0_0))))
theorem potsherdlaw20_FileDone.mono_l : ∀ k, (∀ y0 y1 y2 y3 y4, LeO (potsherdlaw20_FileDone.j0 k y0 y1 y2 y3 y4) (potsherdlaw20_FileDone.j0 (k + 1) y0 y1 y2 y3 y4)) ∧ (∀ y0 y1 y2 y3 y4 y5, LeO (potsherdlaw20_FileDone.j1 k y0 y1 y2 y3 y4 y5) (potsherdlaw20_FileDone.j1 (k + 1) y0 y1 y2 y3 y4 y5)) ∧ (∀ y0 y1 y2 y3 y4 y5 y6, LeO (potsherdlaw20_FileDone.l0 k y0 y1 y2 y3 y4 y5 y6) (potsherdlaw20_FileDone.l0 (k + 1) y0 y1 y2 y3 y4 y5 y6)) ∧ (∀ y0 y1 y2 y3 y4 y5 y6 y7 y8 y9, LeO (potsherdlaw20_FileDone.l1 k y0 y1 y2 y3 y4 y5 y6 y7 y8 y9) (potsherdlaw20_FileDone.l1 (k + 1) y0 y1 y2 y3 y4 y5 y6 y7 y8 y9)) ∧ (∀ y0 y1 y2 y3 y4 y5 y6, LeO (potsherdlaw20_FileDone.l2 k y0 y1 y2 y3 y4 y5 y6) (potsherdlaw20_FileDone.l2 (k + 1) y0 y1 y2 y3 y4 y5 y6)) ∧ (∀ y0 y1 y2 y3 y4 y5, LeO (potsherdlaw20_FileDone.j5 k y0 y1 y2 y3 y4 y5) (potsherdlaw20_FileDone.j5 (k + 1) y0 y1 y2 y3 y4 y5)) ∧ (∀ y0 y1 y2 y3 y4 y5 y6 y7, LeO (potsherdlaw20_FileDone.l3 k y0 y1 y2 y3 y4 y5 y6 y7) (potsherdlaw20_FileDone.l3 (k + 1) y0 y1 y2 y3 y4 y5 y6 y7)) ∧ (∀ y0 y1 y2 y3 y4 y5 y6 y7 y8 y9 y10 y11 y12 y13, LeO (potsherdlaw20_FileDone.j7 k y0 y1 y2 y3 y4 y5 y6 y7 y8 y9 y10 y11 y12 y13) (potsherdlaw20_FileDone.j7 (k + 1) y0 y1 y2 y3 y4 y5 y6 y7 y8 y9 y10 y11 y12 y13))
 | 0 => ⟨fun _ _ _ _ _ r h => by simp [potsherdlaw20_FileDone.j0] at h, fun _ _ _ _ _ _ r h => by simp [potsherdlaw20_FileDone.j1] at h, fun _ _ _ _ _ _ _ r h => by simp [potsherdlaw20_FileDone.l0] at h, fun _ _ _ _ _ _ _ _ _ _ r h => by simp [potsherdlaw20_FileDone.l1] at h, fun _ _ _ _ _ _ _ r h => by simp [potsherdlaw20_FileDone.l2] at h, fun _ _ _ _ _ _ r h => by simp [potsherdlaw20_FileDone.j5] at h, fun _ _ _ _ _ _ _ _ r h => by simp [potsherdlaw20_FileDone.l3] at h, fun _ _ _ _ _ _ _ _ _ _ _ _ _ _ r h => by simp [potsherdlaw20_FileDone.j7] at h⟩
 | k + 1 => by
  obtain ⟨ih0, ih1, ih2, ih3, ih4, ih5, ih6, ih7⟩ := potsherdlaw20_FileDone.mono_l k; refine ⟨?_, ?_, ?_, ?_, ?_, ?_, ?_, ?_⟩
  ·
   intro y0 y1 y2 y3 y4
   unfold potsherdlaw20_FileDone.j0
   repeat' with_reducible first | apply ih0 | apply ih1 | apply ih2 | apply ih3 | apply ih4 | apply ih5 | apply ih6 | apply ih7 | apply file_Done.mono | apply file_Write.mono | apply potsherdlaw15_Light.mono | apply potsherdlaw20_awake.mono | apply potsherdlaw20_light.mono | apply potsherdref12_CopyTree.mono | apply potsherdref12_MayTree.mono | apply potsherdref12_SameTree.mono | exact LeO.refl _ | exact LeO.none _ | refine LeO.ite ?_ ?_ | refine LeO.bind ?_ (fun _ => ?_)
  ·
   intro y0 y1 y2 y3 y4 y5
   unfold potsherdlaw20_FileDone.j1
   repeat' with_reducible first | apply ih0 | apply ih1 | apply ih2 | apply ih3 | apply ih4 | apply ih5 | apply ih6 | apply ih7 | apply file_Done.mono | apply file_Write.mono | apply potsherdlaw15_Light.mono | apply potsherdlaw20_awake.mono | apply potsherdlaw20_light.mono | apply potsherdref12_CopyTree.mono | apply potsherdref12_MayTree.mono | apply potsherdref12_SameTree.mono | exact LeO.refl _ | exact LeO.none _ | refine LeO.ite ?_ ?_ | refine LeO.bind ?_ (fun _ => ?_)
  ·
   intro y0 y1 y2 y3 y4 y5 y6
   unfold potsherdlaw20_FileDone.l0
   repeat' with_reducible first | apply ih0 | apply ih1 | apply ih2 | apply ih3 | apply ih4 | apply ih5 | apply ih6 | apply ih7 | apply file_Done.mono | apply file_Write.mono | apply potsherdlaw15_Light.mono | apply potsherdlaw20_awake.mono | apply potsherdlaw20_light.mono | apply potsherdref12_CopyTree.mono | apply potsherdref12_MayTree.mono | apply potsherdref12_SameTree.mono | exact LeO.refl _ | exact LeO.none _ | refine LeO.ite ?_ ?_ | refine LeO.bind ?_ (fun _ => ?_)
  ·
   intro y0 y1 y2 y3 y4 y5 y6 y7 y8 y9
   unfold potsherdlaw20_FileDone.l1
   repeat' with_reducible first | apply ih0 | apply ih1 | apply ih2 | apply ih3 | apply ih4 | apply ih5 | apply ih6 | apply ih7 | apply file_Done.mono | apply file_Write.mono | apply potsherdlaw15_Light.mono | apply potsherdlaw20_awake.mono | apply potsherdlaw20_light.mono | apply potsherdref12_CopyTree.mono | apply potsherdref12_MayTree.mono | apply potsherdref12_SameTree.mono | exact LeO.refl _ | exact LeO.none _ | refine LeO.ite ?_ ?_ | refine LeO.bind ?_ (fun _ => ?_)
  ·
   intro y0 y1 y2 y3 y4 y5 y6
   unfold potsherdlaw20_FileDone.l2
   repeat' with_reducible first | apply ih0 | apply ih1 | apply ih2 | apply ih3 | apply ih4 | apply ih5 | apply ih6 | apply ih7 | apply file_Done.mono | apply file_Write.mono | apply potsherdlaw15_Light.mono | apply potsherdlaw20_awake.mono | apply potsherdlaw20_light.mono | apply potsherdref12_CopyTree.mono | apply potsherdref12_MayTree.mono | apply potsherdref12_SameTree.mono | exact LeO.refl _ | exact LeO.none _ | refine LeO.ite ?_ ?_ | refine LeO.bind ?_ (fun _ => ?_)
  ·
   intro y0 y1 y2 y3 y4 y5
   unfold potsherdlaw20_FileDone.j5
   repeat' with_reducible first | apply ih0 | apply ih1 | apply ih2 | apply ih3 | apply ih4 | apply ih5 | apply ih6 | apply ih7 | apply file_Done.mono | apply file_Write.mono | apply potsherdlaw15_Light.mono | apply potsherdlaw20_awake.mono | apply potsherdlaw20_light.mono | apply potsherdref12_CopyTree.mono | apply potsherdref12_MayTree.mono | apply potsherdref12_SameTree.mono | exact LeO.refl _ | exact LeO.none _ | refine LeO.ite ?_ ?_ | refine LeO.bind ?_ (fun _ => ?_)
  ·
   intro y0 y1 y2 y3 y4 y5 y6 y7
   unfold potsherdlaw20_FileDone.l3
   repeat' with_reducible first | apply ih0 | apply ih1 | apply ih2 | apply ih3 | apply ih4 | apply ih5 | apply ih6 | apply ih7 | apply file_Done.mono | apply file_Write.mono | apply potsherdlaw15_Light.mono | apply potsherdlaw20_awake.mono | apply potsherdlaw20_light.mono | apply potsherdref12_CopyTree.mono | apply potsherdref12_MayTree.mono | apply potsherdref12_SameTree.mono | exact LeO.refl _ | exact LeO.none _ | refine LeO.ite ?_ ?_ | refine LeO.bind ?_ (fun _ => ?_)
  ·
   intro y0 y1 y2 y3 y4 y5 y6 y7 y8 y9 y10 y11 y12 y13
   unfold potsherdlaw20_FileDone.j7
   repeat' with_reducible first | apply ih0 | apply ih1 | apply ih2 | apply ih3 | apply ih4 | apply ih5 | apply ih6 | apply ih7 | apply file_Done.mono | apply file_Write.mono | apply potsherdlaw15_Light.mono | apply potsherdlaw20_awake.mono | apply potsherdlaw20_light.mono | apply potsherdref12_CopyTree.mono | apply potsherdref12_MayTree.mono | apply potsherdref12_SameTree.mono | exact LeO.refl _ | exact LeO.none _ | refine LeO.ite ?_ ?_ | refine LeO.bind ?_ (fun _ => ?_)
theorem potsherdlaw20_FileDone.mono : ∀ a0 a1 a2 a3 k, LeO (potsherdlaw20_FileDone.f k a0 a1 a2 a3) (potsherdlaw20_FileDone.f (k + 1) a0 a1 a2 a3) := by
 intro a0 a1 a2 a3 k; obtain ⟨ih0, ih1, ih2, ih3, ih4, ih5, ih6, ih7⟩ := potsherdlaw20_FileDone.mono_l k
 unfold potsherdlaw20_FileDone.f
 repeat' with_reducible first | apply ih0 | apply ih1 | apply ih2 | apply ih3 | apply ih4 | apply ih5 | apply ih6 | apply ih7 | apply file_Done.mono | apply file_Write.mono | apply potsherdlaw15_Light.mono | apply potsherdlaw20_awake.mono | apply potsherdlaw20_light.mono | apply potsherdref12_CopyTree.mono | apply potsherdref12_MayTree.mono | apply potsherdref12_SameTree.mono | exact LeO.refl _ | exact LeO.none _ | refine LeO.ite ?_ ?_ | refine LeO.bind ?_ (fun _ => ?_)
def potsherdlaw20_FileDone.T26 : Bool × List (List Nat × List Nat) := (true, [([], []), ([], []), ([], []), ([], []), ([2, 3], [2, 3]), ([0, 1, 4, 4], [0, 1, 4]), ([5], [5]), ([6], [6]), ([6], [6]), ([], []), ([9, 7, 5, 0, 1, 2, 3, 4, 5, 6, 7, 9], [7, 9]), ([8, 10, 0, 1, 2, 3, 4, 5, 6, 7, 8, 9, 10], [8])])
def potsherdlaw20_FileDone.B26 : List Nat := [0, 0, 0, 0, 12, 31, 63, 127, 127, 0, 767, 2047]
theorem potsherdlaw20_FileDone.tab26 : rtab .any (opsOf Try.f10 26) = potsherdlaw20_FileDone.T26 := by kernel_rfl
theorem potsherdlaw20_FileDone.bits26 : waitsOk potsherdlaw20_FileDone.T26.2 potsherdlaw20_FileDone.B26 = true := by kernel_rfl
def potsherdlaw20_FileDone.T33 : Bool × List (List Nat × List Nat) := (true, [([], []), ([0], [0]), ([], []), ([1, 2], [1, 2]), ([3], [3]), ([4], [4]), ([5, 4], [4, 5]), ([6, 4], [4, 6]), ([4, 7], [4, 7]), ([8, 4], [8]), ([9], [9]), ([10, 9], [9, 10]), ([11, 9], [9, 11]), ([9, 12], [9, 12]), ([13, 9], [13]), ([14], [14]), ([15, 14], [14, 15]), ([14], [14]), ([16, 17, 14], [14, 16, 17]), ([18, 14], [14, 18]), ([19, 14], [14, 19]), ([14], [14]), ([21, 14], [14, 21]), ([20, 22, 14], [14, 20, 22]), ([23, 14], [14, 23]), ([14], [14]), ([14], [14]), ([25, 26, 14], [14, 25, 26]), ([27, 14], [14, 27]), ([24, 28, 14], [14, 24, 28]), ([14, 29], [14, 29])])
def potsherdlaw20_FileDone.B33 : List Nat := [0, 1, 0, 7, 15, 31, 63, 127, 255, 511, 1023, 2047, 4095, 8191, 16383, 32767, 65535, 32767, 262143, 524287, 1048575, 32767, 2129919, 8388607, 16777215, 32767, 32767, 100696063, 234913791, 536870911, 1073741823]
theorem potsherdlaw20_FileDone.tab33 : rtab .any (opsOf Try.f10 33) = potsherdlaw20_FileDone.T33 := by kernel_rfl
theorem potsherdlaw20_FileDone.bits33 : waitsOk potsherdlaw20_FileDone.T33.2 potsherdlaw20_FileDone.B33 = true := by kernel_rfl
def potsherdlaw20_FileDone.T35 : Bool × List (List Nat × List Nat) := (true, [([], []), ([0], [0]), ([], []), ([1, 2], [1, 2]), ([3], [3]), ([4], [4]), ([], []), ([6], [6]), ([], []), ([8], [8]), ([], []), ([9, 10], [9, 10]), ([11], [11]), ([12], [12]), ([], []), ([14], [14]), ([13, 15], [13, 15]), ([16], [16]), ([5, 7, 0, 1, 2, 3, 4, 5, 6, 7, 8, 9, 10, 11, 12, 13, 14, 15, 16, 17], [5, 7]), ([18, 17, 0, 1, 2, 3, 4, 5, 6, 7, 8, 9, 10, 11, 12, 13, 14, 15, 16, 17], [17, 18])])
def potsherdlaw20_FileDone.B35 : List Nat := [0, 1, 0, 7, 15, 31, 0, 64, 0, 256, 0, 1792, 3840, 7936, 0, 16384, 65280, 130816, 262143, 524287]
theorem potsherdlaw20_FileDone.tab35 : rtab .any (opsOf Try.f10 35) = potsherdlaw20_FileDone.T35 := by kernel_rfl
theorem potsherdlaw20_FileDone.bits35 : waitsOk potsherdlaw20_FileDone.T35.2 potsherdlaw20_FileDone.B35 = true := by kernel_rfl
set_option maxHeartbeats 8000000 in
set_option maxRecDepth 100000 in
theorem potsherdlaw20_FileDone.calls (k : Nat) (A0_0 : Option Addr) (c0_0 : Nat) (l0_0 : List (S28)) (a1 : Int) (a2 : Int) (A3 : Option Addr) (c3 : Nat) (l3 : List Int) (w : World) (hr0_0 : Kd.C k28 w A0_0 l0_0.length l0_0) (hc0_0 : l0_0.length ≤ c0_0) (hr3 : Kd.C (Kd.int .u8) w A3 l3.length l3) (hc3 : l3.length ≤ c3) (h : potsherdlaw20_FileDone.f k l0_0 a1 a2 l3 = some true) :
 Calls Try.prog 10 #[.agg #[.slice A0_0 l0_0.length c0_0], .int .i64 a1, .int .i64 a2, .slice A3 l3.length c3] w fun e w' => e = .returned (.bool true) ∧ Below w.heap.size w w' := by
 have hu24 := Try.underlying24; have hu28 := Try.underlying28; have hu60 := Try.underlying60; have HR0_0 := Aside0.mk hr0_0; have HC0_0 := Aside0.mk hc0_0; clear hr0_0 hc0_0; have HR3 := Aside0.mk hr3; have HC3 := Aside0.mk hc3; clear hr3 hc3; have HB := Aside0.mk (Below.refl w.heap.size w); have H : ((potsherdlaw15_Light.f k l0_0).bind fun t502 => (if t502 > 0 then (potsherdlaw20_FileDone.j0 k a1 a2 l3 true l0_0) else ((potsherdref12_MayTree.f k l0_0).bind fun t503 => (if t503 = true then (potsherdlaw20_FileDone.j0 k a1 a2 l3 (decide ((l3.length : Int) > 80)) l0_0) else (potsherdlaw20_FileDone.j0 k a1 a2 l3 true l0_0))))) = some true := h; clear h; have HC5 := Aside0.mk H; clear H
 go_enter Try.func10, Try.ntmps10
 go_upto_region 1 with (first | ((with_reducible refine gate_dst (N := 4) rfl ?_); (try (refine gate_guard (by rfl) ?_; dsimp only)); refine bxE 24 (cs := #[.slice A0_0 l0_0.length c0_0]) ?_; intro gb501 hg w6 hbox hb; have BK501 := Aside0.mk hbox; have GW501 := kG HB hg; have GE501 := kG HB hg; replace HB := kH HB hb; clear hb hbox hg))
 (try simp only [Act.put, lT, l0_, lS])
 go_cut [38] (fun v38 wc => ∃ (kq : Nat) (x38_4 : Bool), v38 = .bool x38_4 ∧ Aside0 (potsherdlaw20_FileDone.j0 kq a1 a2 l3 x38_4 l0_0 = some true) ∧ Aside0 (kq ≤ k) ∧ Aside0 (wc.heap[gb501]? = some (.cells #[(.slice A0_0 l0_0.length c0_0)] 24 (0, 0))) ∧ Aside0 (Below w.heap.size w wc))
 case first =>
  have H := HC5.out; clear HC5; replace H := Option.bind_eq_some_iff.mp H; obtain ⟨t502, A70, H⟩ := H; have A7 := Aside0.mk A70; clear A70
  by_cases c8 : t502 > 0
  ·
   rw [if_pos c8] at H; have c8b0 : decide (0 < t502) = true := decide_eq_true c8; clear c8
   (first | rw [c8b0] | (simp only [i64_w, i32_w]; rw [c8b0]) | skip)
   have H' := Aside0.mk H; clear H; obtain ⟨hcz9_0, hfz9_0⟩ := cY0 BK501
   go_wp2_with (first | ((with_reducible refine gate_callee (f := 13) rfl ?_); refine goesK (some 27) Try.func13 #[.agg #[.slice A0_0 l0_0.length c0_0]] ?_; (with_reducible refine (potsherdlaw15_Light.calls k _ _ l0_0 t502 _ ?side1 ?side2 A7.out).mono ?_); (case side1 => exact mC HR0_0 HB); (case side2 => exact HC0_0.out); rintro e w10 ⟨rfl, hb⟩; refine ⟨_, rfl, ?_⟩; replace BK501 := kB BK501 hb; replace HB := kH HB hb; (try clear hb)))
   go_meet
   case rel => exact ⟨_, (true), sI, H', ⟨by first | omega | exact Nat.le_refl _⟩, ⟨mB BK501⟩, ⟨mH HB⟩⟩
  ·
   rw [if_neg c8] at H; have c8b0 : decide (0 < t502) = false := decide_eq_false c8; clear c8
   (first | rw [c8b0] | (simp only [i64_w, i32_w]; rw [c8b0]) | skip)
   replace H := Option.bind_eq_some_iff.mp H; obtain ⟨t503, A110, H⟩ := H; have A11 := Aside0.mk A110; clear A110
   by_cases c12 : t503 = true
   ·
    subst c12
    have H1 : (potsherdlaw20_FileDone.j0 k a1 a2 l3 (decide ((l3.length : Int) > 80)) l0_0) = some true := by rw [if_pos rfl] at H; exact H
    clear H; have H := H1; clear H1; have H' := Aside0.mk H; clear H; obtain ⟨hcz13_0, hfz13_0⟩ := cY0 BK501
    go_wp2_with (first | ((with_reducible refine gate_callee (f := 13) rfl ?_); refine goesK (some 27) Try.func13 #[.agg #[.slice A0_0 l0_0.length c0_0]] ?_; (with_reducible refine (potsherdlaw15_Light.calls k _ _ l0_0 t502 _ ?side1 ?side2 A7.out).mono ?_); (case side1 => exact mC HR0_0 HB); (case side2 => exact HC0_0.out); rintro e w14 ⟨rfl, hb⟩; refine ⟨_, rfl, ?_⟩; replace BK501 := kB BK501 hb; replace HB := kH HB hb; (try clear hb); obtain ⟨hcz15_0, hfz15_0⟩ := cY0 BK501) | (go_at_call 29; (with_reducible refine (potsherdref12_MayTree.calls k _ _ l0_0 true _ ?side1 ?side2 A11.out).mono ?_); (case side1 => exact mC HR0_0 HB); (case side2 => exact HC0_0.out); rintro e w16 ⟨rfl, hb⟩; replace BK501 := kB BK501 hb; replace HB := kH HB hb; (try clear hb)))
    go_meet
    case rel => exact ⟨_, (decide ((l3.length : Int) > 80)), sI, H', ⟨by first | omega | exact Nat.le_refl _⟩, ⟨mB BK501⟩, ⟨mH HB⟩⟩
   ·
    replace c12 := Bool.eq_false_iff.mpr c12; subst c12
    have H1 : (potsherdlaw20_FileDone.j0 k a1 a2 l3 true l0_0) = some true := by rw [if_neg (show ¬ (false = true) by decide)] at H; exact H
    clear H; have H := H1; clear H1; have H' := Aside0.mk H; clear H; obtain ⟨hcz17_0, hfz17_0⟩ := cY0 BK501
    go_wp2_with (first | ((with_reducible refine gate_callee (f := 13) rfl ?_); refine goesK (some 27) Try.func13 #[.agg #[.slice A0_0 l0_0.length c0_0]] ?_; (with_reducible refine (potsherdlaw15_Light.calls k _ _ l0_0 t502 _ ?side1 ?side2 A7.out).mono ?_); (case side1 => exact mC HR0_0 HB); (case side2 => exact HC0_0.out); rintro e w18 ⟨rfl, hb⟩; refine ⟨_, rfl, ?_⟩; replace BK501 := kB BK501 hb; replace HB := kH HB hb; (try clear hb); obtain ⟨hcz19_0, hfz19_0⟩ := cY0 BK501) | (go_at_call 29; (with_reducible refine (potsherdref12_MayTree.calls k _ _ l0_0 false _ ?side1 ?side2 A11.out).mono ?_); (case side1 => exact mC HR0_0 HB); (case side2 => exact HC0_0.out); rintro e w20 ⟨rfl, hb⟩; replace BK501 := kB BK501 hb; replace HB := kH HB hb; (try clear hb)))
    go_meet
    case rel => exact ⟨_, (true), sI, H', ⟨by first | omega | exact Nat.le_refl _⟩, ⟨mB BK501⟩, ⟨mH HB⟩⟩
 case rest =>
  clear HC5
  (try clear c3)
  obtain ⟨kq, x38_4, rfl, HA, HJ4, BK501, HB⟩ := hcut
  cases kq with
  | zero => exact absurd HA.out (by simp [potsherdlaw20_FileDone.j0])
  | succ kj4 =>
   have H := HA.out; clear HA; simp only [potsherdlaw20_FileDone.j0] at H
   by_cases c21 : x38_4 = true
   ·
    subst c21
    have H1 : ((potsherdlaw20_awake.f kj4).bind fun t504 => (some t504)) = some true := by rw [if_pos rfl] at H; exact H
    clear H; have H := H1; clear H1; replace H := Option.bind_eq_some_iff.mp H; obtain ⟨t504, A220, H⟩ := H; have A22 := Aside0.mk A220; clear A220; have HRET := Aside0.mk (Option.some.inj H); clear H
    go_wp2_with (first | ((with_reducible refine gate_callee (f := 33) rfl ?_); refine goesK (some 39) Try.func33 #[] ?_; (with_reducible refine (potsherdlaw20_awake.calls kj4  t504 _ A22.out).mono ?_); rintro e w23 ⟨rfl, hb⟩; refine ⟨_, rfl, ?_⟩; replace BK501 := kB BK501 hb; replace HB := kH HB hb; (try clear hb)))
    go_ret
    exact ⟨rT, mH HB⟩
   · as_aux_lemma =>
    replace c21 := Bool.eq_false_iff.mpr c21; subst c21
    have H1 : ((file_Write.f kj4 l0_0 60 a1 (wrap64 (Int.tmod (IntKind.u64.wrap (a2)) 81)) l3).bind fun bt505 => (if bt505.2.2 = 0 then ((potsherdlaw20_light.f kj4 bt505.2.1).bind fun t513 => (potsherdlaw20_FileDone.j1 kj4 a1 bt505.2.1 bt505.2.2 (!t513) l0_0 bt505.1)) else (potsherdlaw20_FileDone.j1 kj4 a1 bt505.2.1 bt505.2.2 true l0_0 bt505.1))) = some true := by rw [if_neg (show ¬ (false = true) by decide)] at H; exact H
    clear H; have H := H1; clear H1; replace H := Option.bind_eq_some_iff.mp H; obtain ⟨⟨t505, t508, t511⟩, A240, H⟩ := H; replace H : (if t511 = 0 then ((potsherdlaw20_light.f kj4 t508).bind fun t513 => (potsherdlaw20_FileDone.j1 kj4 a1 t508 t511 (!t513) l0_0 t505)) else (potsherdlaw20_FileDone.j1 kj4 a1 t508 t511 true l0_0 t505)) = some true := H; have A24 := Aside0.mk A240; clear A240; have HC25 := Aside0.mk H; clear H; obtain ⟨hcz26_0, hfz26_0⟩ := cY0 BK501
    go_upto_region 5 with (first | ((with_reducible refine gate_callee (f := 34) rfl ?_); refine goesK (some 49) Try.func34 #[.agg #[.slice A0_0 l0_0.length c0_0], .int .i64 60, .int .i64 a1, .int .i64 (wrap64 (Int.tmod (IntKind.u64.wrap (a2)) 81)), .slice A3 l3.length c3] ?_; (with_reducible refine (file_Write.calls kj4 _ _ l0_0 60 a1 (wrap64 (Int.tmod (IntKind.u64.wrap (a2)) 81)) (fun k_ => k_ < w.heap.size) _ _ l3 t505 t508 t511 _ ?side1 ?side2 ?side3 A24.out).mono ?_); (case side1 => exact mC HR0_0 HB); (case side2 => exact HC0_0.out); (case side3 => exact Kd.V_mk HC3.out (Kd.F_below (Kd.C_F (Kd.heap_int .u8) HR3.out) (mH HB))); rintro e w27 ⟨v506, v509, rfl, ho0, ho1, hb⟩; refine ⟨_, rfl, ?_⟩; have HO507 := Aside0.mk (Kd.S_lower (Kd.S_mono (ok' := fun k_ => True) ho0 (fun _ hk_ => trivial)) (below_size (mH HB))); have HO510 := Aside0.mk (Kd.S_lower (Kd.S_mono (ok' := fun k_ => True) ho1 (fun _ hk_ => trivial)) (below_size (mH HB))); replace BK501 := kB BK501 hb; replace HB := kH HB hb; (try clear hb); (try clear ho0); (try clear ho1)) | ((with_reducible refine gate_dst (N := 9) rfl ?_); (try (refine gate_guard (by rfl) ?_; dsimp only)); refine bxE 24 (cs := #[.slice none 0 0]) ?_; intro gb512 hg w28 hbox hb; replace HO507 := kS HO507 hb; replace HO510 := kS HO510 hb; have BK512 := Aside0.mk hbox; have GW512 := kG HB hg; have GE512 := kG HB hg; replace HB := kH HB hb; have NB501_512 := kL BK501 hg; have NB512_501 := kQ BK501 hg; replace BK501 := kB BK501 hb; clear hb hbox hg; obtain ⟨Ao29, co29, eo29⟩ := Kd.S_slice HO507.out; subst eo29; have hnb30 := NB512_501.out; have hnc30 := NB501_512.out; obtain ⟨hcz31_0, hfz31_0⟩ := cY0 BK512))
    (try simp only [Act.put, lT, l0_, lS])
    go_cut [59] (fun v59 wc => ∃ (kq : Nat) (x59_24 : Bool), v59 = .bool x59_24 ∧ Aside0 (potsherdlaw20_FileDone.j1 kq a1 t508 t511 x59_24 l0_0 t505 = some true) ∧ Aside0 (kq ≤ kj4) ∧ Aside0 (Kd.S k60 60 wc w.heap.size (fun _ => True) v509 t508) ∧ Aside0 (Kd.S k28 28 wc w.heap.size (fun _ => True) (.slice Ao29 t505.length co29) t505) ∧ Aside0 (wc.heap[gb501]? = some (.cells #[(.slice A0_0 l0_0.length c0_0)] 24 (0, 0))) ∧ Aside0 (wc.heap[gb512]? = some (.cells #[(.slice Ao29 t505.length co29)] 24 (0, 0))) ∧ Aside0 (Below w.heap.size w wc))
    case first =>
     have H := HC25.out; clear HC25
     by_cases c32 : t511 = 0
     ·
      rw [if_pos c32] at H; obtain ⟨c32b0, c32b1⟩ := eP c32; clear c32
      (first | rw [c32b0] | (simp only [i64_w, i32_w]; rw [c32b0]) | skip)
      replace H := Option.bind_eq_some_iff.mp H; obtain ⟨t513, A330, H⟩ := H; have A33 := Aside0.mk A330; clear A330; have H' := Aside0.mk H; clear H; obtain ⟨Ao34, co34, eo34⟩ := Kd.S_slice HO510.out; subst eo34
      go_wp2_with (first | (go_at_call 35; (with_reducible refine (potsherdlaw20_light.calls kj4 _ _ t508 t513 _ ?side1 ?side2 A33.out).mono ?_); (case side1 => refine (Kd.S_reads' (e := 60) (base := w.heap.size) (ok := fun k_ => True) (n := t508.length) (c := co34) ?_).2.2; exact (by (with_reducible repeat (first | apply Kd.S_alloc | apply Kd.S_drewN | apply Kd.S_drew)); exact (Kd.S_mono (Kd.S_far (p := ⟨gb512, 0, none⟩) (Kd.S_types HO510.out BK512.out (by decide)) (fun _ hk => hk.2) (.slice Ao29 t505.length co29)) (fun _ h_ => h_.1)))); (case side2 => exact (Kd.S_reads' HO510.out).2.1); rintro e w35 ⟨rfl, hb⟩; replace HO507 := Aside0.mk (Kd.S_below (by (with_reducible repeat (first | apply Kd.S_alloc | apply Kd.S_drewN | apply Kd.S_drew)); exact (Kd.S_mono (Kd.S_far (p := ⟨gb512, 0, none⟩) (Kd.S_types HO507.out BK512.out (by decide)) (fun _ hk => hk.2) (.slice Ao29 t505.length co29)) (fun _ h_ => h_.1))) hb); replace HO510 := Aside0.mk (Kd.S_below (by (with_reducible repeat (first | apply Kd.S_alloc | apply Kd.S_drewN | apply Kd.S_drew)); exact (Kd.S_mono (Kd.S_far (p := ⟨gb512, 0, none⟩) (Kd.S_types HO510.out BK512.out (by decide)) (fun _ hk => hk.2) (.slice Ao29 t505.length co29)) (fun _ h_ => h_.1))) hb); replace BK501 := Aside0.mk (bB (mF BK501) hb); replace BK512 := Aside0.mk (bB (g := gb512) (o := .cells #[.slice Ao29 t505.length co29] 24 (0, 0)) (pP BK512) hb); replace HB := kH HB hb; (try clear hb); (try clear hk)))
      go_meet
      case rel => exact ⟨_, (!t513), sI, H', ⟨by have := HJ4.out; first | omega | exact Nat.le_refl _⟩, ⟨mS HO510⟩, ⟨mS HO507⟩, ⟨mB BK501⟩, ⟨mB BK512⟩, ⟨mH HB⟩⟩
     ·
      rw [if_neg c32] at H; obtain ⟨c32b0, c32b1⟩ := eN c32
      (first | rw [c32b0] | (simp only [i64_w, i32_w]; rw [c32b0]) | skip)
      have H' := Aside0.mk H; clear H
      go_wp2
      go_meet
      case rel => exact ⟨_, (true), sI, H', ⟨by have := HJ4.out; first | omega | exact Nat.le_refl _⟩, ⟨fS ⟨Kd.S_types HO510.out BK512.out (by decide)⟩⟩, ⟨fS ⟨Kd.S_types HO507.out BK512.out (by decide)⟩⟩, ⟨mF BK501⟩, ⟨pP BK512⟩, ⟨mH HB⟩⟩
    case rest =>
     clear HC25
     (try clear c3); (try clear c21); (try clear hcz26_0); (try clear hcz31_0); (try clear hfz26_0); (try clear hfz31_0)
     obtain ⟨kq, x59_24, rfl, HA, HJ24, HO_10, HO_513000, BK501, BK512, HB⟩ := hcut
     cases kq with
     | zero => exact absurd HA.out (by simp [potsherdlaw20_FileDone.j1])
     | succ kj24 =>
      have H := HA.out; clear HA; simp only [potsherdlaw20_FileDone.j1] at H
      by_cases c36 : x59_24 = true
      ·
       subst c36
       have H1 : (if t511 = 0 then (none) else (if (t508.length : Int) = 0 then ((potsherdlaw20_awake.f kj24).bind fun t514 => (some t514)) else (none))) = some true := by rw [if_pos rfl] at H; exact H
       clear H; have H := H1; clear H1
       replace H := nQ H; obtain ⟨c37, H⟩ := H; obtain ⟨c37b0, c37b1⟩ := eN c37
       replace H := nP H; obtain ⟨c38, H⟩ := H; obtain ⟨c38b0, c38b1⟩ := eP c38; clear c38; replace H := Option.bind_eq_some_iff.mp H; obtain ⟨t514, A390, H⟩ := H; have A39 := Aside0.mk A390; clear A390; have HRET := Aside0.mk (Option.some.inj H); clear H; obtain ⟨Ao40, co40, eo40⟩ := Kd.S_slice HO_10.out; subst eo40
       go_wp2_with (first | (go_at_call 33; (with_reducible refine (potsherdlaw20_awake.calls kj24  t514 _ A39.out).mono ?_); rintro e w41 ⟨rfl, hb⟩; replace HO_10 := kS HO_10 hb; replace HO_513000 := kS HO_513000 hb; replace BK501 := kB BK501 hb; replace BK512 := kB BK512 hb; replace HB := kH HB hb; (try clear hb)))
       go_ret
       exact ⟨rT, mH HB⟩
      · as_aux_lemma =>
       replace c36 := Bool.eq_false_iff.mpr c36; subst c36
       have H1 : (potsherdlaw20_FileDone.l0 kj24 a1 t508 0 l0_0 (l0_0.length : Int) 0 t505) = some true := by rw [if_neg (show ¬ (false = true) by decide)] at H; exact H
       clear H; have H := H1; clear H1; have H' := Aside0.mk H; clear H; have hnb42 := NB501_512.out; have hnc42 := NB512_501.out; obtain ⟨hcz43_0, hfz43_0⟩ := cY0 BK501
       go_wp2
       go_loopg [12, 73] kj24 (fun kq v12 v73 w' => ∃ (x12_3 : Int) (x73_3 : Int), v12 = .int .i64 x12_3 ∧ v73 = .int .i64 x73_3 ∧ Aside0 (potsherdlaw20_FileDone.l0 kq a1 t508 x12_3 l0_0 (l0_0.length : Int) x73_3 t505 = some true) ∧ Aside0 (kq ≤ kj24) ∧ Aside0 (Kd.S k60 60 w' w.heap.size (fun _ => True) v509 t508) ∧ Aside0 (Kd.S k28 28 w' w.heap.size (fun _ => True) (.slice Ao29 t505.length co29) t505) ∧ Aside0 (w'.heap[gb501]? = some (.cells #[(.slice A0_0 l0_0.length c0_0)] 24 (0, 0))) ∧ Aside0 (w'.heap[gb512]? = some (.cells #[(.slice Ao29 t505.length co29)] 24 (0, 0))) ∧ Aside0 (Below w.heap.size w w'))
       case atStart => exact ⟨(0), (0), sI, sI, H', ⟨Nat.le_refl _⟩, ⟨mS HO_10⟩, ⟨mS HO_513000⟩, ⟨mB BK501⟩, ⟨mB BK512⟩, ⟨mH HB⟩⟩
       case round =>
        clear H'
        (try clear c3); (try clear c21); (try clear c36); (try clear hcz26_0); (try clear hcz31_0); (try clear hcz43_0); (try clear hfz26_0); (try clear hfz31_0); (try clear hfz43_0)
        obtain ⟨x12_3, x73_3, rfl, rfl, HA, HK3, HO_10, HO_513000, BK501, BK512, HB⟩ := hrel
        cases gk with
        | zero => exact absurd HA.out (by simp [potsherdlaw20_FileDone.l0])
        | succ k3 =>
         have H := HA.out; clear HA; simp only [potsherdlaw20_FileDone.l0] at H
         by_cases c44 : x73_3 < (l0_0.length : Int)
         ·
          rw [if_pos c44] at H; have c44b0 := decide_eq_true c44; clear c44
          replace H := nP H; obtain ⟨c45, H⟩ := H; have c45b0 := decide_eq_true c45; clear c45
          replace H := nP H; obtain ⟨c46, H⟩ := H; have c46b0 := decide_eq_true c46; clear c46; have H' := Aside0.mk H; clear H; have p515 : 0 ≤ (x73_3 : Int) := dT; have q515 : x73_3 < (l0_0.length : Int) := dT; obtain ⟨ad515, A515_3, c515_3, A515_4, c515_4, e515, hx515_0, hx515_1, hx515_2, hx515_3, hx515_4, hl515_3, hi515_3, hl515_4, hi515_4⟩ := at_T28 HR0_0.out x73_3 p515 q515
          cases e515
          replace hx515_0 := xC HB hx515_0; replace hx515_1 := xC HB hx515_1; replace hx515_2 := xC HB hx515_2; replace hx515_3 := xC HB hx515_3; replace hx515_4 := xC HB hx515_4; have HR515_3 := Aside0.mk hi515_3; have HC515_3 := Aside0.mk hl515_3; clear hi515_3 hl515_3; have HR515_4 := Aside0.mk hi515_4; have HC515_4 := Aside0.mk hl515_4; clear hi515_4 hl515_4; replace p515 := eq_true p515; replace q515 := eq_true q515
          go_wp2_with (first | ((with_reducible refine gate_dst (N := 14) rfl ?_); (try (refine gate_guard (by rfl) ?_; dsimp only)); refine bxE 28 (cs := #[.int .i64 0, .int .i64 0, .int .i64 0, .slice none 0 0, .slice none 0 0]) ?_; intro gb516 hg w47 hbox hb; replace HO_10 := kS HO_10 hb; replace HO_513000 := Aside0.mk (Kd.S_below (Kd.S_elderB (mS HO_513000) gb516 (Nat.le_of_eq hg.symm)) hb); have BK516 := Aside0.mk hbox; have GW516 := kG HB hg; have GE516 := kG HB hg; replace HB := kH HB hb; have NB501_516 := kL BK501 hg; have NB516_501 := kQ BK501 hg; replace BK501 := kB BK501 hb; have NB512_516 := kL BK512 hg; have NB516_512 := kQ BK512 hg; replace BK512 := kB BK512 hb; clear hb hbox hg; have hnb48 := NB516_501.out; have hnc48 := NB501_516.out; have hnb49 := NB516_512.out; have hnc49 := NB512_516.out; obtain ⟨hcz50_0, hfz50_0⟩ := cY0 BK516; obtain ⟨hcz50_1, hfz50_1⟩ := cY1 BK516; obtain ⟨hcz50_2, hfz50_2⟩ := cY2 BK516; obtain ⟨hcz50_3, hfz50_3⟩ := cY3 BK516; obtain ⟨hcz50_4, hfz50_4⟩ := cY4 BK516))
          go_loopg [12, 80] k3 (fun kq v12 v80 w' => ∃ (x12_4 : Int) (x80_4 : Int), v12 = .int .i64 x12_4 ∧ v80 = .int .i64 x80_4 ∧ Aside0 (potsherdlaw20_FileDone.l1 kq a1 t508 x12_4 l0_0 (l0_0.length : Int) x73_3 ((rd_T28 l0_0 x73_3).f3) (((rd_T28 l0_0 x73_3).f3).length : Int) x80_4 t505 = some true) ∧ Aside0 (kq ≤ k3) ∧ Aside0 (Kd.S k60 60 w' w.heap.size (fun _ => True) v509 t508) ∧ Aside0 (Kd.S k28 28 w' w.heap.size (fun k_ => k_ ≠ gb516) (.slice Ao29 t505.length co29) t505) ∧ Aside0 (w'.heap[gb501]? = some (.cells #[(.slice (some ad515) l0_0.length c0_0)] 24 (0, 0))) ∧ Aside0 (w'.heap[gb512]? = some (.cells #[(.slice Ao29 t505.length co29)] 24 (0, 0))) ∧ Aside0 (w'.heap[gb516]? = some (.cells #[.int .i64 ((rd_T28 l0_0 x73_3).f0), .int .i64 ((rd_T28 l0_0 x73_3).f1), .int .i64 ((rd_T28 l0_0 x73_3).f2), (.slice A515_3 ((rd_T28 l0_0 x73_3).f3).length c515_3), (.slice A515_4 ((rd_T28 l0_0 x73_3).f4).length c515_4)] 28 (0, 0))) ∧ Aside0 (Below w.heap.size w w'))
          case atStart => exact ⟨(x12_3), (0), sI, sI, H', ⟨Nat.le_refl _⟩, ⟨fS ⟨Kd.S_types HO_10.out BK516.out (by decide)⟩⟩, ⟨fS HO_513000 (fun _ hk => hk.2)⟩, ⟨mF BK501⟩, ⟨mF BK512⟩, ⟨pP BK516⟩, ⟨mH HB⟩⟩
          case round =>
           clear H'
           (try clear c3); (try clear c21); (try clear c36); (try clear c44); (try clear c44b0); (try clear c45); (try clear c45b0); (try clear c46); (try clear c46b0); (try clear hcz26_0); (try clear hcz31_0); (try clear hcz43_0); (try clear hcz50_0); (try clear hcz50_1); (try clear hcz50_2); (try clear hcz50_3); (try clear hcz50_4); (try clear hfz26_0); (try clear hfz31_0); (try clear hfz43_0); (try clear hfz50_0); (try clear hfz50_1); (try clear hfz50_2); (try clear hfz50_3); (try clear hfz50_4); (try clear hx515_0); (try clear hx515_1); (try clear hx515_2); (try clear hx515_3); (try clear hx515_4); (try clear p515); (try clear q515)
           obtain ⟨x12_4, x80_4, rfl, rfl, HA, HK4, HO_10, HO_513000, BK501, BK512, BK516, HB⟩ := hrel
           cases gk with
           | zero => exact absurd HA.out (by simp [potsherdlaw20_FileDone.l1])
           | succ k4 =>
            have H := HA.out; clear HA; simp only [potsherdlaw20_FileDone.l1] at H
            by_cases c51 : x80_4 < (((rd_T28 l0_0 x73_3).f3).length : Int)
            ·
             rw [if_pos c51] at H; have c51b0 := decide_eq_true c51; clear c51
             replace H := nP H; obtain ⟨c52, H⟩ := H; have c52b0 := decide_eq_true c52; clear c52
             replace H := nP H; obtain ⟨c53, H⟩ := H; have c53b0 := decide_eq_true c53; clear c53; obtain ⟨ji54, hji54⟩ : ∃ j_ : Int, (mx x12_4 (rd ((rd_T28 l0_0 x73_3).f3) x80_4)) = j_ := ⟨_, rfl⟩
             replace H : (potsherdlaw20_FileDone.l1 k4 a1 t508 ji54 l0_0 (l0_0.length : Int) x73_3 ((rd_T28 l0_0 x73_3).f3) (((rd_T28 l0_0 x73_3).f3).length : Int) (wrap64 (x80_4 + 1)) t505) = some true := by first | (rw [hji54] at H; exact H) | (simp only [hji54] at H ⊢; exact H)
             have hji54_ : (if x12_4 < (rd ((rd_T28 l0_0 x73_3).f3) x80_4) then (rd ((rd_T28 l0_0 x73_3).f3) x80_4) else x12_4) = ji54 := hji54; have H' := Aside0.mk H; clear H; have p517 : 0 ≤ (x80_4 : Int) := dT; have q517 : x80_4 < (((rd_T28 l0_0 x73_3).f3).length : Int) := dT; obtain ⟨ad517, e517, hx517_0⟩ := Kd.at_int HR515_3.out x80_4 p517 q517
             cases e517
             replace hx517_0 := xC HB hx517_0; replace p517 := eq_true p517; replace q517 := eq_true q517
             go_wp2
             go_roundg k4
             case measure => have := HJ4.out; have := HJ24.out; have := HK3.out; have := HK4.out; omega
             case rel => exact ⟨(ji54), (wrap64 (x80_4 + 1)), (by first | rfl | (simp; done) | (simp only [← hji54] <;> (first | rfl | simp)) | (simp [*]; done)), sI, H', ⟨by have := HJ4.out; have := HJ24.out; have := HK3.out; have := HK4.out; omega⟩, ⟨mS HO_10⟩, ⟨mS HO_513000⟩, ⟨mB BK501⟩, ⟨mB BK512⟩, ⟨mB BK516⟩, ⟨mH HB⟩⟩
            ·
             rw [if_neg c51] at H; have c51b0 := decide_eq_false c51; clear c51; have H' := Aside0.mk H; clear H
             go_wp2
             go_roundg k4
             case measure => have := HJ4.out; have := HJ24.out; have := HK3.out; have := HK4.out; omega
             case rel => exact ⟨(x12_4), (wrap64 (x73_3 + 1)), sI, sI, H', ⟨by have := HJ4.out; have := HJ24.out; have := HK3.out; have := HK4.out; omega⟩, ⟨mS HO_10⟩, ⟨by (with_reducible repeat (first | apply Kd.S_alloc | apply Kd.S_drewN | apply Kd.S_drew)); exact Kd.S_mono HO_513000.out (fun _ hk => trivial)⟩, ⟨mB BK501⟩, ⟨mB BK512⟩, ⟨mH HB⟩⟩
         · as_aux_lemma =>
          rw [if_neg c44] at H; have c44b0 := decide_eq_false c44; clear c44
          by_cases c55 : x12_3 > 1099511627766
          ·
           rw [if_pos c55] at H; have c55b0 : decide (1099511627766 < x12_3) = true := decide_eq_true c55; clear c55; replace H := Option.bind_eq_some_iff.mp H; obtain ⟨t518, A560, H⟩ := H; have A56 := Aside0.mk A560; clear A560; have HRET := Aside0.mk (Option.some.inj H); clear H
           go_wp2_with (first | ((with_reducible refine gate_callee (f := 33) rfl ?_); refine goesK (some 91) Try.func33 #[] ?_; (with_reducible refine (potsherdlaw20_awake.calls k3  t518 _ A56.out).mono ?_); rintro e w57 ⟨rfl, hb⟩; refine ⟨_, rfl, ?_⟩; replace HO_10 := kS HO_10 hb; replace HO_513000 := kS HO_513000 hb; replace BK501 := kB BK501 hb; replace BK512 := kB BK512 hb; replace HB := kH HB hb; (try clear hb)))
           go_ret
           exact ⟨rT, mH HB⟩
          · as_aux_lemma =>
           rw [if_neg c55] at H; have c55b0 : decide (1099511627766 < x12_3) = false := decide_eq_false c55; clear c55; have H' := Aside0.mk H; clear H; obtain ⟨Ao58, co58, eo58⟩ := Kd.S_slice HO_10.out; subst eo58
           go_wp2
           go_loopg [17, 94] k3 (fun kq v17 v94 w' => ∃ (x17_4 : List Int) (x94_4 : Int), v94 = .int .i64 x94_4 ∧ Aside0 (potsherdlaw20_FileDone.l2 kq a1 t508 x12_3 x17_4 (t508.length : Int) x94_4 t505 = some true) ∧ Aside0 (kq ≤ k3) ∧ Aside0 (Kd.S k60 60 w' w.heap.size (fun _ => True) (.slice Ao58 t508.length co58) t508) ∧ Aside0 (Kd.R (Kd.int .i64) 3 w' w.heap.size (fun _ => True) v17 x17_4) ∧ Aside0 (Kd.S k28 28 w' w.heap.size (fun k_ => some k_ ≠ (v17 : Value).ownBlock) (.slice Ao29 t505.length co29) t505) ∧ Aside0 (w'.heap[gb501]? = some (.cells #[(.slice A0_0 l0_0.length c0_0)] 24 (0, 0))) ∧ Aside0 (w'.heap[gb512]? = some (.cells #[(.slice Ao29 t505.length co29)] 24 (0, 0))) ∧ Aside0 (Below w.heap.size w w'))
           case atStart => exact ⟨(([] : List Int)), (0), sI, H', ⟨Nat.le_refl _⟩, ⟨mS HO_10⟩, ⟨by first | exact Kd.R_nil _ _ _ _ _ | exact Kd.N_nil _ _ _ _ _ | exact Kd.V_nil _ _ _ _ _ | exact Kd.Q_nil _ _ _ _ _ | exact Kd.S_nil _ _ _ _ _⟩, ⟨by (with_reducible repeat (first | apply Kd.S_alloc | apply Kd.S_drewN | apply Kd.S_drew)); exact Kd.S_mono HO_513000.out (fun _ hk => (by simp [Value.ownBlock]))⟩, ⟨mB BK501⟩, ⟨mB BK512⟩, ⟨mH HB⟩⟩
           case round =>
            clear H'
            (try clear c3); (try clear c21); (try clear c36); (try clear c44); (try clear c44b0); (try clear c55); (try clear c55b0); (try clear hcz26_0); (try clear hcz31_0); (try clear hcz43_0); (try clear hfz26_0); (try clear hfz31_0); (try clear hfz43_0)
            obtain ⟨x17_4, x94_4, rfl, HA, HK4, HO_10, HO_17, HO_513000, BK501, BK512, HB⟩ := hrel
            cases gk with
            | zero => exact absurd HA.out (by simp [potsherdlaw20_FileDone.l2])
            | succ k4 =>
             have H := HA.out; clear HA; simp only [potsherdlaw20_FileDone.l2] at H
             by_cases c59 : x94_4 < (t508.length : Int)
             ·
              rw [if_pos c59] at H; have c59b0 := decide_eq_true c59; clear c59; obtain ⟨y519, hy519⟩ : ∃ y_ : List Int, y_ = (([wrap64 ((wrap64 (x12_3 + 1)) + x94_4)] : List Int)) := ⟨_, rfl⟩
              replace H : (if x17_4.length + y519.length < 17592186044416 then (potsherdlaw20_FileDone.l2 k4 a1 t508 x12_3 (x17_4 ++ y519) (t508.length : Int) (wrap64 (x94_4 + 1)) t505) else (none)) = some true := rH H hy519
              have Ny519 := Aside0.mk hy519; clear hy519
              replace H := nP H; obtain ⟨c60, H⟩ := H; have LMc60 := Aside0.mk c60; clear c60; obtain ⟨y522, hy522⟩ : ∃ y_ : List Int, y_ = (x17_4 ++ y519) := ⟨_, rfl⟩
              replace H : (potsherdlaw20_FileDone.l2 k4 a1 t508 x12_3 y522 (t508.length : Int) (wrap64 (x94_4 + 1)) t505) = some true := rH H hy522
              have Ny522 := Aside0.mk hy522; clear hy522; have H' := Aside0.mk H; clear H
              go_wp2_with (first | ((with_reducible refine gate_dst (N := 102) rfl ?_); (try (refine gate_guard (by rfl) ?_; dsimp only)); refine Kd.R_lit (Kd.int .i64) _ 3 ?hg (N := 102) ?hd (xs := ([wrap64 ((wrap64 (x12_3 + 1)) + x94_4)] : List Int)) (inner := [.int .i64 (wrap64 ((wrap64 (x12_3 + 1)) + x94_4))]) (ok := fun _ => True) (okp := fun _ => True) ?hr ?hp (fun _ hk => hk) trivial (Below.refl _ _) (Nat.le_refl _) (by simp) ?_; (case hd => rfl); (case hg => rfl); (case hr => first | (go_simp; done) | (go_simp; rfl)); (case hp => exact (Reps.one (show Kd.M (Kd.int .i64) _ _ _ (wrap64 ((wrap64 (x12_3 + 1)) + x94_4)) [.int .i64 (wrap64 ((wrap64 (x12_3 + 1)) + x94_4))] from rfl) (Reps.none _ _))); intro v520 w61 ho62 hb hg_ hnew_; clear hg_ hnew_; (first | rw [← Ny519.out] at ho62 | (simp only [Int.reduceToNat] at ho62; rw [← Ny519.out] at ho62)); replace HO_10 := kS HO_10 hb; replace HO_513000 := Aside0.mk (Kd.S_elder' (mS HO_513000) (Kd.R_base ho62) hb); have HO521 := Aside0.mk (Kd.R_lower (Kd.R_new' ho62 (Kd.R_lt (mR HO_17))) (below_size (mH HB))); replace HO_17 := Aside0.mk (Kd.R_elder' (mR HO_17) (Kd.R_base ho62) hb); replace BK501 := kB BK501 hb; replace BK512 := kB BK512 hb; replace HB := kH HB hb; clear hb ho62; obtain ⟨Ao64, co64, eo64⟩ := Kd.R_slice HO521.out; subst eo64) | ((with_reducible refine gate_builtin (b := .append) (xs := #[.tmp 97, .tmp 102]) rfl ?_); (try (refine gate_guard (by rfl) ?_; dsimp only)); at_builtin; refine Kd.R_append_rows (Kd.int .i64) (w0 := w) w.heap.size rfl (.tmp 97) (.tmp 102) 25 3 (.int .i64 0) 8 rfl Try.underlying25 info3 rfl (by decide) (by omega) u17 x17_4 y519 _ _ _ (fun k_ => some k_ ≠ (.slice Ao64 y519.length co64 : Value).ownBlock) (fun _ => False) rfl rfl ?aO ?aR (fun _ _ h => h) (fun _ h => h.elim) ?aF ?aB ?aS ?aL ?_; (case aR => repeat (first | exact (Kd.R_reads' HO521.out).2.2 | (with_reducible refine Kd.C_alloc ?_ _) | (with_reducible refine Kd.C_drewN ?_ _) | (with_reducible refine Kd.C_drew ?_))); (case aB => exact (mH HB)); (case aF => exact (fun k_ hk => Kd.fresh' (Kd.R_lt (mR HO521)) k_ hk)); (case aO => exact (by (with_reducible repeat (first | apply Kd.R_alloc | apply Kd.R_drewN | apply Kd.R_drew)); exact Kd.R_mono HO_17.out (fun _ hk => hk.2))); (case aS => exact (below_size (mH HB))); (case aL => have := LMc60.out; omega); intro v523 w63 ho hb hg hat; rw [← Ny522.out] at ho; replace HO_10 := Aside0.mk (Kd.S_over' (mS HO_10) (Kd.R_typed (mR HO_17)) (by decide) hg); replace HO_513000 := Aside0.mk (Kd.S_after (ok := (fun k_ => some k_ ≠ (.slice Ao64 y519.length co64 : Value).ownBlock)) (by (with_reducible repeat (first | apply Kd.S_alloc | apply Kd.S_drewN | apply Kd.S_drew)); exact Kd.S_mono HO_513000.out (fun _ hk => ⟨hk.2, hk.1⟩)) hg hat); replace BK501 := Aside0.mk (blk_grown (g := gb501) (o := .cells #[.slice A0_0 l0_0.length c0_0] 24 (0, 0)) (mB BK501) hg (Kd.R_ne HO_17.out BK501.out (by decide))); replace BK512 := Aside0.mk (blk_grown (g := gb512) (o := .cells #[.slice Ao29 t505.length co29] 24 (0, 0)) (mB BK512) hg (Kd.R_ne HO_17.out BK512.out (by decide))); replace HO521 := Aside0.mk (Kd.R_after (ok := (fun _ => True)) (mR HO521) hg hat); replace HB := Aside0.mk (hb); have HO524 := Aside0.mk (ho); clear HO_17; clear ho hb hg hat))
              go_roundg k4
              case measure => have := HJ4.out; have := HJ24.out; have := HK3.out; have := HK4.out; omega
              case rel => exact ⟨(y522), (wrap64 (x94_4 + 1)), sI, H', ⟨by have := HJ4.out; have := HJ24.out; have := HK3.out; have := HK4.out; omega⟩, ⟨mS HO_10⟩, ⟨by (with_reducible repeat (first | apply Kd.R_alloc | apply Kd.R_drewN | apply Kd.R_drew)); exact Kd.R_mono HO524.out (fun _ hk => trivial)⟩, ⟨by (with_reducible repeat (first | apply Kd.S_alloc | apply Kd.S_drewN | apply Kd.S_drew)); exact Kd.S_mono HO_513000.out (fun _ hk => hk.2)⟩, ⟨mB BK501⟩, ⟨mB BK512⟩, ⟨mH HB⟩⟩
             · as_aux_lemma =>
              rw [if_neg c59] at H; have c59b0 := decide_eq_false c59; clear c59; replace H := Option.bind_eq_some_iff.mp H; obtain ⟨⟨t525, t528⟩, A650, H⟩ := H; replace H : ((some (([1] : List Int) : List Int)).bind fun y530 => (if x17_4.length + y530.length < 17592186044416 then ((file_Done.f k4 t505 t508 (x17_4 ++ y530)).bind fun bt536 => (if t528 = 0 then (if bt536.2 = 1 then (if (t525.length : Int) = (t505.length : Int) then (if a1 < 0 then (none) else (if a1 ≥ (t525.length : Int) then (none) else (if 0 ≤ a1 then (if a1 < (t525.length : Int) then (potsherdlaw20_FileDone.j5 k4 a1 t508 x17_4 ((((rd_T28 t525 a1).f3).length : Int) != 5) t505 t525) else (none)) else (none)))) else (none)) else (none)) else (none))) else (none))) = some true := H; have A65 := Aside0.mk A650; clear A650; obtain ⟨y530, hy530⟩ : ∃ y_ : List Int, y_ = (([1] : List Int)) := ⟨_, rfl⟩
              replace H : (if x17_4.length + y530.length < 17592186044416 then ((file_Done.f k4 t505 t508 (x17_4 ++ y530)).bind fun bt536 => (if t528 = 0 then (if bt536.2 = 1 then (if (t525.length : Int) = (t505.length : Int) then (if a1 < 0 then (none) else (if a1 ≥ (t525.length : Int) then (none) else (if 0 ≤ a1 then (if a1 < (t525.length : Int) then (potsherdlaw20_FileDone.j5 k4 a1 t508 x17_4 ((((rd_T28 t525 a1).f3).length : Int) != 5) t505 t525) else (none)) else (none)))) else (none)) else (none)) else (none))) else (none)) = some true := rH H hy530
              have Ny530 := Aside0.mk hy530; clear hy530
              replace H := nP H; obtain ⟨c66, H⟩ := H; have LMc66 := Aside0.mk c66; clear c66; obtain ⟨y533, hy533⟩ : ∃ y_ : List Int, y_ = (x17_4 ++ y530) := ⟨_, rfl⟩
              replace H : ((file_Done.f k4 t505 t508 y533).bind fun bt536 => (if t528 = 0 then (if bt536.2 = 1 then (if (t525.length : Int) = (t505.length : Int) then (if a1 < 0 then (none) else (if a1 ≥ (t525.length : Int) then (none) else (if 0 ≤ a1 then (if a1 < (t525.length : Int) then (potsherdlaw20_FileDone.j5 k4 a1 t508 x17_4 ((((rd_T28 t525 a1).f3).length : Int) != 5) t505 t525) else (none)) else (none)))) else (none)) else (none)) else (none))) = some true := rH H hy533
              have Ny533 := Aside0.mk hy533; clear hy533; replace H := Option.bind_eq_some_iff.mp H; obtain ⟨⟨t536, t539⟩, A670, H⟩ := H; replace H : (if t528 = 0 then (if t539 = 1 then (if (t525.length : Int) = (t505.length : Int) then (if a1 < 0 then (none) else (if a1 ≥ (t525.length : Int) then (none) else (if 0 ≤ a1 then (if a1 < (t525.length : Int) then (potsherdlaw20_FileDone.j5 k4 a1 t508 x17_4 ((((rd_T28 t525 a1).f3).length : Int) != 5) t505 t525) else (none)) else (none)))) else (none)) else (none)) else (none)) = some true := H; have A67 := Aside0.mk A670; clear A670; have HC68 := Aside0.mk H; clear H; have hnb69 := NB512_501.out; have hnc69 := NB501_512.out; obtain ⟨hcz70_0, hfz70_0⟩ := cY0 BK512; obtain ⟨Ao71, co71, eo71⟩ := Kd.R_slice HO_17.out; subst eo71
              try go_wp2_with (first | ((with_reducible refine gate_callee (f := 36) rfl ?_); refine goesK (some 109) Try.func36 #[.agg #[.slice Ao29 t505.length co29], .slice Ao58 t508.length co58, .slice Ao71 x17_4.length co71] ?_; (with_reducible refine (file_Done.calls k4 _ _ t505 _ _ t508 _ _ x17_4 t525 t528 _ ?side1 ?side2 ?side3 ?side4 ?side5 ?side6 A65.out).mono ?_); (case side1 => repeat (first | exact (Kd.S_reads' HO_513000.out).2.2 | (with_reducible refine Kd.C_alloc ?_ _) | (with_reducible refine Kd.C_drewN ?_ _) | (with_reducible refine Kd.C_drew ?_))); (case side2 => exact (Kd.S_reads' HO_513000.out).2.1); (case side3 => repeat (first | exact (Kd.S_reads' HO_10.out).2.2 | (with_reducible refine Kd.C_alloc ?_ _) | (with_reducible refine Kd.C_drewN ?_ _) | (with_reducible refine Kd.C_drew ?_))); (case side4 => exact (Kd.S_reads' HO_10.out).2.1); (case side5 => repeat (first | exact (Kd.R_reads' HO_17.out).2.2 | (with_reducible refine Kd.C_alloc ?_ _) | (with_reducible refine Kd.C_drewN ?_ _) | (with_reducible refine Kd.C_drew ?_))); (case side6 => exact (Kd.R_reads' HO_17.out).2.1); rintro e w72 ⟨v526, rfl, ho0, hb⟩; refine ⟨_, rfl, ?_⟩; replace HO_10 := kS HO_10 hb; have HO527 := Aside0.mk (Kd.S_lower (Kd.S_new' (Kd.S_new' ho0 (Kd.R_lt (mR HO_17))) (Kd.S_lt (mS HO_513000))) (below_size (mH HB))); replace HO_17 := kR HO_17 hb; replace HO_513000 := Aside0.mk (Kd.S_elder' (mS HO_513000) (Kd.S_base ho0) hb); replace BK501 := kB BK501 hb; replace BK512 := kB BK512 hb; replace HB := kH HB hb; (try clear hb); (try clear hk); (try clear ho0)) | ((with_reducible refine gate_dst (N := 19) rfl ?_); (try (refine gate_guard (by rfl) ?_; dsimp only)); refine bxE 24 (cs := #[.slice none 0 0]) ?_; intro gb529 hg w73 hbox hb; replace HO_10 := kS HO_10 hb; replace HO_17 := kR HO_17 hb; replace HO_513000 := kS HO_513000 hb; replace HO527 := kS HO527 hb; have BK529 := Aside0.mk hbox; have GW529 := kG HB hg; have GE529 := kG HB hg; replace HB := kH HB hb; have NB501_529 := kL BK501 hg; have NB529_501 := kQ BK501 hg; replace BK501 := kB BK501 hb; have NB512_529 := kL BK512 hg; have NB529_512 := kQ BK512 hg; replace BK512 := kB BK512 hb; clear hb hbox hg; obtain ⟨Ao74, co74, eo74⟩ := Kd.S_slice HO527.out; subst eo74; have hnb75 := NB529_501.out; have hnc75 := NB501_529.out; have hnb76 := NB529_512.out; have hnc76 := NB512_529.out; obtain ⟨hcz77_0, hfz77_0⟩ := cY0 BK529))
              obtain ⟨w78, hw_, n_⟩ : ∃ W_, w73.setCell ⟨gb529, 0, none⟩ (.slice Ao74 t525.length co74) = W_ ∧ Aside0 (Kd.S k60 60 W_ w.heap.size (fun _ => True) (.slice Ao58 t508.length co58) t508) ∧ Aside0 (Kd.R (Kd.int .i64) 3 W_ w.heap.size (fun _ => True) (.slice Ao71 x17_4.length co71) x17_4) ∧ Aside0 (Kd.S k28 28 W_ w.heap.size (fun k_ => some k_ ≠ (.slice Ao71 x17_4.length co71 : Value).ownBlock ∧ some k_ ≠ (.slice Ao74 t525.length co74 : Value).ownBlock) (.slice Ao29 t505.length co29) t505) ∧ Aside0 (Kd.S k28 28 W_ w.heap.size (fun k_ => some k_ ≠ (.slice Ao71 x17_4.length co71 : Value).ownBlock ∧ some k_ ≠ (.slice Ao29 t505.length co29 : Value).ownBlock) (.slice Ao74 t525.length co74) t525) ∧ Aside0 (W_.heap[gb501]? = some (.cells #[.slice A0_0 l0_0.length c0_0] 24 (0, 0))) ∧ Aside0 (W_.heap[gb512]? = some (.cells #[.slice Ao29 t505.length co29] 24 (0, 0))) ∧ Aside0 (W_.heap[gb529]? = some (.cells #[.slice Ao74 t525.length co74] 24 (0, 0))) ∧ Aside0 (Below w.heap.size w W_) := ⟨_, rfl, ⟨fS ⟨Kd.S_types HO_10.out BK529.out (by decide)⟩⟩, ⟨fR ⟨Kd.R_types HO_17.out BK529.out (by decide)⟩⟩, ⟨fS ⟨Kd.S_types HO_513000.out BK529.out (by decide)⟩ (fun _ hk => ⟨hk.1.1, hk.1.2⟩)⟩, ⟨fS ⟨Kd.S_types HO527.out BK529.out (by decide)⟩ (fun _ hk => ⟨hk.1.1.2, hk.1.2⟩)⟩, ⟨mF BK501⟩, ⟨mF BK512⟩, ⟨pP BK529⟩, ⟨mH HB⟩⟩
              (try clear HO_10); (try clear HO_17); (try clear HO_513000); (try clear HO527); (try clear BK501); (try clear BK512); (try clear BK529); (try clear HB); rewrite [hw_]; clear hw_; obtain ⟨HO_10, HO_17, HO_513000, HO527, BK501, BK512, BK529, HB⟩ := n_; replace HO_10 := Aside0.mk (Kd.S_drew HO_10.out); replace HO_17 := Aside0.mk (Kd.R_drew HO_17.out); replace HO_513000 := Aside0.mk (Kd.S_drew HO_513000.out); replace HO527 := Aside0.mk (Kd.S_drew HO527.out); replace BK501 := Aside0.mk (bD BK501.out); replace BK512 := Aside0.mk (bD BK512.out); replace BK529 := Aside0.mk (bD BK529.out); replace HB := Aside0.mk (wD HB.out); refine start_ (n := 12) (S := fun w' => w'.cell? ⟨gb512, 0, none⟩ = some (.slice Ao29 t505.length co29)) (ds := []) B36_0 (by kernel_rfl) rfl rfl (cZ0 BK512) (fun hHeld => ?_); refine with_tabW potsherdlaw20_FileDone.tab26 potsherdlaw20_FileDone.bits26 (fun HT_ HW_ => ?_); generalize w78.drew = w79 at HO_10 HO_17 HO_513000 HO527 BK501 BK512 BK529 HB hHeld ⊢; refine pure_ (i := 1) (N := some 114) (v := ?_) (a' := ?_) B36_1 rfl rfl (any_of HT_.out (by kernel_rfl)) (fun _ _ _ h => h) (Or.inl ⟨by rfl, ?_⟩) ?_ ?_; rotate_left
              ·
               intro w'; go_simp; with_reducible rfl
              rotate_left
              ·
               simp only [Act.put, lT, l0_, lS, i64_w, i32_w]; rfl
              refine pE 2 115 B36_2 HT_ ?_
              refine tE 0 113 B36_3 HT_ HW_ hHeld ?_
              refine join_ (σ := Value × Value × Value × Nat) 2 B36_4 (fun s_ => [(116, s_.1), (117, s_.2.1), (118, .tuple #[.agg #[s_.2.2.1], .int .i64 t539]), (21, .pointer (some ⟨s_.2.2.2, 0, none⟩)), (112, .tuple #[.agg #[s_.2.2.1], .int .i64 t539]), (119, .agg #[s_.2.2.1]), (120, .int .i64 t539)]) (fun s_ w' => (w'.cell? ⟨gb512, 0, none⟩ = some (.slice Ao29 t505.length co29)) ∧ (Kd.S k28 28 w' w.heap.size (fun k_ => some k_ ≠ (s_.1 : Value).ownBlock ∧ some k_ ≠ (s_.2.1 : Value).ownBlock ∧ some k_ ≠ (s_.2.2.1 : Value).ownBlock ∧ some k_ ≠ (.slice Ao29 t505.length co29 : Value).ownBlock) (.slice Ao74 t525.length co74) t525) ∧ (Kd.R (Kd.int .i64) 3 w' w.heap.size (fun k_ => some k_ ≠ (s_.2.1 : Value).ownBlock) s_.1 y530) ∧ (Kd.R (Kd.int .i64) 3 w' w.heap.size (fun k_ => some k_ ≠ (s_.1 : Value).ownBlock) s_.2.1 y533) ∧ (Kd.S k28 28 w' w.heap.size (fun k_ => some k_ ≠ (.slice Ao74 t525.length co74 : Value).ownBlock ∧ some k_ ≠ (s_.1 : Value).ownBlock ∧ some k_ ≠ (s_.2.1 : Value).ownBlock ∧ some k_ ≠ (.slice Ao29 t505.length co29 : Value).ownBlock) s_.2.2.1 t536) ∧ (Kd.S k60 60 w' w.heap.size (fun _ => True) (.slice Ao58 t508.length co58) t508) ∧ (Kd.S k28 28 w' w.heap.size (fun k_ => some k_ ≠ (.slice Ao74 t525.length co74 : Value).ownBlock ∧ some k_ ≠ (s_.1 : Value).ownBlock ∧ some k_ ≠ (s_.2.1 : Value).ownBlock ∧ some k_ ≠ (s_.2.2.1 : Value).ownBlock) (.slice Ao29 t505.length co29) t505) ∧ (w'.heap[gb501]? = some (.cells #[.slice A0_0 l0_0.length c0_0] 24 (0, 0))) ∧ (w'.heap[gb512]? = some (.cells #[.slice Ao29 t505.length co29] 24 (0, 0))) ∧ (w'.heap[gb529]? = some (.cells #[.slice Ao74 t525.length co74] 24 (0, 0))) ∧ (w'.heap[s_.2.2.2]? = some (.cells #[.slice none 0 0] 24 (0, 0))) ∧ (w.heap.size ≤ s_.2.2.2) ∧ (w.heap.size ≤ s_.2.2.2) ∧ (gb501 ≠ s_.2.2.2) ∧ (s_.2.2.2 ≠ gb501) ∧ (gb512 ≠ s_.2.2.2) ∧ (s_.2.2.2 ≠ gb512) ∧ (gb529 ≠ s_.2.2.2) ∧ (s_.2.2.2 ≠ gb529) ∧ (Below w.heap.size w w') ∧ (Kd.R (Kd.int .i64) 3 w' w.heap.size (fun _ => True) (.slice Ao71 x17_4.length co71) x17_4)) ?_ ?_; rotate_left
              · as_aux_lemma =>
               intro hCont; refine two_ (i := 3) (j := 9) (Ni := some 116) (Nj := some 21) B36_5 B36_6 rfl rfl rfl rfl (two_of HT_.out (by kernel_rfl)) (by decide) (by decide) (fun K hK => ?_) (fun K hK => ?_)
               · as_aux_lemma =>
                skip
                refine Kd.R_lit_step (Kd.int .i64) _ 3 ?hg (N := 116) ?hd (xs := ([1] : List Int)) (inner := [.int .i64 1]) (ok := fun _ => True) (okp := fun _ => True) ?hr ?hp (fun _ hk => hk) trivial (Below.refl _ _) (Nat.le_refl _) (by simp) ?_; (case hd => rfl); (case hg => rfl); (case hr => first | (go_simp; done) | (go_simp; rfl)); (case hp => exact (Reps.one (show Kd.M (Kd.int .i64) _ _ _ 1 [.int .i64 1] from rfl) (Reps.none _ _)))
                intro v531 w80 ho81 hb hg_ hnew_; clear hg_ hnew_
                (first | rw [← Ny530.out] at ho81 | (simp only [Int.reduceToNat] at ho81; rw [← Ny530.out] at ho81))
                replace HO_10 := kS HO_10 hb; replace HO_513000 := Aside0.mk (Kd.S_elder' (mS HO_513000) (Kd.R_base ho81) hb); replace HO527 := Aside0.mk (Kd.S_elder' (mS HO527) (Kd.R_base ho81) hb); have HO532 := Aside0.mk (Kd.R_lower (Kd.R_new' ho81 (Kd.R_lt (mR HO_17))) (below_size (mH HB))); replace HO_17 := Aside0.mk (Kd.R_elder' (mR HO_17) (Kd.R_base ho81) hb); replace BK501 := kB BK501 hb; replace BK512 := kB BK512 hb; replace BK529 := kB BK529 hb; replace HB := kH HB hb; clear hb ho81; obtain ⟨Ao83, co83, eo83⟩ := Kd.R_slice HO532.out
                (first | subst eo83 | (injection eo83 with f1_ f2_ f3_; have f4_ := f1_.symm; have f5_ := f3_.symm; clear f1_ f2_ f3_; subst f4_; subst f5_))
                refine hK.out _ _ (cZ0 BK512) (fun hHeld => ?_); clear hK K; refine norm_ (a' := ?_) ?_ ?_; rotate_left
                ·
                 show Act.put _ (some 116) _ = _
                 simp only [Act.put, lT, l0_, lS, i64_w, i32_w]; rfl
                refine two_ (i := 4) (j := 9) (Ni := some 117) (Nj := some 21) B36_7 B36_8 rfl rfl rfl rfl (two_of HT_.out (by kernel_rfl)) (by decide) (by decide) (fun K hK => ?_) (fun K hK => ?_)
                · as_aux_lemma =>
                 skip
                 refine app_stepI (kd := .i64) (w0 := w) w.heap.size (by rfl) (.tmp 115) (.tmp 116) 25 3 (.int .i64 0) 8 rfl Try.underlying25 info3 rfl (by omega) (.slice Ao71 x17_4.length co71) x17_4 y530 _ _ _ (fun k_ => some k_ ≠ (.slice Ao83 y530.length co83 : Value).ownBlock) rfl rfl ?aO ?aR ?aF ?aB ?aS ?aL ?_
                 (case aR => repeat (first | exact (Kd.R_reads' HO532.out).2.2 | (with_reducible refine Kd.C_alloc ?_ _) | (with_reducible refine Kd.C_drewN ?_ _) | (with_reducible refine Kd.C_drew ?_)))
                 (case aB => exact (mH HB))
                 (case aF => exact (fun k_ hk => Kd.fresh' (Kd.R_lt (mR HO532)) k_ hk))
                 (case aO => exact (by (with_reducible repeat (first | apply Kd.R_alloc | apply Kd.R_drewN | apply Kd.R_drew)); exact Kd.R_mono HO_17.out (fun _ hk => hk.2)))
                 (case aS => exact (below_size (mH HB)))
                 (case aL => have := LMc66.out; omega)
                 intro v534 w82 ho hb hg hat hkp; rw [← Ny533.out] at ho; replace HO_10 := Aside0.mk (Kd.S_over' (mS HO_10) (Kd.R_typed (mR HO_17)) (by decide) hg); replace HO_513000 := Aside0.mk (Kd.S_after (ok := (fun k_ => some k_ ≠ (.slice Ao74 t525.length co74 : Value).ownBlock ∧ some k_ ≠ (.slice Ao83 y530.length co83 : Value).ownBlock)) (by (with_reducible repeat (first | apply Kd.S_alloc | apply Kd.S_drewN | apply Kd.S_drew)); exact Kd.S_mono HO_513000.out (fun _ hk => ⟨⟨hk.1.2, hk.2⟩, hk.1.1⟩)) hg hat); replace BK501 := Aside0.mk (blk_grown (g := gb501) (o := .cells #[.slice A0_0 l0_0.length c0_0] 24 (0, 0)) (mB BK501) hg (Kd.R_ne HO_17.out BK501.out (by decide))); replace BK512 := Aside0.mk (blk_grown (g := gb512) (o := .cells #[.slice Ao29 t505.length co29] 24 (0, 0)) (mB BK512) hg (Kd.R_ne HO_17.out BK512.out (by decide))); replace HO527 := Aside0.mk (Kd.S_after (ok := (fun k_ => some k_ ≠ (.slice Ao29 t505.length co29 : Value).ownBlock ∧ some k_ ≠ (.slice Ao83 y530.length co83 : Value).ownBlock)) (by (with_reducible repeat (first | apply Kd.S_alloc | apply Kd.S_drewN | apply Kd.S_drew)); exact Kd.S_mono HO527.out (fun _ hk => ⟨⟨hk.1.2, hk.2⟩, hk.1.1⟩)) hg hat); replace BK529 := Aside0.mk (blk_grown (g := gb529) (o := .cells #[.slice Ao74 t525.length co74] 24 (0, 0)) (mB BK529) hg (Kd.R_ne HO_17.out BK529.out (by decide))); replace HO532 := Aside0.mk (Kd.R_after (ok := (fun _ => True)) (mR HO532) hg hat); replace HB := Aside0.mk (hb); have HO535 := Aside0.mk (ho); replace HO_17 := Aside0.mk (Kd.R_mono (ok' := fun _ => True) hkp (fun _ _ => trivial)); clear hkp; clear ho hb hg hat; obtain ⟨Ao84, co84, eo84⟩ := Kd.R_slice HO535.out
                 (first | subst eo84 | (injection eo84 with f1_ f2_ f3_; have f4_ := f1_.symm; have f5_ := f3_.symm; clear f1_ f2_ f3_; subst f4_; subst f5_))
                 refine hK.out _ _ (cZ0 BK512) (fun hHeld => ?_); clear hK K; refine norm_ (a' := ?_) ?_ ?_; rotate_left
                 ·
                  show Act.put _ (some 117) _ = _
                  simp only [Act.put, lT, l0_, lS, i64_w, i32_w]; rfl
                 refine two_ (i := 5) (j := 9) (Ni := some 118) (Nj := some 21) B36_9 B36_10 rfl rfl rfl rfl (two_of HT_.out (by kernel_rfl)) (by decide) (by decide) (fun K hK => ?_) (fun K hK => ?_)
                 ·
                  skip
                  refine goes_ Try.func36 (by kernel_rfl) rfl #[.agg #[.slice Ao29 t505.length co29], .slice Ao58 t508.length co58, .slice Ao84 y533.length co84] (by rfl) rfl rfl (by (try simp only [List.map_toArray, List.map_cons, List.map_nil]); first | done | rfl | (simp only [List.length_drop, List.length_take]; rfl)) ?_
                  with_reducible refine (file_Done.calls k4 _ _ t505 _ _ t508 _ _ y533 t536 t539 _ ?side1 ?side2 ?side3 ?side4 ?side5 ?side6 A67.out).mono ?_
                  (case side1 => repeat (first | exact (Kd.S_reads' HO_513000.out).2.2 | (with_reducible refine Kd.C_alloc ?_ _) | (with_reducible refine Kd.C_drewN ?_ _) | (with_reducible refine Kd.C_drew ?_)))
                  (case side2 => exact (Kd.S_reads' HO_513000.out).2.1)
                  (case side3 => repeat (first | exact (Kd.S_reads' HO_10.out).2.2 | (with_reducible refine Kd.C_alloc ?_ _) | (with_reducible refine Kd.C_drewN ?_ _) | (with_reducible refine Kd.C_drew ?_)))
                  (case side4 => exact (Kd.S_reads' HO_10.out).2.1)
                  (case side5 => repeat (first | exact (Kd.R_reads' HO535.out).2.2 | (with_reducible refine Kd.C_alloc ?_ _) | (with_reducible refine Kd.C_drewN ?_ _) | (with_reducible refine Kd.C_drew ?_)))
                  (case side6 => exact (Kd.R_reads' HO535.out).2.1)
                  rintro e w85 ⟨v537, rfl, ho0, hb⟩; refine ⟨_, rfl, ?_⟩; replace HO_10 := kS HO_10 hb; replace HO_17 := kR HO_17 hb; have HO538 := Aside0.mk (Kd.S_lower (Kd.S_new' (Kd.S_new' (Kd.S_new' (Kd.S_new' ho0 (Kd.S_lt (mS HO_513000))) (Kd.S_lt (mS HO527))) (Kd.R_lt (mR HO532))) (Kd.R_lt (mR HO535))) (below_size (mH HB))); replace HO_513000 := Aside0.mk (Kd.S_elder' (mS HO_513000) (Kd.S_base ho0) hb); replace HO527 := Aside0.mk (Kd.S_elder' (mS HO527) (Kd.S_base ho0) hb); replace HO532 := kR HO532 hb; replace HO535 := kR HO535 hb; replace BK501 := kB BK501 hb; replace BK512 := kB BK512 hb; replace BK529 := kB BK529 hb; replace HB := kH HB hb
                  (try clear hb); (try clear hk); (try clear ho0)
                  refine hK.out _ _ (cZ0 BK512) (fun hHeld => ?_); clear hK K; refine norm_ (a' := ?_) ?_ ?_; rotate_left
                  ·
                   show Act.put _ (some 118) _ = _
                   simp only [Act.put, lT, l0_, lS, i64_w, i32_w]; rfl
                  refine pE 6 112 B36_11 HT_ ?_
                  refine pE 7 119 B36_12 HT_ ?_
                  refine pE 8 120 B36_13 HT_ ?_
                  refine one_ (i := 9) (N := some 21) B36_4 rfl rfl (one_of HT_.out (by kernel_rfl)) (by decide) (fun K hK => ?_); refine box_step ?hg (N := 21) ?hd (cs := #[.slice none 0 0]) (t := 24) ?hr ?_; (case hd => rfl); (case hg => rfl); (case hr => first | (go_simp; done) | (go_simp; rfl))
                  intro gb540 hg w86 hbox hb; replace HO_10 := kS HO_10 hb; replace HO_17 := kR HO_17 hb; replace HO_513000 := kS HO_513000 hb; replace HO527 := kS HO527 hb; replace HO532 := kR HO532 hb; replace HO535 := kR HO535 hb; replace HO538 := kS HO538 hb; have BK540 := Aside0.mk hbox; have GW540 := kG HB hg; have GE540 := kG HB hg; replace HB := kH HB hb; have NB501_540 := kL BK501 hg; have NB540_501 := kQ BK501 hg; replace BK501 := kB BK501 hb; have NB512_540 := kL BK512 hg; have NB540_512 := kQ BK512 hg; replace BK512 := kB BK512 hb; have NB529_540 := kL BK529 hg; have NB540_529 := kQ BK529 hg; replace BK529 := kB BK529 hb; clear hb hbox hg; refine hK.out _ _ (cZ0 BK512) (fun hHeld => ?_); clear hK K; refine norm_ (a' := ?_) ?_ ?_; rotate_left
                  ·
                   show Act.put _ (some 21) _ = _
                   simp only [Act.put, lT, l0_, lS, i64_w, i32_w]; rfl
                  exact norm_ (by simp only [putAll, Act.put, lT, l0_, lS]) (hCont (.slice Ao83 y530.length co83, .slice Ao84 y533.length co84, v537, gb540) _ ⟨hHeld, (by (with_reducible repeat (first | apply Kd.S_alloc | apply Kd.S_drewN | apply Kd.S_drew)); exact Kd.S_mono HO527.out (fun _ hk => ⟨hk.1.1.2, ⟨hk.1.2, ⟨hk.2, hk.1.1.1⟩⟩⟩)), (by (with_reducible repeat (first | apply Kd.R_alloc | apply Kd.R_drewN | apply Kd.R_drew)); exact Kd.R_mono HO532.out (fun _ hk => hk.2)), (mR HO535), (by (with_reducible repeat (first | apply Kd.S_alloc | apply Kd.S_drewN | apply Kd.S_drew)); exact Kd.S_mono HO538.out (fun _ hk => ⟨hk.1.1.2, ⟨hk.1.2, ⟨hk.2, hk.1.1.1.2⟩⟩⟩)), (mS HO_10), (by (with_reducible repeat (first | apply Kd.S_alloc | apply Kd.S_drewN | apply Kd.S_drew)); exact Kd.S_mono HO_513000.out (fun _ hk => ⟨hk.1.1.1, ⟨hk.1.1.2, ⟨hk.1.2, hk.2⟩⟩⟩)), (mB BK501), (mB BK512), (mB BK529), (mB BK540), GW540.out, GE540.out, NB501_540.out, NB540_501.out, NB512_540.out, NB540_512.out, NB529_540.out, NB540_529.out, (mH HB), (mR HO_17)⟩)
                 ·
                  skip
                  refine box_step ?hg (N := 21) ?hd (cs := #[.slice none 0 0]) (t := 24) ?hr ?_; (case hd => rfl); (case hg => rfl); (case hr => first | (go_simp; done) | (go_simp; rfl))
                  intro gb540 hg w84 hbox hb; replace HO_10 := kS HO_10 hb; replace HO_17 := kR HO_17 hb; replace HO_513000 := kS HO_513000 hb; replace HO527 := kS HO527 hb; replace HO532 := kR HO532 hb; replace HO535 := kR HO535 hb; have BK540 := Aside0.mk hbox; have GW540 := kG HB hg; have GE540 := kG HB hg; replace HB := kH HB hb; have NB501_540 := kL BK501 hg; have NB540_501 := kQ BK501 hg; replace BK501 := kB BK501 hb; have NB512_540 := kL BK512 hg; have NB540_512 := kQ BK512 hg; replace BK512 := kB BK512 hb; have NB529_540 := kL BK529 hg; have NB540_529 := kQ BK529 hg; replace BK529 := kB BK529 hb; clear hb hbox hg; obtain ⟨Ao85, co85, eo85⟩ := Kd.R_slice HO535.out
                  (first | subst eo85 | (injection eo85 with f1_ f2_ f3_; have f4_ := f1_.symm; have f5_ := f3_.symm; clear f1_ f2_ f3_; subst f4_; subst f5_))
                  refine hK.out _ _ (cZ0 BK512) (fun hHeld => ?_); clear hK K; refine norm_ (a' := ?_) ?_ ?_; rotate_left
                  ·
                   show Act.put _ (some 21) _ = _
                   simp only [Act.put, lT, l0_, lS, i64_w, i32_w]; rfl
                  refine one_ (i := 5) (N := some 118) B36_14 rfl rfl (one_of HT_.out (by kernel_rfl)) (by decide) (fun K hK => ?_); refine goes_ Try.func36 (by kernel_rfl) rfl #[.agg #[.slice Ao29 t505.length co29], .slice Ao58 t508.length co58, .slice Ao85 y533.length co85] (by rfl) rfl rfl (by (try simp only [List.map_toArray, List.map_cons, List.map_nil]); first | done | rfl | (simp only [List.length_drop, List.length_take]; rfl)) ?_
                  with_reducible refine (file_Done.calls k4 _ _ t505 _ _ t508 _ _ y533 t536 t539 _ ?side1 ?side2 ?side3 ?side4 ?side5 ?side6 A67.out).mono ?_
                  (case side1 => repeat (first | exact (Kd.S_reads' HO_513000.out).2.2 | (with_reducible refine Kd.C_alloc ?_ _) | (with_reducible refine Kd.C_drewN ?_ _) | (with_reducible refine Kd.C_drew ?_)))
                  (case side2 => exact (Kd.S_reads' HO_513000.out).2.1)
                  (case side3 => repeat (first | exact (Kd.S_reads' HO_10.out).2.2 | (with_reducible refine Kd.C_alloc ?_ _) | (with_reducible refine Kd.C_drewN ?_ _) | (with_reducible refine Kd.C_drew ?_)))
                  (case side4 => exact (Kd.S_reads' HO_10.out).2.1)
                  (case side5 => repeat (first | exact (Kd.R_reads' HO535.out).2.2 | (with_reducible refine Kd.C_alloc ?_ _) | (with_reducible refine Kd.C_drewN ?_ _) | (with_reducible refine Kd.C_drew ?_)))
                  (case side6 => exact (Kd.R_reads' HO535.out).2.1)
                  rintro e w86 ⟨v537, rfl, ho0, hb⟩; refine ⟨_, rfl, ?_⟩; replace HO_10 := kS HO_10 hb; replace HO_17 := kR HO_17 hb; have HO538 := Aside0.mk (Kd.S_lower (Kd.S_new' (Kd.S_new' (Kd.S_new' (Kd.S_new' ho0 (Kd.S_lt (mS HO_513000))) (Kd.S_lt (mS HO527))) (Kd.R_lt (mR HO532))) (Kd.R_lt (mR HO535))) (below_size (mH HB))); replace HO_513000 := Aside0.mk (Kd.S_elder' (mS HO_513000) (Kd.S_base ho0) hb); replace HO527 := Aside0.mk (Kd.S_elder' (mS HO527) (Kd.S_base ho0) hb); replace HO532 := kR HO532 hb; replace HO535 := kR HO535 hb; replace BK501 := kB BK501 hb; replace BK512 := kB BK512 hb; replace BK529 := kB BK529 hb; replace BK540 := kB BK540 hb; replace HB := kH HB hb
                  (try clear hb); (try clear hk); (try clear ho0)
                  refine hK.out _ _ (cZ0 BK512) (fun hHeld => ?_); clear hK K; refine norm_ (a' := ?_) ?_ ?_; rotate_left
                  ·
                   show Act.put _ (some 118) _ = _
                   simp only [Act.put, lT, l0_, lS, i64_w, i32_w]; rfl
                  refine pE 6 112 B36_15 HT_ ?_
                  refine pE 7 119 B36_16 HT_ ?_
                  refine pE 8 120 B36_4 HT_ ?_
                  exact norm_ (by simp only [putAll, Act.put, lT, l0_, lS]) (hCont (.slice Ao83 y530.length co83, .slice Ao85 y533.length co85, v537, gb540) _ ⟨hHeld, (by (with_reducible repeat (first | apply Kd.S_alloc | apply Kd.S_drewN | apply Kd.S_drew)); exact Kd.S_mono HO527.out (fun _ hk => ⟨hk.1.1.2, ⟨hk.1.2, ⟨hk.2, hk.1.1.1⟩⟩⟩)), (by (with_reducible repeat (first | apply Kd.R_alloc | apply Kd.R_drewN | apply Kd.R_drew)); exact Kd.R_mono HO532.out (fun _ hk => hk.2)), (mR HO535), (by (with_reducible repeat (first | apply Kd.S_alloc | apply Kd.S_drewN | apply Kd.S_drew)); exact Kd.S_mono HO538.out (fun _ hk => ⟨hk.1.1.2, ⟨hk.1.2, ⟨hk.2, hk.1.1.1.2⟩⟩⟩)), (mS HO_10), (by (with_reducible repeat (first | apply Kd.S_alloc | apply Kd.S_drewN | apply Kd.S_drew)); exact Kd.S_mono HO_513000.out (fun _ hk => ⟨hk.1.1.1, ⟨hk.1.1.2, ⟨hk.1.2, hk.2⟩⟩⟩)), (mB BK501), (mB BK512), (mB BK529), (mB BK540), GW540.out, GE540.out, NB501_540.out, NB540_501.out, NB512_540.out, NB540_512.out, NB529_540.out, NB540_529.out, (mH HB), (mR HO_17)⟩)
                ·
                 skip
                 refine box_step ?hg (N := 21) ?hd (cs := #[.slice none 0 0]) (t := 24) ?hr ?_; (case hd => rfl); (case hg => rfl); (case hr => first | (go_simp; done) | (go_simp; rfl))
                 intro gb540 hg w82 hbox hb; replace HO_10 := kS HO_10 hb; replace HO_17 := kR HO_17 hb; replace HO_513000 := kS HO_513000 hb; replace HO527 := kS HO527 hb; replace HO532 := kR HO532 hb; have BK540 := Aside0.mk hbox; have GW540 := kG HB hg; have GE540 := kG HB hg; replace HB := kH HB hb; have NB501_540 := kL BK501 hg; have NB540_501 := kQ BK501 hg; replace BK501 := kB BK501 hb; have NB512_540 := kL BK512 hg; have NB540_512 := kQ BK512 hg; replace BK512 := kB BK512 hb; have NB529_540 := kL BK529 hg; have NB540_529 := kQ BK529 hg; replace BK529 := kB BK529 hb; clear hb hbox hg; obtain ⟨Ao84, co84, eo84⟩ := Kd.R_slice HO532.out
                 (first | subst eo84 | (injection eo84 with f1_ f2_ f3_; have f4_ := f1_.symm; have f5_ := f3_.symm; clear f1_ f2_ f3_; subst f4_; subst f5_))
                 refine hK.out _ _ (cZ0 BK512) (fun hHeld => ?_); clear hK K; refine norm_ (a' := ?_) ?_ ?_; rotate_left
                 ·
                  show Act.put _ (some 21) _ = _
                  simp only [Act.put, lT, l0_, lS, i64_w, i32_w]; rfl
                 refine one_ (i := 4) (N := some 117) B36_10 rfl rfl (one_of HT_.out (by kernel_rfl)) (by decide) (fun K hK => ?_); refine app_stepI (kd := .i64) (w0 := w) w.heap.size (by rfl) (.tmp 115) (.tmp 116) 25 3 (.int .i64 0) 8 rfl Try.underlying25 info3 rfl (by omega) (.slice Ao71 x17_4.length co71) x17_4 y530 _ _ _ (fun k_ => some k_ ≠ (.slice Ao84 y530.length co84 : Value).ownBlock) rfl rfl ?aO ?aR ?aF ?aB ?aS ?aL ?_
                 (case aR => repeat (first | exact (Kd.R_reads' HO532.out).2.2 | (with_reducible refine Kd.C_alloc ?_ _) | (with_reducible refine Kd.C_drewN ?_ _) | (with_reducible refine Kd.C_drew ?_)))
                 (case aB => exact (mH HB))
                 (case aF => exact (fun k_ hk => Kd.fresh' (Kd.R_lt (mR HO532)) k_ hk))
                 (case aO => exact (by (with_reducible repeat (first | apply Kd.R_alloc | apply Kd.R_drewN | apply Kd.R_drew)); exact Kd.R_mono HO_17.out (fun _ hk => hk.2)))
                 (case aS => exact (below_size (mH HB)))
                 (case aL => have := LMc66.out; omega)
                 intro v534 w83 ho hb hg hat hkp; rw [← Ny533.out] at ho; replace HO_10 := Aside0.mk (Kd.S_over' (mS HO_10) (Kd.R_typed (mR HO_17)) (by decide) hg); replace HO_513000 := Aside0.mk (Kd.S_after (ok := (fun k_ => some k_ ≠ (.slice Ao74 t525.length co74 : Value).ownBlock ∧ some k_ ≠ (.slice Ao84 y530.length co84 : Value).ownBlock)) (by (with_reducible repeat (first | apply Kd.S_alloc | apply Kd.S_drewN | apply Kd.S_drew)); exact Kd.S_mono HO_513000.out (fun _ hk => ⟨⟨hk.1.2, hk.2⟩, hk.1.1⟩)) hg hat); replace BK501 := Aside0.mk (blk_grown (g := gb501) (o := .cells #[.slice A0_0 l0_0.length c0_0] 24 (0, 0)) (mB BK501) hg (Kd.R_ne HO_17.out BK501.out (by decide))); replace BK512 := Aside0.mk (blk_grown (g := gb512) (o := .cells #[.slice Ao29 t505.length co29] 24 (0, 0)) (mB BK512) hg (Kd.R_ne HO_17.out BK512.out (by decide))); replace HO527 := Aside0.mk (Kd.S_after (ok := (fun k_ => some k_ ≠ (.slice Ao29 t505.length co29 : Value).ownBlock ∧ some k_ ≠ (.slice Ao84 y530.length co84 : Value).ownBlock)) (by (with_reducible repeat (first | apply Kd.S_alloc | apply Kd.S_drewN | apply Kd.S_drew)); exact Kd.S_mono HO527.out (fun _ hk => ⟨⟨hk.1.2, hk.2⟩, hk.1.1⟩)) hg hat); replace BK529 := Aside0.mk (blk_grown (g := gb529) (o := .cells #[.slice Ao74 t525.length co74] 24 (0, 0)) (mB BK529) hg (Kd.R_ne HO_17.out BK529.out (by decide))); replace HO532 := Aside0.mk (Kd.R_after (ok := (fun _ => True)) (mR HO532) hg hat); replace BK540 := Aside0.mk (blk_grown (g := gb540) (o := .cells #[.slice none 0 0] 24 (0, 0)) (mB BK540) hg (Kd.R_ne HO_17.out BK540.out (by decide))); replace HB := Aside0.mk (hb); have HO535 := Aside0.mk (ho); replace HO_17 := Aside0.mk (Kd.R_mono (ok' := fun _ => True) hkp (fun _ _ => trivial)); clear hkp; clear ho hb hg hat; obtain ⟨Ao85, co85, eo85⟩ := Kd.R_slice HO535.out
                 (first | subst eo85 | (injection eo85 with f1_ f2_ f3_; have f4_ := f1_.symm; have f5_ := f3_.symm; clear f1_ f2_ f3_; subst f4_; subst f5_))
                 refine hK.out _ _ (cZ0 BK512) (fun hHeld => ?_); clear hK K; refine norm_ (a' := ?_) ?_ ?_; rotate_left
                 ·
                  show Act.put _ (some 117) _ = _
                  simp only [Act.put, lT, l0_, lS, i64_w, i32_w]; rfl
                 refine one_ (i := 5) (N := some 118) B36_14 rfl rfl (one_of HT_.out (by kernel_rfl)) (by decide) (fun K hK => ?_); refine goes_ Try.func36 (by kernel_rfl) rfl #[.agg #[.slice Ao29 t505.length co29], .slice Ao58 t508.length co58, .slice Ao85 y533.length co85] (by rfl) rfl rfl (by (try simp only [List.map_toArray, List.map_cons, List.map_nil]); first | done | rfl | (simp only [List.length_drop, List.length_take]; rfl)) ?_
                 with_reducible refine (file_Done.calls k4 _ _ t505 _ _ t508 _ _ y533 t536 t539 _ ?side1 ?side2 ?side3 ?side4 ?side5 ?side6 A67.out).mono ?_
                 (case side1 => repeat (first | exact (Kd.S_reads' HO_513000.out).2.2 | (with_reducible refine Kd.C_alloc ?_ _) | (with_reducible refine Kd.C_drewN ?_ _) | (with_reducible refine Kd.C_drew ?_)))
                 (case side2 => exact (Kd.S_reads' HO_513000.out).2.1)
                 (case side3 => repeat (first | exact (Kd.S_reads' HO_10.out).2.2 | (with_reducible refine Kd.C_alloc ?_ _) | (with_reducible refine Kd.C_drewN ?_ _) | (with_reducible refine Kd.C_drew ?_)))
                 (case side4 => exact (Kd.S_reads' HO_10.out).2.1)
                 (case side5 => repeat (first | exact (Kd.R_reads' HO535.out).2.2 | (with_reducible refine Kd.C_alloc ?_ _) | (with_reducible refine Kd.C_drewN ?_ _) | (with_reducible refine Kd.C_drew ?_)))
                 (case side6 => exact (Kd.R_reads' HO535.out).2.1)
                 rintro e w86 ⟨v537, rfl, ho0, hb⟩; refine ⟨_, rfl, ?_⟩; replace HO_10 := kS HO_10 hb; replace HO_17 := kR HO_17 hb; have HO538 := Aside0.mk (Kd.S_lower (Kd.S_new' (Kd.S_new' (Kd.S_new' (Kd.S_new' ho0 (Kd.S_lt (mS HO_513000))) (Kd.S_lt (mS HO527))) (Kd.R_lt (mR HO532))) (Kd.R_lt (mR HO535))) (below_size (mH HB))); replace HO_513000 := Aside0.mk (Kd.S_elder' (mS HO_513000) (Kd.S_base ho0) hb); replace HO527 := Aside0.mk (Kd.S_elder' (mS HO527) (Kd.S_base ho0) hb); replace HO532 := kR HO532 hb; replace HO535 := kR HO535 hb; replace BK501 := kB BK501 hb; replace BK512 := kB BK512 hb; replace BK529 := kB BK529 hb; replace BK540 := kB BK540 hb; replace HB := kH HB hb
                 (try clear hb); (try clear hk); (try clear ho0)
                 refine hK.out _ _ (cZ0 BK512) (fun hHeld => ?_); clear hK K; refine norm_ (a' := ?_) ?_ ?_; rotate_left
                 ·
                  show Act.put _ (some 118) _ = _
                  simp only [Act.put, lT, l0_, lS, i64_w, i32_w]; rfl
                 refine pE 6 112 B36_15 HT_ ?_
                 refine pE 7 119 B36_16 HT_ ?_
                 refine pE 8 120 B36_4 HT_ ?_
                 exact norm_ (by simp only [putAll, Act.put, lT, l0_, lS]) (hCont (.slice Ao84 y530.length co84, .slice Ao85 y533.length co85, v537, gb540) _ ⟨hHeld, (by (with_reducible repeat (first | apply Kd.S_alloc | apply Kd.S_drewN | apply Kd.S_drew)); exact Kd.S_mono HO527.out (fun _ hk => ⟨hk.1.1.2, ⟨hk.1.2, ⟨hk.2, hk.1.1.1⟩⟩⟩)), (by (with_reducible repeat (first | apply Kd.R_alloc | apply Kd.R_drewN | apply Kd.R_drew)); exact Kd.R_mono HO532.out (fun _ hk => hk.2)), (mR HO535), (by (with_reducible repeat (first | apply Kd.S_alloc | apply Kd.S_drewN | apply Kd.S_drew)); exact Kd.S_mono HO538.out (fun _ hk => ⟨hk.1.1.2, ⟨hk.1.2, ⟨hk.2, hk.1.1.1.2⟩⟩⟩)), (mS HO_10), (by (with_reducible repeat (first | apply Kd.S_alloc | apply Kd.S_drewN | apply Kd.S_drew)); exact Kd.S_mono HO_513000.out (fun _ hk => ⟨hk.1.1.1, ⟨hk.1.1.2, ⟨hk.1.2, hk.2⟩⟩⟩)), (mB BK501), (mB BK512), (mB BK529), (mB BK540), GW540.out, GE540.out, NB501_540.out, NB540_501.out, NB512_540.out, NB540_512.out, NB529_540.out, NB540_529.out, (mH HB), (mR HO_17)⟩)
               · as_aux_lemma =>
                skip
                refine box_step ?hg (N := 21) ?hd (cs := #[.slice none 0 0]) (t := 24) ?hr ?_; (case hd => rfl); (case hg => rfl); (case hr => first | (go_simp; done) | (go_simp; rfl))
                intro gb540 hg w80 hbox hb; replace HO_10 := kS HO_10 hb; replace HO_17 := kR HO_17 hb; replace HO_513000 := kS HO_513000 hb; replace HO527 := kS HO527 hb; have BK540 := Aside0.mk hbox; have GW540 := kG HB hg; have GE540 := kG HB hg; replace HB := kH HB hb; have NB501_540 := kL BK501 hg; have NB540_501 := kQ BK501 hg; replace BK501 := kB BK501 hb; have NB512_540 := kL BK512 hg; have NB540_512 := kQ BK512 hg; replace BK512 := kB BK512 hb; have NB529_540 := kL BK529 hg; have NB540_529 := kQ BK529 hg; replace BK529 := kB BK529 hb; clear hb hbox hg; refine hK.out _ _ (cZ0 BK512) (fun hHeld => ?_); clear hK K; refine norm_ (a' := ?_) ?_ ?_; rotate_left
                ·
                 show Act.put _ (some 21) _ = _
                 simp only [Act.put, lT, l0_, lS, i64_w, i32_w]; rfl
                refine one_ (i := 3) (N := some 116) B36_8 rfl rfl (one_of HT_.out (by kernel_rfl)) (by decide) (fun K hK => ?_); refine Kd.R_lit_step (Kd.int .i64) _ 3 ?hg (N := 116) ?hd (xs := ([1] : List Int)) (inner := [.int .i64 1]) (ok := fun _ => True) (okp := fun _ => True) ?hr ?hp (fun _ hk => hk) trivial (Below.refl _ _) (Nat.le_refl _) (by simp) ?_; (case hd => rfl); (case hg => rfl); (case hr => first | (go_simp; done) | (go_simp; rfl)); (case hp => exact (Reps.one (show Kd.M (Kd.int .i64) _ _ _ 1 [.int .i64 1] from rfl) (Reps.none _ _)))
                intro v531 w81 ho82 hb hg_ hnew_; clear hg_ hnew_
                (first | rw [← Ny530.out] at ho82 | (simp only [Int.reduceToNat] at ho82; rw [← Ny530.out] at ho82))
                replace HO_10 := kS HO_10 hb; replace HO_513000 := Aside0.mk (Kd.S_elder' (mS HO_513000) (Kd.R_base ho82) hb); replace HO527 := Aside0.mk (Kd.S_elder' (mS HO527) (Kd.R_base ho82) hb); have HO532 := Aside0.mk (Kd.R_lower (Kd.R_new' ho82 (Kd.R_lt (mR HO_17))) (below_size (mH HB))); replace HO_17 := Aside0.mk (Kd.R_elder' (mR HO_17) (Kd.R_base ho82) hb); replace BK501 := kB BK501 hb; replace BK512 := kB BK512 hb; replace BK529 := kB BK529 hb; replace BK540 := kB BK540 hb; replace HB := kH HB hb; clear hb ho82; obtain ⟨Ao84, co84, eo84⟩ := Kd.R_slice HO532.out
                (first | subst eo84 | (injection eo84 with f1_ f2_ f3_; have f4_ := f1_.symm; have f5_ := f3_.symm; clear f1_ f2_ f3_; subst f4_; subst f5_))
                refine hK.out _ _ (cZ0 BK512) (fun hHeld => ?_); clear hK K; refine norm_ (a' := ?_) ?_ ?_; rotate_left
                ·
                 show Act.put _ (some 116) _ = _
                 simp only [Act.put, lT, l0_, lS, i64_w, i32_w]; rfl
                refine one_ (i := 4) (N := some 117) B36_10 rfl rfl (one_of HT_.out (by kernel_rfl)) (by decide) (fun K hK => ?_); refine app_stepI (kd := .i64) (w0 := w) w.heap.size (by rfl) (.tmp 115) (.tmp 116) 25 3 (.int .i64 0) 8 rfl Try.underlying25 info3 rfl (by omega) (.slice Ao71 x17_4.length co71) x17_4 y530 _ _ _ (fun k_ => some k_ ≠ (.slice Ao84 y530.length co84 : Value).ownBlock) rfl rfl ?aO ?aR ?aF ?aB ?aS ?aL ?_
                (case aR => repeat (first | exact (Kd.R_reads' HO532.out).2.2 | (with_reducible refine Kd.C_alloc ?_ _) | (with_reducible refine Kd.C_drewN ?_ _) | (with_reducible refine Kd.C_drew ?_)))
                (case aB => exact (mH HB))
                (case aF => exact (fun k_ hk => Kd.fresh' (Kd.R_lt (mR HO532)) k_ hk))
                (case aO => exact (by (with_reducible repeat (first | apply Kd.R_alloc | apply Kd.R_drewN | apply Kd.R_drew)); exact Kd.R_mono HO_17.out (fun _ hk => hk.2)))
                (case aS => exact (below_size (mH HB)))
                (case aL => have := LMc66.out; omega)
                intro v534 w83 ho hb hg hat hkp; rw [← Ny533.out] at ho; replace HO_10 := Aside0.mk (Kd.S_over' (mS HO_10) (Kd.R_typed (mR HO_17)) (by decide) hg); replace HO_513000 := Aside0.mk (Kd.S_after (ok := (fun k_ => some k_ ≠ (.slice Ao74 t525.length co74 : Value).ownBlock ∧ some k_ ≠ (.slice Ao84 y530.length co84 : Value).ownBlock)) (by (with_reducible repeat (first | apply Kd.S_alloc | apply Kd.S_drewN | apply Kd.S_drew)); exact Kd.S_mono HO_513000.out (fun _ hk => ⟨⟨hk.1.2, hk.2⟩, hk.1.1⟩)) hg hat); replace BK501 := Aside0.mk (blk_grown (g := gb501) (o := .cells #[.slice A0_0 l0_0.length c0_0] 24 (0, 0)) (mB BK501) hg (Kd.R_ne HO_17.out BK501.out (by decide))); replace BK512 := Aside0.mk (blk_grown (g := gb512) (o := .cells #[.slice Ao29 t505.length co29] 24 (0, 0)) (mB BK512) hg (Kd.R_ne HO_17.out BK512.out (by decide))); replace HO527 := Aside0.mk (Kd.S_after (ok := (fun k_ => some k_ ≠ (.slice Ao29 t505.length co29 : Value).ownBlock ∧ some k_ ≠ (.slice Ao84 y530.length co84 : Value).ownBlock)) (by (with_reducible repeat (first | apply Kd.S_alloc | apply Kd.S_drewN | apply Kd.S_drew)); exact Kd.S_mono HO527.out (fun _ hk => ⟨⟨hk.1.2, hk.2⟩, hk.1.1⟩)) hg hat); replace BK529 := Aside0.mk (blk_grown (g := gb529) (o := .cells #[.slice Ao74 t525.length co74] 24 (0, 0)) (mB BK529) hg (Kd.R_ne HO_17.out BK529.out (by decide))); replace BK540 := Aside0.mk (blk_grown (g := gb540) (o := .cells #[.slice none 0 0] 24 (0, 0)) (mB BK540) hg (Kd.R_ne HO_17.out BK540.out (by decide))); replace HO532 := Aside0.mk (Kd.R_after (ok := (fun _ => True)) (mR HO532) hg hat); replace HB := Aside0.mk (hb); have HO535 := Aside0.mk (ho); replace HO_17 := Aside0.mk (Kd.R_mono (ok' := fun _ => True) hkp (fun _ _ => trivial)); clear hkp; clear ho hb hg hat; obtain ⟨Ao85, co85, eo85⟩ := Kd.R_slice HO535.out
                (first | subst eo85 | (injection eo85 with f1_ f2_ f3_; have f4_ := f1_.symm; have f5_ := f3_.symm; clear f1_ f2_ f3_; subst f4_; subst f5_))
                refine hK.out _ _ (cZ0 BK512) (fun hHeld => ?_); clear hK K; refine norm_ (a' := ?_) ?_ ?_; rotate_left
                ·
                 show Act.put _ (some 117) _ = _
                 simp only [Act.put, lT, l0_, lS, i64_w, i32_w]; rfl
                refine one_ (i := 5) (N := some 118) B36_14 rfl rfl (one_of HT_.out (by kernel_rfl)) (by decide) (fun K hK => ?_); refine goes_ Try.func36 (by kernel_rfl) rfl #[.agg #[.slice Ao29 t505.length co29], .slice Ao58 t508.length co58, .slice Ao85 y533.length co85] (by rfl) rfl rfl (by (try simp only [List.map_toArray, List.map_cons, List.map_nil]); first | done | rfl | (simp only [List.length_drop, List.length_take]; rfl)) ?_
                with_reducible refine (file_Done.calls k4 _ _ t505 _ _ t508 _ _ y533 t536 t539 _ ?side1 ?side2 ?side3 ?side4 ?side5 ?side6 A67.out).mono ?_
                (case side1 => repeat (first | exact (Kd.S_reads' HO_513000.out).2.2 | (with_reducible refine Kd.C_alloc ?_ _) | (with_reducible refine Kd.C_drewN ?_ _) | (with_reducible refine Kd.C_drew ?_)))
                (case side2 => exact (Kd.S_reads' HO_513000.out).2.1)
                (case side3 => repeat (first | exact (Kd.S_reads' HO_10.out).2.2 | (with_reducible refine Kd.C_alloc ?_ _) | (with_reducible refine Kd.C_drewN ?_ _) | (with_reducible refine Kd.C_drew ?_)))
                (case side4 => exact (Kd.S_reads' HO_10.out).2.1)
                (case side5 => repeat (first | exact (Kd.R_reads' HO535.out).2.2 | (with_reducible refine Kd.C_alloc ?_ _) | (with_reducible refine Kd.C_drewN ?_ _) | (with_reducible refine Kd.C_drew ?_)))
                (case side6 => exact (Kd.R_reads' HO535.out).2.1)
                rintro e w86 ⟨v537, rfl, ho0, hb⟩; refine ⟨_, rfl, ?_⟩; replace HO_10 := kS HO_10 hb; replace HO_17 := kR HO_17 hb; have HO538 := Aside0.mk (Kd.S_lower (Kd.S_new' (Kd.S_new' (Kd.S_new' (Kd.S_new' ho0 (Kd.S_lt (mS HO_513000))) (Kd.S_lt (mS HO527))) (Kd.R_lt (mR HO532))) (Kd.R_lt (mR HO535))) (below_size (mH HB))); replace HO_513000 := Aside0.mk (Kd.S_elder' (mS HO_513000) (Kd.S_base ho0) hb); replace HO527 := Aside0.mk (Kd.S_elder' (mS HO527) (Kd.S_base ho0) hb); replace HO532 := kR HO532 hb; replace HO535 := kR HO535 hb; replace BK501 := kB BK501 hb; replace BK512 := kB BK512 hb; replace BK529 := kB BK529 hb; replace BK540 := kB BK540 hb; replace HB := kH HB hb
                (try clear hb); (try clear hk); (try clear ho0)
                refine hK.out _ _ (cZ0 BK512) (fun hHeld => ?_); clear hK K; refine norm_ (a' := ?_) ?_ ?_; rotate_left
                ·
                 show Act.put _ (some 118) _ = _
                 simp only [Act.put, lT, l0_, lS, i64_w, i32_w]; rfl
                refine pE 6 112 B36_15 HT_ ?_
                refine pE 7 119 B36_16 HT_ ?_
                refine pE 8 120 B36_4 HT_ ?_
                exact norm_ (by simp only [putAll, Act.put, lT, l0_, lS]) (hCont (.slice Ao84 y530.length co84, .slice Ao85 y533.length co85, v537, gb540) _ ⟨hHeld, (by (with_reducible repeat (first | apply Kd.S_alloc | apply Kd.S_drewN | apply Kd.S_drew)); exact Kd.S_mono HO527.out (fun _ hk => ⟨hk.1.1.2, ⟨hk.1.2, ⟨hk.2, hk.1.1.1⟩⟩⟩)), (by (with_reducible repeat (first | apply Kd.R_alloc | apply Kd.R_drewN | apply Kd.R_drew)); exact Kd.R_mono HO532.out (fun _ hk => hk.2)), (mR HO535), (by (with_reducible repeat (first | apply Kd.S_alloc | apply Kd.S_drewN | apply Kd.S_drew)); exact Kd.S_mono HO538.out (fun _ hk => ⟨hk.1.1.2, ⟨hk.1.2, ⟨hk.2, hk.1.1.1.2⟩⟩⟩)), (mS HO_10), (by (with_reducible repeat (first | apply Kd.S_alloc | apply Kd.S_drewN | apply Kd.S_drew)); exact Kd.S_mono HO_513000.out (fun _ hk => ⟨hk.1.1.1, ⟨hk.1.1.2, ⟨hk.1.2, hk.2⟩⟩⟩)), (mB BK501), (mB BK512), (mB BK529), (mB BK540), GW540.out, GE540.out, NB501_540.out, NB540_501.out, NB512_540.out, NB540_512.out, NB529_540.out, NB540_529.out, (mH HB), (mR HO_17)⟩)
              rintro ⟨v531, v534, v537, gb540⟩ w87 ⟨hS_, h0_, h1_, h2_, h3_, h4_, h5_, h6_, h7_, h8_, h9_, h10_, h11_, h12_, h13_, h14_, h15_, h16_, h17_, h18_, h19_⟩; have n0_ : Aside0 (Kd.S k28 28 w87 w.heap.size (fun k_ => some k_ ≠ (v531 : Value).ownBlock ∧ some k_ ≠ (v534 : Value).ownBlock ∧ some k_ ≠ (v537 : Value).ownBlock ∧ some k_ ≠ (.slice Ao29 t505.length co29 : Value).ownBlock) (.slice Ao74 t525.length co74) t525) := ⟨h0_⟩; have n1_ : Aside0 (Kd.R (Kd.int .i64) 3 w87 w.heap.size (fun k_ => some k_ ≠ (v534 : Value).ownBlock) v531 y530) := ⟨h1_⟩; have n2_ : Aside0 (Kd.R (Kd.int .i64) 3 w87 w.heap.size (fun k_ => some k_ ≠ (v531 : Value).ownBlock) v534 y533) := ⟨h2_⟩; have n3_ : Aside0 (Kd.S k28 28 w87 w.heap.size (fun k_ => some k_ ≠ (.slice Ao74 t525.length co74 : Value).ownBlock ∧ some k_ ≠ (v531 : Value).ownBlock ∧ some k_ ≠ (v534 : Value).ownBlock ∧ some k_ ≠ (.slice Ao29 t505.length co29 : Value).ownBlock) v537 t536) := ⟨h3_⟩; have n4_ : Aside0 (Kd.S k60 60 w87 w.heap.size (fun _ => True) (.slice Ao58 t508.length co58) t508) := ⟨h4_⟩; have n5_ : Aside0 (Kd.S k28 28 w87 w.heap.size (fun k_ => some k_ ≠ (.slice Ao74 t525.length co74 : Value).ownBlock ∧ some k_ ≠ (v531 : Value).ownBlock ∧ some k_ ≠ (v534 : Value).ownBlock ∧ some k_ ≠ (v537 : Value).ownBlock) (.slice Ao29 t505.length co29) t505) := ⟨h5_⟩; have n6_ : Aside0 (w87.heap[gb501]? = some (.cells #[.slice A0_0 l0_0.length c0_0] 24 (0, 0))) := ⟨h6_⟩; have n7_ : Aside0 (w87.heap[gb512]? = some (.cells #[.slice Ao29 t505.length co29] 24 (0, 0))) := ⟨h7_⟩; have n8_ : Aside0 (w87.heap[gb529]? = some (.cells #[.slice Ao74 t525.length co74] 24 (0, 0))) := ⟨h8_⟩; have n9_ : Aside0 (w87.heap[gb540]? = some (.cells #[.slice none 0 0] 24 (0, 0))) := ⟨h9_⟩; have n10_ : Aside0 (w.heap.size ≤ gb540) := ⟨h10_⟩; have n11_ : Aside0 (w.heap.size ≤ gb540) := ⟨h11_⟩; have n12_ : Aside0 (gb501 ≠ gb540) := ⟨h12_⟩; have n13_ : Aside0 (gb540 ≠ gb501) := ⟨h13_⟩; have n14_ : Aside0 (gb512 ≠ gb540) := ⟨h14_⟩; have n15_ : Aside0 (gb540 ≠ gb512) := ⟨h15_⟩; have n16_ : Aside0 (gb529 ≠ gb540) := ⟨h16_⟩; have n17_ : Aside0 (gb540 ≠ gb529) := ⟨h17_⟩; have n18_ : Aside0 (Below w.heap.size w w87) := ⟨h18_⟩; clear HO_10; clear HO_17; clear HO_513000; clear HO527; clear BK501; clear BK512; clear BK529; clear HB; clear h0_ h1_ h2_ h3_ h4_ h5_ h6_ h7_ h8_ h9_ h10_ h11_ h12_ h13_ h14_ h15_ h16_ h17_ h18_; have HO527 := n0_; have HO532 := n1_; have HO535 := n2_; have HO538 := n3_; have HO_10 := n4_; have HO_513000 := n5_; have BK501 := n6_; have BK512 := n7_; have BK529 := n8_; have BK540 := n9_; have GW540 := n10_; have GE540 := n11_; have NB501_540 := n12_; have NB540_501 := n13_; have NB512_540 := n14_; have NB540_512 := n15_; have NB529_540 := n16_; have NB540_529 := n17_; have HB := n18_; have HO_17 := Aside0.mk h19_; clear h19_; clear n0_ n1_ n2_ n3_ n4_ n5_ n6_ n7_ n8_ n9_ n10_ n11_ n12_ n13_ n14_ n15_ n16_ n17_ n18_; have hHeld : w87.cell? ⟨gb512, 0, none⟩ = some (.slice Ao29 t505.length co29) := hS_; obtain ⟨Ao88, co88, eo88⟩ := Kd.S_slice HO538.out
              (first | subst eo88 | (injection eo88 with f1_ f2_ f3_; have f4_ := f1_.symm; have f5_ := f3_.symm; clear f1_ f2_ f3_; subst f4_; subst f5_))
              refine norm_ (a' := ?_) ?_ ?_; rotate_left
              ·
               simp only [putAll, Act.put, lT, l0_, lS]; rfl
              refine one_ (i := 10) (N := none) B36_17 rfl rfl (one_of HT_.out (by kernel_rfl)) (by decide) (fun K hK => ?_); have hs89 := cZ0 BK540; have hfs89 := bZ BK540.out 0; have hns89_0 := NB501_540.out; have hns89_1 := NB512_540.out; have hns89_2 := NB529_540.out; have hms89_0 := NB540_501.out; have hms89_1 := NB540_512.out; have hms89_2 := NB540_529.out; refine skip_ (w1 := ?_) (by rfl) rfl ?_ ?_; rotate_left
              ·
               go_simp; rfl
              refine hK.out _ _ (((cell_far (p := ⟨gb540, _, none⟩) NB512_540.out _).trans (hHeld))) (fun hHeld => ?_); clear hK K; refine pure_ (i := 11) (N := some 22) (v := ?_) (a' := ?_) B36_18 rfl rfl (any_of HT_.out (by kernel_rfl)) (fun _ _ _ h => h) (Or.inl ⟨by rfl, ?_⟩) ?_ ?_; rotate_left
              ·
               intro w'; go_simp; with_reducible rfl
              rotate_left
              ·
               simp only [Act.put, lT, l0_, lS, i64_w, i32_w]; rfl
              refine done_ (done_of HT_.out (by kernel_rfl)) ?_
              go_upto_region 27 with (fail)
              go_cut [156] (fun v156 wc => ∃ (kq : Nat) (x156_67 : Bool), v156 = .bool x156_67 ∧ Aside0 (potsherdlaw20_FileDone.j5 kq a1 t508 x17_4 x156_67 t505 t525 = some true) ∧ Aside0 (kq ≤ k4) ∧ Aside0 (Kd.S k60 60 wc w.heap.size (fun _ => True) (.slice Ao58 t508.length co58) t508) ∧ Aside0 (Kd.R (Kd.int .i64) 3 wc w.heap.size (fun _ => True) (.slice Ao71 x17_4.length co71) x17_4) ∧ Aside0 (Kd.S k28 28 wc w.heap.size (fun k_ => some k_ ≠ ((.slice Ao74 t525.length co74) : Value).ownBlock ∧ some k_ ≠ ((.slice Ao88 t536.length co88) : Value).ownBlock) (.slice Ao29 t505.length co29) t505) ∧ Aside0 (Kd.S k28 28 wc w.heap.size (fun k_ => some k_ ≠ ((.slice Ao29 t505.length co29) : Value).ownBlock ∧ some k_ ≠ ((.slice Ao88 t536.length co88) : Value).ownBlock) (.slice Ao74 t525.length co74) t525) ∧ Aside0 (Kd.S k28 28 wc w.heap.size (fun k_ => some k_ ≠ ((.slice Ao29 t505.length co29) : Value).ownBlock ∧ some k_ ≠ ((.slice Ao74 t525.length co74) : Value).ownBlock) (.slice Ao88 t536.length co88) t536) ∧ Aside0 (wc.heap[gb501]? = some (.cells #[(.slice A0_0 l0_0.length c0_0)] 24 (0, 0))) ∧ Aside0 (wc.heap[gb512]? = some (.cells #[(.slice Ao29 t505.length co29)] 24 (0, 0))) ∧ Aside0 (wc.heap[gb529]? = some (.cells #[(.slice Ao74 t525.length co74)] 24 (0, 0))) ∧ Aside0 (wc.heap[gb540]? = some (.cells #[(.slice Ao88 t536.length co88)] 24 (0, 0))) ∧ Aside0 (Below w.heap.size w wc))
              case first =>
               have H := HC68.out; clear HC68
               replace H := nP H; obtain ⟨c90, H⟩ := H; obtain ⟨c90b0, c90b1⟩ := eP c90; clear c90
               (first | rw [c90b0] | (simp only [i64_w, i32_w]; rw [c90b0]) | skip)
               replace H := nP H; obtain ⟨c91, H⟩ := H; obtain ⟨c91b0, c91b1⟩ := eP c91; clear c91
               replace H := nP H; obtain ⟨c92, H⟩ := H; obtain ⟨c92b0, c92b1⟩ := eP c92
               have c92b2 : (t525.length == t505.length) = true := by first | simpa using c92 | (simp at c92 ⊢; omega)
               clear c92
               replace H := nQ H; obtain ⟨c93, H⟩ := H; have c93b0 := decide_eq_false c93; clear c93
               replace H := nQ H; obtain ⟨c94, H⟩ := H; have c94b0 : decide ((t525.length : Int) ≤ a1) = false := decide_eq_false c94; clear c94
               replace H := nP H; obtain ⟨c95, H⟩ := H; have c95b0 := decide_eq_true c95; clear c95
               replace H := nP H; obtain ⟨c96, H⟩ := H; have c96b0 := decide_eq_true c96; clear c96; have H' := Aside0.mk H; clear H; have hnb97 := NB529_501.out; have hnc97 := NB501_529.out; have hnb98 := NB529_512.out; have hnc98 := NB512_529.out; have hnb99 := NB529_540.out; have hnc99 := NB540_529.out; obtain ⟨hcz100_0, hfz100_0⟩ := cY0 BK529; have hnb101 := NB512_501.out; have hnc101 := NB501_512.out; have hnb102 := NB512_540.out; have hnc102 := NB540_512.out; obtain ⟨hcz103_0, hfz103_0⟩ := cY0 BK512; have p541 : 0 ≤ (a1 : Int) := dT; have q541 : a1 < (t525.length : Int) := dT; obtain ⟨ad541, A541_3, c541_3, A541_4, c541_4, e541, hx541_0, hx541_1, hx541_2, hx541_3, hx541_4, hl541_3, hi541_3, hl541_4, hi541_4⟩ := at_T28 (Kd.S_reads' HO527.out).2.2 a1 p541 q541
               cases e541
               have hn541_0 : ad541.block ≠ gb540 := Kd.own_blk (Kd.S_ne HO527.out BK540.out (by decide)); have HR541_3 := Aside0.mk hi541_3; have HC541_3 := Aside0.mk hl541_3; clear hi541_3 hl541_3; have HR541_4 := Aside0.mk hi541_4; have HC541_4 := Aside0.mk hl541_4; clear hi541_4 hl541_4; replace hx541_0 := cF hn541_0 0 (.slice Ao88 t536.length co88) hx541_0
               replace hx541_1 := cF hn541_0 0 (.slice Ao88 t536.length co88) hx541_1
               replace hx541_2 := cF hn541_0 0 (.slice Ao88 t536.length co88) hx541_2
               replace hx541_3 := cF hn541_0 0 (.slice Ao88 t536.length co88) hx541_3
               replace hx541_4 := cF hn541_0 0 (.slice Ao88 t536.length co88) hx541_4
               clear hn541_0; replace p541 := eq_true p541; replace q541 := eq_true q541
               go_wp2
               go_meet
               case rel => exact ⟨_, (((((rd_T28 t525 a1).f3).length : Int) != 5)), sI, H', ⟨by have := HJ4.out; have := HJ24.out; have := HK3.out; have := HK4.out; first | omega | exact Nat.le_refl _⟩, ⟨fS ⟨Kd.S_types HO_10.out BK540.out (by decide)⟩⟩, ⟨fR ⟨Kd.R_types HO_17.out BK540.out (by decide)⟩⟩, ⟨fS ⟨Kd.S_types HO_513000.out BK540.out (by decide)⟩ (fun _ hk => ⟨hk.1.1, hk.1.2.2.2⟩)⟩, ⟨fS ⟨Kd.S_types HO527.out BK540.out (by decide)⟩ (fun _ hk => ⟨hk.1.2.2.2, hk.1.2.2.1⟩)⟩, ⟨fS ⟨Kd.S_types HO538.out BK540.out (by decide)⟩ (fun _ hk => ⟨hk.1.2.2.2, hk.1.1⟩)⟩, ⟨mF BK501⟩, ⟨mF BK512⟩, ⟨mF BK529⟩, ⟨pP BK540⟩, ⟨mH HB⟩⟩
              case rest =>
               clear HC68
               (try clear c3); (try clear c36); (try clear c66)
               obtain ⟨kq, x156_67, rfl, HA, HJ67, HO_10, HO_17, HO_513000, HO_530000, HO_541000, BK501, BK512, BK529, BK540, HB⟩ := hcut
               cases kq with
               | zero => exact absurd HA.out (by simp [potsherdlaw20_FileDone.j5])
               | succ kj67 =>
                have H := HA.out; clear HA; simp only [potsherdlaw20_FileDone.j5] at H
                by_cases c104 : x156_67 = true
                ·
                 subst c104
                 have H1 : (none) = some true := by rw [if_pos rfl] at H; exact H
                 clear H; have H := H1; clear H1; exact absurd H (by simp)
                · as_aux_lemma =>
                 replace c104 := Bool.eq_false_iff.mpr c104; subst c104
                 have H1 : ((potsherdref12_CopyTree.f kj67 t525).bind fun t542 => (potsherdlaw20_FileDone.l3 kj67 a1 x17_4 t508 (t508.length : Int) 0 t505 t525 t542)) = some true := by rw [if_neg (show ¬ (false = true) by decide)] at H; exact H
                 clear H; have H := H1; clear H1; replace H := Option.bind_eq_some_iff.mp H; obtain ⟨t542, A1050, H⟩ := H; have A105 := Aside0.mk A1050; clear A1050; have H' := Aside0.mk H; clear H; have hnb106 := NB529_501.out; have hnc106 := NB501_529.out; have hnb107 := NB529_512.out; have hnc107 := NB512_529.out; have hnb108 := NB529_540.out; have hnc108 := NB540_529.out; obtain ⟨hcz109_0, hfz109_0⟩ := cY0 BK529
                 obtain ⟨N0, hN0⟩ : ∃ n_ : Nat, n_ = wc.heap.size := ⟨_, rfl⟩
                 go_wp2_with (first | ((with_reducible refine gate_callee (f := 32) rfl ?_); refine goesK (some 158) Try.func32 #[.agg #[.slice Ao74 t525.length co74]] ?_; (with_reducible refine (potsherdref12_CopyTree.calls kj67 _ _ t525 t542 _ ?side1 ?side2 A105.out).mono ?_); (case side1 => repeat (first | exact (Kd.S_reads' HO_530000.out).2.2 | (with_reducible refine Kd.C_alloc ?_ _) | (with_reducible refine Kd.C_drewN ?_ _) | (with_reducible refine Kd.C_drew ?_))); (case side2 => exact (Kd.S_reads' HO_530000.out).2.1); rintro e w110 ⟨v543, rfl, ho0, hb⟩; refine ⟨_, rfl, ?_⟩; replace HO_10 := kS HO_10 hb; have HO544 := Aside0.mk (Kd.S_lower (Kd.S_new' (Kd.S_new' (Kd.S_new' (Kd.S_new' (Kd.S_mono (Kd.S_bound ho0) (fun k_ hk_ => (by rw [hN0]; exact hk_.2.1 : N0 ≤ k_))) (Kd.R_lt (mR HO_17))) (Kd.S_lt (mS HO_513000))) (Kd.S_lt (mS HO_530000))) (Kd.S_lt (mS HO_541000))) (below_size (mH HB))); replace HO_17 := kR HO_17 hb; replace HO_513000 := Aside0.mk (Kd.S_elder' (Kd.S_mono (Kd.S_bound (mS HO_513000)) (fun k_ hk_ => (⟨hk_.1.1, ⟨hk_.1.2, by rw [hN0]; exact hk_.2.2.1⟩⟩ : _ ∧ _ ∧ k_ < N0))) (Kd.S_base ho0) hb); replace HO_530000 := Aside0.mk (Kd.S_elder' (Kd.S_mono (Kd.S_bound (mS HO_530000)) (fun k_ hk_ => (⟨hk_.1.1, ⟨hk_.1.2, by rw [hN0]; exact hk_.2.2.1⟩⟩ : _ ∧ _ ∧ k_ < N0))) (Kd.S_base ho0) hb); replace HO_541000 := Aside0.mk (Kd.S_elder' (Kd.S_mono (Kd.S_bound (mS HO_541000)) (fun k_ hk_ => (⟨hk_.1.1, ⟨hk_.1.2, by rw [hN0]; exact hk_.2.2.1⟩⟩ : _ ∧ _ ∧ k_ < N0))) (Kd.S_base ho0) hb); replace BK501 := kB BK501 hb; replace BK512 := kB BK512 hb; replace BK529 := kB BK529 hb; replace BK540 := kB BK540 hb; replace HB := kH HB hb; (try clear hb); (try clear hk); (try clear ho0)) | ((with_reducible refine gate_dst (N := 23) rfl ?_); (try (refine gate_guard (by rfl) ?_; dsimp only)); refine bxE 24 (cs := #[.slice none 0 0]) ?_; intro gb545 hg w111 hbox hb; replace HO_10 := kS HO_10 hb; replace HO_17 := kR HO_17 hb; replace HO_513000 := kS HO_513000 hb; replace HO_530000 := kS HO_530000 hb; replace HO_541000 := kS HO_541000 hb; replace HO544 := kS HO544 hb; have BK545 := Aside0.mk hbox; have GW545 := kG HB hg; have GE545 := kG HB hg; replace HB := kH HB hb; have NB501_545 := kL BK501 hg; have NB545_501 := kQ BK501 hg; replace BK501 := kB BK501 hb; have NB512_545 := kL BK512 hg; have NB545_512 := kQ BK512 hg; replace BK512 := kB BK512 hb; have NB529_545 := kL BK529 hg; have NB545_529 := kQ BK529 hg; replace BK529 := kB BK529 hb; have NB540_545 := kL BK540 hg; have NB545_540 := kQ BK540 hg; replace BK540 := kB BK540 hb; clear hb hbox hg; obtain ⟨Ao112, co112, eo112⟩ := Kd.S_slice HO544.out; subst eo112; have hnb113 := NB545_501.out; have hnc113 := NB501_545.out; have hnb114 := NB545_512.out; have hnc114 := NB512_545.out; have hnb115 := NB545_529.out; have hnc115 := NB529_545.out; have hnb116 := NB545_540.out; have hnc116 := NB540_545.out; obtain ⟨hcz117_0, hfz117_0⟩ := cY0 BK545))
                 go_loopg [161] kj67 (fun kq v161 w' => ∃ (x17_6 : List Int) (x161_6 : Int) (x513000_6 : List (S28)) (x530000_6 : List (S28)) (x541000_6 : List (S28)) (x546000_6 : List (S28)) (u513000 : Value) (u530000 : Value) (u541000 : Value) (u546000 : Value), v161 = .int .i64 x161_6 ∧ Aside0 (potsherdlaw20_FileDone.l3 kq a1 x17_6 t508 (t508.length : Int) x161_6 x513000_6 x530000_6 x546000_6 = some true) ∧ Aside0 (kq ≤ kj67) ∧ Aside0 (Kd.R (Kd.int .i64) 3 w' w.heap.size (fun _ => True) (.slice Ao71 x17_4.length co71) x17_6) ∧ Aside0 (Kd.S k60 60 w' w.heap.size (fun _ => True) (.slice Ao58 t508.length co58) t508) ∧ Aside0 (Kd.S k28 28 w' w.heap.size (fun k_ => some k_ ≠ (u530000 : Value).ownBlock ∧ (some k_ ≠ (u541000 : Value).ownBlock ∧ k_ < N0) ∧ some k_ ≠ (u546000 : Value).ownBlock) u513000 x513000_6) ∧ Aside0 (Kd.S k28 28 w' w.heap.size (fun k_ => some k_ ≠ (u513000 : Value).ownBlock ∧ (some k_ ≠ (u541000 : Value).ownBlock ∧ k_ < N0) ∧ some k_ ≠ (u546000 : Value).ownBlock) u530000 x530000_6) ∧ Aside0 (Kd.S k28 28 w' w.heap.size (fun k_ => some k_ ≠ (u513000 : Value).ownBlock ∧ (some k_ ≠ (u530000 : Value).ownBlock ∧ k_ < N0) ∧ some k_ ≠ (u546000 : Value).ownBlock) u541000 x541000_6) ∧ Aside0 (Kd.S k28 28 w' w.heap.size (fun k_ => some k_ ≠ ((.slice Ao71 x17_4.length co71) : Value).ownBlock ∧ some k_ ≠ (u513000 : Value).ownBlock ∧ some k_ ≠ (u530000 : Value).ownBlock ∧ some k_ ≠ (u541000 : Value).ownBlock ∧ N0 ≤ k_) u546000 x546000_6) ∧ Aside0 (w'.heap[gb501]? = some (.cells #[(.slice A0_0 l0_0.length c0_0)] 24 (0, 0))) ∧ Aside0 (w'.heap[gb512]? = some (.cells #[u513000] 24 (0, 0))) ∧ Aside0 (w'.heap[gb529]? = some (.cells #[u530000] 24 (0, 0))) ∧ Aside0 (w'.heap[gb540]? = some (.cells #[u541000] 24 (0, 0))) ∧ Aside0 (w'.heap[gb545]? = some (.cells #[u546000] 24 (0, 0))) ∧ Aside0 (Below w.heap.size w w'))
                 case atStart => exact ⟨(x17_4), (0), (t505), (t525), (t536), (t542), (.slice Ao29 t505.length co29), (.slice Ao74 t525.length co74), (.slice Ao88 t536.length co88), (.slice Ao112 t542.length co112), sI, H', ⟨Nat.le_refl _⟩, ⟨fR ⟨Kd.R_types HO_17.out BK545.out (by decide)⟩⟩, ⟨fS ⟨Kd.S_types HO_10.out BK545.out (by decide)⟩⟩, ⟨fS ⟨Kd.S_types HO_513000.out BK545.out (by decide)⟩ (fun _ hk => ⟨hk.1.1.1, ⟨hk.1.1.2, hk.1.2⟩⟩)⟩, ⟨fS ⟨Kd.S_types HO_530000.out BK545.out (by decide)⟩ (fun _ hk => ⟨hk.1.1.1, ⟨hk.1.1.2, hk.1.2⟩⟩)⟩, ⟨fS ⟨Kd.S_types HO_541000.out BK545.out (by decide)⟩ (fun _ hk => ⟨hk.1.1.1, ⟨hk.1.1.2, hk.1.2⟩⟩)⟩, ⟨fS ⟨Kd.S_types HO544.out BK545.out (by decide)⟩ (fun _ hk => ⟨hk.1.1.1.1.2, ⟨hk.1.1.1.2, ⟨hk.1.1.2, ⟨hk.1.2, hk.1.1.1.1.1⟩⟩⟩⟩)⟩, ⟨mF BK501⟩, ⟨mF BK512⟩, ⟨mF BK529⟩, ⟨mF BK540⟩, ⟨pP BK545⟩, ⟨mH HB⟩⟩
                 case round =>
                  clear H'
                  (try clear c3); (try clear c36); (try clear c66); (try clear c104); (try clear hcz109_0); (try clear hcz117_0); (try clear hfz109_0); (try clear hfz117_0)
                  obtain ⟨x17_6, x161_6, x513000_6, x530000_6, x541000_6, x546000_6, u513000, u530000, u541000, u546000, rfl, HA, HK6, HO_17, HO_159, HO_513000, HO_530000, HO_541000, HO_546000, BK501, BK512, BK529, BK540, BK545, HB⟩ := hrel; have hl17_6 := (Kd.R_reads' HO_17.out).1; rw [hl17_6] at HO_17
                  (try simp only [hl17_6])
                  (try simp only [hl17_6] at BK501)
                  (try simp only [hl17_6] at BK512)
                  (try simp only [hl17_6] at BK529)
                  (try simp only [hl17_6] at BK540)
                  (try simp only [hl17_6] at BK545)
                  (try simp only [hl17_6] at HO_159)
                  (try simp only [hl17_6] at HO_513000)
                  (try simp only [hl17_6] at HO_530000)
                  (try simp only [hl17_6] at HO_541000)
                  (try simp only [hl17_6] at HO_546000)
                  cases gk with
                  | zero => exact absurd HA.out (by simp [potsherdlaw20_FileDone.l3])
                  | succ k6 =>
                   have H := HA.out; clear HA; simp only [potsherdlaw20_FileDone.l3] at H
                   by_cases c118 : x161_6 < (t508.length : Int)
                   · as_aux_lemma =>
                    rw [if_pos c118] at H; have c118b0 := decide_eq_true c118; clear c118
                    replace H := nP H; obtain ⟨c119, H⟩ := H; have c119b0 := decide_eq_true c119; clear c119
                    replace H := nP H; obtain ⟨c120, H⟩ := H; have c120b0 := decide_eq_true c120; clear c120; have HC121 := Aside0.mk H; clear H; have p546 : 0 ≤ (x161_6 : Int) := dT; have q546 : x161_6 < (t508.length : Int) := dT; obtain ⟨ad546, A546_5, c546_5, e546, hx546_0, hx546_1, hx546_2, hx546_3, hx546_4, hx546_5, hl546_5, hi546_5⟩ := at_T60 (Kd.S_reads' HO_159.out).2.2 x161_6 p546 q546
                    cases e546
                    obtain ⟨ce546, hce546, hMe546, hcc546⟩ := Kd.S_get HO_159.out z60 x161_6 p546 (by first | exact q546 | exact dT | (have e_ := (Kd.S_reads' HO_159.out).1; omega))
                    obtain ⟨ve546_5, rfl, ge546_5⟩ := k60_openM hMe546; have hv546_5 := hcc546 5 _ rfl; rw [add_field _ _ 5 (by omega)] at hv546_5; replace hv546_5 := Option.some.inj (hv546_5.symm.trans hx546_5); rw [hv546_5] at ge546_5; have HL546_5 := Aside0.mk (show Kd.R (Kd.int .u8) 5 _ _ _ _ ((rd_T60 t508 x161_6).f5) from ge546_5); clear hv546_5 ge546_5; have HX546_5 := Aside0.mk hx546_5; clear hcc546 hce546; have HR546_5 := Aside0.mk hi546_5; have HC546_5 := Aside0.mk hl546_5; clear hi546_5 hl546_5; replace p546 := eq_true p546; replace q546 := eq_true q546
                    go_upto_region 33 with (first | ((with_reducible refine gate_dst (N := 25) rfl ?_); (try (refine gate_guard (by rfl) ?_; dsimp only)); refine bxE 60 (cs := #[.int .i64 0, .int .i64 0, .int .i64 0, .int .i64 0, .int .i64 0, .slice none 0 0]) ?_; intro gb547 hg w122 hbox hb; replace HO_17 := kR HO_17 hb; replace HO_159 := Aside0.mk (Kd.S_below (Kd.S_elderB (mS HO_159) gb547 (Nat.le_of_eq hg.symm)) hb); replace HO_513000 := kS HO_513000 hb; replace HO_530000 := kS HO_530000 hb; replace HO_541000 := kS HO_541000 hb; replace HO_546000 := kS HO_546000 hb; replace HL546_5 := kR HL546_5 hb; replace HR546_5 := Aside0.mk (Kd.C_below (by repeat (first | (with_reducible exact HR546_5.out) | (with_reducible refine Kd.C_alloc ?_ _) | (with_reducible refine Kd.C_drewN ?_ _) | (with_reducible refine Kd.C_drew ?_) | exact HR546_5.out)) hb); replace HX546_5 := Aside0.mk (pw_cell_below hb HX546_5.out); have BK547 := Aside0.mk hbox; have GW547 := kG HB hg; have GE547 := kG HB hg; replace HB := kH HB hb; have NB501_547 := kL BK501 hg; have NB547_501 := kQ BK501 hg; replace BK501 := kB BK501 hb; have NB512_547 := kL BK512 hg; have NB547_512 := kQ BK512 hg; replace BK512 := kB BK512 hb; have NB529_547 := kL BK529 hg; have NB547_529 := kQ BK529 hg; replace BK529 := kB BK529 hb; have NB540_547 := kL BK540 hg; have NB547_540 := kQ BK540 hg; replace BK540 := kB BK540 hb; have NB545_547 := kL BK545 hg; have NB547_545 := kQ BK545 hg; replace BK545 := kB BK545 hb; clear hb hbox hg; have hnb123 := NB547_501.out; have hnc123 := NB501_547.out; have hnb124 := NB547_512.out; have hnc124 := NB512_547.out; have hnb125 := NB547_529.out; have hnc125 := NB529_547.out; have hnb126 := NB547_540.out; have hnc126 := NB540_547.out; have hnb127 := NB547_545.out; have hnc127 := NB545_547.out; obtain ⟨hcz128_0, hfz128_0⟩ := cY0 BK547; obtain ⟨hcz128_1, hfz128_1⟩ := cY1 BK547; obtain ⟨hcz128_2, hfz128_2⟩ := cY2 BK547; obtain ⟨hcz128_3, hfz128_3⟩ := cY3 BK547; obtain ⟨hcz128_4, hfz128_4⟩ := cY4 BK547; obtain ⟨hcz128_5, hfz128_5⟩ := cY5 BK547))
                    (try simp only [Act.put, lT, l0_, lS])
                    go_cut [196] (fun v196 wc => ∃ (kq : Nat) (x196_120 : Bool), v196 = .bool x196_120 ∧ Aside0 (potsherdlaw20_FileDone.j7 kq a1 x17_6 t508 (t508.length : Int) x161_6 x196_120 x513000_6 x530000_6 x546000_6 ((rd_T60 t508 x161_6).f0) ((rd_T60 t508 x161_6).f1) ((rd_T60 t508 x161_6).f2) ((rd_T60 t508 x161_6).f3) ((rd_T60 t508 x161_6).f4) = some true) ∧ Aside0 (kq ≤ k6) ∧ Aside0 (Kd.R (Kd.int .i64) 3 wc w.heap.size (fun _ => True) (.slice Ao71 x17_6.length co71) x17_6) ∧ Aside0 (Kd.S k60 60 wc w.heap.size (fun k_ => k_ ≠ gb547) (.slice (some ad546) t508.length co58) t508) ∧ Aside0 (Kd.S k28 28 wc w.heap.size (fun k_ => some k_ ≠ (u530000 : Value).ownBlock ∧ (some k_ ≠ (u541000 : Value).ownBlock ∧ k_ < N0) ∧ some k_ ≠ (u546000 : Value).ownBlock) u513000 x513000_6) ∧ Aside0 (Kd.S k28 28 wc w.heap.size (fun k_ => some k_ ≠ (u513000 : Value).ownBlock ∧ (some k_ ≠ (u541000 : Value).ownBlock ∧ k_ < N0) ∧ some k_ ≠ (u546000 : Value).ownBlock) u530000 x530000_6) ∧ Aside0 (Kd.S k28 28 wc w.heap.size (fun k_ => some k_ ≠ (u513000 : Value).ownBlock ∧ (some k_ ≠ (u530000 : Value).ownBlock ∧ k_ < N0) ∧ some k_ ≠ (u546000 : Value).ownBlock) u541000 x541000_6) ∧ Aside0 (Kd.S k28 28 wc w.heap.size (fun k_ => some k_ ≠ ((.slice Ao71 x17_6.length co71) : Value).ownBlock ∧ some k_ ≠ (u513000 : Value).ownBlock ∧ some k_ ≠ (u530000 : Value).ownBlock ∧ some k_ ≠ (u541000 : Value).ownBlock ∧ N0 ≤ k_) u546000 x546000_6) ∧ Aside0 (wc.heap[gb501]? = some (.cells #[(.slice A0_0 l0_0.length c0_0)] 24 (0, 0))) ∧ Aside0 (wc.heap[gb512]? = some (.cells #[u513000] 24 (0, 0))) ∧ Aside0 (wc.heap[gb529]? = some (.cells #[u530000] 24 (0, 0))) ∧ Aside0 (wc.heap[gb540]? = some (.cells #[u541000] 24 (0, 0))) ∧ Aside0 (wc.heap[gb545]? = some (.cells #[u546000] 24 (0, 0))) ∧ Aside0 (wc.heap[gb547]? = some (.cells #[.int .i64 ((rd_T60 t508 x161_6).f0), .int .i64 ((rd_T60 t508 x161_6).f1), .int .i64 ((rd_T60 t508 x161_6).f2), .int .i64 ((rd_T60 t508 x161_6).f3), .int .i64 ((rd_T60 t508 x161_6).f4), (.slice A546_5 ((rd_T60 t508 x161_6).f5).length c546_5)] 60 (0, 0))) ∧ Aside0 (Below w.heap.size w wc))
                    case first => as_aux_lemma =>
                     have H := HC121.out; clear HC121
                     replace H := nP H; obtain ⟨c129, H⟩ := H; obtain ⟨c129b0, c129b1⟩ := eP c129; clear c129
                     (first | rw [c129b0] | (simp only [i64_w, i32_w]; rw [c129b0]) | skip)
                     replace H := nQ H; obtain ⟨c130, H⟩ := H; have c130b0 := decide_eq_false c130; clear c130
                     replace H := nQ H; obtain ⟨c131, H⟩ := H; have c131b0 : decide (5 ≤ ((rd_T60 t508 x161_6).f1)) = false := decide_eq_false c131; clear c131
                     replace H := nP H; obtain ⟨c132, H⟩ := H; have c132b0 := decide_eq_true c132; clear c132
                     replace H := nP H; obtain ⟨c133, H⟩ := H; have c133b0 := decide_eq_true c133; clear c133
                     replace H := nP H; obtain ⟨c134, H⟩ := H; have c134b0 := decide_eq_true c134; clear c134
                     replace H := nP H; obtain ⟨c135, H⟩ := H; have c135b0 := decide_eq_true c135; clear c135
                     replace H := nP H; obtain ⟨c136, H⟩ := H; have c136b0 := decide_eq_true c136; clear c136; have H' := Aside0.mk H; clear H
                     try go_wp2
                     obtain ⟨w137, hw_, n_⟩ : ∃ W_, (((((w122.setCell ⟨gb547, 0, none⟩ (.int .i64 ((rd_T60 t508 x161_6).f0))).setCell ⟨gb547, 1, none⟩ (.int .i64 ((rd_T60 t508 x161_6).f1))).setCell ⟨gb547, 2, none⟩ (.int .i64 ((rd_T60 t508 x161_6).f2))).setCell ⟨gb547, 3, none⟩ (.int .i64 ((rd_T60 t508 x161_6).f3))).setCell ⟨gb547, 4, none⟩ (.int .i64 ((rd_T60 t508 x161_6).f4))).setCell ⟨gb547, 5, none⟩ (.slice A546_5 ((rd_T60 t508 x161_6).f5).length c546_5) = W_ ∧ Aside0 (Kd.R (Kd.int .i64) 3 W_ w.heap.size (fun _ => True) (.slice Ao71 x17_6.length co71) x17_6) ∧ Aside0 (Kd.S k60 60 W_ w.heap.size (fun k_ => k_ ≠ gb547) (.slice (some ad546) t508.length co58) t508) ∧ Aside0 (Kd.S k28 28 W_ w.heap.size (fun k_ => some k_ ≠ (u530000 : Value).ownBlock ∧ (some k_ ≠ (u541000 : Value).ownBlock ∧ k_ < N0) ∧ some k_ ≠ (u546000 : Value).ownBlock) u513000 x513000_6) ∧ Aside0 (Kd.S k28 28 W_ w.heap.size (fun k_ => some k_ ≠ (u513000 : Value).ownBlock ∧ (some k_ ≠ (u541000 : Value).ownBlock ∧ k_ < N0) ∧ some k_ ≠ (u546000 : Value).ownBlock) u530000 x530000_6) ∧ Aside0 (Kd.S k28 28 W_ w.heap.size (fun k_ => some k_ ≠ (u513000 : Value).ownBlock ∧ (some k_ ≠ (u530000 : Value).ownBlock ∧ k_ < N0) ∧ some k_ ≠ (u546000 : Value).ownBlock) u541000 x541000_6) ∧ Aside0 (Kd.S k28 28 W_ w.heap.size (fun k_ => some k_ ≠ (.slice Ao71 x17_6.length co71 : Value).ownBlock ∧ some k_ ≠ (u513000 : Value).ownBlock ∧ some k_ ≠ (u530000 : Value).ownBlock ∧ some k_ ≠ (u541000 : Value).ownBlock ∧ N0 ≤ k_) u546000 x546000_6) ∧ Aside0 (Kd.R (Kd.int .u8) 5 W_ w.heap.size (fun k_ => some k_ ≠ (.slice (some ad546) t508.length co58 : Value).ownBlock) (.slice A546_5 ((rd_T60 t508 x161_6).f5).length c546_5) ((rd_T60 t508 x161_6).f5)) ∧ Aside0 (W_.heap[gb501]? = some (.cells #[.slice A0_0 l0_0.length c0_0] 24 (0, 0))) ∧ Aside0 (W_.heap[gb512]? = some (.cells #[u513000] 24 (0, 0))) ∧ Aside0 (W_.heap[gb529]? = some (.cells #[u530000] 24 (0, 0))) ∧ Aside0 (W_.heap[gb540]? = some (.cells #[u541000] 24 (0, 0))) ∧ Aside0 (W_.heap[gb545]? = some (.cells #[u546000] 24 (0, 0))) ∧ Aside0 (W_.heap[gb547]? = some (.cells #[.int .i64 ((rd_T60 t508 x161_6).f0), .int .i64 ((rd_T60 t508 x161_6).f1), .int .i64 ((rd_T60 t508 x161_6).f2), .int .i64 ((rd_T60 t508 x161_6).f3), .int .i64 ((rd_T60 t508 x161_6).f4), .slice A546_5 ((rd_T60 t508 x161_6).f5).length c546_5] 60 (0, 0))) ∧ Aside0 (Below w.heap.size w W_) := ⟨_, rfl, ⟨fR ⟨Kd.R_types HO_17.out BK547.out (by decide)⟩⟩, ⟨fS HO_159 (fun _ hk => hk.2)⟩, ⟨fS ⟨Kd.S_types HO_513000.out BK547.out (by decide)⟩ (fun _ hk => ⟨hk.1.1, ⟨hk.1.2.1, hk.1.2.2⟩⟩)⟩, ⟨fS ⟨Kd.S_types HO_530000.out BK547.out (by decide)⟩ (fun _ hk => ⟨hk.1.1, ⟨hk.1.2.1, hk.1.2.2⟩⟩)⟩, ⟨fS ⟨Kd.S_types HO_541000.out BK547.out (by decide)⟩ (fun _ hk => ⟨hk.1.1, ⟨hk.1.2.1, hk.1.2.2⟩⟩)⟩, ⟨fS ⟨Kd.S_types HO_546000.out BK547.out (by decide)⟩ (fun _ hk => ⟨hk.1.1, ⟨hk.1.2.1, ⟨hk.1.2.2.1, hk.1.2.2.2⟩⟩⟩)⟩, ⟨fR ⟨Kd.R_types HL546_5.out BK547.out (by decide)⟩ (fun _ hk => hk.1.2)⟩, ⟨mF BK501⟩, ⟨mF BK512⟩, ⟨mF BK529⟩, ⟨mF BK540⟩, ⟨mF BK545⟩, ⟨pP BK547⟩, ⟨mH HB⟩⟩
                     (try clear HO_17); (try clear HO_159); (try clear HO_513000); (try clear HO_530000); (try clear HO_541000); (try clear HO_546000); (try clear HL546_5); (try clear BK501); (try clear BK512); (try clear BK529); (try clear BK540); (try clear BK545); (try clear BK547); (try clear HB); rewrite [hw_]; clear hw_; obtain ⟨HO_17, HO_159, HO_513000, HO_530000, HO_541000, HO_546000, HL546_5, BK501, BK512, BK529, BK540, BK545, BK547, HB⟩ := n_; replace HO_17 := Aside0.mk (Kd.R_drew HO_17.out); replace HO_159 := Aside0.mk (Kd.S_drew HO_159.out); replace HO_513000 := Aside0.mk (Kd.S_drew HO_513000.out); replace HO_530000 := Aside0.mk (Kd.S_drew HO_530000.out); replace HO_541000 := Aside0.mk (Kd.S_drew HO_541000.out); replace HO_546000 := Aside0.mk (Kd.S_drew HO_546000.out); replace HL546_5 := Aside0.mk (Kd.R_drew HL546_5.out); replace BK501 := Aside0.mk (bD BK501.out); replace BK512 := Aside0.mk (bD BK512.out); replace BK529 := Aside0.mk (bD BK529.out); replace BK540 := Aside0.mk (bD BK540.out); replace BK545 := Aside0.mk (bD BK545.out); replace BK547 := Aside0.mk (bD BK547.out); replace HB := Aside0.mk (wD HB.out); obtain ⟨Ao139, co139, eo139⟩ := Kd.S_slice HO_530000.out
                     (first | subst eo139 | (injection eo139 with f1_ f2_ f3_; have f4_ := f1_.symm; have f5_ := f3_.symm; clear f1_ f2_ f3_; subst f4_; subst f5_))
                     have p548 : 0 ≤ (a1 : Int) := dT; have q548 : a1 < (x530000_6.length : Int) := dT; obtain ⟨ad548, A548_3, c548_3, A548_4, c548_4, e548, hx548_0, hx548_1, hx548_2, hx548_3, hx548_4, hl548_3, hi548_3, hl548_4, hi548_4⟩ := at_T28 (Kd.S_reads' HO_530000.out).2.2 a1 p548 q548
                     cases e548
                     obtain ⟨ce548, hce548, hMe548, hcc548⟩ := Kd.S_get HO_530000.out z28 a1 p548 (by first | exact q548 | exact dT | (have e_ := (Kd.S_reads' HO_530000.out).1; omega))
                     obtain ⟨ve548_3, ve548_4, rfl, ge548_3, ge548_4⟩ := k28_openM hMe548; have hv548_3 := hcc548 3 _ rfl; rw [add_field _ _ 3 (by omega)] at hv548_3; replace hv548_3 := Option.some.inj (hv548_3.symm.trans hx548_3); rw [hv548_3] at ge548_3; have HL548_3 := Aside0.mk (show Kd.R (Kd.int .i64) 3 _ _ _ _ ((rd_T28 x530000_6 a1).f3) from ge548_3); clear hv548_3 ge548_3; have HX548_3 := Aside0.mk hx548_3; have hv548_4 := hcc548 4 _ rfl; rw [add_field _ _ 4 (by omega)] at hv548_4; replace hv548_4 := Option.some.inj (hv548_4.symm.trans hx548_4); rw [hv548_4] at ge548_4; have HL548_4 := Aside0.mk (show Kd.R k78 78 _ _ _ _ ((rd_T28 x530000_6 a1).f4) from ge548_4); clear hv548_4 ge548_4; have HX548_4 := Aside0.mk hx548_4; clear hcc548 hce548; have HR548_3 := Aside0.mk hi548_3; have HC548_3 := Aside0.mk hl548_3; clear hi548_3 hl548_3; have HR548_4 := Aside0.mk hi548_4; have HC548_4 := Aside0.mk hl548_4; clear hi548_4 hl548_4; replace p548 := eq_true p548; replace q548 := eq_true q548; have p549 : 0 ≤ (((rd_T60 t508 x161_6).f1) : Int) := dT; have q549 : ((rd_T60 t508 x161_6).f1) < (((rd_T28 x530000_6 a1).f3).length : Int) := dT; obtain ⟨ad549, e549, hx549_0⟩ := Kd.at_int (by repeat (first | (with_reducible exact HR548_3.out) | (with_reducible refine Kd.C_alloc ?_ _) | (with_reducible refine Kd.C_drewN ?_ _) | (with_reducible refine Kd.C_drew ?_) | exact HR548_3.out)) ((rd_T60 t508 x161_6).f1) p549 q549
                     cases e549
                     replace p549 := eq_true p549; replace q549 := eq_true q549; have p550 : 0 ≤ (x161_6 : Int) := dT; have q550 : x161_6 < (x17_6.length : Int) := dT; obtain ⟨ad550, e550, hx550_0⟩ := Kd.at_int (Kd.R_reads' HO_17.out).2.2 x161_6 p550 q550
                     cases e550
                     replace p550 := eq_true p550; replace q550 := eq_true q550; refine start_ (n := 31) (S := fun w' => w'.cell? ⟨gb547, 0, none⟩ = some (.int .i64 ((rd_T60 t508 x161_6).f0)) ∧ w'.cell? ⟨gb547, 1, none⟩ = some (.int .i64 ((rd_T60 t508 x161_6).f1)) ∧ w'.cell? ⟨gb547, 2, none⟩ = some (.int .i64 ((rd_T60 t508 x161_6).f2)) ∧ w'.cell? ⟨gb547, 3, none⟩ = some (.int .i64 ((rd_T60 t508 x161_6).f3)) ∧ w'.cell? ⟨gb547, 4, none⟩ = some (.int .i64 ((rd_T60 t508 x161_6).f4)) ∧ w'.cell? ⟨gb547, 5, none⟩ = some (.slice A546_5 ((rd_T60 t508 x161_6).f5).length c546_5) ∧ w'.cell? ⟨gb529, 0, none⟩ = some (.slice (some ad548) x530000_6.length co139) ∧ w'.cell? (ad548.add ((a1).toNat * 5)) = some (.int .i64 ((rd_T28 x530000_6 a1).f0)) ∧ w'.cell? ⟨(ad548.add ((a1).toNat * 5)).block, (ad548.add ((a1).toNat * 5)).off + 1, none⟩ = some (.int .i64 ((rd_T28 x530000_6 a1).f1)) ∧ w'.cell? ⟨(ad548.add ((a1).toNat * 5)).block, (ad548.add ((a1).toNat * 5)).off + 2, none⟩ = some (.int .i64 ((rd_T28 x530000_6 a1).f2)) ∧ w'.cell? ⟨(ad548.add ((a1).toNat * 5)).block, (ad548.add ((a1).toNat * 5)).off + 3, none⟩ = some (.slice (some ad549) ((rd_T28 x530000_6 a1).f3).length c548_3) ∧ w'.cell? ⟨(ad548.add ((a1).toNat * 5)).block, (ad548.add ((a1).toNat * 5)).off + 4, none⟩ = some (.slice A548_4 ((rd_T28 x530000_6 a1).f4).length c548_4) ∧ w'.cell? (ad549.add (((rd_T60 t508 x161_6).f1)).toNat) = some (.int .i64 (rd ((rd_T28 x530000_6 a1).f3) ((rd_T60 t508 x161_6).f1))) ∧ w'.cell? (ad550.add (x161_6).toNat) = some (.int .i64 (rd x17_6 x161_6))) (ds := []) B36_19 (by kernel_rfl) rfl rfl ⟨cZ0 BK547, cZ1 BK547, cZ2 BK547, cZ3 BK547, cZ4 BK547, cZ5 BK547, cZ0 BK529, hx548_0, hx548_1, hx548_2, hx548_3, hx548_4, hx549_0, hx550_0⟩ (fun hHeld => ?_); refine with_tabW potsherdlaw20_FileDone.tab33 potsherdlaw20_FileDone.bits33 (fun HT_ HW_ => ?_); generalize w137.drew = w138 at HO_17 HO_159 HO_513000 HO_530000 HO_541000 HO_546000 HL546_5 BK501 BK512 BK529 BK540 BK545 BK547 HB HL548_3 HL548_4 HR548_3 HR548_4 HX548_3 HX548_4 hx548_0 hx548_1 hx548_2 hx548_3 hx548_4 hx549_0 hx550_0 hHeld ⊢; refine pure_ (i := 0) (N := some 166) (v := ?_) (a' := ?_) B36_20 rfl rfl (any_of HT_.out (by kernel_rfl)) (fun _ _ _ h => h) (Or.inl ⟨by rfl, ?_⟩) ?_ ?_; rotate_left
                     ·
                      intro w'; go_simp; with_reducible rfl
                     rotate_left
                     ·
                      simp only [Act.put, lT, l0_, lS, i64_w, i32_w]; rfl
                     refine pE 2 168 B36_21 HT_ ?_
                     refine tE 1 167 B36_22 HT_ HW_ hHeld ?_
                     refine pE 3 169 B36_23 HT_ ?_
                     refine pE 4 170 B36_24 HT_ ?_
                     refine pE 5 171 B36_25 HT_ ?_
                     refine tE 6 172 B36_26 HT_ HW_ hHeld ?_
                     refine pE 7 173 B36_27 HT_ ?_
                     refine pE 8 174 B36_28 HT_ ?_
                     refine pE 9 175 B36_29 HT_ ?_
                     refine pE 10 176 B36_30 HT_ ?_
                     refine tE 11 177 B36_31 HT_ HW_ hHeld ?_
                     refine pE 12 178 B36_32 HT_ ?_
                     refine pE 13 179 B36_33 HT_ ?_
                     refine pE 14 180 B36_34 HT_ ?_
                     refine pE 15 181 B36_35 HT_ ?_
                     refine pE 17 183 B36_36 HT_ ?_
                     refine pE 21 187 B36_37 HT_ ?_
                     refine pE 25 191 B36_38 HT_ ?_
                     refine pE 26 192 B36_39 HT_ ?_
                     refine pE 27 193 B36_40 HT_ ?_
                     refine tE 16 182 B36_41 HT_ HW_ hHeld ?_
                     refine pE 18 184 B36_42 HT_ ?_
                     refine pE 19 185 B36_43 HT_ ?_
                     refine tE 20 186 B36_44 HT_ HW_ hHeld ?_
                     refine tE 22 188 B36_45 HT_ HW_ hHeld ?_
                     refine pE 23 189 B36_46 HT_ ?_
                     refine tE 24 190 B36_47 HT_ HW_ hHeld ?_
                     refine tE 28 194 B36_48 HT_ HW_ hHeld ?_
                     refine pE 29 195 B36_49 HT_ ?_
                     refine pE 30 196 B36_50 HT_ ?_
                     refine done_ (done_of HT_.out (by kernel_rfl)) ?_
                     try go_wp2
                     go_meet
                     case rel => exact ⟨_, (((rd ((rd_T28 x530000_6 a1).f3) ((rd_T60 t508 x161_6).f1)) != (rd x17_6 x161_6))), sI, H', ⟨by have := HJ4.out; have := HJ24.out; have := HK3.out; have := HK4.out; have := HJ67.out; have := HK6.out; first | omega | exact Nat.le_refl _⟩, ⟨by (try simp only [hl17_6]); (with_reducible repeat (first | apply Kd.R_alloc | apply Kd.R_drewN | apply Kd.R_drew)); exact HO_17.out⟩, ⟨by (try simp only [hl17_6]); (with_reducible repeat (first | apply Kd.S_alloc | apply Kd.S_drewN | apply Kd.S_drew)); exact HO_159.out⟩, ⟨by (try simp only [hl17_6]); (with_reducible repeat (first | apply Kd.S_alloc | apply Kd.S_drewN | apply Kd.S_drew)); exact HO_513000.out⟩, ⟨by (try simp only [hl17_6]); (with_reducible repeat (first | apply Kd.S_alloc | apply Kd.S_drewN | apply Kd.S_drew)); exact HO_530000.out⟩, ⟨by (try simp only [hl17_6]); (with_reducible repeat (first | apply Kd.S_alloc | apply Kd.S_drewN | apply Kd.S_drew)); exact HO_541000.out⟩, ⟨by (try simp only [hl17_6]); (with_reducible repeat (first | apply Kd.S_alloc | apply Kd.S_drewN | apply Kd.S_drew)); exact HO_546000.out⟩, ⟨by (try simp only [hl17_6]); (with_reducible repeat (first | refine bN ?_ _ | refine bD ?_ | refine bA ?_ _)); exact BK501.out⟩, ⟨by (try simp only [hl17_6]); (with_reducible repeat (first | refine bN ?_ _ | refine bD ?_ | refine bA ?_ _)); exact BK512.out⟩, ⟨by (try simp only [hl17_6]); (with_reducible repeat (first | refine bN ?_ _ | refine bD ?_ | refine bA ?_ _)); exact BK529.out⟩, ⟨by (try simp only [hl17_6]); (with_reducible repeat (first | refine bN ?_ _ | refine bD ?_ | refine bA ?_ _)); exact BK540.out⟩, ⟨by (try simp only [hl17_6]); (with_reducible repeat (first | refine bN ?_ _ | refine bD ?_ | refine bA ?_ _)); exact BK545.out⟩, ⟨by (try simp only [hl17_6]); (with_reducible repeat (first | refine bN ?_ _ | refine bD ?_ | refine bA ?_ _)); exact BK547.out⟩, ⟨mH HB⟩⟩
                    case rest =>
                     clear HC121
                     (try clear c3); (try clear c36); (try clear c66); (try clear c104); (try clear c118); (try clear c118b0); (try clear c119); (try clear c119b0); (try clear c120); (try clear c120b0); (try clear hcz109_0); (try clear hcz117_0); (try clear hcz128_0); (try clear hcz128_1); (try clear hcz128_2); (try clear hcz128_3); (try clear hcz128_4); (try clear hcz128_5); (try clear hfz109_0); (try clear hfz117_0); (try clear hfz128_0); (try clear hfz128_1); (try clear hfz128_2); (try clear hfz128_3); (try clear hfz128_4); (try clear hfz128_5); (try clear hx546_0); (try clear hx546_1); (try clear hx546_2); (try clear hx546_3); (try clear hx546_4); (try clear hx546_5); (try clear p546); (try clear q546)
                     obtain ⟨kq, x196_120, rfl, HA, HJ120, HO_17, HO_159, HO_513000, HO_530000, HO_541000, HO_546000, BK501, BK512, BK529, BK540, BK545, BK547, HB⟩ := hcut
                     cases kq with
                     | zero => exact absurd HA.out (by simp [potsherdlaw20_FileDone.j7])
                     | succ kj120 =>
                      have H := HA.out; clear HA; simp only [potsherdlaw20_FileDone.j7] at H
                      by_cases c140 : x196_120 = true
                      ·
                       subst c140
                       have H1 : (none) = some true := by rw [if_pos rfl] at H; exact H
                       clear H; have H := H1; clear H1; exact absurd H (by simp)
                      · as_aux_lemma =>
                       replace c140 := Bool.eq_false_iff.mpr c140; subst c140
                       have H1 : (if 0 ≤ a1 then (if a1 < (x546000_6.length : Int) then (if a1 < (x513000_6.length : Int) then (if 0 ≤ ((rd_T60 t508 x161_6).f1) then (if ((rd_T60 t508 x161_6).f1) < (((rd_T28 x513000_6 a1).f3).length : Int) then (if ((rd_T60 t508 x161_6).f1) < (((rd_T28 x546000_6 a1).f3).length : Int) then (potsherdlaw20_FileDone.l3 kj120 a1 x17_6 t508 (t508.length : Int) (wrap64 (x161_6 + 1)) x513000_6 x530000_6 (x546000_6.set (a1 : Int).toNat (⟨(rd_T28 x546000_6 a1).f0, (rd_T28 x546000_6 a1).f1, (rd_T28 x546000_6 a1).f2, (((rd_T28 x546000_6 a1).f3).set (((rd_T60 t508 x161_6).f1) : Int).toNat (rd ((rd_T28 x513000_6 a1).f3) ((rd_T60 t508 x161_6).f1))), (rd_T28 x546000_6 a1).f4⟩ : S28))) else (none)) else (none)) else (none)) else (none)) else (none)) else (none)) = some true := by rw [if_neg (show ¬ (false = true) by decide)] at H; exact H
                       clear H; have H := H1; clear H1
                       replace H := nP H; obtain ⟨c141, H⟩ := H; have c141b0 := decide_eq_true c141; clear c141
                       replace H := nP H; obtain ⟨c142, H⟩ := H; have c142b0 := decide_eq_true c142; clear c142
                       replace H := nP H; obtain ⟨c143, H⟩ := H; have c143b0 := decide_eq_true c143; clear c143
                       replace H := nP H; obtain ⟨c144, H⟩ := H; have c144b0 := decide_eq_true c144; clear c144
                       replace H := nP H; obtain ⟨c145, H⟩ := H; have c145b0 := decide_eq_true c145; clear c145
                       replace H := nP H; obtain ⟨c146, H⟩ := H; have c146b0 := decide_eq_true c146; clear c146; obtain ⟨y554, hy554⟩ : ∃ y_ : List Int, y_ = (((rd_T28 x546000_6 a1).f3).set (((rd_T60 t508 x161_6).f1) : Int).toNat (rd ((rd_T28 x513000_6 a1).f3) ((rd_T60 t508 x161_6).f1))) := ⟨_, rfl⟩
                       replace H : (potsherdlaw20_FileDone.l3 kj120 a1 x17_6 t508 (t508.length : Int) (wrap64 (x161_6 + 1)) x513000_6 x530000_6 (x546000_6.set (a1 : Int).toNat (⟨(rd_T28 x546000_6 a1).f0, (rd_T28 x546000_6 a1).f1, (rd_T28 x546000_6 a1).f2, y554, (rd_T28 x546000_6 a1).f4⟩ : S28))) = some true := rH H hy554
                       have Ny554 := Aside0.mk hy554; clear hy554; obtain ⟨y556, hy556⟩ : ∃ y_ : List (S28), y_ = (x546000_6.set (a1 : Int).toNat (⟨(rd_T28 x546000_6 a1).f0, (rd_T28 x546000_6 a1).f1, (rd_T28 x546000_6 a1).f2, y554, (rd_T28 x546000_6 a1).f4⟩ : S28)) := ⟨_, rfl⟩
                       replace H : (potsherdlaw20_FileDone.l3 kj120 a1 x17_6 t508 (t508.length : Int) (wrap64 (x161_6 + 1)) x513000_6 x530000_6 y556) = some true := rH H hy556
                       have Ny556 := Aside0.mk hy556; clear hy556; have H' := Aside0.mk H; clear H
                       try go_wp2
                       replace HO_17 := Aside0.mk (Kd.R_drew HO_17.out); replace HO_159 := Aside0.mk (Kd.S_drew HO_159.out); replace HO_513000 := Aside0.mk (Kd.S_drew HO_513000.out); replace HO_530000 := Aside0.mk (Kd.S_drew HO_530000.out); replace HO_541000 := Aside0.mk (Kd.S_drew HO_541000.out); replace HO_546000 := Aside0.mk (Kd.S_drew HO_546000.out); replace BK501 := Aside0.mk (bD BK501.out); replace BK512 := Aside0.mk (bD BK512.out); replace BK529 := Aside0.mk (bD BK529.out); replace BK540 := Aside0.mk (bD BK540.out); replace BK545 := Aside0.mk (bD BK545.out); replace BK547 := Aside0.mk (bD BK547.out); replace HB := Aside0.mk (wD HB.out); obtain ⟨Ao149, co149, eo149⟩ := Kd.S_slice HO_546000.out
                       (first | subst eo149 | (injection eo149 with f1_ f2_ f3_; have f4_ := f1_.symm; have f5_ := f3_.symm; clear f1_ f2_ f3_; subst f4_; subst f5_))
                       have p551 : 0 ≤ (a1 : Int) := dT; have q551 : a1 < (x546000_6.length : Int) := dT; obtain ⟨ad551, A551_3, c551_3, A551_4, c551_4, e551, hx551_0, hx551_1, hx551_2, hx551_3, hx551_4, hl551_3, hi551_3, hl551_4, hi551_4⟩ := at_T28 (Kd.S_reads' HO_546000.out).2.2 a1 p551 q551
                       cases e551
                       obtain ⟨ce551, hce551, hMe551, hcc551⟩ := Kd.S_get HO_546000.out z28 a1 p551 (by first | exact q551 | exact dT | (have e_ := (Kd.S_reads' HO_546000.out).1; omega))
                       obtain ⟨ve551_3, ve551_4, rfl, ge551_3, ge551_4⟩ := k28_openM hMe551; have hv551_3 := hcc551 3 _ rfl; rw [add_field _ _ 3 (by omega)] at hv551_3; replace hv551_3 := Option.some.inj (hv551_3.symm.trans hx551_3); rw [hv551_3] at ge551_3; have HL551_3 := Aside0.mk (show Kd.R (Kd.int .i64) 3 _ _ _ _ ((rd_T28 x546000_6 a1).f3) from ge551_3); clear hv551_3 ge551_3; have HX551_3 := Aside0.mk hx551_3; have hv551_4 := hcc551 4 _ rfl; rw [add_field _ _ 4 (by omega)] at hv551_4; replace hv551_4 := Option.some.inj (hv551_4.symm.trans hx551_4); rw [hv551_4] at ge551_4; have HL551_4 := Aside0.mk (show Kd.R k78 78 _ _ _ _ ((rd_T28 x546000_6 a1).f4) from ge551_4); clear hv551_4 ge551_4; have HX551_4 := Aside0.mk hx551_4; clear hcc551 hce551; have HR551_3 := Aside0.mk hi551_3; have HC551_3 := Aside0.mk hl551_3; clear hi551_3 hl551_3; have HR551_4 := Aside0.mk hi551_4; have HC551_4 := Aside0.mk hl551_4; clear hi551_4 hl551_4; replace p551 := eq_true p551; replace q551 := eq_true q551; obtain ⟨Ao150, co150, eo150⟩ := Kd.S_slice HO_513000.out
                       (first | subst eo150 | (injection eo150 with f1_ f2_ f3_; have f4_ := f1_.symm; have f5_ := f3_.symm; clear f1_ f2_ f3_; subst f4_; subst f5_))
                       have p552 : 0 ≤ (a1 : Int) := dT; have q552 : a1 < (x513000_6.length : Int) := dT; obtain ⟨ad552, A552_3, c552_3, A552_4, c552_4, e552, hx552_0, hx552_1, hx552_2, hx552_3, hx552_4, hl552_3, hi552_3, hl552_4, hi552_4⟩ := at_T28 (Kd.S_reads' HO_513000.out).2.2 a1 p552 q552
                       cases e552
                       obtain ⟨ce552, hce552, hMe552, hcc552⟩ := Kd.S_get HO_513000.out z28 a1 p552 (by first | exact q552 | exact dT | (have e_ := (Kd.S_reads' HO_513000.out).1; omega))
                       obtain ⟨ve552_3, ve552_4, rfl, ge552_3, ge552_4⟩ := k28_openM hMe552; have hv552_3 := hcc552 3 _ rfl; rw [add_field _ _ 3 (by omega)] at hv552_3; replace hv552_3 := Option.some.inj (hv552_3.symm.trans hx552_3); rw [hv552_3] at ge552_3; have HL552_3 := Aside0.mk (show Kd.R (Kd.int .i64) 3 _ _ _ _ ((rd_T28 x513000_6 a1).f3) from ge552_3); clear hv552_3 ge552_3; have HX552_3 := Aside0.mk hx552_3; have hv552_4 := hcc552 4 _ rfl; rw [add_field _ _ 4 (by omega)] at hv552_4; replace hv552_4 := Option.some.inj (hv552_4.symm.trans hx552_4); rw [hv552_4] at ge552_4; have HL552_4 := Aside0.mk (show Kd.R k78 78 _ _ _ _ ((rd_T28 x513000_6 a1).f4) from ge552_4); clear hv552_4 ge552_4; have HX552_4 := Aside0.mk hx552_4; clear hcc552 hce552; have HR552_3 := Aside0.mk hi552_3; have HC552_3 := Aside0.mk hl552_3; clear hi552_3 hl552_3; have HR552_4 := Aside0.mk hi552_4; have HC552_4 := Aside0.mk hl552_4; clear hi552_4 hl552_4; replace p552 := eq_true p552; replace q552 := eq_true q552; have p553 : 0 ≤ (((rd_T60 t508 x161_6).f1) : Int) := dT; have q553 : ((rd_T60 t508 x161_6).f1) < (((rd_T28 x513000_6 a1).f3).length : Int) := dT; obtain ⟨ad553, e553, hx553_0⟩ := Kd.at_int (by repeat (first | (with_reducible exact HR552_3.out) | (with_reducible refine Kd.C_alloc ?_ _) | (with_reducible refine Kd.C_drewN ?_ _) | (with_reducible refine Kd.C_drew ?_) | exact HR552_3.out)) ((rd_T60 t508 x161_6).f1) p553 q553
                       cases e553
                       replace p553 := eq_true p553; replace q553 := eq_true q553; have p147 : 0 ≤ (((rd_T60 t508 x161_6).f1) : Int) := dT; have q147 : (((rd_T60 t508 x161_6).f1) : Int) < ((((rd_T28 x546000_6 a1).f3).length : Int) : Int) := dT; obtain ⟨go147, co147, eo147, gb147, gl147, cl147, HG147⟩ := Kd.R_form HL551_3.out (by omega)
                       (first | cases eo147 | (injection eo147 with ea_ en_ ec_; (first | subst ea_ | (injection ea_ with ea_; subst ea_)); subst ec_; clear en_))
                       have GB147 := Aside0.mk gb147; have GG147 := Aside0.mk HG147; clear gb147 gl147 HG147; obtain ⟨hx147_0, hf147_0⟩ := Kd.R_celln 0 HL551_3.out (((rd_T60 t508 x161_6).f1) : Int) p147 q147; replace p147 := eq_true p147; replace q147 := eq_true q147; have hq151 : (a1 : Int) < (x546000_6.length : Int) := (by have h_ : (a1 : Int) < ((x546000_6.length : Int) : Int) := dT; first | exact h_ | (have e_ := (Kd.S_reads' HO_546000.out).1; omega) | simpa only [List.length_set, List.length_set] using h_)
                       obtain ⟨oki151, ce151, hcl151, hM151, hcc151, hok151, hbk151⟩ := Kd.S_borrow HO_546000.out z28 (a1 : Int) (dT) hq151; obtain ⟨ve151_3, ve151_4, rfl, ge151_3, ge151_4⟩ := k28_openM hM151; have hv151 := hcc151 3 _ rfl; rw [add_field _ _ 3 (by omega)] at hv151; replace hv151 := Option.some.inj (hv151.symm.trans HX551_3.out); subst hv151; clear hcc151 hcl151; replace ge151_3 := (show Kd.R (Kd.int .i64) 3 _ _ _ _ ((rd_T28 x546000_6 a1).f3) from ge151_3); have HP151 := Kd.R_putg ge151_3 (((rd_T60 t508 x161_6).f1) : Int) (rd ((rd_T28 x513000_6 a1).f3) ((rd_T60 t508 x161_6).f1)); rw [← Ny554.out] at HP151; have HS151 := hbk151 HP151.2 (fun k_ e_ => by injection e_ with e_; subst e_; exact ge151_3.1 _ rfl) (x' := (⟨(rd_T28 x546000_6 a1).f0, (rd_T28 x546000_6 a1).f1, (rd_T28 x546000_6 a1).f2, y554, (rd_T28 x546000_6 a1).f4⟩ : S28)) (k28_mkM _ _ _ (⟨(rd_T28 x546000_6 a1).f0, (rd_T28 x546000_6 a1).f1, (rd_T28 x546000_6 a1).f2, y554, (rd_T28 x546000_6 a1).f4⟩ : S28) HP151.1 (Kd.R_over' (v := (.slice (some ⟨go147, 0, none⟩) ((rd_T28 x546000_6 a1).f3).length c551_3)) ge151_4 (Kd.R_typed ge151_3) (by decide) HP151.2))
                       rw [← Ny556.out] at HS151; have HQ151 := Aside0.mk HS151; clear HP151 HS151 hbk151 hok151; refine start_ (n := 20) (S := fun w' => w'.cell? ⟨gb545, 0, none⟩ = some (.slice (some ad551) x546000_6.length co149) ∧ w'.cell? ⟨gb547, 0, none⟩ = some (.int .i64 ((rd_T60 t508 x161_6).f0)) ∧ w'.cell? ⟨gb547, 1, none⟩ = some (.int .i64 ((rd_T60 t508 x161_6).f1)) ∧ w'.cell? ⟨gb547, 2, none⟩ = some (.int .i64 ((rd_T60 t508 x161_6).f2)) ∧ w'.cell? ⟨gb547, 3, none⟩ = some (.int .i64 ((rd_T60 t508 x161_6).f3)) ∧ w'.cell? ⟨gb547, 4, none⟩ = some (.int .i64 ((rd_T60 t508 x161_6).f4)) ∧ w'.cell? ⟨gb547, 5, none⟩ = some (.slice A546_5 ((rd_T60 t508 x161_6).f5).length c546_5) ∧ w'.cell? ⟨gb512, 0, none⟩ = some (.slice (some ad552) x513000_6.length co150) ∧ w'.cell? (ad551.add ((a1).toNat * 5)) = some (.int .i64 ((rd_T28 x546000_6 a1).f0)) ∧ w'.cell? ⟨(ad551.add ((a1).toNat * 5)).block, (ad551.add ((a1).toNat * 5)).off + 1, none⟩ = some (.int .i64 ((rd_T28 x546000_6 a1).f1)) ∧ w'.cell? ⟨(ad551.add ((a1).toNat * 5)).block, (ad551.add ((a1).toNat * 5)).off + 2, none⟩ = some (.int .i64 ((rd_T28 x546000_6 a1).f2)) ∧ w'.cell? ⟨(ad551.add ((a1).toNat * 5)).block, (ad551.add ((a1).toNat * 5)).off + 3, none⟩ = some (.slice (some ⟨go147, 0, none⟩) ((rd_T28 x546000_6 a1).f3).length c551_3) ∧ w'.cell? ⟨(ad551.add ((a1).toNat * 5)).block, (ad551.add ((a1).toNat * 5)).off + 4, none⟩ = some (.slice A551_4 ((rd_T28 x546000_6 a1).f4).length c551_4) ∧ w'.cell? (ad552.add ((a1).toNat * 5)) = some (.int .i64 ((rd_T28 x513000_6 a1).f0)) ∧ w'.cell? ⟨(ad552.add ((a1).toNat * 5)).block, (ad552.add ((a1).toNat * 5)).off + 1, none⟩ = some (.int .i64 ((rd_T28 x513000_6 a1).f1)) ∧ w'.cell? ⟨(ad552.add ((a1).toNat * 5)).block, (ad552.add ((a1).toNat * 5)).off + 2, none⟩ = some (.int .i64 ((rd_T28 x513000_6 a1).f2)) ∧ w'.cell? ⟨(ad552.add ((a1).toNat * 5)).block, (ad552.add ((a1).toNat * 5)).off + 3, none⟩ = some (.slice (some ad553) ((rd_T28 x513000_6 a1).f3).length c552_3) ∧ w'.cell? ⟨(ad552.add ((a1).toNat * 5)).block, (ad552.add ((a1).toNat * 5)).off + 4, none⟩ = some (.slice A552_4 ((rd_T28 x513000_6 a1).f4).length c552_4) ∧ w'.cell? (ad553.add (((rd_T60 t508 x161_6).f1)).toNat) = some (.int .i64 (rd ((rd_T28 x513000_6 a1).f3) ((rd_T60 t508 x161_6).f1)))) (ds := [19]) B36_51 (by kernel_rfl) rfl rfl ⟨cZ0 BK545, cZ0 BK547, cZ1 BK547, cZ2 BK547, cZ3 BK547, cZ4 BK547, cZ5 BK547, cZ0 BK512, hx551_0, hx551_1, hx551_2, hx551_3, hx551_4, hx552_0, hx552_1, hx552_2, hx552_3, hx552_4, hx553_0⟩ (fun hHeld => ?_); refine with_tabW potsherdlaw20_FileDone.tab35 potsherdlaw20_FileDone.bits35 (fun HT_ HW_ => ?_); generalize wc.drew = w148 at HO_17 HO_159 HO_513000 HO_530000 HO_541000 HO_546000 BK501 BK512 BK529 BK540 BK545 BK547 HB GG147 HL551_3 HL551_4 HL552_3 HL552_4 HQ151 HR551_3 HR551_4 HR552_3 HR552_4 HX551_3 HX551_4 HX552_3 HX552_4 hf147_0 hx147_0 hx551_0 hx551_1 hx551_2 hx551_3 hx551_4 hx552_0 hx552_1 hx552_2 hx552_3 hx552_4 hx553_0 hHeld ⊢; refine pure_ (i := 0) (N := some 197) (v := ?_) (a' := ?_) B36_52 rfl rfl (any_of HT_.out (by kernel_rfl)) (fun _ _ _ h => h) (Or.inl ⟨by rfl, ?_⟩) ?_ ?_; rotate_left
                       ·
                        intro w'; go_simp; with_reducible rfl
                       rotate_left
                       ·
                        simp only [Act.put, lT, l0_, lS, i64_w, i32_w]; rfl
                       refine pE 2 199 B36_53 HT_ ?_
                       refine pE 6 203 B36_54 HT_ ?_
                       refine pE 8 205 B36_55 HT_ ?_
                       refine pE 10 207 B36_56 HT_ ?_
                       refine pE 14 211 B36_57 HT_ ?_
                       refine tE 1 198 B36_58 HT_ HW_ hHeld ?_
                       refine pE 3 200 B36_59 HT_ ?_
                       refine pE 4 201 B36_60 HT_ ?_
                       refine tE 5 202 B36_61 HT_ HW_ hHeld ?_
                       refine tE 7 204 B36_62 HT_ HW_ hHeld ?_
                       refine tE 9 206 B36_63 HT_ HW_ hHeld ?_
                       refine pE 11 208 B36_64 HT_ ?_
                       refine pE 12 209 B36_65 HT_ ?_
                       refine tE 13 210 B36_66 HT_ HW_ hHeld ?_
                       refine tE 15 212 B36_67 HT_ HW_ hHeld ?_
                       refine pE 16 213 B36_68 HT_ ?_
                       refine tE 17 214 B36_69 HT_ HW_ hHeld ?_
                       refine pE 18 215 B36_70 HT_ ?_
                       refine last_ (i := 19) (N := none) B36_71 rfl rfl (one_of HT_.out (by kernel_rfl)) (by decide) (fun K hK => ?_); refine skip_ (w1 := ?_) (by rfl) rfl ?_ ?_; rotate_left
                       ·
                        go_simp; rfl
                       refine hK.out _ _ ?_; clear hK K; refine done_ (done_of HT_.out (by kernel_rfl)) ?_
                       try go_wp2
                       (try simp only [← hl17_6])
                       go_roundg kj120
                       case measure => have := HJ4.out; have := HJ24.out; have := HK3.out; have := HK4.out; have := HJ67.out; have := HK6.out; have := HJ120.out; omega
                       case rel =>
                        have hgo_ := HL551_3.out.1 _ rfl
                        have hn_ : N0 ≤ go147 := hgo_.1.2.2.2.2
                        have hG_ := (Kd.R_putg HL551_3.out (((rd_T60 t508 x161_6).f1) : Int) (rd ((rd_T28 x513000_6 a1).f3) ((rd_T60 t508 x161_6).f1))).2
                        exact ⟨x17_6, (wrap64 (x161_6 + 1)), x513000_6, x530000_6, x541000_6, y556, _, _, _, _, sI, H', ⟨by have := HJ4.out; have := HJ24.out; have := HK3.out; have := HK4.out; have := HJ67.out; have := HK6.out; have := HJ120.out; omega⟩, ⟨by (try simp only [hl17_6]); exact Kd.R_grown2 HO_17.out rfl hG_ (fun k_ e_ => by injection e_ with e_; subst e_; exact hgo_.1.1)⟩, ⟨Kd.S_mono (Kd.S_over' (v := .slice (some ⟨go147, 0, none⟩) ((rd_T28 x546000_6 a1).f3).length c551_3) HO_159.out (Kd.R_typed HL551_3.out) (by decide) hG_) (fun _ _ => trivial)⟩, ⟨Kd.S_far HO_513000.out (fun k_ hk_ e_ => by have e2_ : k_ = go147 := e_; have h1_ : k_ < N0 := hk_.2.1.2; omega) _⟩, ⟨Kd.S_far HO_530000.out (fun k_ hk_ e_ => by have e2_ : k_ = go147 := e_; have h1_ : k_ < N0 := hk_.2.1.2; omega) _⟩, ⟨Kd.S_far HO_541000.out (fun k_ hk_ e_ => by have e2_ : k_ = go147 := e_; have h1_ : k_ < N0 := hk_.2.1.2; omega) _⟩, ⟨by (try simp only [hl17_6]); exact HQ151.out⟩, ⟨blk_grown BK501.out hG_ (Kd.R_ne HL551_3.out BK501.out (by decide))⟩, ⟨blk_grown BK512.out hG_ (Kd.R_ne HL551_3.out BK512.out (by decide))⟩, ⟨blk_grown BK529.out hG_ (Kd.R_ne HL551_3.out BK529.out (by decide))⟩, ⟨blk_grown BK540.out hG_ (Kd.R_ne HL551_3.out BK540.out (by decide))⟩, ⟨blk_grown BK545.out hG_ (Kd.R_ne HL551_3.out BK545.out (by decide))⟩, ⟨below_set HB.out GB147.out⟩⟩
                   ·
                    rw [if_neg c118] at H; have c118b0 := decide_eq_false c118; clear c118; replace H := Option.bind_eq_some_iff.mp H; obtain ⟨t557, A1530, H⟩ := H; have A153 := Aside0.mk A1530; clear A1530
                    by_cases c154 : t557 = true
                    ·
                     subst c154
                     have H1 : ((potsherdlaw20_awake.f k6).bind fun t558 => (some t558)) = some true := by rw [if_pos rfl] at H; exact H
                     clear H; have H := H1; clear H1; replace H := Option.bind_eq_some_iff.mp H; obtain ⟨t558, A1550, H⟩ := H; have A155 := Aside0.mk A1550; clear A1550; have HRET := Aside0.mk (Option.some.inj H); clear H; have hnb156 := NB545_501.out; have hnc156 := NB501_545.out; have hnb157 := NB545_512.out; have hnc157 := NB512_545.out; have hnb158 := NB545_529.out; have hnc158 := NB529_545.out; have hnb159 := NB545_540.out; have hnc159 := NB540_545.out; obtain ⟨hcz160_0, hfz160_0⟩ := cY0 BK545; have hnb161 := NB512_501.out; have hnc161 := NB501_512.out; have hnb162 := NB512_529.out; have hnc162 := NB529_512.out; have hnb163 := NB512_540.out; have hnc163 := NB540_512.out; obtain ⟨hcz164_0, hfz164_0⟩ := cY0 BK512; obtain ⟨Ao165, co165, eo165⟩ := Kd.S_slice HO_546000.out; subst eo165; obtain ⟨Ao166, co166, eo166⟩ := Kd.S_slice HO_513000.out; subst eo166
                     go_wp2_with (first | ((with_reducible refine gate_callee (f := 38) rfl ?_); refine goesK (some 219) Try.func38 #[.agg #[.slice Ao165 x546000_6.length co165], .agg #[.slice Ao166 x513000_6.length co166]] ?_; (with_reducible refine (potsherdref12_SameTree.calls k6 _ _ x546000_6 _ _ x513000_6 true _ ?side1 ?side2 ?side3 ?side4 A153.out).mono ?_); (case side1 => repeat (first | exact (Kd.S_reads' HO_546000.out).2.2 | (with_reducible refine Kd.C_alloc ?_ _) | (with_reducible refine Kd.C_drewN ?_ _) | (with_reducible refine Kd.C_drew ?_))); (case side2 => exact (Kd.S_reads' HO_546000.out).2.1); (case side3 => repeat (first | exact (Kd.S_reads' HO_513000.out).2.2 | (with_reducible refine Kd.C_alloc ?_ _) | (with_reducible refine Kd.C_drewN ?_ _) | (with_reducible refine Kd.C_drew ?_))); (case side4 => exact (Kd.S_reads' HO_513000.out).2.1); rintro e w167 ⟨rfl, hb⟩; refine ⟨_, rfl, ?_⟩; replace HO_17 := kR HO_17 hb; replace HO_159 := kS HO_159 hb; replace HO_513000 := kS HO_513000 hb; replace HO_530000 := kS HO_530000 hb; replace HO_541000 := kS HO_541000 hb; replace HO_546000 := kS HO_546000 hb; replace BK501 := kB BK501 hb; replace BK512 := kB BK512 hb; replace BK529 := kB BK529 hb; replace BK540 := kB BK540 hb; replace BK545 := kB BK545 hb; replace HB := kH HB hb; (try clear hb); (try clear hk)) | (go_at_call 33; (with_reducible refine (potsherdlaw20_awake.calls k6  t558 _ A155.out).mono ?_); rintro e w168 ⟨rfl, hb⟩; replace HO_17 := kR HO_17 hb; replace HO_159 := kS HO_159 hb; replace HO_513000 := kS HO_513000 hb; replace HO_530000 := kS HO_530000 hb; replace HO_541000 := kS HO_541000 hb; replace HO_546000 := kS HO_546000 hb; replace BK501 := kB BK501 hb; replace BK512 := kB BK512 hb; replace BK529 := kB BK529 hb; replace BK540 := kB BK540 hb; replace BK545 := kB BK545 hb; replace HB := kH HB hb; (try clear hb); (try clear hk)))
                     go_ret
                     exact ⟨rT, mH HB⟩
                    ·
                     replace c154 := Bool.eq_false_iff.mpr c154; subst c154
                     have H1 : (none) = some true := by rw [if_neg (show ¬ (false = true) by decide)] at H; exact H
                     clear H; have H := H1; clear H1; exact absurd H (by simp)
end Go.Proofs.Ytkigiehkckjlhaa.PDone
