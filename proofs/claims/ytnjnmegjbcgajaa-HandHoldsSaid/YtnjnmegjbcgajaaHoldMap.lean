/- A map of the open handles, as the kit's own map laws tell it: what is looked up, put in, taken out; conditions: those of each theorem. -/
import Derived.Test.YtnjnmegjbcgajaaHandLib
import Derived.Maps.OwnSet
import Derived.Maps.OwnOps
import Derived.Maps.Views
namespace Go.Proofs.Ytnjnmegjbcgajaa.HandHolds
set_option linter.unusedVariables false
open Go.RowKit Go.Proofs.Ytnjnmegjbcgajaa.PHand Go.Proofs.YtnjnmegjbcgajaaW.PrintWords Go.Proofs.YtnjnmegjbcgajaaW.PrintLast Go.Proofs.Ytnjnmegjbcgajaa.HandLib
open Go Go.Proofs.Ytnjnmegjbcgajaa.Plain Go.Proofs.YtnjnmegjbcgajaaW.PrintMore
/-- What a map of the open handles says: each held place its node, and no other of the four. -/
def MapIs (D : DataW Unit) (h : List Int) : Prop :=
  Maps.Tidy D ∧ (∀ p : Nat, p < 4 → Maps.has D (.int .i64 (p : Int)) = decide (h.getD p 0 ≠ -1)) ∧
  (∀ p : Nat, p < 4 → h.getD p 0 ≠ -1 → D.atKey (.int .i64 (p : Int)) (.lit (.int .i64 0)) = .lit (.int .i64 (h.getD p 0))) ∧
  Maps.size D = (h.filter fun x => decide (x ≠ -1)).length
/-- A block of the world is such a map. -/
def MapOf (w : World) (b n : Nat) (h : List Int) : Prop := ∃ D : DataW Unit, w.ownsMap Try.prog 3 (plainElem Try.prog 3) b n D ∧ MapIs D h
theorem keyLit (p : Int) : WideAt.IsKeyLit (.int .i64 p) := trivial
theorem key_ne {p q : Int} (h : p ≠ q) : (Lit.int .i64 p) ≠ (Lit.int .i64 q) := fun e => h (by injection e)
theorem MapOf_kept {w w' : World} {b n : Nat} {h : List Int} (hM : MapOf w b n h) {B : Nat} (hb : Below B w w') (hB : b < B) : MapOf w' b n h := by
  obtain ⟨D, ⟨es, clock, hc, F, hs, hD⟩, hI⟩ := hM
  exact ⟨D, ⟨es, clock, (hb.block b hB).trans hc, F, hs, hD⟩, hI⟩
theorem MapOf_mono {w : World} {b n n' : Nat} {h : List Int} (hM : MapOf w b n h) (hn : n ≤ n') : MapOf w b n' h := by
  obtain ⟨D, h1, h2⟩ := hM; exact ⟨D, h1.mono hn, h2⟩
theorem MapOf_lt {w : World} {b n : Nat} {h : List Int} (hM : MapOf w b n h) : b < w.heap.size := by
  obtain ⟨D, h1, h2⟩ := hM; exact h1.lt
theorem MapOf_obj {w : World} {b n : Nat} {h : List Int} (hM : MapOf w b n h) : ∃ es c, w.heap[b]? = some (.map es c) := by
  obtain ⟨D, ⟨es, clock, hc, _⟩, _⟩ := hM; exact ⟨es, clock, hc⟩
theorem MapOf_made (w : World) : MapOf (w.alloc (.map #[] 0)) w.heap.size 0 [-1, -1, -1, -1] := by
  refine ⟨.map [], World.ownsMap_made w _ _ _, Maps.tidy_empty, ?_, ?_, rfl⟩
  · intro p hp
    rcases p with _ | _ | _ | _ | p <;> first | rfl | omega
  · intro p hp h
    rcases p with _ | _ | _ | _ | p <;> first | exact absurd rfl h | omega
theorem below_map {B b : Nat} {w0 w w' : World} (hb : Below B w0 w) (hg : w.grownBy w' (some b)) (hB : B ≤ b) (hs : B ≤ w.heap.size) : Below B w0 w' :=
  hb.trans ⟨hg.os, hg.tape, hg.output, hg.size, fun k hk => hg.block k (by omega) (by intro e; injection e with e; omega)⟩
theorem R_map {w w' : World} {b base : Nat} {v : Value} {xs : List Int} (hr : (Kd.int .i64).R 3 w base (fun _ => True) v xs) (hM : ∃ es c, w.heap[b]? = some (.map es c)) (hg : w.grownBy w' (some b)) :
    (Kd.int .i64).R 3 w' base (fun _ => True) v xs := by
  obtain ⟨es, c, hm⟩ := hM
  refine Kd.R_mono (Kd.R_step (Kd.R_bound hr) (fun k hk hlt => hg.block k hlt ?_)) (fun _ _ => trivial)
  obtain ⟨_, _, _, q, _, cells, hc⟩ := hk
  intro e; injection e with e; subst e; rw [hm] at hc; cases hc
theorem wf_small {p : Int} (h0 : -1 ≤ p) (h1 : p < 100) : (Lit.int .i64 p).wf = true := by
  simp [Lit.wf, IntKind.min, IntKind.max, IntKind.signed, IntKind.bits]; omega
theorem getD_set4 (h : List Int) (p r : Nat) (v : Int) (hp : p < h.length) : (h.set p v).getD r 0 = if r = p then v else h.getD r 0 := by
  rw [List.getD_eq_getElem?_getD, List.getD_eq_getElem?_getD, List.getElem?_set]
  by_cases c : p = r
  · subst c; rw [if_pos rfl, if_pos rfl, if_pos hp]; rfl
  · rw [if_neg c, if_neg (fun x => c x.symm)]
theorem filter_set (h : List Int) : ∀ (p : Nat) (v : Int), p < h.length → ((h.set p v).filter fun x => decide (x ≠ -1)).length + (if h.getD p 0 = -1 then 0 else 1) = (h.filter fun x => decide (x ≠ -1)).length + (if v = -1 then 0 else 1) := by
  induction h with
  | nil => intro p v hp; simp at hp
  | cons x r ih =>
    intro p v hp
    cases p with
    | zero =>
      simp only [List.set_cons_zero, List.filter_cons, List.getD_cons_zero]
      by_cases c : x = -1 <;> by_cases c2 : v = -1 <;> simp [c, c2]
    | succ p =>
      have := ih p v (by simpa using hp)
      simp only [List.set_cons_succ, List.filter_cons, List.getD_cons_succ]
      by_cases c : x = -1
      · simp only [c, ne_eq, not_true_eq_false, decide_false, Bool.false_eq_true, if_false]; simpa using this
      · simp only [c, ne_eq, not_false_eq_true, decide_true, if_true, List.length_cons]
        have t := this
        simp only [ne_eq] at t
        omega
theorem MapIs_put {D : DataW Unit} {h : List Int} (hI : MapIs D h) (hl : h.length = 4) {p : Nat} (hp : p < 4) (h0 : h.getD p 0 = -1) {z : Int} (hz : 0 ≤ z) : MapIs (D.put (.int .i64 (p : Int)) (.lit (.int .i64 z))) (h.set p z) := by
  obtain ⟨hT, hh, ha, hs⟩ := hI
  refine ⟨hT.put (keyLit _) _, ?_, ?_, ?_⟩
  · intro r hr
    rw [getD_set4 h p r z (by omega)]
    by_cases c : r = p
    · subst c; rw [Maps.has_put_same hT.isMap (keyLit _), if_pos rfl, decide_eq_true (by omega)]
    · rw [Maps.has_put_other (key_ne (by omega)), hh r hr, if_neg c]
  · intro r hr
    rw [getD_set4 h p r z (by omega)]
    by_cases c : r = p
    · subst c; intro _; rw [Maps.atKey_put_same hT.isMap (keyLit _), if_pos rfl]
    · rw [if_neg c]; intro hn; rw [Maps.atKey_put_other (key_ne (by omega))]; exact ha r hr hn
  · rw [Maps.size_put hT, hh p hp, decide_eq_false (by simpa using h0)]
    simp only [Bool.false_eq_true, if_false]
    have := filter_set h p z (by omega)
    rw [if_pos h0, if_neg (by omega)] at this
    rw [hs]; omega
theorem MapIs_del {D : DataW Unit} {h : List Int} (hI : MapIs D h) (hl : h.length = 4) {p : Nat} (hp : p < 4) (h0 : h.getD p 0 ≠ -1) : MapIs (D.del (.int .i64 (p : Int))) (h.set p (-1)) := by
  obtain ⟨hT, hh, ha, hs⟩ := hI
  refine ⟨hT.del _, ?_, ?_, ?_⟩
  · intro r hr
    rw [getD_set4 h p r _ (by omega)]
    by_cases c : r = p
    · subst c; rw [Maps.has_del_same, if_pos rfl]; rfl
    · rw [Maps.has_del_other (key_ne (by omega)), hh r hr, if_neg c]
  · intro r hr
    rw [getD_set4 h p r _ (by omega)]
    by_cases c : r = p
    · subst c; intro hn; rw [if_pos rfl] at hn; exact absurd rfl hn
    · rw [if_neg c]; intro hn; rw [Maps.atKey_del_other (key_ne (by omega))]; exact ha r hr hn
  · have h1 := Maps.size_del (k := (.int .i64 (p : Int))) hT
    rw [hh p hp, decide_eq_true h0] at h1
    simp only [if_true] at h1
    have := filter_set h p (-1) (by omega)
    rw [if_neg h0, if_pos rfl] at this
    omega
section
variable {w : World} {ops : Array Oper} {rest : List Oper} {o : Oper} {a : Act} {Q : Exit → Act → World → Prop} {b n : Nat} {h : List Int}
/-- A held place is looked up. -/
theorem wp_look (hg : o.guard = none) (m x : Operand) (hop : o.op = Op.lookup 52 m x true) (hM : MapOf w b n h) (hm : a.eval m = .map (some b)) (p : Nat) (hp : p < 4) (hx : a.eval x = .int .i64 (p : Int))
    (hK : wpList Try.prog ops Q rest (a.put o.dst (.tuple #[.int .i64 (if h.getD p 0 = -1 then 0 else h.getD p 0), .bool (decide (h.getD p 0 ≠ -1))])) w) : wpList Try.prog ops Q (o :: rest) a w := by
  obtain ⟨D, hown, hT, hh, ha, hs⟩ := hM
  refine wpList_lookup_own_ok_int w hg m x 52 hop 3 3 .i64 (Maps.int_keyed Try.underlying3) Try.underlying52 Try.underlying3 (by kernel_rfl) b n D hm hown _ _ hx (Maps.keyOf_int_mk Try.underlying3 (wf_small (by omega) (by omega))) ?_
  intro c hc _
  have e : c = if h.getD p 0 = -1 then 0 else h.getD p 0 := by
    by_cases c1 : h.getD p 0 = -1
    · rw [if_pos c1]
      have h0 := hh p hp
      rw [decide_eq_false (by simpa using c1)] at h0
      rw [Maps.atKey_of_not_has h0] at hc
      injection hc with hc; injection hc with _ hc; exact hc.symm
    · rw [if_neg c1]
      rw [ha p hp c1] at hc
      injection hc with hc; injection hc with _ hc; exact hc.symm
  rw [e, hh p hp]; exact hK
theorem wp_look1 (hg : o.guard = none) (m x : Operand) (hop : o.op = Op.lookup 52 m x false) (hM : MapOf w b n h) (hm : a.eval m = .map (some b)) (p : Nat) (hp : p < 4) (hn : h.getD p 0 ≠ -1) (hx : a.eval x = .int .i64 (p : Int))
    (hK : wpList Try.prog ops Q rest (a.put o.dst (.int .i64 (h.getD p 0))) w) : wpList Try.prog ops Q (o :: rest) a w := by
  obtain ⟨D, hown, hT, hh, ha, hs⟩ := hM
  refine wpList_lookup_own_int w hg m x 52 hop 3 3 .i64 (Maps.int_keyed Try.underlying3) Try.underlying52 Try.underlying3 (by kernel_rfl) b n D hm hown _ _ hx (Maps.keyOf_int_mk Try.underlying3 (wf_small (by omega) (by omega))) ?_
  intro c hc _
  rw [ha p hp hn] at hc
  injection hc with hc; injection hc with _ hc
  rw [← hc]; exact hK
theorem wp_mlen (hg : o.guard = none) (m : Operand) (hop : o.op = Op.call { callee := Callee.builtin Builtin.len, args := #[m], argTypes := #[52] }) (hM : MapOf w b n h) (hm : a.eval m = .map (some b))
    (hK : wpList Try.prog ops Q rest (a.put o.dst (.int .i64 ((h.filter fun x => decide (x ≠ -1)).length : Int))) w) : wpList Try.prog ops Q (o :: rest) a w := by
  obtain ⟨D, hown, hT, hh, ha, hs⟩ := hM
  refine wpList_len_own w hg m 52 hop 3 3 Try.underlying52 _ b n D hm hown ?_
  rw [hs]; exact hK
theorem wp_mput (hg : o.guard = none) (m x v : Operand) (hop : o.op = Op.mapUpdate 52 m x v) (hM : MapOf w b n h) (hn : n < 100) (hl : h.length = 4) (hm : a.eval m = .map (some b)) (p : Nat) (hp : p < 4) (h0 : h.getD p 0 = -1) (z : Int) (hz0 : 0 ≤ z) (hz : z < 12)
    (hx : a.eval x = .int .i64 (p : Int)) (hv : a.eval v = .int .i64 z)
    (hK : ∀ w', MapOf w' b (n + 1) (h.set p z) → w.grownBy w' (some b) → wpList Try.prog ops Q rest (a.put o.dst undef) w') : wpList Try.prog ops Q (o :: rest) a w := by
  obtain ⟨D, hown, hT, hh, ha, hs⟩ := hM
  refine wpList_mapUpdate_own w hg m x v 52 hop 3 3 (Maps.int_keyed Try.underlying3) Try.underlying52 _ b n D hm hown (by unfold maxLen; omega) _ _ _ hx hv (Maps.keyOf_int_mk Try.underlying3 (wf_small (by omega) (by omega))) (.lit (.int .i64 z)) [] (plainElem_int Try.underlying3 (wf_small (by omega) (by omega))) ?_
  intro w' hown' hgr
  exact hK w' ⟨_, hown', MapIs_put ⟨hT, hh, ha, hs⟩ hl hp h0 hz0⟩ hgr
theorem wp_mdel (hg : o.guard = none) (m x : Operand) (hop : o.op = Op.call { callee := Callee.builtin Builtin.delete, args := #[m, x], argTypes := #[52, 3] }) (hM : MapOf w b n h) (hl : h.length = 4) (hm : a.eval m = .map (some b)) (p : Nat) (hp : p < 4) (h0 : h.getD p 0 ≠ -1)
    (hx : a.eval x = .int .i64 (p : Int))
    (hK : ∀ w', MapOf w' b n (h.set p (-1)) → w.grownBy w' (some b) → wpList Try.prog ops Q rest (a.put o.dst (.tuple #[])) w') : wpList Try.prog ops Q (o :: rest) a w := by
  obtain ⟨D, hown, hT, hh, ha, hs⟩ := hM
  refine wpList_delete_own w hg m x 52 3 hop 3 (Maps.int_keyed Try.underlying3) Try.underlying52 _ b n D hm hown _ _ hx (Maps.keyOf_int_mk Try.underlying3 (wf_small (by omega) (by omega))) ?_
  intro w' hown' ht
  exact hK w' ⟨_, hown', MapIs_del ⟨hT, hh, ha, hs⟩ hl hp h0⟩ ht.grown
end
theorem free_none (h : List Int) : ∀ i : Int, 0 ≤ i → free h i < 0 → ∀ p, p < h.length → h.getD p 0 ≠ -1 := by
  induction h with
  | nil => intro i _ _ p hp; simp at hp
  | cons x r ih =>
    intro i hi hf p hp
    simp only [free] at hf
    by_cases c : x = -1
    · rw [if_pos c] at hf; omega
    · rw [if_neg c] at hf
      cases p with
      | zero => simpa using c
      | succ p => simpa using ih (i + 1) (by omega) hf p (by simpa using hp)
theorem free_before (h : List Int) : ∀ i : Int, 0 ≤ i → ∀ j : Nat, free h i = i + j → ∀ p, p < j → p < h.length → h.getD p 0 ≠ -1 := by
  induction h with
  | nil => intro i _ j _ p _ hp; simp at hp
  | cons x r ih =>
    intro i hi j hf p hpj hp
    simp only [free] at hf
    by_cases c : x = -1
    · rw [if_pos c] at hf; omega
    · rw [if_neg c] at hf
      cases p with
      | zero => simpa using c
      | succ p => simpa using ih (i + 1) (by omega) (j - 1) (by omega) p (by omega) (by simpa using hp)
theorem full_len {h : List Int} (c : okH h) (hf : free h 0 < 0) : ((h.filter fun x => decide (x ≠ -1)).length : Int) = 4 := by
  have h1 := free_none h 0 (Int.le_refl _) hf
  have : (h.filter fun x => decide (x ≠ -1)) = h := by
    rw [List.filter_eq_self]
    intro x hx
    obtain ⟨i, hi, rfl⟩ := List.getElem_of_mem hx
    have := h1 i hi
    rw [List.getD_eq_getElem?_getD, List.getElem?_eq_getElem hi] at this
    exact decide_eq_true this
  rw [this, c.1]; rfl
theorem fold_get (l : List Int) : ∀ (a : List Bool) (n : Nat), (∀ x ∈ l, -1 ≤ x ∧ x < 12) → a.length = 12 → n < 12 → (l.foldl hstep a).getD n false = (a.getD n false || l.any (fun x => x == (n : Int))) := by
  induction l with
  | nil => intro a n _ _ _; simp
  | cons x r ih =>
    intro a n hx ha hn
    have hx0 := hx x (by simp)
    simp only [List.foldl_cons, List.any_cons]
    rw [ih (hstep a x) n (fun y hy => hx y (by simp [hy])) (by unfold hstep; split <;> simp [ha]) hn, ← Bool.or_assoc]
    congr 1
    unfold hstep
    by_cases c : x = -1
    · rw [if_pos c, show (x == (n : Int)) = false from beq_eq_false_iff_ne.2 (by omega), Bool.or_false]
    · rw [if_neg c]
      rw [List.getD_eq_getElem?_getD, List.getD_eq_getElem?_getD, List.getElem?_set]
      by_cases d : x.toNat = n
      · rw [if_pos d, if_pos (by omega), show (x == (n : Int)) = true from beq_iff_eq.2 (by omega), Bool.or_true]; rfl
      · rw [if_neg d, show (x == (n : Int)) = false from beq_eq_false_iff_ne.2 (by omega), Bool.or_false]
theorem held_get {h : List Int} (c : okH h) {n : Nat} (hn : n < 12) : (heldH h).getD n false = h.any (fun x => x == (n : Int)) := by
  unfold heldH
  rw [if_pos c, fold_get h _ n c.2 (by simp) hn]
  have : (List.replicate 12 false).getD n false = false := by rw [List.getD_eq_getElem?_getD, List.getElem?_replicate]; split <;> rfl
  rw [this, Bool.false_or]
theorem held_len {h : List Int} (c : okH h) : (heldH h).length = 12 := by
  unfold heldH; rw [if_pos c, hstep_len]; simp
/-- Some of the first places holds the node. -/
def anyTo (h : List Int) (n : Int) (p : Nat) : Bool := (h.take p).any fun x => x == n
theorem anyTo_step {h : List Int} {p : Nat} (hp : p < h.length) (n : Int) : anyTo h n (p + 1) = (anyTo h n p || (h.getD p 0 == n)) := by
  unfold anyTo
  rw [List.take_succ_eq_append_getElem hp, List.any_append, List.getD_eq_getElem?_getD, List.getElem?_eq_getElem hp]
  simp
theorem anyTo_all {h : List Int} (n : Int) (c : okH h) : anyTo h n 4 = h.any (fun x => x == n) := by
  unfold anyTo; rw [show h.take 4 = h from List.take_of_length_le (by rw [c.1]; exact Nat.le_refl _)]
section
variable {w : World} {ops : Array Oper} {rest : List Oper} {o : Oper} {a : Act} {Q : Exit → Act → World → Prop} {b n : Nat} {h : List Int}
theorem wp_held (hg : o.guard = none) (m x : Operand) (hop : o.op = Op.lookup 52 m x true) (hM : MapOf w b n h) (hm : a.eval m = .map (some b)) (p : Nat) (hp : p < 4) (hn : h.getD p 0 ≠ -1) (hx : a.eval x = .int .i64 (p : Int))
    (hK : wpList Try.prog ops Q rest (a.put o.dst (.tuple #[.int .i64 (h.getD p 0), .bool true])) w) : wpList Try.prog ops Q (o :: rest) a w := by
  refine wp_look hg m x hop hM hm p hp hx ?_
  rw [if_neg hn, decide_eq_true hn]; exact hK
theorem wp_free (hg : o.guard = none) (m x : Operand) (hop : o.op = Op.lookup 52 m x true) (hM : MapOf w b n h) (hm : a.eval m = .map (some b)) (p : Nat) (hp : p < 4) (hn : h.getD p 0 = -1) (hx : a.eval x = .int .i64 (p : Int))
    (hK : wpList Try.prog ops Q rest (a.put o.dst (.tuple #[.int .i64 0, .bool false])) w) : wpList Try.prog ops Q (o :: rest) a w := by
  refine wp_look hg m x hop hM hm p hp hx ?_
  rw [if_pos hn, decide_eq_false (by simpa using hn)]; exact hK
end
end Go.Proofs.Ytnjnmegjbcgajaa.HandHolds
