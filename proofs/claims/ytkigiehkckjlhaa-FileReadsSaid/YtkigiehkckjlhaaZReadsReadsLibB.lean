/- What file.Write makes of a tree: the printed functions tell it within the reach; no other condition. -/
import Derived.Test.YtkigiehkckjlhaaZReadsReadsLibA
namespace Go.Proofs.Ytkigiehkckjlhaa.ReadsLib
set_option linter.unusedVariables false
set_option linter.unusedSimpArgs false
open Go.RowKit Go.Proofs.Ytkigiehkckjlhaa.PReads Go.Proofs.YtkigiehkckjlhaaW.PrintWords
open Go Go.Proofs.Ytkigiehkckjlhaa.Plain Go.Proofs.YtkigiehkckjlhaaW.PrintMore
theorem dm_ok : ∀ (l : List S28) (i : Int), (∀ x ∈ l, okX x) → (∀ x ∈ l, reach x) → Ev (fun k => dmBad k l i) (-1)
  | [], i, _, _ => Ev.now _
  | x :: r, i, hX, hr => by
    have h1 := hr x (by simp)
    refine ((node_tells x.f0 x.f1 x.f2 x.f3 x.f4 h1.1 h1.2).yes (hX x (by simp))).bind ?_
    simpa using dm_ok r (i + 1) (fun y hy => hX y (by simp [hy])) (fun y hy => hr y (by simp [hy]))
theorem node64_ev (l : List S28) (hl : l.length = 12) (hX : ∀ x ∈ l, okX x) (hr : ∀ x ∈ l, reach x) : Ev (fun k => api_Node_64.f k l) false := by
  unfold api_Node_64.f
  simp only [if_pos hl]
  exact (dm_ok l 0 hX hr).bind (Ev.now _)
def nmL (g : Nat → Int) : List Int := (List.range 12).map g
theorem nmL_get (g : Nat → Int) (a : Nat) (h : a < 12) : (nmL g).getD a 0 = g a := by
  unfold nmL; rw [qG, List.getElem?_map, List.getElem?_range h]; rfl
theorem nmL_set (g : Nat → Int) (n : Nat) (v : Int) : (nmL g).set n v = nmL (fun a => if a = n then v else g a) := by
  unfold nmL
  apply List.ext_getElem?
  intro j
  rw [List.getElem?_set, List.length_map, List.length_range, List.getElem?_map, List.getElem?_map]
  by_cases c : n = j
  · subst c
    by_cases c2 : n < 12
    · rw [if_pos rfl, if_pos c2, List.getElem?_range c2]; simp
    · rw [if_pos rfl, if_neg c2, List.getElem?_eq_none (by rw [List.length_range]; omega)]; rfl
  · rw [if_neg c]
    by_cases c2 : j < 12
    · rw [List.getElem?_range c2]; simp [show ¬ j = n from fun x => c x.symm]
    · rw [List.getElem?_eq_none (by rw [List.length_range]; omega)]; rfl
theorem names_ev (l : List S28) (hl : l.length = 12) (hX : ∀ x ∈ l, okX x) : Ev (fun k => dir_names.f k l) (nmL fun a => (named l a : Int)) := by
  unfold dir_names.f
  have hpre : ∀ (i : Nat) (a : Int), named (l.take i) a ≤ 120 := fun i a => by
    have := named_le (l := l.take i) (fun x hx => hX x (List.mem_of_mem_take hx)) a
    rw [List.length_take] at this; omega
  have e0 : (List.replicate ((l.length : Int)).toNat 0 : List Int) = nmL fun a => (named (l.take 0) a : Int) := by
    rw [hl]; rfl
  simp only [if_pos (show (0 : Int) ≤ (l.length : Int) from by omega), if_pos (show ((l.length : Int)).toNat ≤ 35184372088832 from by omega), e0]
  refine Ev_fold (g := fun k s i => dir_names.l0 k s l (l.length : Int) i) l.length (fun i => nmL fun a => (named (l.take i) a : Int)) _ ?_ ?_
  · refine Ev.step (f := fun _ => some (nmL fun a => (named l a : Int))) (fun k => ?_) (Ev.now _)
    simp only [dir_names.l0]; rw [if_neg (by omega), List.take_length]
  · intro i hi r hr
    refine Ev.step (fun k => by simp only [dir_names.l0]; rw [if_pos (by omega), if_pos (by omega), if_pos (by omega), rd28]) ?_
    have hxm := hX _ (getD_mem l hi)
    have hx := okN_len hxm
    have hents := okX_ents hxm
    generalize hxe : l.getD i z28 = x at hx hents
    have hnx : ∀ a : Int, named (l.take (i + 1)) a = named (l.take i) a + x.f4.countP (fun y => decide (y.f1 = a)) := by
      intro a
      rw [take_getD l z28 hi, hxe]; unfold named; rw [List.flatMap_append, List.countP_append]; simp
    have hp := hpre i
    generalize hS : (fun a : Int => named (l.take i) a) = S at hnx
    have hS' : ∀ a : Int, named (l.take i) a = S a := fun a => congrFun hS a
    simp only [hS'] at hnx hp ⊢
    have k2 := Ev_fold (g := fun k s j => dir_names.l1 k s l (l.length : Int) i x.f4 (x.f4.length : Int) j) x.f4.length (fun j => nmL fun a => ((S a + (x.f4.take j).countP (fun y => decide (y.f1 = (a : Int))) : Nat) : Int)) r ?_ ?_
    · simpa using k2
    · refine Ev.step (fun k => by simp only [dir_names.l1]; rw [if_neg (by omega), w64 (a := (i : Int) + 1) (by omega) (by omega), List.take_length]) ?_
      simp only [hnx] at hr; exact hr
    · intro j hj r' h'
      refine Ev.step (fun k => ?_) h'
      have h2 : ∀ a : Int, (x.f4.take j).countP (fun y => decide (y.f1 = a)) ≤ 10 := fun a => by
        have := List.countP_le_length (p := fun y : S78 => decide (y.f1 = a)) (l := x.f4.take j)
        rw [List.length_take] at this; omega
      have hy := hents _ (mem_getD78 hj)
      simp only [dir_names.l1]
      rw [if_pos (by omega), if_pos (by omega), if_pos (by omega), rd78]
      generalize hY : x.f4.getD j z78 = y at hy
      obtain ⟨n, hn⟩ : ∃ n : Nat, y.f1 = n := ⟨y.f1.toNat, by omega⟩
      have hlen : ∀ g, (nmL g).length = 12 := fun g => by unfold nmL; rw [List.length_map, List.length_range]
      rw [hn, if_pos (by omega), if_pos (by rw [hlen]; omega), if_pos (by omega), rdn, nmL_get _ _ (by omega), Int.toNat_natCast, nmL_set, w64 (a := (j : Int) + 1) (by omega) (by omega)]
      have hb := hp (n : Int)
      have hc := h2 (n : Int)
      rw [w64 (by omega) (by omega)]
      congr 2
      funext a
      rw [take_getD x.f4 z78 hj, hY, List.countP_append]
      simp only [List.countP_cons, List.countP_nil, hn]
      by_cases c : a = n
      · subst c; rw [if_pos rfl]; simp; omega
      · rw [if_neg c, qF (by omega)]; simp
def good (l : List S28) (r : List Bool) : Prop := r.length = 12 ∧ r.getD 0 false = true ∧ ∀ x, x < 12 → r.getD x false = true → ∀ y ∈ (l.getD x z28).f4, r.getD y.f1.toNat false = true
theorem count_set {m : List Bool} {n : Nat} (h : n < m.length) (h0 : m.getD n false ≠ true) : (m.set n true).count false + 1 = m.count false := by
  rw [qG, List.getElem?_eq_getElem h] at h0
  have h0 : m[n] = false := by cases hh : m[n] with | false => rfl | true => exact absurd hh h0
  have hp : 0 < m.count false := List.count_pos_iff.2 (h0 ▸ List.getElem_mem h)
  unfold List.count at hp ⊢
  rw [List.countP_set h, h0]
  simp only [beq_self_eq_true, if_true]
  have : ((true == false) = true) = False := by simp
  rw [if_neg (by simp)]
  omega
theorem below_in (l : List S28) (hl : l.length = 12) (hX : ∀ x ∈ l, okX x) (d : Nat) (hd : d ≤ 1000)
    (ih : ∀ met todo, met.length = 12 → (∀ t ∈ todo, (0 : Int) ≤ t ∧ t < 12) → met.getD 0 false = true → (∀ x : Nat, x < 12 → met.getD x false = true → (x : Int) ∈ todo ∨ ∀ y ∈ (l.getD x z28).f4, met.getD y.f1.toNat false = true) → 2 * met.count false + todo.length ≤ d → ∃ r, Ev (fun k => dir_below.l0 k met todo l) r ∧ good l r)
    (cur : Nat) (hc : cur < 12) :
    ∀ m j : Nat, j + m = (l.getD cur z28).f4.length → ∀ (met : List Bool) (todo : List Int), met.length = 12 → (∀ t ∈ todo, (0 : Int) ≤ t ∧ t < 12) → met.getD 0 false = true →
      (∀ x : Nat, x < 12 → met.getD x false = true → ((x : Int) ∈ todo ∨ x = cur) ∨ ∀ y ∈ (l.getD x z28).f4, met.getD y.f1.toNat false = true) → (∀ i, i < j → met.getD ((l.getD cur z28).f4.getD i z78).f1.toNat false = true) → 2 * met.count false + todo.length ≤ d →
      ∃ r, Ev (fun k => dir_below.l1 k met todo (l.getD cur z28).f4 ((l.getD cur z28).f4.length : Int) j l) r ∧ good l r := by
  intro m
  induction m with
  | zero =>
    intro j hj met todo hm ht h0 hcl hdone hmu
    obtain ⟨r, h1, h2⟩ := ih met todo hm ht h0 (fun x hx hxm => by
      rcases hcl x hx hxm with (h | h) | h
      · exact Or.inl h
      · right; subst h; intro y hy
        obtain ⟨i, hi, rfl⟩ := List.getElem_of_mem hy
        have := hdone i (by omega)
        rwa [qG (l := (l.getD x z28).f4), List.getElem?_eq_getElem hi] at this
      · exact Or.inr h) hmu
    refine ⟨r, Ev.step (fun k => ?_) h1, h2⟩
    simp only [dir_below.l1]; rw [if_neg (by omega)]
  | succ m ihm =>
    intro j hj met todo hm ht h0 hcl hdone hmu
    have hx := hX _ (getD_mem l (i := cur) (by omega))
    have hlen := (okN_len hx).2
    have hy := okX_ents hx _ (mem_getD78 (l := (l.getD cur z28).f4) (i := j) (by omega))
    generalize hY : (l.getD cur z28).f4.getD j z78 = y at hy
    have e1 : ((j + 1 : Nat) : Int) = (j : Int) + 1 := by push_cast; rfl
    obtain ⟨n, hn⟩ : ∃ n : Nat, y.f1 = n := ⟨y.f1.toNat, by omega⟩
    by_cases c : met.getD n false = true
    · obtain ⟨r, h1, h2⟩ := ihm (j + 1) (by omega) met todo hm ht h0 hcl (fun i hi => by
        by_cases ci : i = j
        · subst ci; rw [hY, hn, Int.toNat_natCast]; exact c
        · exact hdone i (by omega)) hmu
      refine ⟨r, Ev.step (fun k => ?_) h1, h2⟩
      simp only [dir_below.l1]
      rw [if_pos (by omega), if_pos (by omega), if_pos (by omega), rd78, hY, hn, if_pos (by omega), if_pos (by omega), rdB, if_pos c, w64 (a := (j : Int) + 1) (by omega) (by omega), e1]
    · have hn12 : n < 12 := by omega
      have hcnt := count_set (by omega) c
      have hset : ∀ z, met.getD z false = true → (met.set n true).getD z false = true := fun z hz => by rw [set_getD]; split <;> first | rfl | exact hz
      obtain ⟨r, h1, h2⟩ := ihm (j + 1) (by omega) (met.set n true) (todo ++ [(n : Int)]) (by rw [List.length_set]; exact hm)
        (fun t ht' => by rcases List.mem_append.1 ht' with h | h; exact ht t h; rw [List.mem_singleton] at h; omega) (hset _ h0)
        (fun x hx hxm => by
          by_cases cx : x = n
          · left; left; rw [cx]; simp
          · rw [set_getD, if_neg (fun h => cx h.1.symm)] at hxm
            rcases hcl x hx hxm with (h | h) | h
            · exact Or.inl (Or.inl (List.mem_append.2 (Or.inl h)))
            · exact Or.inl (Or.inr h)
            · exact Or.inr (fun z hz => hset _ (h z hz)))
        (fun i hi => by
          by_cases ci : i = j
          · subst ci; rw [hY, hn, Int.toNat_natCast, set_getD, if_pos ⟨rfl, by omega⟩]
          · exact hset _ (hdone i (by omega)))
        (by rw [List.length_append]; simp only [List.length_singleton]; omega)
      refine ⟨r, Ev.step (fun k => ?_) h1, h2⟩
      simp only [dir_below.l1]
      rw [if_pos (by omega), if_pos (by omega), if_pos (by omega), rd78, hY, hn, if_pos (by omega), if_pos (by omega), rdB, if_neg c, if_pos (by omega), w64 (a := (j : Int) + 1) (by omega) (by omega), e1, Int.toNat_natCast]
theorem below_out (l : List S28) (hl : l.length = 12) (hX : ∀ x ∈ l, okX x) : ∀ d : Nat, d ≤ 1000 → ∀ met todo, met.length = 12 → (∀ t ∈ todo, (0 : Int) ≤ t ∧ t < 12) → met.getD 0 false = true → (∀ x : Nat, x < 12 → met.getD x false = true → (x : Int) ∈ todo ∨ ∀ y ∈ (l.getD x z28).f4, met.getD y.f1.toNat false = true) → 2 * met.count false + todo.length ≤ d → ∃ r, Ev (fun k => dir_below.l0 k met todo l) r ∧ good l r := by
  intro d
  induction d with
  | zero =>
    intro _ met todo hm ht h0 hcl hmu
    have : todo = [] := List.length_eq_zero_iff.1 (by omega)
    subst this
    refine ⟨met, Ev.step (f := fun _ => some met) (fun k => by simp only [dir_below.l0]; rw [if_neg (by simp)]) (Ev.now _), hm, h0, fun x hx hxm => ?_⟩
    rcases hcl x hx hxm with h | h
    · cases h
    · exact h
  | succ d ih =>
    intro hd met todo hm ht h0 hcl hmu
    rcases List.eq_nil_or_concat todo with rfl | ⟨ts, t, rfl⟩
    · refine ⟨met, Ev.step (f := fun _ => some met) (fun k => by simp only [dir_below.l0]; rw [if_neg (by simp)]) (Ev.now _), hm, h0, fun x hx hxm => ?_⟩
      rcases hcl x hx hxm with h | h
      · cases h
      · exact h
    · rw [List.concat_eq_append] at *
      have htt := ht t (by simp)
      obtain ⟨cur, hcur⟩ : ∃ n : Nat, t = n := ⟨t.toNat, by omega⟩
      subst hcur
      have hlen : (ts ++ [(cur : Int)]).length = ts.length + 1 := by simp
      rw [hlen] at hmu
      obtain ⟨r, h1, h2⟩ := below_in l hl hX d (by omega) (ih (by omega)) cur (by omega) _ 0 (by rw [Nat.zero_add]) met ts hm (fun z hz => ht z (by simp [hz])) h0
        (fun x hx hxm => by
          rcases hcl x hx hxm with h | h
          · rcases List.mem_append.1 h with h | h
            · exact Or.inl (Or.inl h)
            · rw [List.mem_singleton] at h; exact Or.inl (Or.inr (by omega))
          · exact Or.inr h) (fun i hi => absurd hi (by omega)) (by omega)
      refine ⟨r, Ev.step (fun k => ?_) h1, h2⟩
      have e1 : wrap64 (((ts ++ [(cur : Int)]).length : Int) - 1) = (ts.length : Int) := by rw [hlen, w64 (by omega) (by omega)]; omega
      have e2 : rd (ts ++ [(cur : Int)]) (ts.length : Int) = (cur : Int) := by rw [rdn, qG]; simp
      have e3 : (ts ++ [(cur : Int)]).take ts.length = ts := by simp
      simp only [dir_below.l0, e1]
      rw [hlen, if_pos (by omega), if_pos (by omega), if_pos (by omega), if_pos (by omega), e2, if_pos (by omega), if_pos (by omega), Int.toNat_natCast, e3, rd28]; rfl
theorem below_ev (l : List S28) (hl : l.length = 12) (hX : ∀ x ∈ l, okX x) : ∃ r, Ev (fun k => dir_below.f k l 0) r ∧ good l r := by
  obtain ⟨r, h1, h2⟩ := below_out l hl hX 1000 (by omega) ((List.replicate 12 false).set 0 true) [0] (by simp) (by simp) (by decide) (fun x hx hxm => by
    left
    rw [set_getD] at hxm
    by_cases c : 0 = x
    · subst c; simp
    · rw [if_neg (fun h => c h.1)] at hxm
      exfalso
      rw [qG, List.getElem?_replicate] at hxm
      split at hxm <;> cases hxm) (by decide)
  refine ⟨r, ?_, h2⟩
  unfold dir_below.f
  simp only [if_pos (show (0 : Int) ≤ (l.length : Int) from by omega), if_pos (show ((l.length : Int)).toNat ≤ 281474976710656 from by omega), Option.bind_some, List.length_replicate]
  have : ((l.length : Int)).toNat = 12 := by omega
  simp only [this, if_pos (show (0 : Int) ≤ 0 from by decide), if_pos (show (0 : Int) < ((12 : Nat) : Int) from by decide)]
  exact h1
def from0 (l : List S28) (j : Nat) : Prop := ∀ M : Nat → Prop, M 0 → (∀ x, x < 12 → M x → ∀ y ∈ (l.getD x z28).f4, M y.f1.toNat) → M j
def tied (l : List S28) : Prop := (l.getD 0 z28).f0 = 2 ∧ ∀ j, j < 12 → ((l.getD j z28).f0 = 2 → from0 l j ∧ (0 < j → named l j = 1)) ∧ ((l.getD j z28).f0 = 1 → (l.getD j z28).f1 = named l j) ∧ ((l.getD j z28).f0 ≠ 1 → (l.getD j z28).f0 ≠ 2 → named l j = 0)
theorem apseqs_tells : ∀ (q seen : List Int), seen.length + q.length ≤ 1000 → (∀ s ∈ q, (Lit.int .i64 s).wf = true) → ∃ o, apSeqs seen q = some o ∧ (o = none ∨ o = some (q.reverse ++ seen)) ∧ (o = some (q.reverse ++ seen) ↔ seqOk seen q)
  | [], seen, _, _ => ⟨some seen, rfl, Or.inr rfl, by simp [seqOk]⟩
  | s :: r, seen, hl, hw => by
    simp only [List.length_cons] at hl
    simp only [apSeqs]
    rw [if_pos (hw s (by simp)), if_pos (by omega)]
    by_cases c : s ≠ 0 ∧ s ∈ seen
    · rw [if_pos c]
      exact ⟨none, rfl, Or.inl rfl, by simp only [reduceCtorEq, false_iff, seqOk]; exact fun x => x.1 c⟩
    · rw [if_neg c]
      obtain ⟨o, h1, h2, h3⟩ := apseqs_tells r (s :: seen) (by simp only [List.length_cons]; omega) (fun z hz => hw z (by simp [hz]))
      simp only [List.reverse_cons, List.append_assoc, List.singleton_append]
      refine ⟨o, h1, h2, h3.trans ?_⟩
      simp only [seqOk]
      exact ⟨fun x => ⟨c, x⟩, fun x => x.2⟩
theorem apscan_tells : ∀ (r : List S28) (seen : List Int), seen.length + 5 * r.length ≤ 1000 → (∀ x ∈ r, okX x) → ∃ o, apScan seen r = some o ∧ (o.isSome = true ↔ seqOk seen (r.flatMap (·.f3)))
  | [], seen, _, _ => ⟨some seen, rfl, by simp [seqOk]⟩
  | x :: r, seen, hs, hX => by
    have c1 := hX x (by simp)
    have hq := okN_len c1
    simp only [List.length_cons] at hs
    obtain ⟨o, s1, s2, s3⟩ := apseqs_tells x.f3 seen (by omega) (okX_wf c1)
    simp only [apScan, s1, Option.bind_some, List.flatMap_cons, seqOk_append]
    rcases s2 with rfl | rfl
    · refine ⟨none, rfl, ?_⟩
      simp only [Option.isSome_none, Bool.false_eq_true, false_iff]
      intro h
      have := s3.2 h.1
      cases this
    · have s3 := s3.1 rfl
      obtain ⟨o, h1, h2⟩ := apscan_tells r (x.f3.reverse ++ seen) (by simp only [List.length_append, List.length_reverse]; omega) (fun z hz => hX z (by simp [hz]))
      exact ⟨o, h1, h2.trans ⟨fun h => ⟨s3, h⟩, fun h => h.2⟩⟩
theorem apart_tells (l : List S28) (hl : l.length = 12) (hX : ∀ x ∈ l, okX x) : ∃ b, dir_apart.f l = some b ∧ (b = true ↔ seqOk [] (l.flatMap (·.f3))) := by
  obtain ⟨o, h1, h2⟩ := apscan_tells l [] (by simp [hl]) hX
  refine ⟨o.isSome, ?_, h2⟩
  unfold dir_apart.f
  rw [if_pos hl, h1]; rfl
theorem hangs_ok {l : List S28} (hX : ∀ x ∈ l, okX x) (hl : l.length = 12) (ht : tied l) {r : List Bool} (hg : good l r) (j : Nat) (hj : j < 12) :
    dir_hangs.f (l.getD j z28).f0 (l.getD j z28).f1 (l.getD j z28).f2 (l.getD j z28).f3 (l.getD j z28).f4 (j : Int) (named l j : Int) (r.getD j false) = some true := by
  obtain ⟨h1, h2, h3⟩ := ht.2 j hj
  unfold dir_hangs.f
  by_cases c2 : (l.getD j z28).f0 = 2
  · rw [if_pos c2]
    obtain ⟨m1, m2⟩ := h1 c2
    have hm := m1 (fun x => r.getD x false = true) hg.2.1 (fun x hx hxm => hg.2.2 x hx hxm)
    rw [if_pos hm]
    by_cases c0 : (j : Int) = 0
    · rw [if_pos c0]
    · rw [if_neg c0, m2 (by omega)]; rfl
  · rw [if_neg c2]
    by_cases c1 : (l.getD j z28).f0 = 1
    · rw [if_pos c1, h2 c1]; simp
    · rw [if_neg c1, h3 c1 c2]; rfl
theorem dirmay_tells (l : List S28) (hl : l.length = 12) (hX : ∀ x ∈ l, okX x) (hr : ∀ x ∈ l, reach x) (ht : tied l) : Tells (fun k => dir_May.f k l) (seqOk [] (l.flatMap (·.f3))) := by
  obtain ⟨b, a1, a2⟩ := apart_tells l hl hX
  obtain ⟨r, b1, b2⟩ := below_ev l hl hX
  refine ⟨b, ?_, a2⟩
  unfold dir_May.f
  simp only [if_pos (show (l.length : Int) = 12 from by omega)]
  refine (node64_ev l hl hX hr).bind ?_
  have h0 : ((rU l 0).f0 != 2) = false := by have := ht.1; simp only [bne_eq_false_iff_eq]; exact this
  simp only [Bool.false_eq_true, if_false, if_pos (show (0 : Int) < (l.length : Int) from by omega), h0]
  refine Ev.step (fun k => by simp only [dir_May.j0, Bool.false_eq_true, if_false]; rfl) ((names_ev l hl hX).bind (b1.bind ?_))
  refine Ev_fold (g := fun k (_ : Unit) i => dir_May.l0 k (nmL fun a => (named l a : Int)) r l (l.length : Int) i l) l.length (fun _ => ()) b ?_ ?_
  · refine Ev.step (f := fun _ => some b) (fun k => ?_) (Ev.now _)
    simp only [dir_May.l0]; rw [if_neg (by omega), a1]; rfl
  · intro i hi b' h'
    refine Ev.step (fun k => ?_) h'
    have hlen : ∀ g, (nmL g).length = 12 := fun g => by unfold nmL; rw [List.length_map, List.length_range]
    simp only [dir_May.l0]
    rw [if_pos (by omega), if_pos (by omega), if_pos (by omega), if_pos (by rw [hlen]; omega), if_pos (by have := b2.1; omega), rd28, rdn, nmL_get _ _ (by omega), rdB, hangs_ok hX hl ht b2 i (by omega)]
    simp only [Option.bind_some, if_true]
    rw [w64 (a := (i : Int) + 1) (by omega) (by omega)]
theorem from0_marks (l : List S28) (hX : ∀ x ∈ l, okX x) : marks l (fun on => ∀ j, on.getD j false = true → from0 l j) where
  start := by
    intro j hj M m0 hM
    rw [set_getD] at hj
    by_cases c : 0 = j
    · subst c; exact m0
    · rw [if_neg (fun h => c h.1)] at hj
      exfalso
      rw [qG, List.getElem?_replicate] at hj
      split at hj <;> cases hj
  step := by
    intro on x _ hI hx hxm y hy _ j hj M m0 hM
    rw [set_getD] at hj
    by_cases c : y.f1.toNat = j
    · subst c
      exact hM x hx (hI x hxm M m0 hM) y hy
    · rw [if_neg (fun h => c h.1)] at hj
      exact hI j hj M m0 hM
theorem tree_tied {l : List S28} (h : treeP l) : tied l := by
  obtain ⟨hl, h2, hs, on, ho, he, hh⟩ := h
  obtain ⟨on', e1, _, e3⟩ := reached_ev l hl hs.1 h2 _ (from0_marks l hs.1)
  obtain rfl := Ev.one he e1
  refine ⟨h2, fun j hj => ⟨fun c => ?_, fun c => ?_, fun c1 c2 => ?_⟩⟩
  · have := (hh j hj).1 c
    exact ⟨e3 j this.1, this.2⟩
  · exact (hh j hj).2 c
  · have hx := hs.1 _ (getD_mem l (i := j) (by omega))
    have c0 : (l.getD j z28).f0 = 0 := by
      rcases hx with h | h | h
      · exact h.1
      · exact absurd h.1 c1
      · exact absurd h.1 c2
    unfold named
    rw [List.countP_eq_zero]
    intro y hy
    rw [List.mem_flatMap] at hy
    obtain ⟨x, hx, hy⟩ := hy
    have := hs.2.1 x hx y hy
    have hye := okX_ents (hs.1 x hx) y hy
    simp only [decide_eq_true_eq]
    intro e
    rw [e] at this
    apply this
    rw [rd28]; exact c0
theorem dircopy_ev (l : List S28) (hl : l.length = 12) (hX : ∀ x ∈ l, okX x) : Ev (fun k => dir_Copy.f k l) l := by
  unfold dir_Copy.f
  have key := Ev_fold (g := fun k s i => dir_Copy.l0 k l (l.length : Int) i s) l.length (fun i => l.take i) l ?_ ?_
  · simpa using key
  · refine Ev.step (f := fun _ => some l) (fun k => ?_) (Ev.now _)
    simp only [dir_Copy.l0]; rw [if_neg (by omega), List.take_length]
  · intro i hi r hr
    have hx := okN_len (hX _ (getD_mem l hi))
    refine Ev.step (fun k => ?_) hr
    simp only [dir_Copy.l0]
    rw [if_pos (by omega), if_pos (by omega), if_pos (by omega), rd28, copy_is _ _ _ _ _ (by omega) (by omega)]
    simp only [Option.bind_some]
    rw [if_pos (by rw [List.length_take]; omega), w64 (a := (i : Int) + 1) (by omega) (by omega), take_getD l z28 hi]
structure fileAt (l : List S28) (i : Nat) : Prop where
  len : l.length = 12
  all : ∀ x ∈ l, okX x
  small : ∀ x ∈ l, reach x
  tie : tied l
  seqs : seqOk [] (l.flatMap (·.f3))
  lt : i < 12
  kind : (l.getD i z28).f0 = 1
theorem fileAt.may {l : List S28} {i : Nat} (h : fileAt l i) : Ev (fun k => dir_May.f k l) true := (dirmay_tells l h.len h.all h.small h.tie).yes h.seqs
theorem fileAt.is {l : List S28} {i : Nat} (h : fileAt l i) : Ev (fun k => file_is.f k l i) true := by
  have hl := h.len
  have hi := h.lt
  unfold file_is.f
  refine h.may.bind ?_
  simp only [if_true]
  refine Ev.const (o := some true) (fun k => ?_) rfl
  rw [if_pos (by omega), if_pos (by omega), if_pos (by omega), rd28, h.kind]; rfl
def lensOk : Int → List S41 → Bool
  | _, [] => true
  | n, p :: r => decide (0 ≤ p.f2 ∧ p.f2 ≤ n) && lensOk (n - p.f2) r
theorem pgs_all2 : ∀ a : Fin 81, ∀ n : Fin 81, a.val + n.val ≤ 80 → (span_Pieces.l0 20 (a.val : Int) (n.val : Int) []).map (fun l => (l.map (·.f0), lensOk (n.val : Int) l)) = some ((pgs a.val n.val).map fun p : Nat => (p : Int), true) := by decide +kernel
theorem pieces2_ev {a n : Int} (h : fits a n) : ∃ l, Ev (fun k => span_Pieces.f k a n) l ∧ l.map (·.f0) = (pgs a.toNat n.toNat).map (fun p : Nat => (p : Int)) ∧ lensOk n l = true := by
  have h1 := pgs_all2 ⟨a.toNat, by omega⟩ ⟨n.toNat, by omega⟩ (by simp only []; omega)
  simp only [Int.toNat_of_nonneg h.1, Int.toNat_of_nonneg h.2.1] at h1
  cases hq : span_Pieces.l0 20 a n [] with
  | none => rw [hq] at h1; cases h1
  | some l =>
    rw [hq] at h1
    have h1 := qI h1
    simp only [Prod.mk.injEq] at h1
    refine ⟨l, ?_, h1.1, h1.2⟩
    unfold span_Pieces.f
    simp only [fits_some a n ⟨by omega, by omega⟩, Option.bind_some, qT h, if_true]
    exact Ev.of (g := fun k => span_Pieces.l0 k a n []) (fun k => span_Pieces.mono_l k a n []) hq
def todoOk (i : Nat) (td : List S60) (L : List S41) : Prop := td.map (·.f1) = L.map (·.f0) ∧ ∀ t ∈ td, t.f0 = (i : Int) ∧ t.f5.length ≤ 80
theorem write_loop (U : List S28) (i : Nat) (hi : i < U.length) (L : List S41) (hL : L.length ≤ 5) (hp : ∀ p ∈ L, 0 ≤ p.f0 ∧ p.f0 < ((U.getD i z28).f3.length : Int)) :
    ∀ d j : Nat, j + d = L.length → ∀ (b : List Int) (td : List S60), b.length ≤ 80 → lensOk (b.length : Int) (L.drop j) = true → todoOk i td (L.take j) → ∃ td', Ev (fun k => file_Write.l0 k i b td L (L.length : Int) j U) (U, td', 0) ∧ todoOk i td' L := by
  intro d
  induction d with
  | zero =>
    intro j hj b td _ _ ht
    refine ⟨td, Ev.step (f := fun _ => some (U, td, 0)) (fun k => ?_) (Ev.now _), ?_⟩
    · simp only [file_Write.l0]; rw [if_neg (by omega)]
    · rwa [List.take_of_length_le (by omega)] at ht
  | succ d ih =>
    intro j hj b td hb hlen ht
    have hjl : j < L.length := by omega
    have hm := hp _ (List.getElem_mem hjl)
    have hdrop : L.drop j = L[j] :: L.drop (j + 1) := List.drop_eq_getElem_cons hjl
    rw [hdrop] at hlen
    simp only [lensOk, Bool.and_eq_true, decide_eq_true_eq] at hlen
    obtain ⟨⟨l1, l2⟩, l3⟩ := hlen
    have hrd : rX L (j : Int) = L[j] := by rw [rd41, qG, List.getElem?_eq_getElem hjl]; rfl
    have htl : td.length = j := by have := congrArg List.length ht.1; simp at this; omega
    have e1 : ((j + 1 : Nat) : Int) = (j : Int) + 1 := by push_cast; rfl
    obtain ⟨td', h1, h2⟩ := ih (j + 1) (by omega) (b.drop (L[j].f2).toNat) (td ++ [⟨(i : Int), L[j].f0, rd (U.getD i z28).f3 L[j].f0, 16, L[j].f1, b.take (L[j].f2).toNat⟩]) (by rw [List.length_drop]; omega)
      (by rw [List.length_drop]; rw [show ((b.length - (L[j].f2).toNat : Nat) : Int) = (b.length : Int) - L[j].f2 from by omega]; exact l3)
      (by
        refine ⟨?_, fun t h => ?_⟩
        · rw [List.map_append, ht.1, List.take_succ_eq_append_getElem hjl, List.map_append]; rfl
        · rcases List.mem_append.1 h with h | h
          · exact ht.2 t h
          · rw [List.mem_singleton] at h; subst h
            exact ⟨rfl, by simp only [List.length_take]; omega⟩)
    refine ⟨td', Ev.step (fun k => ?_) h1, h2⟩
    simp only [file_Write.l0]
    rw [if_pos (by omega), if_pos (by omega), if_pos (by omega), if_pos (by omega), if_pos (by omega), hrd, rd28, if_pos (by omega), if_pos (by omega), if_pos (by omega), if_pos (by omega)]
    unfold slices_Clone_byte_byte.f
    rw [if_pos (by rw [List.length_take]; omega)]
    simp only [Option.bind_some]
    rw [if_pos (by omega), w64 (a := (j : Int) + 1) (by omega) (by omega), e1]
abbrev withN (l : List S28) (i : Nat) (x : S28) : List S28 := l.set i x
theorem withN_get (l : List S28) (i j : Nat) (x : S28) (hi : i < l.length) : (withN l i x).getD j z28 = if j = i then x else l.getD j z28 := by
  rw [qG, qG, List.getElem?_set]
  by_cases c : i = j
  · subst c; rw [if_pos rfl, if_pos rfl, if_pos hi]; rfl
  · rw [if_neg c, if_neg (fun h => c h.symm)]
theorem withN_flat (l : List S28) (i : Nat) (x : S28) (h : x.f4 = (l.getD i z28).f4) : (withN l i x).flatMap (·.f4) = l.flatMap (·.f4) := by
  rw [List.flatMap_def, List.flatMap_def]
  congr 1
  apply List.ext_getElem?
  intro j
  rw [List.getElem?_map, List.getElem?_map, List.getElem?_set]
  by_cases c : i = j
  · subst c
    rw [qG] at h
    by_cases c2 : i < l.length
    · rw [if_pos rfl, if_pos c2, List.getElem?_eq_getElem c2]
      rw [List.getElem?_eq_getElem c2] at h
      exact congrArg some h
    · rw [if_pos rfl, if_neg c2, List.getElem?_eq_none (by omega)]
  · rw [if_neg c]
theorem withN_named (l : List S28) (i : Nat) (x : S28) (h : x.f4 = (l.getD i z28).f4) (a : Int) : named (withN l i x) a = named l a := by
  unfold named; rw [withN_flat l i x h]
theorem withN_tied {l : List S28} {i : Nat} (hi : i < l.length) {x : S28} (h0 : x.f0 = (l.getD i z28).f0) (h1 : x.f1 = (l.getD i z28).f1) (h4 : x.f4 = (l.getD i z28).f4) (ht : tied l) : tied (withN l i x) := by
  have g0 : ∀ j, ((withN l i x).getD j z28).f0 = (l.getD j z28).f0 := fun j => by rw [withN_get l i j x hi]; split; rename_i c; rw [c]; exact h0; rfl
  have g1 : ∀ j, ((withN l i x).getD j z28).f1 = (l.getD j z28).f1 := fun j => by rw [withN_get l i j x hi]; split; rename_i c; rw [c]; exact h1; rfl
  have g4 : ∀ j, ((withN l i x).getD j z28).f4 = (l.getD j z28).f4 := fun j => by rw [withN_get l i j x hi]; split; rename_i c; rw [c]; exact h4; rfl
  refine ⟨(g0 0).trans ht.1, fun j hj => ?_⟩
  rw [g0, g1, withN_named l i x h4]
  obtain ⟨a, b, c⟩ := ht.2 j hj
  refine ⟨fun h => ⟨fun M m0 hM => (a h).1 M m0 (fun y hy hm z hz => hM y hy hm z (by rw [g4]; exact hz)), (a h).2⟩, b, c⟩
theorem withN_all {l : List S28} {i : Nat} {x : S28} {P : S28 → Prop} (h : ∀ y ∈ l, P y) (hx : P x) : ∀ y ∈ withN l i x, P y := fun y hy => by
  rcases List.mem_or_eq_of_mem_set hy with h1 | h1
  · exact h y h1
  · rw [h1]; exact hx
abbrev grown (x : S28) (s : Int) : S28 := ⟨x.f0, x.f1, s, x.f3, x.f4⟩
theorem write_ev {l : List S28} {i : Nat} (h : fileAt l i) {a : Int} {b : List Int} (hb : b.length ≠ 0) (hf : fits a (b.length : Int)) (d : Int) (hd : -9223372036854775808 ≤ d ∧ d ≤ 9223372036854775807) :
    (used l + moreN (l.getD i z28).f0 (l.getD i z28).f1 (l.getD i z28).f2 (l.getD i z28).f3 (l.getD i z28).f4 a (b.length : Int) > d → Ev (fun k => file_Write.f k l d i a b) ([], [], 13)) ∧
    (¬ used l + moreN (l.getD i z28).f0 (l.getD i z28).f1 (l.getD i z28).f2 (l.getD i z28).f3 (l.getD i z28).f4 a (b.length : Int) > d → ∃ td L, Ev (fun k => file_Write.f k l d i a b) (withN l i (grown (l.getD i z28) (mx (l.getD i z28).f2 (a + (b.length : Int)))), td, 0) ∧ todoOk i td L ∧ L.map (·.f0) = (pgs a.toNat b.length).map (fun p : Nat => (p : Int))) := by
  have hl := h.len
  have hi := h.lt
  have hxm := getD_mem l (i := i) (by omega)
  have hx := h.all _ hxm
  have hr := h.small _ hxm
  have hu := used_le l
  have hmore := more_ev (l.getD i z28).f0 (l.getD i z28).f1 (l.getD i z28).f2 (l.getD i z28).f3 (l.getD i z28).f4 a (b.length : Int) (by omega) hr.1 hr.2
  have hm0 : 0 ≤ moreN (l.getD i z28).f0 (l.getD i z28).f1 (l.getD i z28).f2 (l.getD i z28).f3 (l.getD i z28).f4 a (b.length : Int) ∧ moreN (l.getD i z28).f0 (l.getD i z28).f1 (l.getD i z28).f2 (l.getD i z28).f3 (l.getD i z28).f4 a (b.length : Int) ≤ 5 := by
    unfold moreN
    split
    · rename_i hh
      have := cntZ_le (l.getD i z28).f3 (pgs a.toNat ((b.length : Int)).toNat)
      have := pgs_len hh.2.2
      omega
    · omega
  have hf5 : (l.getD i z28).f3.length = 5 := by
    rcases hx with y | y | y
    · rw [h.kind] at y; omega
    · exact y.2.2.2.2.2.2.1
    · rw [h.kind] at y; omega
  generalize moreN (l.getD i z28).f0 (l.getD i z28).f1 (l.getD i z28).f2 (l.getD i z28).f3 (l.getD i z28).f4 a (b.length : Int) = m at hmore hm0 ⊢
  unfold file_Write.f
  have pre : ∀ {r}, Ev (fun k => if wrap64 (used l + m) > d then some (([] : List S28), ([] : List S60), (13 : Int)) else (dir_Copy.f k l).bind fun t284 => (if (i : Int) < (t284.length : Int) then ((span_Pieces.f k a (b.length : Int)).bind fun t291 => (file_Write.l0 k i b ([] : List (S60)) t291 (t291.length : Int) 0 (t284.set ((i : Int)).toNat (⟨(rU t284 i).f0, (rU t284 i).f1, mx ((rU t284 i).f2) (wrap64 (a + (b.length : Int))), (rU t284 i).f3, (rU t284 i).f4⟩ : S28)))) else none)) r → Ev (fun k => (file_is.f k l i).bind fun t276 => (if t276 = true then (file_Write.j0 k d i a b (decide (a < 0)) l) else (none))) r := by
    intro r hh
    refine h.is.bind ?_
    simp only [if_true, qF (show ¬ a < 0 from by omega)]
    refine Ev.step (fun k => by
      simp only [file_Write.j0, Bool.false_eq_true, if_false]
      rw [if_neg (by omega), fits_some a _ (by omega), qT hf]
      simp only [Option.bind_some, if_true]
      rfl) ((used_ev l h.small).bind ?_)
    simp only [if_pos (show (0 : Int) ≤ (i : Int) from by omega), if_pos (show (i : Int) < (l.length : Int) from by omega), rd28]
    exact hmore.bind hh
  constructor
  · intro hgt
    refine pre ?_
    simp only [w64 (a := used l + m) (by omega) (by omega), if_pos hgt]
    exact Ev.now _
  · intro hle
    obtain ⟨L, p1, p2, p3⟩ := pieces2_ev hf
    have hLlen : L.length ≤ 5 := by have := congrArg List.length p2; simp at this; have := pgs_len hf; simp at this; omega
    have hpf : ∀ p ∈ L, 0 ≤ p.f0 ∧ p.f0 < 5 := by
      intro p hp
      have : p.f0 ∈ L.map (·.f0) := List.mem_map.2 ⟨p, hp, rfl⟩
      rw [p2, List.mem_map] at this
      obtain ⟨q, hq, e⟩ := this
      have := pgs_lt hf q hq
      omega
    obtain ⟨td, w1, w2⟩ := write_loop (withN l i (grown (l.getD i z28) (mx (l.getD i z28).f2 (a + (b.length : Int))))) i (by rw [List.length_set]; omega) L hLlen (by rw [withN_get l i i _ (by omega), if_pos rfl]; simp only [hf5]; exact hpf) L.length 0 (by omega) b [] (by omega) p3 ⟨rfl, fun t ht => by cases ht⟩
    refine ⟨td, L, pre ?_, w2, p2⟩
    simp only [w64 (a := used l + m) (by omega) (by omega), if_neg hle]
    refine (dircopy_ev l hl h.all).bind ?_
    simp only [if_pos (show (i : Int) < (l.length : Int) from by omega), rd28, Int.toNat_natCast, w64 (a := a + (b.length : Int)) (by omega) (by omega)]
    exact p1.bind w1
end Go.Proofs.Ytkigiehkckjlhaa.ReadsLib
