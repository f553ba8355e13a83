/- A file, its pages and a row of bytes: what a step makes of the one it makes of the other; condition: the file stood so before. -/
import Derived.Test.YtkigiehkckjlhaaZReadsReadsLibC
namespace Go.Proofs.Ytkigiehkckjlhaa.ReadsLib
set_option linter.unusedVariables false
set_option linter.unusedSimpArgs false
open Go.RowKit Go.Proofs.Ytkigiehkckjlhaa.PReads Go.Proofs.YtkigiehkckjlhaaW.PrintWords
open Go Go.Proofs.Ytkigiehkckjlhaa.Plain Go.Proofs.YtkigiehkckjlhaaW.PrintMore
def cutB (b : List Int) (e : Nat) : List Int := (b ++ List.replicate (e - b.length) 0).take e
def afterB (b : List Int) (do_ at_ : Int) (d : List Int) : List Int :=
  if do_ = 0 then cutB b at_.toNat
  else if d.length = 0 then b
  else (cutB b (max b.length (at_.toNat + d.length))).take at_.toNat ++ (d ++ (cutB b (max b.length (at_.toNat + d.length))).drop (at_.toNat + d.length))
def pieceB (P : Int → List Int) (q : List Int) (p : S41) (n : Nat) : List Int := (List.range n).map fun k => (P (rd q p.f0)).getD (p.f1.toNat + k) 0
def readB (P : Int → List Int) (q : List Int) (L : List S41) : List Int := L.flatMap fun p => pieceB P q p p.f2.toNat
def mkT (P : Int → List Int) (t : S60) : List Int := mkAt (P t.f2) t.f3 t.f4 t.f5 16
def nxt (P : Int → List Int) (n : Nat) (td : List S60) (p : Int) : List Int := if (n : Int) < p ∧ p ≤ (n : Int) + td.length then mkT P (td.getD (p - n - 1).toNat z60) else []
def merged (P : Int → List Int) (n : Nat) (td : List S60) (p : Int) : List Int := if (n : Int) < p ∧ p ≤ (n : Int) + td.length then mkT P (td.getD (p - n - 1).toNat z60) else P p
def byteAt (P : Int → List Int) (q : List Int) (x : Nat) : Int := (P (q.getD (x / 16) 0)).getD (x % 16) 0
structure Stands (D s : Int) (q : List Int) (P : Int → List Int) (n : Nat) (wt : List Int) : Prop where
  ok : okX ⟨1, 1, s, q, []⟩
  seq : seqOk [] q
  top : ∀ x ∈ q, x ≤ (n : Int)
  nil : ∀ p : Int, p ≤ 0 ∨ (n : Int) < p → P p = []
  want : wt = (List.range s.toNat).map (byteAt P q)
  tail : ∀ x : Nat, s ≤ (x : Int) → x < 80 → byteAt P q x = 0
  used : (nz q 5 : Int) ≤ D
theorem mkBase_at (old : List Int) (keep : Int) (i : Nat) (hi : i < 16) : (mkBase old keep).getD i 0 = if (i : Int) < (old.length : Int) ∧ (i : Int) < keep then old.getD i 0 else 0 := by
  have hk : (mkKeep old keep : Int) = mn (mx keep 0) (old.length : Int) := by unfold mkKeep; rw [Int.toNat_of_nonneg]; unfold mn mx; split <;> split <;> omega
  unfold mkBase
  rw [qG, List.getElem?_take, if_pos hi]
  have hle : mkKeep old keep ≤ old.length := by have : mn (mx keep 0) (old.length : Int) ≤ old.length := by (unfold mn; split <;> omega)
                                                omega
  by_cases c : i < mkKeep old keep
  · rw [List.getElem?_append_left (by rw [List.length_take]; omega), List.getElem?_take, if_pos c, if_pos]
    · rw [qG]
    · unfold mn mx at hk; split at hk <;> split at hk <;> omega
  · have e : ¬ ((i : Int) < (old.length : Int) ∧ (i : Int) < keep) := by unfold mn mx at hk; split at hk <;> split at hk <;> omega
    rw [if_neg e, List.getElem?_append_right (by rw [List.length_take]; omega), List.getElem?_replicate, if_pos (by rw [List.length_take]; omega)]; rfl
theorem mkAt_at (old : List Int) (keep frm : Int) (data : List Int) (i : Nat) : ∀ n, n ≤ 16 → (mkAt old keep frm data n).getD i 0 = if i < n ∧ 0 ≤ mkIdx frm data i ∧ mkIdx frm data i < data.length then rd data (mkIdx frm data i) else (mkBase old keep).getD i 0
  | 0, _ => by rw [if_neg (by omega)]; rfl
  | n + 1, hn => by
    have ih := mkAt_at old keep frm data i n (by omega)
    simp only [mkAt]
    by_cases c : 0 ≤ mkIdx frm data n ∧ mkIdx frm data n < data.length
    · rw [if_pos c, qG, List.getElem?_set]
      by_cases e : n = i
      · subst e
        rw [if_pos rfl, if_pos (by rw [mkAt_len]; omega), if_pos ⟨by omega, c⟩]; rfl
      · rw [if_neg e, ← qG, ih]
        by_cases d : i < n
        · by_cases d2 : 0 ≤ mkIdx frm data i ∧ mkIdx frm data i < data.length
          · rw [if_pos ⟨d, d2⟩, if_pos ⟨by omega, d2⟩]
          · rw [if_neg (fun x => d2 x.2), if_neg (fun x => d2 x.2)]
        · rw [if_neg (fun x => d x.1), if_neg (fun x => by have := x.1; omega)]
    · rw [if_neg c, ih]
      by_cases e : n = i
      · subst e
        rw [if_neg (fun x => c x.2), if_neg (fun x => c x.2)]
      · by_cases d : i < n
        · by_cases d2 : 0 ≤ mkIdx frm data i ∧ mkIdx frm data i < data.length
          · rw [if_pos ⟨d, d2⟩, if_pos ⟨by omega, d2⟩]
          · rw [if_neg (fun x => d2 x.2), if_neg (fun x => d2 x.2)]
        · rw [if_neg (fun x => d x.1), if_neg (fun x => by have := x.1; omega)]
variable {D s : Int} {q : List Int} {P : Int → List Int} {n : Nat} {wt : List Int}
theorem Stands.okF (h : Stands D s q P n wt) : okF 1 s q [] := okN_file h.ok
theorem good_len (h : Stands D s q P n wt) : wt.length ≤ 80 := by
  have := h.okF.2.2.2.2.1
  rw [h.want]; simp; omega
theorem q_get (h : Stands D s q P n wt) (i : Nat) : 0 ≤ q.getD i 0 ∧ q.getD i 0 ≤ 1099511627776 := by
  by_cases c : i < q.length
  · have := h.okF.1 i c; exact ⟨this.1, this.2.1⟩
  · rw [qG, List.getElem?_eq_none (by omega)]; decide
theorem wf_of {x : Int} (h : 0 ≤ x ∧ x ≤ 1099511627776) : (Lit.int .i64 x).wf = true := by
  simp [Lit.wf, IntKind.min, IntKind.max, IntKind.signed, IntKind.bits]; omega
theorem good_q (h : Stands D s q P n wt) : q.length = 5 ∧ ∀ x ∈ q, (Lit.int .i64 x).wf = true := by
  refine ⟨h.okF.2.2.2.2.2.1, fun x hx => ?_⟩
  obtain ⟨i, hi, rfl⟩ := List.getElem_of_mem hx
  have := q_get h i
  rw [qG, List.getElem?_eq_getElem hi] at this
  exact wf_of this
theorem good_start (h : 1 ≤ D) : Stands D 0 [0, 0, 0, 0, 0] (fun _ => []) 0 [] := by
  refine ⟨tr_okX (fun i hi => ?_) (by decide) (by decide) rfl, by simp [seqOk], by simp, fun _ _ => rfl, rfl, fun x _ _ => by unfold byteAt; simp, ?_⟩
  · have : ([0, 0, 0, 0, 0] : List Int).getD i 0 = 0 := by
      match i with
      | 0 | 1 | 2 | 3 | 4 => rfl
      | k + 5 => rfl
    unfold okQ; rw [this]; exact ⟨by decide, by decide, fun _ => rfl⟩
  · have : nz [0, 0, 0, 0, 0] 5 = 0 := by decide
    rw [this]; omega
theorem pages_tr (h : okX ⟨1, 1, s, q, []⟩) : pagesX ⟨1, 1, s, q, []⟩ = nz q 5 := by
  have h5 := (okN_file h).2.2.2.2.2.1
  unfold pagesX refsOf
  rw [if_pos ⟨rfl, h, by decide, by decide⟩, nz_refs, h5]
theorem used_T0 : used T0 = 0 := by
  have h1 := used_ev T0 T0_reach
  have h2 : quota_Used.f 200 T0 = some 0 := by kernel_rfl
  exact Ev.one h1 (Ev.of (g := fun k => quota_Used.f k T0) (fun k => quota_Used.mono T0 k) h2)
theorem used_tr (h : okX ⟨1, 1, s, q, []⟩) : used (tr s q) = (nz q 5 : Int) := by
  have h0 : okX ⟨1, 1, 0, [0, 0, 0, 0, 0], []⟩ := (good_start (D := 1) (by decide)).ok
  have h1 := used_set (l := T0) (i := 1) (by rfl) (by decide) ⟨1, 1, s, q, []⟩ T0_tree.2.2.1.1 h
  have e : T0.getD 1 z28 = ⟨1, 1, 0, [0, 0, 0, 0, 0], []⟩ := rfl
  rw [used_T0, pages_tr h, e, pages_tr h0, show nz [0, 0, 0, 0, 0] 5 = 0 from by decide] at h1
  rw [show tr s q = withN T0 1 ⟨1, 1, s, q, []⟩ from rfl, h1]; simp
theorem may_tr (h : okX ⟨1, 1, s, q, []⟩) (hq : seqOk [] q) : (∃ k, potsherdref12_MayTree.f k (tr s q) = some true) ∧ ∃ k, potsherdref12_Used.f k (tr s q) = some ((nz q 5 : Nat) : Int) := by
  obtain ⟨K1, h1⟩ := (maytree_tells (tr s q) (tr_reach s q)).yes (tr_tree h hq)
  obtain ⟨K2, h2⟩ := rused_ev (tr s q) (by show (12 : Nat) ≤ _; decide) (tr_reach s q)
  rw [used_tr h] at h2
  exact ⟨⟨K1, h1 K1 (Nat.le_refl _)⟩, K2, h2 K2 (Nat.le_refl _)⟩
theorem flat_tr (s : Int) (q : List Int) : (tr s q).flatMap (·.f3) = q := by simp [tr, T0, z28, List.replicate]
theorem done_tr {s1 : Int} {q1 : List Int} (hX : okX ⟨1, 1, s1, q1, []⟩) (hq : seqOk [] q1) (ht : ∀ x ∈ q1, x ≤ (n : Int)) (hn : n ≤ 300) (td : List S60) (ps : List Nat) (hm : td.map (·.f1) = ps.map (fun p : Nat => (p : Int))) (hf : ∀ t ∈ td, t.f0 = 1) (h5 : td.length ≤ 5) (hp : ∀ p ∈ ps, p < 5 ∧ (p : Int) * 16 < s1) :
    (∃ k, file_Done.f k (tr s1 q1) td (newT n td.length) = some (tr s1 (putS q1 ps (newT n td.length)), 0)) ∧ okX ⟨1, 1, s1, putS q1 ps (newT n td.length), []⟩ ∧ seqOk [] (putS q1 ps (newT n td.length)) := by
  have hF := tr_file hX hq
  have hg : (tr s1 q1).getD 1 z28 = ⟨1, 1, s1, q1, []⟩ := rfl
  have hss : ∀ x ∈ newT n td.length, 1 ≤ x ∧ x ≤ 1099511627776 := fun x h => by have := newT_mem x h; omega
  have hfr := fresh_ok (u := tr s1 q1) (i := 1) (by show 1 < 12; decide) hF.seqs ps (n : Int) (fun x hx y hy => ht y (by rw [← flat_tr s1 q1]; exact List.mem_flatMap.2 ⟨x, hx, hy⟩)) td.length
  obtain ⟨⟨K, d1⟩, hV⟩ := done_yes hF td ps (newT n td.length) hm hf (newT_len _ _) h5 (fun p h => hp p h) hss hfr
  rw [hg] at d1 hV hfr
  have e : withN (tr s1 q1) 1 (paged ⟨1, 1, s1, q1, []⟩ (putS q1 ps (newT n td.length))) = tr s1 (putS q1 ps (newT n td.length)) := tr_set _ _ _ _
  rw [e] at d1 hV hfr
  rw [flat_tr] at hfr
  refine ⟨⟨K, d1 K (Nat.le_refl _)⟩, ?_, hfr⟩
  exact hV.all _ (by
    have := getD_mem (tr s1 (putS q1 ps (newT n td.length))) (i := 1) (by show 1 < 12; decide)
    exact this)
theorem byte_new {q1 : List Int} (ht : ∀ i : Nat, q1.getD i 0 ≤ (n : Int)) (h5 : q1.length = 5) (td : List S60) (ps : List Nat) (hl : ps.length = td.length) (hp : ∀ p ∈ ps, p < 5) (hnd : ps.Nodup) (x : Nat) :
    (x / 16 ∉ ps → byteAt (merged P n td) (putS q1 ps (newT n td.length)) x = byteAt P q1 x) ∧
    (∀ j (h : j < ps.length), ps[j] = x / 16 → byteAt (merged P n td) (putS q1 ps (newT n td.length)) x = (mkT P (td.getD j z60)).getD (x % 16) 0) := by
  have hps : ∀ p ∈ ps, p < q1.length := fun p h => by have := hp p h; omega
  have hsl : (newT n td.length).length = ps.length := by rw [newT_len, hl]
  constructor
  · intro c
    unfold byteAt
    rw [(putS_get ps q1 (newT n td.length) hps hsl (x / 16)).1 c]
    have := ht (x / 16)
    unfold merged
    rw [if_neg (by omega)]
  · intro j h e
    unfold byteAt
    have h1 := putS_at ps q1 (newT n td.length) hps hsl hnd j h
    rw [e, newT_get (by omega)] at h1
    rw [h1]
    unfold merged
    rw [if_pos (by omega), show ((n : Int) + 1 + (j : Int) - n - 1).toNat = j from by omega]
theorem mk_idx {f : Int} (h0 : 0 ≤ f) (h1 : f ≤ 15) (b : List Int) (k : Nat) (hk : k < 16) : mkIdx f b k = (k : Int) - f := by
  unfold mkIdx mx
  rw [if_neg (by omega)]
  exact w64 (by omega) (by omega)
theorem mk_byte (t : S60) (h0 : 0 ≤ t.f4) (h1 : t.f4 ≤ 15) (hl : t.f5.length ≤ 80) (k : Nat) (hk : k < 16) : (mkT P t).getD k 0 = if t.f4 ≤ (k : Int) ∧ (k : Int) - t.f4 < t.f5.length then t.f5.getD ((k : Int) - t.f4).toNat 0 else if (k : Int) < t.f3 then (P t.f2).getD k 0 else 0 := by
  unfold mkT
  rw [mkAt_at _ _ _ _ _ 16 (Nat.le_refl _), mk_idx h0 h1 _ k hk, mkBase_at _ _ _ hk]
  by_cases c : t.f4 ≤ (k : Int) ∧ (k : Int) - t.f4 < t.f5.length
  · rw [if_pos c, if_pos ⟨hk, by omega, by omega⟩]; rfl
  · rw [if_neg c, if_neg (fun x => c ⟨by omega, by omega⟩)]
    by_cases c2 : (k : Int) < t.f3
    · rw [if_pos c2]
      by_cases c3 : (k : Int) < ((P t.f2).length : Int)
      · rw [if_pos ⟨c3, c2⟩]
      · rw [if_neg (fun x => c3 x.1), qG, List.getElem?_eq_none (by omega)]; rfl
    · rw [if_neg (fun x => c2 x.2), if_neg c2]
theorem pcs_zero : ∀ (k a : Nat), pcs k a 0 = []
  | 0, _ => rfl
  | k + 1, _ => by unfold pcs; rw [if_pos rfl]
theorem td_at (i : Int) (q : List Int) : ∀ (k a n : Nat) (b : List Int), n ≤ 80 → b.length = n → ∀ t ∈ tdOf i q (pcs k a n) b, ∃ r : Nat, t.f0 = i ∧ t.f1 = (r : Int) ∧ t.f2 = q.getD r 0 ∧ t.f3 = 16 ∧ a / 16 ≤ r ∧ r * 16 < a + n ∧ t.f4 = ((max a (r * 16) - r * 16 : Nat) : Int) ∧ t.f5 = (b.drop (max a (r * 16) - a)).take (min (a + n) (r * 16 + 16) - max a (r * 16))
  | 0, a, n, b, _, _, t, ht => by simp [pcs, tdOf] at ht
  | k + 1, a, n, b, hn, hb, t, ht => by
    unfold pcs at ht
    by_cases c : n = 0
    · rw [if_pos c] at ht; simp [tdOf] at ht
    · rw [if_neg c] at ht
      simp only [tdOf, List.mem_cons] at ht
      rcases ht with rfl | ht
      · refine ⟨a / 16, rfl, rfl, by show rd q ((a / 16 : Nat) : Int) = _; rw [rdn], rfl, Nat.le_refl _, by omega, ?_, ?_⟩
        · show ((a % 16 : Nat) : Int) = _
          congr 1; omega
        · show b.take (Int.toNat ((min (16 - a % 16) n : Nat) : Int)) = _
          rw [Int.toNat_natCast, show max a (a / 16 * 16) - a = 0 from by omega, List.drop_zero]
          congr 1; omega
      · rw [Int.toNat_natCast] at ht
        obtain ⟨r, g1, g2, g3, g4, g5, g6, g7, g8⟩ := td_at i q k (a + min (16 - a % 16) n) (n - min (16 - a % 16) n) (b.drop (min (16 - a % 16) n)) (by omega) (by rw [List.length_drop]; omega) t ht
        have hm : min (16 - a % 16) n = 16 - a % 16 := by
          by_cases c2 : n ≤ 16 - a % 16
          · rw [show n - min (16 - a % 16) n = 0 from by omega, pcs_zero] at ht
            simp [tdOf] at ht
          · omega
        rw [hm] at g5 g6 g7 g8
        refine ⟨r, g1, g2, g3, g4, by omega, by omega, ?_, ?_⟩
        · rw [g7]; congr 1; omega
        · rw [g8, List.drop_drop]
          congr 1
          · omega
          · congr 1; omega
theorem pcs_pgs : ∀ a : Fin 81, ∀ n : Fin 81, a.val + n.val ≤ 80 → ((pcs 6 a.val n.val).map (·.f0)) = (pgs a.val n.val).map (fun p : Nat => (p : Int)) := by decide +kernel
theorem td_f1 (i : Int) (q : List Int) : ∀ (L : List S41) (b : List Int), (tdOf i q L b).map (·.f1) = L.map (·.f0)
  | [], _ => rfl
  | p :: L, b => by simp only [tdOf, List.map_cons, td_f1 i q L]
theorem mem_pgs {a n r : Nat} (hn : n ≠ 0) : r ∈ pgs a n ↔ a / 16 ≤ r ∧ r * 16 < a + n := by
  unfold pgs
  rw [if_neg hn, List.mem_map]
  constructor
  · rintro ⟨i, hi, rfl⟩
    rw [List.mem_range] at hi
    omega
  · intro ⟨h1, h2⟩
    exact ⟨r - a / 16, by rw [List.mem_range]; omega, by omega⟩
theorem ext_getD {l1 l2 : List Int} (h : l1.length = l2.length) (h2 : ∀ i, i < l1.length → l1.getD i 0 = l2.getD i 0) : l1 = l2 := by
  apply List.ext_getElem h
  intro i a b
  have := h2 i a
  rw [qG, qG, List.getElem?_eq_getElem a, List.getElem?_eq_getElem b] at this
  exact this
theorem cutB_len (b : List Int) (e : Nat) : (cutB b e).length = e := by
  unfold cutB; rw [List.length_take, List.length_append, List.length_replicate]; omega
theorem cutB_get (b : List Int) (e x : Nat) (h : x < e) : (cutB b e).getD x 0 = b.getD x 0 := by
  unfold cutB
  rw [qG, qG, List.getElem?_take, if_pos h, List.getElem?_append]
  by_cases c : x < b.length
  · rw [if_pos c]
  · rw [if_neg c, List.getElem?_replicate, if_pos (by omega), List.getElem?_eq_none (by omega)]; rfl
theorem put_len (c b : List Int) (a : Nat) (h : a + b.length ≤ c.length) : (c.take a ++ (b ++ c.drop (a + b.length))).length = c.length := by
  rw [List.length_append, List.length_append, List.length_take, List.length_drop]; omega
theorem put_get (c b : List Int) (a x : Nat) (h : a + b.length ≤ c.length) : (c.take a ++ (b ++ c.drop (a + b.length))).getD x 0 = if a ≤ x ∧ x < a + b.length then b.getD (x - a) 0 else c.getD x 0 := by
  rw [qG, List.getElem?_append, List.length_take, Nat.min_eq_left (by omega)]
  by_cases c1 : x < a
  · rw [if_pos c1, if_neg (by omega), List.getElem?_take, if_pos c1, qG]
  · rw [if_neg c1, List.getElem?_append]
    by_cases c2 : x - a < b.length
    · rw [if_pos c2, if_pos (by omega), qG]
    · rw [if_neg c2, if_neg (by omega), List.getElem?_drop, qG]
      congr 2; omega
theorem map_get (f : Nat → Int) (m x : Nat) (h : x < m) : ((List.range m).map f).getD x 0 = f x := by
  rw [qG, List.getElem?_map, List.getElem?_range h]; rfl
theorem want_get (h : Stands D s q P n wt) (x : Nat) (hx : x < 80) : wt.getD x 0 = byteAt P q x := by
  have hs := h.okF.2.2.2.1
  by_cases c : x < s.toNat
  · rw [h.want, map_get _ _ _ c]
  · rw [h.tail x (by omega) hx, h.want, qG, List.getElem?_eq_none (by simp; omega)]; rfl
theorem want_len (h : Stands D s q P n wt) : wt.length = s.toNat := by rw [h.want]; simp
theorem good_of (h : Stands D s q P n wt) {s1 : Int} {q1 : List Int} (td : List S60) (ps : List Nat) (hX : okX ⟨1, 1, s1, putS q1 ps (newT n td.length), []⟩) (hq : seqOk [] (putS q1 ps (newT n td.length))) (hl : ps.length = td.length) (hp : ∀ p ∈ ps, p < q1.length) (ht : ∀ x ∈ q1, x ≤ (n : Int)) (hu : (nz (putS q1 ps (newT n td.length)) 5 : Int) ≤ D)
    {wt' : List Int} (hw : wt'.length = s1.toNat) (hb : ∀ x : Nat, (x : Int) < s1 → wt'.getD x 0 = byteAt (merged P n td) (putS q1 ps (newT n td.length)) x) (hz : ∀ x : Nat, s1 ≤ (x : Int) → x < 80 → byteAt (merged P n td) (putS q1 ps (newT n td.length)) x = 0) :
    Stands D s1 (putS q1 ps (newT n td.length)) (merged P n td) (n + td.length) wt' := by
  refine ⟨hX, hq, fun x hx => ?_, fun p hp => ?_, ?_, hz, hu⟩
  · obtain ⟨i, hi, rfl⟩ := List.getElem_of_mem hx
    have e : (putS q1 ps (newT n td.length)).getD i 0 = (putS q1 ps (newT n td.length))[i] := by rw [qG, List.getElem?_eq_getElem hi]; rfl
    obtain ⟨g1, g2⟩ := putS_get ps q1 (newT n td.length) hp (by rw [newT_len, hl]) i
    rw [← e]
    rw [putS_len] at hi
    by_cases c : i ∈ ps
    · have := newT_mem _ (g2 c); push_cast; omega
    · rw [g1 c]
      have := ht _ (List.getElem_mem hi)
      rw [qG, List.getElem?_eq_getElem hi]
      show q1[i] ≤ _
      push_cast; omega
  · unfold merged
    rw [if_neg (by push_cast at hp; omega)]
    exact h.nil p (by push_cast at hp; omega)
  · refine ext_getD (by rw [hw]; simp) (fun i hi => ?_)
    rw [map_get _ _ _ (by omega)]
    exact hb i (by omega)
theorem byte_write (h : Stands D s q P n wt) (a : Nat) (b : List Int) (hb : b.length ≠ 0) (hf : a + b.length ≤ 80) (x : Nat) :
    byteAt (merged P n (tdOf 1 q (pcs 6 a b.length) b)) (putS q (pgs a b.length) (newT n (tdOf 1 q (pcs 6 a b.length) b).length)) x = if a ≤ x ∧ x < a + b.length then b.getD (x - a) 0 else byteAt P q x := by
  have h5 := h.okF.2.2.2.2.2.1
  have hm : (tdOf 1 q (pcs 6 a b.length) b).map (·.f1) = (pgs a b.length).map (fun p : Nat => (p : Int)) := by rw [td_f1]; exact pcs_pgs ⟨a, by omega⟩ ⟨b.length, by omega⟩ hf
  have hl : (pgs a b.length).length = (tdOf 1 q (pcs 6 a b.length) b).length := by have := congrArg List.length hm; simpa using this.symm
  have htd := td_at 1 q 6 a b.length b (by omega) rfl
  have hp5 : ∀ p ∈ pgs a b.length, p < 5 := fun p hp => by have := (mem_pgs hb).1 hp; omega
  obtain ⟨b1, b2⟩ := byte_new (P := P) (n := n) (q1 := q) (fun i => by
    by_cases c : i < q.length
    · rw [qG, List.getElem?_eq_getElem c]; exact h.top _ (List.getElem_mem c)
    · rw [qG, List.getElem?_eq_none (by omega)]; show (0 : Int) ≤ n; omega) h5 _ _ hl hp5 (pgs_nodup a b.length) x
  by_cases c : x / 16 ∈ pgs a b.length
  · obtain ⟨j, hj, e⟩ := List.getElem_of_mem c
    have hjt : j < (tdOf 1 q (pcs 6 a b.length) b).length := by omega
    rw [b2 j hj e]
    have hmem := List.getElem_mem hjt
    have hg : (tdOf 1 q (pcs 6 a b.length) b).getD j z60 = (tdOf 1 q (pcs 6 a b.length) b)[j] := by rw [qG, List.getElem?_eq_getElem hjt]; rfl
    rw [hg]
    have e1 : (tdOf 1 q (pcs 6 a b.length) b)[j].f1 = ((x / 16 : Nat) : Int) := by
      have h1 := congrArg (fun z => z[j]?) hm
      simp only [List.getElem?_map, List.getElem?_eq_getElem hjt, List.getElem?_eq_getElem hj, Option.map_some, Option.some.injEq] at h1
      rw [h1, e]
    obtain ⟨r, g1, g2, g3, g4, g5, g6, g7, g8⟩ := htd _ hmem
    generalize (tdOf 1 q (pcs 6 a b.length) b)[j] = t at e1 g1 g2 g3 g4 g7 g8
    have er : r = x / 16 := by rw [e1] at g2; omega
    subst er
    have hlen : t.f5.length = min (a + b.length) (x / 16 * 16 + 16) - max a (x / 16 * 16) := by
      rw [g8, List.length_take, List.length_drop]; omega
    rw [mk_byte t (by rw [g7]; omega) (by rw [g7]; omega) (by rw [hlen]; omega) (x % 16) (by omega)]
    by_cases d : a ≤ x ∧ x < a + b.length
    · rw [if_pos d, if_pos (by rw [g7, hlen]; omega), g8, g7]
      rw [qG, List.getElem?_take, if_pos (by omega), List.getElem?_drop, qG]
      congr 2; omega
    · rw [if_neg d, if_neg (by rw [g7, hlen]; omega), g4, if_pos (by omega), g3]; rfl
  · rw [b1 c, if_neg (fun d => c ((mem_pgs hb).2 (by omega)))]
theorem light_of (td : List S60) (h : td.length ≤ 5) (h2 : ∀ t ∈ td, t.f5.length ≤ 80) : ∃ k, potsherdlaw20_light.f k td = some true := by
  obtain ⟨K, h1⟩ := light_td td h h2
  exact ⟨K, h1 K (Nat.le_refl _)⟩
theorem top_get (h : Stands D s q P n wt) (i : Nat) : q.getD i 0 ≤ (n : Int) := by
  by_cases c : i < q.length
  · rw [qG, List.getElem?_eq_getElem c]; exact h.top _ (List.getElem_mem c)
  · rw [qG, List.getElem?_eq_none (by omega)]; show (0 : Int) ≤ n; omega
theorem step_write (hD : 1 ≤ D ∧ D ≤ 60) (h : Stands D s q P n wt) (hn : n ≤ 300) (a : Nat) (b : List Int) (hb : b.length ≠ 0) (hf : a + b.length ≤ 80) :
    (∃ k, file_Write.f k (tr s q) D 1 (a : Int) b = some ([], [], 13)) ∨
    (∃ td u s' q', (∃ k, file_Write.f k (tr s q) D 1 (a : Int) b = some (u, td, 0)) ∧ td.length ≤ 5 ∧ (∃ k, potsherdlaw20_light.f k td = some true) ∧ (∀ t ∈ td, (Lit.int .i64 t.f2).wf = true) ∧
      (∃ k, file_Done.f k u td (newT n td.length) = some (tr s' q', 0)) ∧ Stands D s' q' (merged P n td) (n + td.length) ((cutB wt (max wt.length (a + b.length))).take a ++ (b ++ (cutB wt (max wt.length (a + b.length))).drop (a + b.length)))) := by
  obtain ⟨k1, k2, k3, k4, k5, k6, k7⟩ := h.okF
  have hF := tr_file h.ok h.seq
  have hft : fits (a : Int) (b.length : Int) := ⟨by omega, by omega, by omega⟩
  have hg : (tr s q).getD 1 z28 = ⟨1, 1, s, q, []⟩ := rfl
  have hmore : moreN 1 1 s q [] (a : Int) (b.length : Int) = (cntZ q (pgs a b.length) : Int) := by
    unfold moreN; rw [if_pos ⟨rfl, h.ok, hft⟩]; simp
  have w0 := write_ev hF hb hft D (by omega)
  rw [hg] at w0
  simp only at w0
  rw [hmore, used_tr h.ok] at w0
  by_cases cu : (nz q 5 : Int) + (cntZ q (pgs a b.length) : Int) > D
  · obtain ⟨K, h1⟩ := w0.1 cu
    exact Or.inl ⟨K, h1 K (Nat.le_refl _)⟩
  refine Or.inr ?_
  have w1 := write_full hF hb hft D (by omega) (by rw [hg]; simp only; rw [hmore, used_tr h.ok]; exact cu)
  rw [hg] at w1
  simp only [Int.toNat_natCast] at w1
  obtain ⟨K, w2⟩ := w1
  have hm : (tdOf 1 q (pcs 6 a b.length) b).map (·.f1) = (pgs a b.length).map (fun p : Nat => (p : Int)) := by rw [td_f1]; exact pcs_pgs ⟨a, by omega⟩ ⟨b.length, by omega⟩ hf
  have hl : (pgs a b.length).length = (tdOf 1 q (pcs 6 a b.length) b).length := by have := congrArg List.length hm; simpa using this.symm
  have htd := td_at 1 q 6 a b.length b (by omega) rfl
  have hl5 : (tdOf 1 q (pcs 6 a b.length) b).length ≤ 5 := by rw [tdOf_len]; exact pcs_len5 ⟨a, by omega⟩ ⟨b.length, by omega⟩ hf
  have hs1 : mx s ((a : Int) + (b.length : Int)) = ((max s.toNat (a + b.length) : Nat) : Int) := by rw [mx_eq]; split <;> omega
  have hX1 : okX ⟨1, 1, ((max s.toNat (a + b.length) : Nat) : Int), q, []⟩ := tr_okX (fun i hi => by
    have := k1 i hi
    unfold okQ at this ⊢
    exact ⟨this.1, this.2.1, fun z => this.2.2 (by omega)⟩) (by omega) (by omega) k6
  have hp : ∀ p ∈ pgs a b.length, p < 5 ∧ (p : Int) * 16 < ((max s.toNat (a + b.length) : Nat) : Int) := fun p hp => by have := (mem_pgs hb).1 hp; omega
  obtain ⟨d1, d2, d3⟩ := done_tr hX1 h.seq h.top hn (tdOf 1 q (pcs 6 a b.length) b) (pgs a b.length) hm (fun t ht => (htd t ht).choose_spec.1) hl5 hp
  have e : withN (tr s q) 1 (grown ⟨1, 1, s, q, []⟩ (mx s ((a : Int) + (b.length : Int)))) = tr ((max s.toNat (a + b.length) : Nat) : Int) q := by rw [hs1]; exact tr_set _ _ _ _
  rw [e] at w2
  refine ⟨tdOf 1 q (pcs 6 a b.length) b, tr ((max s.toNat (a + b.length) : Nat) : Int) q, _, _, ⟨K, w2 K (Nat.le_refl _)⟩, hl5, light_of _ hl5 (fun t ht => ?_), fun t ht => ?_, d1, ?_⟩
  · obtain ⟨r, g1, g2, g3, g4, g5, g6, g7, g8⟩ := htd t ht
    rw [g8, List.length_take, List.length_drop]; omega
  · obtain ⟨r, g1, g2, g3, g4, g5, g6, g7, g8⟩ := htd t ht
    rw [g3]; exact wf_of (q_get h r)
  · have hwl := want_len h
    have hcl : (cutB wt (max wt.length (a + b.length))).length = max wt.length (a + b.length) := cutB_len _ _
    refine good_of h _ _ d2 d3 hl (fun p hq => by have := hp p hq; omega) h.top ?_ ?_ ?_ ?_
    · have h1 := nz_put (pgs a b.length) q (newT n (tdOf 1 q (pcs 6 a b.length) b).length) (fun p hq => by have := hp p hq; omega) (pgs_nodup _ _) (by rw [newT_len, hl]) (fun x hx => by have := newT_mem x hx; omega)
      rw [k6] at h1
      rw [h1]; push_cast; omega
    · rw [put_len _ _ _ (by rw [hcl]; omega), hcl, hwl]; omega
    · intro x hx
      rw [put_get _ _ _ _ (by rw [hcl]; omega), byte_write h a b hb hf x]
      by_cases c : a ≤ x ∧ x < a + b.length
      · rw [if_pos c, if_pos c]
      · rw [if_neg c, if_neg c, cutB_get _ _ _ (by omega), want_get h x (by omega)]
    · intro x hx hx8
      rw [byte_write h a b hb hf x, if_neg (by omega)]
      exact h.tail x (by omega) hx8
theorem nz_le {q q' : List Int} : ∀ m, (∀ r, r < m → q.getD r 0 = 0 → q'.getD r 0 = 0) → nz q' m ≤ nz q m
  | 0, _ => Nat.le_refl _
  | m + 1, h => by
    have ih := nz_le (q := q) (q' := q') m (fun r hr => h r (by omega))
    simp only [nz]
    by_cases c : q.getD m 0 = 0
    · rw [if_pos c, if_pos (h m (by omega) c)]; exact ih
    · rw [if_neg c]
      split <;> omega
theorem cutF_count (q : List Int) (p : Nat) (x : Int) (hx : x ≠ 0) : ∀ d, (cutF q p d).count x ≤ q.count x
  | 0 => Nat.le_refl _
  | d + 1 => by
    have h1 := count_set_le x 0 (cutF q p d) (p + d)
    have h2 : [(0 : Int)].count x = 0 := List.count_eq_zero.2 (by simpa using hx)
    have := cutF_count q p x hx d
    rw [cutF]; omega
theorem cutF_seq {q : List Int} (h : seqOk [] q) (p d : Nat) : seqOk [] (cutF q p d) := by
  rw [seqOk_count] at h ⊢
  intro x hx
  refine ⟨fun hm => absurd hm (by simp), ?_⟩
  have := (h x hx).2
  have := cutF_count q p x hx d
  omega
theorem cut_get (h5 : q.length = 5) (t r : Nat) (ht : t ≤ 80) : (cutF q (pgN (t : Int)) (5 - pgN (t : Int))).getD r 0 = if t ≤ r * 16 then 0 else q.getD r 0 := by
  rw [cutF_get _ _ _ _ (by unfold pgN; omega)]
  by_cases c : t ≤ r * 16
  · rw [if_pos c]
    by_cases c2 : r < 5
    · rw [if_pos (by unfold pgN; omega)]
    · rw [if_neg (by unfold pgN; omega), qG, List.getElem?_eq_none (by omega)]; rfl
  · rw [if_neg (by unfold pgN; omega), if_neg c]
theorem step_trunc (h : Stands D s q P n wt) (hn : n ≤ 300) (t : Nat) (ht : t ≤ 80) :
    ∃ td u s' q', (∃ k, file_Truncate.f k (tr s q) 1 (t : Int) = some (u, td, 0)) ∧ td.length ≤ 5 ∧ (∃ k, potsherdlaw20_light.f k td = some true) ∧ (∀ t ∈ td, (Lit.int .i64 t.f2).wf = true) ∧
      (∃ k, file_Done.f k u td (newT n td.length) = some (tr s' q', 0)) ∧ Stands D s' q' (merged P n td) (n + td.length) (cutB wt t) := by
  obtain ⟨k1, k2, k3, k4, k5, k6, k7⟩ := h.okF
  have hF := tr_file h.ok h.seq
  have hg : (tr s q).getD 1 z28 = ⟨1, 1, s, q, []⟩ := rfl
  have w1 := trunc_full hF (s := (t : Int)) (by omega) (by omega)
  rw [hg] at w1
  obtain ⟨K, w2⟩ := w1
  have e : withN (tr s q) 1 (sized ⟨1, 1, s, q, []⟩ (t : Int) (cutF q (pgN (t : Int)) (5 - pgN (t : Int)))) = tr (t : Int) (cutF q (pgN (t : Int)) (5 - pgN (t : Int))) := tr_set _ _ _ _
  rw [e] at w2
  have hcg := fun r => cut_get (q := q) k6 t r ht
  have hcl : (cutF q (pgN (t : Int)) (5 - pgN (t : Int))).length = 5 := by rw [cutF_len]; exact k6
  have hcs := cutF_seq h.seq (pgN (t : Int)) (5 - pgN (t : Int))
  have w2 := w2 K (Nat.le_refl _)
  simp only at w2
  generalize cutF q (pgN (t : Int)) (5 - pgN (t : Int)) = q1 at w2 hcg hcl hcs
  have hX1 : okX ⟨1, 1, (t : Int), q1, []⟩ := tr_okX (fun i hi => by
    unfold okQ
    rw [hcg i]
    have := q_get h i
    by_cases c : t ≤ i * 16
    · rw [if_pos c]; exact ⟨by omega, by omega, fun _ => rfl⟩
    · rw [if_neg c]; exact ⟨this.1, this.2, fun z => by omega⟩) (by omega) (by omega) hcl
  have htop : ∀ x ∈ q1, x ≤ (n : Int) := fun x hx => by
    obtain ⟨i, hi, rfl⟩ := List.getElem_of_mem hx
    have e2 : q1.getD i 0 = q1[i] := by rw [qG, List.getElem?_eq_getElem hi]; rfl
    rw [← e2, hcg i]
    have := top_get h i
    split <;> omega
  have hnz : nz q1 5 ≤ nz q 5 := nz_le 5 (fun r _ hz => by rw [hcg r, hz]; split <;> rfl)
  have hwl := want_len h
  by_cases cT : (t : Int) < s ∧ (t : Int) % 16 > 0 ∧ rd q ((t : Int) / 16) ≠ 0
  · have etd : tdCut 1 (t : Int) s q = [⟨1, (t : Int) / 16, rd q ((t : Int) / 16), (t : Int) % 16, 0, []⟩] := by unfold tdCut; rw [if_pos cT]
    have w3 : file_Truncate.f K (tr s q) 1 (t : Int) = some (tr (t : Int) q1, [⟨1, (t : Int) / 16, rd q ((t : Int) / 16), (t : Int) % 16, 0, []⟩], 0) := by rw [← etd]; exact w2
    have erd : rd q ((t : Int) / 16) = q.getD (t / 16) 0 := by rw [show (t : Int) / 16 = ((t / 16 : Nat) : Int) from by omega, rdn]
    obtain ⟨d1, d2, d3⟩ := done_tr hX1 hcs htop hn [⟨1, (t : Int) / 16, rd q ((t : Int) / 16), (t : Int) % 16, 0, []⟩] [t / 16] (by simp) (by simp) (by simp) (fun p hp => by simp only [List.mem_singleton] at hp; subst hp; omega)
    have hby : ∀ x : Nat, byteAt (merged P n [⟨1, (t : Int) / 16, rd q ((t : Int) / 16), (t : Int) % 16, 0, []⟩]) (putS q1 [t / 16] (newT n 1)) x = if x < t then byteAt P q x else 0 := by
      intro x
      obtain ⟨b1, b2⟩ := byte_new (P := P) (n := n) (q1 := q1) (fun i => by rw [hcg i]; have := top_get h i; split <;> omega) hcl [⟨1, (t : Int) / 16, rd q ((t : Int) / 16), (t : Int) % 16, 0, []⟩] [t / 16] rfl (fun p hp => by simp only [List.mem_singleton] at hp; subst hp; omega) (by simp) x
      by_cases c : x / 16 = t / 16
      · refine (b2 0 (by simp) c.symm).trans ?_
        show (mkT P ⟨1, (t : Int) / 16, rd q ((t : Int) / 16), (t : Int) % 16, 0, []⟩).getD (x % 16) 0 = _
        rw [mk_byte _ (Int.le_refl 0) (show (0 : Int) ≤ 15 by decide) (by simp) (x % 16) (by omega)]
        rw [if_neg (by simp)]
        show (if ((x % 16 : Nat) : Int) < (t : Int) % 16 then (P (rd q ((t : Int) / 16))).getD (x % 16) 0 else 0) = _
        by_cases c2 : x < t
        · rw [if_pos c2, if_pos (by omega), erd, ← c]; rfl
        · rw [if_neg c2, if_neg (by omega)]
      · refine (b1 (by simpa using c)).trans ?_
        unfold byteAt
        rw [hcg (x / 16)]
        by_cases c2 : x < t
        · rw [if_pos c2, if_neg (by omega)]
        · rw [if_neg c2, if_pos (by omega), h.nil 0 (by omega)]; rfl
    refine ⟨_, _, _, _, ⟨K, w3⟩, by simp, light_of _ (by simp) (by simp), fun y hy => ?_, d1, ?_⟩
    · simp only [List.mem_singleton] at hy
      subst hy
      show (Lit.int .i64 (rd q ((t : Int) / 16))).wf = true
      rw [erd]; exact wf_of (q_get h _)
    · refine good_of h _ _ d2 d3 rfl (fun p hq => by simp only [List.mem_singleton] at hq; subst hq; omega) htop ?_ (by rw [cutB_len]; omega) ?_ ?_
      · have h1 := nz_put [t / 16] q1 (newT n 1) (fun p hq => by simp only [List.mem_singleton] at hq; subst hq; omega) (by simp) (by rw [newT_len]; rfl) (fun x hx => by have := newT_mem x hx; omega)
        rw [hcl] at h1
        have h2 : cntZ q1 [t / 16] = 0 := by
          unfold cntZ
          rw [List.length_eq_zero_iff, List.filter_eq_nil_iff]
          intro p hq
          simp only [List.mem_singleton] at hq
          subst hq
          rw [hcg (t / 16), if_neg (by omega), ← erd]
          simpa using cT.2.2
        show ((nz (putS q1 [t / 16] (newT n 1)) 5 : Nat) : Int) ≤ D
        have := h.used
        rw [h1, h2]; omega
      · intro x hx
        refine Eq.trans ?_ (hby x).symm
        rw [if_pos (by omega), cutB_get _ _ _ (by omega), want_get h x (by omega)]
      · intro x hx hx8
        exact (hby x).trans (if_neg (by omega))
  · have etd : tdCut 1 (t : Int) s q = [] := by unfold tdCut; rw [if_neg cT]
    have w3 : file_Truncate.f K (tr s q) 1 (t : Int) = some (tr (t : Int) q1, [], 0) := by rw [← etd]; exact w2
    obtain ⟨d1, d2, d3⟩ := done_tr hX1 hcs htop hn [] [] rfl (by simp) (by simp) (by simp)
    have hby : ∀ x : Nat, x < 80 → byteAt (merged P n []) (putS q1 [] (newT n 0)) x = if x < t then byteAt P q x else 0 := by
      intro x hx8
      obtain ⟨b1, b2⟩ := byte_new (P := P) (n := n) (q1 := q1) (fun i => by rw [hcg i]; have := top_get h i; split <;> omega) hcl [] [] rfl (by simp) (by simp) x
      refine (b1 (by simp)).trans ?_
      unfold byteAt
      rw [hcg (x / 16)]
      by_cases c2 : x < t
      · rw [if_pos c2, if_neg (by omega)]
      · rw [if_neg c2]
        by_cases c3 : t ≤ x / 16 * 16
        · rw [if_pos c3, h.nil 0 (by omega)]; rfl
        · rw [if_neg c3]
          by_cases c4 : s ≤ (t : Int)
          · exact h.tail x (by omega) hx8
          · have : rd q ((t : Int) / 16) = 0 := by
              apply Classical.byContradiction
              intro c5
              exact cT ⟨by omega, by omega, c5⟩
            rw [show (t : Int) / 16 = ((x / 16 : Nat) : Int) from by omega, rdn] at this
            rw [this, h.nil 0 (by omega)]; rfl
    refine ⟨_, _, _, _, ⟨K, w3⟩, by simp, light_of _ (by simp) (by simp), by simp, d1, ?_⟩
    refine good_of h _ _ d2 d3 rfl (by simp) htop ?_ (by rw [cutB_len]; omega) ?_ ?_
    · show ((nz q1 5 : Nat) : Int) ≤ D
      have := h.used
      omega
    · intro x hx
      refine Eq.trans ?_ (hby x (by omega)).symm
      rw [if_pos (by omega), cutB_get _ _ _ (by omega), want_get h x (by omega)]
    · intro x hx hx8
      exact (hby x hx8).trans (if_neg (by omega))
theorem wf_rng {x : Int} (h : (Lit.int .i64 x).wf = true) : -9223372036854775808 ≤ x ∧ x ≤ 9223372036854775807 := by
  simp [Lit.wf, IntKind.min, IntKind.max, IntKind.signed, IntKind.bits] at h; omega
theorem write_far {l : List S28} {i : Nat} (h : fileAt l i) {a : Int} {b : List Int} (hb : b.length ≠ 0) (ha : 0 ≤ a) (hf : ¬ fits a (b.length : Int)) (d : Int) (hw : (Lit.int .i64 a).wf = true) : Ev (fun k => file_Write.f k l d i a b) ([], [], 16) := by
  unfold file_Write.f
  refine h.is.bind ?_
  simp only [if_true, qF (show ¬ a < 0 from by omega)]
  refine Ev.step (f := fun _ => some ([], [], 16)) (fun k => ?_) (Ev.now _)
  simp only [file_Write.j0, Bool.false_eq_true, if_false]
  rw [if_neg (by omega), fits_some a _ (wf_rng hw), qF hf]
  rfl
theorem step_ok (hD : 1 ≤ D ∧ D ≤ 60) (h : Stands D s q P n wt) (hn : n ≤ 300) (do_ at_ : Int) (hat : (Lit.int .i64 at_).wf = true) (d : List Int) (hd : d.length ≤ 200) :
    ∃ u td e, (∃ k, (if do_ = 0 then file_Truncate.f k (tr s q) 1 at_ else file_Write.f k (tr s q) D 1 at_ d) = some (u, td, e)) ∧ (e ≠ 0 → u = [] ∧ td = []) ∧ (e = 0 →
      (do_ = 0 ∨ d.length ≠ 0 → 0 ≤ at_ ∧ at_ ≤ 80) ∧ (do_ ≠ 0 → d.length ≠ 0 → at_ + (d.length : Int) ≤ 80) ∧ td.length ≤ 5 ∧ (∃ k, potsherdlaw20_light.f k td = some true) ∧ (∀ t ∈ td, (Lit.int .i64 t.f2).wf = true) ∧
      ∃ s' q', (∃ k, file_Done.f k u td (newT n td.length) = some (tr s' q', 0)) ∧ (∃ k, potsherdref12_MayTree.f k (tr s' q') = some true) ∧ (∃ k r, potsherdref12_Used.f k (tr s' q') = some r ∧ r ≤ D) ∧ Stands D s' q' (merged P n td) (n + td.length) (afterB wt do_ at_ d)) := by
  have hF := tr_file h.ok h.seq
  have now : ∀ {f : Nat → Option (List S28 × List S60 × Int)} {r}, Ev f r → ∃ k, f k = some r := fun ⟨K, h⟩ => ⟨K, h K (Nat.le_refl _)⟩
  have fin : ∀ {s' q' td wt'}, Stands D s' q' (merged P n td) (n + td.length) wt' → (∃ k, potsherdref12_MayTree.f k (tr s' q') = some true) ∧ (∃ k r, potsherdref12_Used.f k (tr s' q') = some r ∧ r ≤ D) := fun g => by
    obtain ⟨m1, k, m2⟩ := may_tr g.ok g.seq
    exact ⟨m1, k, _, m2, g.used⟩
  by_cases c0 : do_ = 0
  · simp only [if_pos c0]
    by_cases c1 : at_ < 0
    · exact ⟨[], [], 1, now (trunc_arg hF c1), fun _ => ⟨rfl, rfl⟩, fun x => absurd x (by decide)⟩
    by_cases c2 : at_ > 80
    · exact ⟨[], [], 16, now (trunc_big hF c2), fun _ => ⟨rfl, rfl⟩, fun x => absurd x (by decide)⟩
    obtain ⟨t, rfl⟩ : ∃ t : Nat, at_ = t := ⟨at_.toNat, by omega⟩
    obtain ⟨td, u, s', q', w1, w2, w3, w4, w5, w6⟩ := step_trunc h hn t (by omega)
    obtain ⟨f1, f2⟩ := fin w6
    refine ⟨u, td, 0, w1, fun x => absurd rfl x, fun _ => ⟨fun _ => by omega, fun x => absurd c0 x, w2, w3, w4, s', q', w5, f1, f2, ?_⟩⟩
    have e : afterB wt do_ (t : Int) d = cutB wt t := by unfold afterB; rw [if_pos c0, Int.toNat_natCast]
    rw [e]; exact w6
  · simp only [if_neg c0]
    by_cases c1 : at_ < 0
    · exact ⟨[], [], 1, now (write_neg hF c1 d D), fun _ => ⟨rfl, rfl⟩, fun x => absurd x (by decide)⟩
    by_cases c2 : d.length = 0
    · obtain rfl : d = [] := List.length_eq_zero_iff.mp c2
      obtain ⟨d1, d2, d3⟩ := done_tr h.ok h.seq h.top hn [] [] rfl (by simp) (by simp) (by simp)
      have em : merged P n [] = P := by funext p; unfold merged; rw [if_neg (by simp)]
      have hg : Stands D s q (merged P n []) (n + ([] : List S60).length) wt := by rw [em]; exact h
      obtain ⟨f1, f2⟩ := fin hg
      refine ⟨tr s q, [], 0, now (write_none hF (by omega) D), fun x => absurd rfl x, fun _ => ⟨fun x => x.elim (fun y => absurd y c0) (fun y => absurd rfl y), fun _ x => absurd rfl x, by simp, light_of _ (by simp) (by simp), by simp, s, q, d1, f1, f2, ?_⟩⟩
      have e : afterB wt do_ at_ [] = wt := by unfold afterB; rw [if_neg c0, if_pos c2]
      rw [e]; exact hg
    by_cases c3 : fits at_ (d.length : Int)
    · obtain ⟨a, rfl⟩ : ∃ a : Nat, at_ = a := ⟨at_.toNat, by omega⟩
      rcases step_write hD h hn a d c2 (by omega) with w | ⟨td, u, s', q', w1, w2, w3, w4, w5, w6⟩
      · exact ⟨[], [], 13, w, fun _ => ⟨rfl, rfl⟩, fun x => absurd x (by decide)⟩
      · obtain ⟨f1, f2⟩ := fin w6
        refine ⟨u, td, 0, w1, fun x => absurd rfl x, fun _ => ⟨fun _ => by omega, fun _ _ => by omega, w2, w3, w4, s', q', w5, f1, f2, ?_⟩⟩
        have e : afterB wt do_ (a : Int) d = (cutB wt (max wt.length (a + d.length))).take a ++ (d ++ (cutB wt (max wt.length (a + d.length))).drop (a + d.length)) := by unfold afterB; rw [if_neg c0, if_neg c2, Int.toNat_natCast]
        rw [e]; exact w6
    · have hbig : Ev (fun k => file_Write.f k (tr s q) D 1 at_ d) ([], [], 16) := write_far hF c2 (by omega) c3 D hat
      exact ⟨[], [], 16, now hbig, fun _ => ⟨rfl, rfl⟩, fun x => absurd x (by decide)⟩
theorem pcs_b : ∀ (k a n : Nat), ∀ p ∈ pcs k a n, 0 ≤ p.f1 ∧ 0 ≤ p.f2 ∧ p.f1 + p.f2 ≤ 16
  | 0, _, _, p, hp => by simp [pcs] at hp
  | k + 1, a, n, p, hp => by
    unfold pcs at hp
    by_cases c : n = 0
    · rw [if_pos c] at hp; simp at hp
    · rw [if_neg c] at hp
      rcases List.mem_cons.1 hp with rfl | hp
      · refine ⟨by show (0 : Int) ≤ ((a % 16 : Nat) : Int); omega, by show (0 : Int) ≤ ((min (16 - a % 16) n : Nat) : Int); omega, ?_⟩
        show ((a % 16 : Nat) : Int) + ((min (16 - a % 16) n : Nat) : Int) ≤ 16
        omega
      · exact pcs_b k _ _ p hp
theorem read_pcs (P : Int → List Int) (q : List Int) : ∀ (k a n : Nat), n = 0 ∨ n + a % 16 ≤ 16 * k → readB P q (pcs k a n) = (List.range' a n).map (byteAt P q)
  | 0, a, n, h => by rw [show n = 0 from by omega]; rfl
  | k + 1, a, n, h => by
    unfold pcs
    by_cases c : n = 0
    · rw [if_pos c, c]; rfl
    · rw [if_neg c]
      have ih := read_pcs P q k (a + min (16 - a % 16) n) (n - min (16 - a % 16) n) (by by_cases c2 : n ≤ 16 - a % 16 <;> omega)
      unfold readB at ih ⊢
      rw [List.flatMap_cons, ih]
      have hsp : List.range' a n = List.range' a (min (16 - a % 16) n) ++ List.range' (a + min (16 - a % 16) n) (n - min (16 - a % 16) n) := by
        rw [List.range'_append_1]; congr 1; omega
      rw [hsp, List.map_append]
      congr 1
      unfold pieceB
      rw [List.range'_eq_map_range, List.map_map]
      show (List.range (Int.toNat ((min (16 - a % 16) n : Nat) : Int))).map _ = _
      rw [Int.toNat_natCast]
      apply List.map_congr_left
      intro j hj
      rw [List.mem_range] at hj
      show (P (rd q ((a / 16 : Nat) : Int))).getD (((a % 16 : Nat) : Int).toNat + j) 0 = byteAt P q (a + j)
      unfold byteAt
      rw [rdn, Int.toNat_natCast, show (a + j) / 16 = a / 16 from by omega, show (a + j) % 16 = a % 16 + j from by omega]
theorem good_read (h : Stands D s q P n wt) : ∃ k L, file_Read.f k (tr s q) 1 0 1000 = some (L, 0) ∧ L.length ≤ 6 ∧ (∀ p ∈ L, 0 ≤ p.f0 ∧ p.f0 < 5 ∧ 0 ≤ p.f1 ∧ 0 ≤ p.f2 ∧ p.f1 + p.f2 ≤ 16) ∧ readB P q L = wt := by
  obtain ⟨k1, k2, k3, k4, k5, k6, k7⟩ := h.okF
  have hF := tr_file h.ok h.seq
  have hp := pieces3_ev (a := 0) (n := s) ⟨by omega, by omega, by omega⟩
  have hcut : span_Cut.f s 0 1000 = some s := by
    unfold span_Cut.f mn
    rw [if_neg (by decide), if_neg (by decide)]
    by_cases c : s ≤ 0
    · rw [if_pos c]; congr 1; omega
    · rw [if_neg c, w64 (a := s - 0) (by omega) (by omega)]
      congr 1
      split <;> omega
  have hr : Ev (fun k => file_Read.f k (tr s q) 1 0 1000) (pcs 6 0 s.toNat, 0) := by
    unfold file_Read.f
    refine hF.is.bind ?_
    simp only [if_true]
    refine Ev.step (fun k => by
      rw [if_neg (by decide)]
      simp only [file_Read.j0, show decide ((1000 : Int) < 0) = false from by decide, Bool.false_eq_true, if_false]
      rw [if_pos (by decide), if_pos (show (1 : Int) < ((tr s q).length : Int) from by show (1 : Int) < 12; decide), show rU (tr s q) 1 = ⟨1, 1, s, q, []⟩ from rfl]
      simp only [hcut, Option.bind_some]
      rfl) (hp.bind (Ev.now _))
  obtain ⟨K, h1⟩ := hr
  refine ⟨K, pcs 6 0 s.toNat, h1 K (Nat.le_refl _), ?_, fun p hp => ?_, ?_⟩
  · have := pcs_len5 ⟨0, by omega⟩ ⟨s.toNat, by omega⟩ (by simp only []; omega)
    simp only at this; omega
  · have a1 := pcs_page 6 0 s.toNat (by omega) p hp
    have a2 := pcs_b 6 0 s.toNat p hp
    exact ⟨a1.1, a1.2, a2.1, a2.2.1, a2.2.2⟩
  · rw [read_pcs P q 6 0 s.toNat (by omega), h.want, List.range_eq_range']
end Go.Proofs.Ytkigiehkckjlhaa.ReadsLib
