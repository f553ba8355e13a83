/- What a name, a node, a file and a tree may be, how many pages they have: the printed functions tell it at every input within the reach; no other condition. -/
import Derived.Test.YtkigiehkckjlhaaZReadsPlain
import Derived.Test.YtkigiehkckjlhaaZReadsPReadsx5
import Derived.Test.YtkigiehkckjlhaaZReadsPReadsx22
import Derived.Test.YtkigiehkckjlhaaZReadsPReadsx24
import Derived.Test.YtkigiehkckjlhaaZReadsPReadsx33
import Derived.Test.YtkigiehkckjlhaaZReadsPReadsx34
import Derived.Test.YtkigiehkckjlhaaZReadsPReadsx35
namespace Go.Proofs.Ytkigiehkckjlhaa.ReadsLib
set_option linter.unusedVariables false
set_option linter.unusedSimpArgs false
open Go.RowKit Go.Proofs.Ytkigiehkckjlhaa.PReads Go.Proofs.YtkigiehkckjlhaaW.PrintWords
open Go Go.Proofs.Ytkigiehkckjlhaa.Plain Go.Proofs.YtkigiehkckjlhaaW.PrintMore
theorem okc_path (k : Nat) (s : ByteArray) (n i : Int) (h0 : 0 ≤ i) (h1 : i < n) (h2 : i < s.size) : path_May.l0 (k + 1) s n i = if okc (bt s i) then path_May.l0 k s n (wrap64 (i + 1)) else some false := by
  simp only [path_May.l0]
  rw [if_pos h1, if_pos h0, if_pos h2]
  generalize path_May.l0 k s n (wrap64 (i + 1)) = R
  generalize bt s i = c
  by_cases h : okc c
  · rw [if_pos h]
    repeat' split
    all_goals first | rfl | omega
  · rw [if_neg h]
    repeat' split
    all_goals first | rfl | omega
theorem path_tells (s : ByteArray) (hs : s.size ≤ 140737488351232) : Tells (fun k => path_May.f k s) (okS s) := by
  have h := Tells_scan (g := fun k i => path_May.l0 k s (s.size : Int) i) s.size (fun i => okc (bt s i)) (1 ≤ s.size ∧ s.size ≤ 8 ∧ s.toList ≠ [46] ∧ s.toList ≠ [46, 46])
    (Tells.step (f := fun _ => some (decide (1 ≤ s.size ∧ s.size ≤ 8 ∧ s.toList ≠ [46] ∧ s.toList ≠ [46, 46]))) (fun k => by
      simp only [path_May.l0]
      rw [if_neg (by omega)]
      by_cases c1 : (s.size : Int) ≥ 1
      · rw [if_pos c1]
        by_cases c2 : (s.size : Int) ≤ 8
        · rw [if_pos c2]
          by_cases c3 : s.toList = ([46] : List UInt8)
          · rw [if_pos c3, qF (fun h => h.2.2.1 c3)]
          · rw [if_neg c3]; congr 1
            by_cases c4 : s.toList = ([46, 46] : List UInt8)
            · rw [qF (fun h => h.2.2.2 c4)]; simp [c4]
            · rw [qT ⟨by omega, by omega, c3, c4⟩]; simp [c4]
        · rw [if_neg c2, qF (by omega)]
      · rw [if_neg c1, qF (by omega)]) ⟨_, Ev.now _, by simp⟩)
    (fun i hi hP r hr => Ev.step (fun k => by rw [okc_path k s _ i (by omega) (by omega) (by omega), if_pos hP, w64 (by omega) (by omega)]) hr)
    (fun i hi hP => Ev.step (f := fun _ => some false) (fun k => by rw [okc_path k s _ i (by omega) (by omega) (by omega), if_neg hP]) (Ev.now _))
  exact h.iff ⟨fun x => ⟨x.2, x.1⟩, fun x => ⟨x.2, x.1⟩⟩
theorem okc_name (k : Nat) (s : ByteArray) (n i : Int) (h0 : 0 ≤ i) (h1 : i < n) (h2 : i < s.size) : potsherdref12_Name.l0 (k + 1) s n i = if okc (bt s i) then potsherdref12_Name.l0 k s n (wrap64 (i + 1)) else some false := by
  simp only [potsherdref12_Name.l0]
  rw [if_pos h1, if_pos h0, if_pos h2]
  generalize potsherdref12_Name.l0 k s n (wrap64 (i + 1)) = R
  generalize bt s i = c
  by_cases h : okc c
  · rw [if_pos h]
    repeat' split
    all_goals first | rfl | omega
  · rw [if_neg h]
    repeat' split
    all_goals first | rfl | omega
theorem ref_name_tells (s : ByteArray) (hs : s.size ≤ 140737488351232) : Tells (fun k => potsherdref12_Name.f k s) (okS s) := by
  have h := Tells_scan (g := fun k i => potsherdref12_Name.l0 k s (s.size : Int) i) s.size (fun i => okc (bt s i)) True
    (Tells.step (f := fun _ => some true) (fun k => by simp only [potsherdref12_Name.l0]; rw [if_neg (by omega)]) ⟨_, Ev.now _, by simp⟩)
    (fun i hi hP r hr => Ev.step (fun k => by rw [okc_name k s _ i (by omega) (by omega) (by omega), if_pos hP, w64 (by omega) (by omega)]) hr)
    (fun i hi hP => Ev.step (f := fun _ => some false) (fun k => by rw [okc_name k s _ i (by omega) (by omega) (by omega), if_neg hP]) (Ev.now _))
  have hj : Ev (fun k => potsherdref12_Name.j0 k s true) false := Ev.step (f := fun _ => some false) (fun k => by simp only [potsherdref12_Name.j0, if_true]) (Ev.now _)
  unfold potsherdref12_Name.f
  by_cases c1 : (s.size : Int) < 1
  · simp only [if_pos c1]; exact ⟨false, hj, by simp; omega⟩
  · simp only [if_neg c1]
    by_cases c2 : (s.size : Int) > 8
    · simp only [if_pos c2]; exact ⟨false, hj, by simp; omega⟩
    · simp only [if_neg c2]
      by_cases c3 : s.toList = ([46] : List UInt8)
      · simp only [if_pos c3]; exact ⟨false, hj, by simp [c3]⟩
      · simp only [if_neg c3]
        by_cases c4 : s.toList = ([46, 46] : List UInt8)
        · simp only [c4, beq_self_eq_true]; exact ⟨false, hj, by simp [c4]⟩
        · have e : (s.toList == ([46, 46] : List UInt8)) = false := by simp [c4]
          simp only [e]
          refine Tells.step (fun k => by simp only [potsherdref12_Name.j0, Bool.false_eq_true, if_false]) (h.iff ⟨fun x => ⟨⟨by omega, by omega, c3, c4⟩, x.1⟩, fun x => ⟨x.2, trivial⟩⟩)
abbrev okE (x : S78) : Prop := okS x.f0 ∧ 1 ≤ x.f1 ∧ x.f1 < 12
abbrev lt (a b : S78) : Prop := Op.bytesLess a.f0.toList b.f0.toList = true
abbrev okL (l : List S78) : Prop := (∀ i, i < l.length → okE (l.getD i z78) ∧ (0 < i → lt (l.getD (i - 1) z78) (l.getD i z78))) ∧ l.length ≤ 10
theorem rd38 (l : List S78) (i : Nat) : rV l (i : Int) = l.getD i z78 := by unfold rV; rw [Int.toNat_natCast]
theorem size_at {l : List S78} (h : ∀ x ∈ l, x.f0.size ≤ 140737488351232) (i : Nat) : (l.getD i z78).f0.size ≤ 140737488351232 := by
  rw [qG]
  by_cases hi : i < l.length
  · rw [List.getElem?_eq_getElem hi]; exact h _ (List.getElem_mem hi)
  · rw [List.getElem?_eq_none (by omega)]; decide
theorem sole_tells (s : ByteArray) (n : Int) (hs : s.size ≤ 140737488351232) : Tells (fun k => name_sole.f k s n) (okS s ∧ 1 ≤ n ∧ n < 12) := by
  unfold name_sole.f
  refine Tells.of (fun h => ((path_tells s hs).yes h.1).bind ?_) (fun h => ?_)
  · exact Ev.const (fun k => by rw [if_pos rfl, if_pos (by omega)]) (by rw [qT h.2.2])
  · by_cases c : okS s
    · refine ((path_tells s hs).yes c).bind (Ev.const (fun k => by rw [if_pos rfl]) ?_)
      by_cases c1 : n ≥ 1
      · rw [if_pos c1, qF (fun x => h ⟨c, by omega, x⟩)]
      · rw [if_neg c1]
    · exact ((path_tells s hs).no c).bind (Ev.const (fun k => by rw [if_neg (by decide)]) rfl)
theorem may_tells (l : List S78) (hl : l.length ≤ 5864062014634) (hs : ∀ x ∈ l, x.f0.size ≤ 140737488351232) : Tells (fun k => name_May.f k l) (okL l) := by
  unfold name_May.f
  refine Tells_scan (g := fun k i => name_May.l0 k l l (l.length : Int) i) l.length _ _ (Tells.step (f := fun _ => some (decide ((l.length : Int) ≤ 10))) (fun k => by simp only [name_May.l0]; rw [if_neg (by omega)]) ⟨_, Ev.now _, by simp; omega⟩) ?_ ?_
  · intro i hi hP r hr
    refine Ev.step (fun k => by simp only [name_May.l0]; rw [if_pos (by omega), if_pos (by omega), if_pos (by omega), rd38]) ?_
    refine ((sole_tells (l.getD i z78).f0 (l.getD i z78).f1 (size_at hs i)).yes hP.1).bind (Ev.congr (fun k => by rw [if_pos rfl]) ?_)
    by_cases c : (i : Int) > 0
    · refine Ev.congr (fun k => by rw [if_pos c, w64 (a := (i : Int) - 1) (by omega) (by omega), if_pos (by omega), if_pos (by omega)]) ?_
      have e : rV l ((i : Int) - 1) = l.getD (i - 1) z78 := by rw [show ((i : Int) - 1) = ((i - 1 : Nat) : Int) by omega, rd38]
      refine Ev.congr (fun k => by rw [e, if_pos (hP.2 (by omega)), w64 (a := (i : Int) + 1) (by omega) (by omega)]) hr
    · exact Ev.congr (fun k => by rw [if_neg c, w64 (a := (i : Int) + 1) (by omega) (by omega)]) hr
  · intro i hi hP
    refine Ev.step (fun k => by simp only [name_May.l0]; rw [if_pos (by omega), if_pos (by omega), if_pos (by omega), rd38]) ?_
    by_cases c : okE (l.getD i z78)
    · refine ((sole_tells (l.getD i z78).f0 (l.getD i z78).f1 (size_at hs i)).yes c).bind (Ev.congr (fun k => by rw [if_pos rfl]) ?_)
      by_cases c1 : (i : Int) > 0
      · have e : rV l ((i : Int) - 1) = l.getD (i - 1) z78 := by rw [show ((i : Int) - 1) = ((i - 1 : Nat) : Int) by omega, rd38]
        exact Ev.const (fun k => by rw [if_pos c1, w64 (a := (i : Int) - 1) (by omega) (by omega), if_pos (by omega), if_pos (by omega), e, if_neg (fun x => hP ⟨c, fun _ => x⟩)]) rfl
      · exact absurd ⟨c, fun h => by omega⟩ hP
    · exact ((sole_tells (l.getD i z78).f0 (l.getD i z78).f1 (size_at hs i)).no c).bind (Ev.const (fun k => by rw [if_neg (by decide)]) rfl)
theorem ref_may_tells (l : List S78) (hl : l.length ≤ 5864062014634) (hs : ∀ x ∈ l, x.f0.size ≤ 140737488351232) : Tells (fun k => potsherdref12_MayEntries.f k l) (okL l) := by
  unfold potsherdref12_MayEntries.f
  by_cases c0 : (l.length : Int) > 10
  · exact ⟨false, Ev.const (fun k => if_pos c0) rfl, by simp; omega⟩
  refine Tells.congr (fun k => if_neg c0) ?_
  refine (Tells_scan (g := fun k i => potsherdref12_MayEntries.l0 k l l (l.length : Int) i) l.length (fun i => okE (l.getD i z78) ∧ (0 < i → lt (l.getD (i - 1) z78) (l.getD i z78))) True (Tells.step (f := fun _ => some true) (fun k => by simp only [potsherdref12_MayEntries.l0]; rw [if_neg (by omega)]) ⟨_, Ev.now _, by simp⟩) ?_ ?_).iff ⟨fun x => ⟨x.1, by omega⟩, fun x => ⟨x.1, trivial⟩⟩
  · intro i hi hP r hr
    refine Ev.step (fun k => by simp only [potsherdref12_MayEntries.l0]; rw [if_pos (by omega), if_pos (by omega), if_pos (by omega), rd38]) ?_
    refine ((ref_name_tells (l.getD i z78).f0 (size_at hs i)).yes hP.1.1).bind (Ev.congr (fun k => by rw [if_pos rfl]) ?_)
    by_cases c : (i : Int) > 0
    · refine Ev.congr (fun k => by rw [if_pos c, w64 (a := (i : Int) - 1) (by omega) (by omega), if_pos (by omega), if_pos (by omega)]) ?_
      have e : rV l ((i : Int) - 1) = l.getD (i - 1) z78 := by rw [show ((i : Int) - 1) = ((i - 1 : Nat) : Int) by omega, rd38]
      refine Ev.congr (fun k => by rw [e, if_pos (hP.2 (by omega)), if_neg (by have := hP.1.2; omega), if_neg (by have := hP.1.2; omega), w64 (a := (i : Int) + 1) (by omega) (by omega)]) hr
    · exact Ev.congr (fun k => by rw [if_neg c, if_neg (by have := hP.1.2; omega), if_neg (by have := hP.1.2; omega), w64 (a := (i : Int) + 1) (by omega) (by omega)]) hr
  · intro i hi hP
    refine Ev.step (fun k => by simp only [potsherdref12_MayEntries.l0]; rw [if_pos (by omega), if_pos (by omega), if_pos (by omega), rd38]) ?_
    by_cases c : okS (l.getD i z78).f0
    · refine ((ref_name_tells (l.getD i z78).f0 (size_at hs i)).yes c).bind (Ev.congr (fun k => by rw [if_pos rfl]) ?_)
      have hn : (if (l.getD i z78).f1 < 1 then some false else if (l.getD i z78).f1 ≥ 12 then some false else none) = (some false : Option Bool) ∨ okE (l.getD i z78) := by
        by_cases c1 : (l.getD i z78).f1 < 1
        · left; rw [if_pos c1]
        · by_cases c2 : (l.getD i z78).f1 ≥ 12
          · left; rw [if_neg c1, if_pos c2]
          · right; exact ⟨c, by omega, by omega⟩
      have hn2 : ∀ R : Option Bool, ¬ okE (l.getD i z78) → (if (l.getD i z78).f1 < 1 then some false else if (l.getD i z78).f1 ≥ 12 then some false else R) = some false := by
        intro R hE
        by_cases c1 : (l.getD i z78).f1 < 1
        · rw [if_pos c1]
        · rw [if_neg c1, if_pos (by have : ¬ (1 ≤ (l.getD i z78).f1 ∧ (l.getD i z78).f1 < 12) := fun x => hE ⟨c, x⟩; omega)]
      by_cases c1 : (i : Int) > 0
      · have e : rV l ((i : Int) - 1) = l.getD (i - 1) z78 := by rw [show ((i : Int) - 1) = ((i - 1 : Nat) : Int) by omega, rd38]
        refine Ev.const (o := some false) (fun k => ?_) rfl
        rw [if_pos c1, w64 (a := (i : Int) - 1) (by omega) (by omega), if_pos (by omega), if_pos (by omega), e]
        by_cases c2 : lt (l.getD (i - 1) z78) (l.getD i z78)
        · rw [if_pos c2]; exact hn2 _ (fun x => hP ⟨x, fun _ => c2⟩)
        · rw [if_neg c2]
      · exact Ev.const (o := some false) (fun k => by rw [if_neg c1]; exact hn2 _ (fun x => hP ⟨x, fun h => by omega⟩)) rfl
    · exact ((ref_name_tells (l.getD i z78).f0 (size_at hs i)).no c).bind (Ev.const (fun k => by rw [if_neg (by decide)]) rfl)
theorem rdn (q : List Int) (i : Nat) : rd q (i : Int) = q.getD i 0 := by unfold rd; rw [Int.toNat_natCast]
theorem within_eq (a b : Int) : node_within.f a b = some (decide (0 ≤ a ∧ a ≤ b)) := by
  unfold node_within.f
  by_cases h : a ≥ 0
  · rw [if_pos h]; congr 1; rw [decide_eq_decide]; omega
  · rw [if_neg h, qF (by omega)]
abbrev okQ (si : Int) (q : List Int) (i : Nat) : Prop := 0 ≤ q.getD i 0 ∧ q.getD i 0 ≤ 1099511627776 ∧ (si ≤ (i : Int) * 16 → q.getD i 0 = 0)
abbrev okF (li si : Int) (q : List Int) (e : List S78) : Prop := (∀ i, i < q.length → okQ si q i) ∧ 0 ≤ li ∧ li ≤ 120 ∧ 0 ≤ si ∧ si ≤ 80 ∧ q.length = 5 ∧ e.length = 0
abbrev okN (t li si : Int) (q : List Int) (e : List S78) : Prop :=
  (t = 0 ∧ li = 0 ∧ si = 0 ∧ q.length = 0 ∧ e.length = 0) ∨ (t = 1 ∧ okF li si q e) ∨ (t = 2 ∧ li = 1 ∧ si = 0 ∧ q.length = 0 ∧ okL e)
theorem file_loop (t li si : Int) (q : List Int) (e : List S78) (hq : q.length ≤ 5) : Tells (fun k => node_file.l0 k q (q.length : Int) 0 t li si q e) (∀ i, i < q.length → okQ si q i) := by
  refine (Tells_scan (g := fun k i => node_file.l0 k q (q.length : Int) i t li si q e) q.length (okQ si q) True (Tells.step (f := fun _ => some true) (fun k => by simp only [node_file.l0]; rw [if_neg (by omega)]) ⟨_, Ev.now _, by simp⟩) ?_ ?_).iff ⟨fun x => x.1, fun x => ⟨x, trivial⟩⟩
  · intro i hi hP r hr
    obtain ⟨h1, h2, h3⟩ := hP
    refine Ev.step (fun k => ?_) hr
    simp only [node_file.l0]
    rw [if_pos (by omega), if_pos (by omega), if_pos (by omega), rdn, within_eq]
    simp only [Option.bind_some, decide_eq_true_eq]
    rw [if_pos ⟨h1, h2⟩, w64 (a := (i : Int) * 16) (by omega) (by omega), w64 (a := (i : Int) + 1) (by omega) (by omega)]
    by_cases c : (i : Int) * 16 ≥ si
    · rw [if_pos c, if_pos (h3 c)]
    · rw [if_neg c]
  · intro i hi hP
    refine Ev.step (f := fun _ => some false) (fun k => ?_) (Ev.now _)
    simp only [node_file.l0]
    rw [if_pos (by omega), if_pos (by omega), if_pos (by omega), rdn, within_eq]
    simp only [Option.bind_some, decide_eq_true_eq]
    by_cases c1 : 0 ≤ q.getD i 0 ∧ q.getD i 0 ≤ 1099511627776
    · rw [if_pos c1, w64 (a := (i : Int) * 16) (by omega) (by omega)]
      have c2 : ¬ (si ≤ (i : Int) * 16 → q.getD i 0 = 0) := fun x => hP ⟨c1.1, c1.2, x⟩
      by_cases c3 : (i : Int) * 16 ≥ si
      · rw [if_pos c3, if_neg (fun x => c2 (fun _ => x))]
      · exact absurd (fun x => absurd x (by omega)) c2
    · rw [if_neg c1]
theorem file_tells (t li si : Int) (q : List Int) (e : List S78) : Tells (fun k => node_file.f k t li si q e) (okF li si q e) := by
  unfold node_file.f
  simp only [within_eq, Option.bind_some, decide_eq_true_eq]
  have hbad : Ev (fun k => node_file.j0 k true t li si q e) false := Ev.step (f := fun _ => some false) (fun k => by simp only [node_file.j0, if_true]) (Ev.now _)
  by_cases c1 : 0 ≤ li ∧ li ≤ 120
  · simp only [if_pos c1]
    by_cases c2 : 0 ≤ si ∧ si ≤ 80
    · simp only [if_pos c2]
      by_cases c3 : (q.length : Int) = 5
      · simp only [if_pos c3]
        by_cases c4 : (e.length : Int) > 0
        · rw [qT c4]; exact ⟨false, hbad, by simp only [Bool.false_eq_true, false_iff]; rintro ⟨_, x⟩; omega⟩
        · rw [qF c4]
          exact (Tells.step (fun k => by simp only [node_file.j0, Bool.false_eq_true, if_false]) (file_loop t li si q e (by omega))).iff ⟨fun x => ⟨x, c1.1, c1.2, c2.1, c2.2, by omega, by omega⟩, fun x => x.1⟩
      · simp only [if_neg c3]; exact ⟨false, hbad, by simp only [Bool.false_eq_true, false_iff]; rintro ⟨_, x⟩; omega⟩
    · simp only [if_neg c2]; exact ⟨false, hbad, by simp only [Bool.false_eq_true, false_iff]; rintro ⟨_, x⟩; omega⟩
  · simp only [if_neg c1]; exact ⟨false, hbad, by simp only [Bool.false_eq_true, false_iff]; rintro ⟨_, x⟩; omega⟩
theorem node_tells (t li si : Int) (q : List Int) (e : List S78) (hl : e.length ≤ 5864062014634) (hs : ∀ x ∈ e, x.f0.size ≤ 140737488351232) : Tells (fun k => node_May.f k t li si q e) (okN t li si q e) := by
  unfold node_May.f
  by_cases c0 : t = 0
  · simp only [if_pos c0]
    refine ⟨decide (li = 0 ∧ si = 0 ∧ q.length = 0 ∧ e.length = 0), Ev.const (fun k => rfl) ?_, ?_⟩
    · by_cases c1 : li = 0
      · rw [if_pos c1]
        by_cases c2 : si = 0
        · rw [if_pos c2]
          by_cases c3 : (q.length : Int) = 0
          · rw [if_pos c3]; congr 1
            by_cases c4 : e.length = 0
            · rw [qT ⟨c1, c2, by omega, c4⟩]; simp [c4]
            · rw [qF (fun x => c4 x.2.2.2)]; simp; intro x; exact c4 (by simp [x])
          · rw [if_neg c3, qF (by omega)]
        · rw [if_neg c2, qF (by omega)]
      · rw [if_neg c1, qF (by omega)]
    · simp only [decide_eq_true_eq]; constructor
      · intro x; exact Or.inl ⟨c0, x.1, x.2.1, x.2.2.1, x.2.2.2⟩
      · rintro (x | x | x)
        · exact x.2
        · exact absurd x.1 (by omega)
        · exact absurd x.1 (by omega)
  · simp only [if_neg c0]
    by_cases c1 : t = 1
    · simp only [if_pos c1, Option.bind_fun_some]
      refine (file_tells t li si q e).iff ⟨fun x => Or.inr (Or.inl ⟨c1, x⟩), ?_⟩
      rintro (x | x | x)
      · exact absurd x.1 c0
      · exact x.2
      · exact absurd x.1 (by omega)
    · simp only [if_neg c1]
      by_cases c2 : t = 2
      · simp only [if_pos c2, Option.bind_fun_some]
        have hout : ∀ P : Prop, okN t li si q e → (li = 1 ∧ si = 0 ∧ q.length = 0 ∧ okL e) := by
          rintro P (x | x | x)
          · exact absurd x.1 c0
          · exact absurd x.1 c1
          · exact x.2
        by_cases d1 : li = 1
        · simp only [if_pos d1]
          by_cases d2 : si = 0
          · simp only [if_pos d2]
            by_cases d3 : (q.length : Int) = 0
            · simp only [if_pos d3]
              exact (may_tells e hl hs).iff ⟨fun x => Or.inr (Or.inr ⟨c2, d1, d2, by omega, x⟩), fun x => (hout True x).2.2.2⟩
            · simp only [if_neg d3]; exact ⟨false, Ev.now _, by simp only [Bool.false_eq_true, false_iff]; intro x; have := hout True x; omega⟩
          · simp only [if_neg d2]; exact ⟨false, Ev.now _, by simp only [Bool.false_eq_true, false_iff]; intro x; have := hout True x; omega⟩
        · simp only [if_neg d1]; exact ⟨false, Ev.now _, by simp only [Bool.false_eq_true, false_iff]; intro x; have := hout True x; omega⟩
      · simp only [if_neg c2]
        refine ⟨false, Ev.now _, by simp only [Bool.false_eq_true, false_iff]; rintro (x | x | x) <;> omega⟩
theorem ref_node_tells (t li si : Int) (q : List Int) (e : List S78) (hl : e.length ≤ 5864062014634) (hs : ∀ x ∈ e, x.f0.size ≤ 140737488351232) : Tells (fun k => potsherdref12_MayNode.f k t li si q e) (okN t li si q e) := by
  unfold potsherdref12_MayNode.f
  have hbad : Ev (fun k => potsherdref12_MayNode.j0 k true t li si q e) false := Ev.step (f := fun _ => some false) (fun k => by simp only [potsherdref12_MayNode.j0, if_true]) (Ev.now _)
  by_cases c0 : t = 0
  · simp only [if_pos c0]
    refine ⟨decide (li = 0 ∧ si = 0 ∧ q.length = 0 ∧ e.length = 0), Ev.const (fun k => rfl) ?_, ?_⟩
    · by_cases c1 : li = 0
      · rw [if_pos c1]
        by_cases c2 : si = 0
        · rw [if_pos c2]
          by_cases c3 : (q.length : Int) = 0
          · rw [if_pos c3]; congr 1
            by_cases c4 : e.length = 0
            · rw [qT ⟨c1, c2, by omega, c4⟩]; simp [c4]
            · rw [qF (fun x => c4 x.2.2.2)]; simp; intro x; exact c4 (by simp [x])
          · rw [if_neg c3, qF (by omega)]
        · rw [if_neg c2, qF (by omega)]
      · rw [if_neg c1, qF (by omega)]
    · simp only [decide_eq_true_eq]; constructor
      · intro x; exact Or.inl ⟨c0, x.1, x.2.1, x.2.2.1, x.2.2.2⟩
      · rintro (x | x | x)
        · exact x.2
        · exact absurd x.1 (by omega)
        · exact absurd x.1 (by omega)
  · simp only [if_neg c0]
    by_cases c2 : t = 2
    · simp only [if_pos c2, Option.bind_fun_some]
      have hout : okN t li si q e → (li = 1 ∧ si = 0 ∧ q.length = 0 ∧ okL e) := by
        rintro (x | x | x)
        · exact absurd x.1 c0
        · exact absurd x.1 (by omega)
        · exact x.2
      by_cases d1 : li = 1
      · simp only [if_pos d1]
        by_cases d2 : si = 0
        · simp only [if_pos d2]
          by_cases d3 : (q.length : Int) = 0
          · simp only [if_pos d3]
            exact (ref_may_tells e hl hs).iff ⟨fun x => Or.inr (Or.inr ⟨c2, d1, d2, by omega, x⟩), fun x => (hout x).2.2.2⟩
          · simp only [if_neg d3]; exact ⟨false, Ev.now _, by simp only [Bool.false_eq_true, false_iff]; intro x; have := hout x; omega⟩
        · simp only [if_neg d2]; exact ⟨false, Ev.now _, by simp only [Bool.false_eq_true, false_iff]; intro x; have := hout x; omega⟩
      · simp only [if_neg d1]; exact ⟨false, Ev.now _, by simp only [Bool.false_eq_true, false_iff]; intro x; have := hout x; omega⟩
    · simp only [if_neg c2]
      by_cases c1 : t = 1
      · simp only [if_pos c1]
        have hout : okN t li si q e → okF li si q e := by
          rintro (x | x | x)
          · exact absurd x.1 c0
          · exact x.2
          · exact absurd x.1 c2
        have bad : ¬ okF li si q e → Tells (fun k => potsherdref12_MayNode.j0 k true t li si q e) (okN t li si q e) := fun h => ⟨false, hbad, by simp only [Bool.false_eq_true, false_iff]; exact fun x => h (hout x)⟩
        by_cases d1 : li < 0
        · simp only [if_pos d1]; exact bad (by rintro ⟨_, x⟩; omega)
        · simp only [if_neg d1]
          by_cases d2 : li > 120
          · simp only [if_pos d2]; exact bad (by rintro ⟨_, x⟩; omega)
          · simp only [if_neg d2]
            by_cases d3 : si < 0
            · simp only [if_pos d3]; exact bad (by rintro ⟨_, x⟩; omega)
            · simp only [if_neg d3]
              by_cases d4 : si > 80
              · simp only [if_pos d4]; exact bad (by rintro ⟨_, x⟩; omega)
              · simp only [if_neg d4]
                by_cases d5 : (q.length : Int) = 5
                · simp only [if_pos d5]
                  by_cases d6 : (e.length : Int) = 0
                  · have e6 : ((e.length : Int) != 0) = false := by simp [d6]
                    rw [e6]
                    refine (Tells.step (f := fun k => potsherdref12_MayNode.l0 k q (q.length : Int) 0 t li si q e) (fun k => by simp only [potsherdref12_MayNode.j0, Bool.false_eq_true, if_false]) (P := ∀ i, i < q.length → okQ si q i) ?_).iff ⟨fun x => Or.inr (Or.inl ⟨c1, x, by omega, by omega, by omega, by omega, by omega, by omega⟩), fun x => (hout x).1⟩
                    refine (Tells_scan (g := fun k i => potsherdref12_MayNode.l0 k q (q.length : Int) i t li si q e) q.length (okQ si q) True (Tells.step (f := fun _ => some true) (fun k => by simp only [potsherdref12_MayNode.l0]; rw [if_neg (by omega)]) ⟨_, Ev.now _, by simp⟩) ?_ ?_).iff ⟨fun x => x.1, fun x => ⟨x, trivial⟩⟩
                    · intro i hi hP r hr
                      obtain ⟨h1, h2, h3⟩ := hP
                      refine Ev.step (fun k => ?_) hr
                      simp only [potsherdref12_MayNode.l0]
                      rw [if_pos (by omega), if_pos (by omega), if_pos (by omega), rdn, if_neg (by omega), if_neg (by omega), w64 (a := (i : Int) * 16) (by omega) (by omega), w64 (a := (i : Int) + 1) (by omega) (by omega)]
                      by_cases z : q.getD i 0 = 0
                      · rw [if_pos z]
                      · rw [if_neg z, if_neg (fun x => z (h3 x))]
                    · intro i hi hP
                      refine Ev.step (f := fun _ => some false) (fun k => ?_) (Ev.now _)
                      simp only [potsherdref12_MayNode.l0]
                      rw [if_pos (by omega), if_pos (by omega), if_pos (by omega), rdn, w64 (a := (i : Int) * 16) (by omega) (by omega)]
                      by_cases z1 : q.getD i 0 < 0
                      · rw [if_pos z1]
                      · rw [if_neg z1]
                        by_cases z2 : q.getD i 0 > 1099511627776
                        · rw [if_pos z2]
                        · rw [if_neg z2]
                          have c2 : ¬ (si ≤ (i : Int) * 16 → q.getD i 0 = 0) := fun x => hP ⟨by omega, by omega, x⟩
                          by_cases z3 : q.getD i 0 = 0
                          · exact absurd (fun _ => z3) c2
                          · rw [if_neg z3]
                            by_cases z4 : (i : Int) * 16 ≥ si
                            · rw [if_pos z4]
                            · exact absurd (fun x => absurd x (by omega)) c2
                  · have e6 : ((e.length : Int) != 0) = true := by simp; intro x; exact d6 (by simp [x])
                    rw [e6]; exact bad (by rintro ⟨_, x⟩; omega)
                · simp only [if_neg d5]; exact bad (by rintro ⟨_, x⟩; omega)
      · simp only [if_neg c1]
        refine ⟨false, Ev.now _, by simp only [Bool.false_eq_true, false_iff]; rintro (x | x | x) <;> omega⟩
def refsTo (i : Int) (q : List Int) (n : Nat) : List S102 := (List.range n).filterMap fun p => if q.getD p 0 = 0 then none else some ⟨1 + i * 5 + (p : Int), q.getD p 0⟩
theorem refs_le (i : Int) (q : List Int) (n : Nat) : (refsTo i q n).length ≤ n := by
  have := List.length_filterMap_le (fun p => if q.getD p 0 = 0 then none else some (⟨1 + i * 5 + (p : Int), q.getD p 0⟩ : S102)) (List.range n)
  simpa [refsTo] using this
theorem refs_skip (i : Int) (q : List Int) (n : Nat) (h : q.getD n 0 = 0) : refsTo i q (n + 1) = refsTo i q n := by
  unfold refsTo; rw [List.range_succ, List.filterMap_append]; simp only [List.filterMap_cons, List.filterMap_nil, if_pos h, List.append_nil]
theorem refs_add (i : Int) (q : List Int) (n : Nat) (h : ¬ q.getD n 0 = 0) : refsTo i q (n + 1) = refsTo i q n ++ [⟨1 + i * 5 + (n : Int), q.getD n 0⟩] := by
  unfold refsTo; rw [List.range_succ, List.filterMap_append]; simp only [List.filterMap_cons, List.filterMap_nil, if_neg h]
noncomputable def refsOf (i t li si : Int) (q : List Int) (e : List S78) : List S102 := open Classical in if t = 1 ∧ okN t li si q e ∧ 0 ≤ i ∧ i ≤ 11 then refsTo i q q.length else []
theorem okN_len {t li si : Int} {q : List Int} {e : List S78} (h : okN t li si q e) : q.length ≤ 5 ∧ e.length ≤ 10 := by
  rcases h with x | x | x
  · omega
  · have := x.2.2; omega
  · have := x.2.2.2.2.2; omega
theorem refs_ev (i t li si : Int) (q : List Int) (e : List S78) (hl : e.length ≤ 5864062014634) (hs : ∀ x ∈ e, x.f0.size ≤ 140737488351232) : Ev (fun k => node_Refs.f k i t li si q e) (refsOf i t li si q e) := by
  unfold node_Refs.f refsOf
  have hbad : Ev (fun k => node_Refs.j0 k i true t li si q e) ([] : List S102) := Ev.step (f := fun _ => some []) (fun k => by simp only [node_Refs.j0, if_true]) (Ev.now _)
  by_cases c0 : t = 1
  · simp only [if_pos c0]
    by_cases c1 : okN t li si q e
    · refine ((node_tells t li si q e hl hs).yes c1).bind ?_
      simp only [if_true, within_eq, Option.bind_some]
      by_cases c2 : 0 ≤ i ∧ i ≤ 11
      · rw [if_pos ⟨c0, c1, c2⟩]
        rw [qT c2]
        refine Ev.step (f := fun k => node_Refs.l0 k i [] q (q.length : Int) 0) (fun k => by simp only [node_Refs.j0, Bool.not_true, Bool.false_eq_true, if_false]) ?_
        have hq := (okN_len c1).1
        refine Ev_fold (g := fun k s j => node_Refs.l0 k i s q (q.length : Int) j) q.length (fun n => refsTo i q n) _ (Ev.step (f := fun _ => some (refsTo i q q.length)) (fun k => by simp only [node_Refs.l0]; rw [if_neg (by omega)]) (Ev.now _)) ?_
        intro j hj r hr
        refine Ev.step (fun k => ?_) hr
        simp only [node_Refs.l0]
        rw [if_pos (by omega), if_pos (by omega), if_pos (by omega), rdn, w64 (a := (j : Int) + 1) (by omega) (by omega)]
        by_cases z : q.getD j 0 = 0
        · rw [if_pos z, refs_skip i q j z]
        · have := refs_le i q j
          rw [if_neg z, if_pos (by omega), refs_add i q j z, w64 (a := i * 5) (by omega) (by omega), w64 (a := 1 + i * 5) (by omega) (by omega), w64 (a := 1 + i * 5 + (j : Int)) (by omega) (by omega)]
      · rw [if_neg (fun x => c2 x.2.2), qF c2]; exact hbad
    · rw [if_neg (fun x => c1 x.2.1)]
      refine ((node_tells t li si q e hl hs).no c1).bind ?_
      simp only [Bool.false_eq_true, if_false]; exact hbad
  · simp only [if_neg c0]; rw [if_neg (fun x => c0 x.1)]; exact hbad
theorem pages_ev (t li si : Int) (q : List Int) (e : List S78) (hl : e.length ≤ 5864062014634) (hs : ∀ x ∈ e, x.f0.size ≤ 140737488351232) : Ev (fun k => node_Pages.f k t li si q e) ((refsOf 0 t li si q e).length : Int) := by
  unfold node_Pages.f
  exact (refs_ev 0 t li si q e hl hs).bind (Ev.now _)
theorem ref_pages_ev (t li si : Int) (q : List Int) (e : List S78) (hl : e.length ≤ 5864062014634) (hs : ∀ x ∈ e, x.f0.size ≤ 140737488351232) : Ev (fun k => potsherdref12_Pages.f k t li si q e) ((refsOf 0 t li si q e).length : Int) := by
  unfold potsherdref12_Pages.f refsOf
  have hbad : Ev (fun k => potsherdref12_Pages.j0 k 0 true t li si q e) (0 : Int) := Ev.step (f := fun _ => some 0) (fun k => by simp only [potsherdref12_Pages.j0, if_true]) (Ev.now _)
  by_cases c0 : t = 1
  · simp only [if_pos c0]
    by_cases c1 : okN t li si q e
    · refine ((ref_node_tells t li si q e hl hs).yes c1).bind ?_
      rw [if_pos ⟨c0, c1, by omega, by omega⟩]
      refine Ev.step (f := fun k => potsherdref12_Pages.l0 k 0 q (q.length : Int) 0) (fun k => by simp only [potsherdref12_Pages.j0, Bool.not_true, Bool.false_eq_true, if_false]) ?_
      have hq := (okN_len c1).1
      refine Ev_fold (g := fun k s j => potsherdref12_Pages.l0 k s q (q.length : Int) j) q.length (fun n => ((refsTo 0 q n).length : Int)) _ (Ev.step (f := fun _ => some ((refsTo 0 q q.length).length : Int)) (fun k => by simp only [potsherdref12_Pages.l0]; rw [if_neg (by omega)]) (Ev.now _)) ?_
      intro j hj r hr
      refine Ev.step (fun k => ?_) hr
      simp only [potsherdref12_Pages.l0]
      rw [if_pos (by omega), if_pos (by omega), if_pos (by omega), rdn, w64 (a := (j : Int) + 1) (by omega) (by omega)]
      by_cases z : q.getD j 0 = 0
      · rw [if_pos z, refs_skip 0 q j z]
      · have := refs_le 0 q j
        rw [if_neg z, refs_add 0 q j z, w64 (by omega) (by omega)]
        simp
    · rw [if_neg (fun x => c1 x.2.1)]
      refine ((ref_node_tells t li si q e hl hs).no c1).bind ?_
      exact hbad
  · simp only [if_neg c0]; rw [if_neg (fun x => c0 x.1)]; exact hbad
theorem copy_is (t li si : Int) (q : List Int) (e : List S78) (hq : q.length ≤ 17592186043904) (hl : e.length ≤ 5864062014634) : node_Copy.f t li si q e = some (t, li, si, q, e) := by
  unfold node_Copy.f slices_Clone_int_int.f api_Entry.f
  rw [if_pos (by omega), if_pos (by omega)]; rfl
theorem refsOf_le (i t li si : Int) (q : List Int) (e : List S78) : (refsOf i t li si q e).length ≤ 5 := by
  unfold refsOf
  by_cases c : t = 1 ∧ okN t li si q e ∧ 0 ≤ i ∧ i ≤ 11
  · rw [if_pos c]; exact Nat.le_trans (refs_le _ _ _) (okN_len c.2.1).1
  · rw [if_neg c]; exact Nat.zero_le _
theorem okN_file {li si : Int} {q : List Int} {e : List S78} (h : okN 1 li si q e) : okF li si q e := by
  rcases h with x | x | x
  · omega
  · exact x.2
  · omega
abbrev okX (x : S28) : Prop := okN x.f0 x.f1 x.f2 x.f3 x.f4
def okT (l : List S28) : Prop := l.length = 12 ∧ ∀ x ∈ l, okX x
def reach (x : S28) : Prop := x.f4.length ≤ 5864062014634 ∧ ∀ y ∈ x.f4, y.f0.size ≤ 140737488351232
theorem rd28 (l : List S28) (i : Nat) : rU l (i : Int) = l.getD i z28 := by unfold rU; rw [Int.toNat_natCast]
theorem getD_mem (l : List S28) {i : Nat} (hi : i < l.length) : l.getD i z28 ∈ l := by
  rw [qG, List.getElem?_eq_getElem hi]; exact List.getElem_mem hi
theorem bad_ev (l : List S28) (hr : ∀ x ∈ l, reach x) : ∀ i : Int, 0 ≤ i → ∃ r, Ev (fun k => badAt k l i) r ∧ (0 ≤ r ↔ ¬ ∀ x ∈ l, okX x) := by
  induction l with
  | nil => intro i hi; exact ⟨-1, Ev.now _, by simp⟩
  | cons x r ih =>
    intro i hi
    obtain ⟨s, hs, he⟩ := ih (fun y hy => hr y (by simp [hy])) (i + 1) (by omega)
    have hx := hr x (by simp)
    obtain ⟨b, hb, hk⟩ := node_tells x.f0 x.f1 x.f2 x.f3 x.f4 hx.1 hx.2
    cases b with
    | true =>
      refine ⟨s, hb.bind (by simpa using hs), he.trans ?_⟩
      have hk := hk.1 rfl
      simp only [List.mem_cons, forall_eq_or_imp, hk, true_and]
    | false =>
      refine ⟨i, hb.bind (by simpa using Ev.now i), ?_⟩
      simp only [hi, true_iff]
      intro h
      have := hk.2 (h x (by simp))
      cases this
theorem off_tells (l : List S28) (hr : ∀ x ∈ l, reach x) : Tells (fun k => quota_off.f k l) (¬ okT l) := by
  unfold quota_off.f
  by_cases c : l.length = 12
  · simp only [if_pos c]
    obtain ⟨r, h1, h2⟩ := bad_ev l hr 0 (Int.le_refl _)
    refine ⟨decide (0 ≤ r), h1.bind (Ev.now _), ?_⟩
    rw [decide_eq_true_eq, h2]
    unfold okT
    simp only [c, true_and]
  · simp only [if_neg c]
    exact ⟨true, Ev.now _, by simp only [true_iff]; exact fun h => c h.1⟩
theorem sound_tells (l : List S28) (hl : l.length ≤ 4611686018427387904) (hr : ∀ x ∈ l, reach x) : Tells (fun k => potsherdref12_sound.f k l) (okT l) := by
  unfold potsherdref12_sound.f
  refine (Tells_scan (g := fun k i => potsherdref12_sound.l0 k l (l.length : Int) i l) l.length (fun i => okX (l.getD i z28)) (l.length = 12) ?_ ?_ ?_).iff ?_
  · refine ⟨decide (l.length = 12), Ev.step (f := fun _ => some (decide (l.length = 12))) (fun k => ?_) (Ev.now _), by simp⟩
    simp only [potsherdref12_sound.l0]; rw [if_neg (by omega)]; congr 1
    rw [Bool.eq_iff_iff]; simp only [beq_iff_eq, decide_eq_true_eq]; omega
  · intro i hi hp r h
    have hx := hr _ (getD_mem l hi)
    refine Ev.step (fun k => by simp only [potsherdref12_sound.l0]; rw [if_pos (by omega), if_pos (by omega), if_pos (by omega), rd28, w64 (a := (i : Int) + 1) (by omega) (by omega)]) (((ref_node_tells _ _ _ _ _ hx.1 hx.2).yes hp).bind ?_)
    simpa using h
  · intro i hi hp
    have hx := hr _ (getD_mem l hi)
    refine Ev.step (fun k => by simp only [potsherdref12_sound.l0]; rw [if_pos (by omega), if_pos (by omega), if_pos (by omega), rd28]) (((ref_node_tells _ _ _ _ _ hx.1 hx.2).no hp).bind ?_)
    simpa using Ev.now false
  · unfold okT
    constructor
    · rintro ⟨h1, h2⟩
      refine ⟨h2, fun x hx => ?_⟩
      obtain ⟨i, hi, rfl⟩ := List.getElem_of_mem hx
      have := h1 i hi
      rwa [qG, List.getElem?_eq_getElem hi] at this
    · rintro ⟨h1, h2⟩
      exact ⟨fun i hi => h2 _ (getD_mem l hi), h1⟩
noncomputable def pagesX (x : S28) : Nat := (refsOf 0 x.f0 x.f1 x.f2 x.f3 x.f4).length
theorem pagesX_le (x : S28) : pagesX x ≤ 5 := refsOf_le _ _ _ _ _ _
noncomputable def usum (l : List S28) : Nat → Int
  | 0 => 0
  | i + 1 => usum l i + (pagesX (l.getD i z28) : Int)
theorem usum_le (l : List S28) : ∀ i, 0 ≤ usum l i ∧ usum l i ≤ 5 * i
  | 0 => by simp [usum]
  | i + 1 => by have := usum_le l i; have := pagesX_le (l.getD i z28); simp only [usum]; push_cast; omega
noncomputable def used (l : List S28) : Int := open Classical in if okT l then usum l l.length else 0
theorem used_le (l : List S28) : 0 ≤ used l ∧ used l ≤ 60 := by
  unfold used
  split
  · rename_i h; have := usum_le l l.length; have := h.1; omega
  · omega
theorem used_ev (l : List S28) (hr : ∀ x ∈ l, reach x) : Ev (fun k => quota_Used.f k l) (used l) := by
  unfold quota_Used.f used
  by_cases c : okT l
  · refine ((off_tells l hr).no (fun h => h c)).bind ?_
    simp only [Bool.false_eq_true, if_false]
    rw [if_pos c]
    have hl := c.1
    refine Ev_fold (g := fun k s i => quota_Used.l0 k s l (l.length : Int) i) l.length (usum l) (usum l l.length) ?_ ?_
    · refine Ev.step (f := fun _ => some (usum l l.length)) (fun k => ?_) (Ev.now _)
      simp only [quota_Used.l0]; rw [if_neg (by omega)]
    · intro i hi r h
      have hx := hr _ (getD_mem l hi)
      refine Ev.step (fun k => by simp only [quota_Used.l0]; rw [if_pos (by omega), if_pos (by omega), if_pos (by omega), rd28, w64 (a := (i : Int) + 1) (by omega) (by omega)]) ((pages_ev _ _ _ _ _ hx.1 hx.2).bind ?_)
      have h1 := usum_le l i
      have h2 := pagesX_le (l.getD i z28)
      have e : wrap64 (usum l i + (pagesX (l.getD i z28) : Int)) = usum l (i + 1) := by rw [w64 (by omega) (by omega)]; rfl
      unfold pagesX at e
      rw [e]; exact h
  · refine ((off_tells l hr).yes c).bind ?_
    simp only [if_true]
    rw [if_neg c]; exact Ev.now _
theorem rused_ev (l : List S28) (hl : l.length ≤ 4611686018427387904) (hr : ∀ x ∈ l, reach x) : Ev (fun k => potsherdref12_Used.f k l) (used l) := by
  unfold potsherdref12_Used.f used
  by_cases c : okT l
  · refine ((sound_tells l hl hr).yes c).bind ?_
    simp only [if_true]
    rw [if_pos c]
    have hl := c.1
    refine Ev_fold (g := fun k s i => potsherdref12_Used.l0 k s l (l.length : Int) i) l.length (usum l) (usum l l.length) ?_ ?_
    · refine Ev.step (f := fun _ => some (usum l l.length)) (fun k => ?_) (Ev.now _)
      simp only [potsherdref12_Used.l0]; rw [if_neg (by omega)]
    · intro i hi r h
      have hx := hr _ (getD_mem l hi)
      refine Ev.step (fun k => by simp only [potsherdref12_Used.l0]; rw [if_pos (by omega), if_pos (by omega), if_pos (by omega), rd28, w64 (a := (i : Int) + 1) (by omega) (by omega)]) ((ref_pages_ev _ _ _ _ _ hx.1 hx.2).bind ?_)
      have h1 := usum_le l i
      have h2 := pagesX_le (l.getD i z28)
      have e : wrap64 (usum l i + (pagesX (l.getD i z28) : Int)) = usum l (i + 1) := by rw [w64 (by omega) (by omega)]; rfl
      unfold pagesX at e
      rw [e]; exact h
  · refine ((sound_tells l hl hr).no c).bind ?_
    simp only [Bool.false_eq_true, if_false]
    rw [if_neg c]; exact Ev.now _
theorem fits_some (a b : Int) (ha : -9223372036854775808 ≤ a ∧ a ≤ 9223372036854775807) : span_Fits.f a b = some (decide (0 ≤ a ∧ 0 ≤ b ∧ a + b ≤ 80)) := by
  unfold span_Fits.f
  by_cases h1 : a ≥ 0
  · by_cases h2 : a ≤ 80
    · by_cases h3 : b ≥ 0
      · rw [if_pos h1, if_pos h2, if_pos h3, w64 (by omega) (by omega)]
        have : (b ≤ 80 - a) = (0 ≤ a ∧ 0 ≤ b ∧ a + b ≤ 80) := by rw [eq_iff_iff]; omega
        simp only [this]
      · rw [if_pos h1, if_pos h2, if_neg h3, qF (by omega)]
    · rw [if_pos h1, if_neg h2, qF (by omega)]
  · rw [if_neg h1, qF (by omega)]
def pgs (a n : Nat) : List Nat := if n = 0 then [] else (List.range ((a % 16 + n + 15) / 16)).map (a / 16 + ·)
abbrev fits (a n : Int) : Prop := 0 ≤ a ∧ 0 ≤ n ∧ a + n ≤ 80
theorem pgs_all : ∀ a : Fin 81, ∀ n : Fin 81, a.val + n.val ≤ 80 → (span_Pieces.l0 20 (a.val : Int) (n.val : Int) []).map (fun l => l.map (·.f0)) = some ((pgs a.val n.val).map fun p : Nat => (p : Int)) := by decide +kernel
theorem pgs_is {a n : Int} (h : fits a n) : ∃ l, Ev (fun k => span_Pieces.l0 k a n []) l ∧ l.map (·.f0) = (pgs a.toNat n.toNat).map fun p : Nat => (p : Int) := by
  have h1 := pgs_all ⟨a.toNat, by omega⟩ ⟨n.toNat, by omega⟩ (by simp only []; omega)
  simp only [Int.toNat_of_nonneg h.1, Int.toNat_of_nonneg h.2.1] at h1
  cases hq : span_Pieces.l0 20 a n [] with
  | none => rw [hq] at h1; cases h1
  | some l =>
    rw [hq] at h1
    exact ⟨l, Ev.of (g := fun k => span_Pieces.l0 k a n []) (fun k => span_Pieces.mono_l k a n []) hq, qI h1⟩
theorem pgs_lt {a n : Int} (h : fits a n) : ∀ p ∈ pgs a.toNat n.toNat, p < 5 := by
  intro p hp
  unfold pgs at hp
  split at hp
  · cases hp
  · simp only [List.mem_map, List.mem_range] at hp
    obtain ⟨i, hi, rfl⟩ := hp
    omega
theorem pieces_ev {a n : Int} (ha : -9223372036854775808 ≤ a ∧ a ≤ 9223372036854775807) : ∃ l, Ev (fun k => span_Pieces.f k a n) l ∧ True ∧ l.map (·.f0) = (if fits a n then pgs a.toNat n.toNat else []).map fun p : Nat => (p : Int) := by
  unfold span_Pieces.f
  simp only [fits_some a n ha, Option.bind_some]
  by_cases h : fits a n
  · obtain ⟨l, h1, h2⟩ := pgs_is h
    refine ⟨l, ?_, ?_, ?_⟩
    · simpa [h] using h1
    · trivial
    · rw [if_pos h]; exact h2
  · refine ⟨[], ?_, ?_, ?_⟩
    · simp [h]; exact Ev.now _
    · trivial
    · rw [if_neg h]; rfl
def cntZ (q : List Int) (ps : List Nat) : Nat := (ps.filter fun p => decide (q.getD p 0 = 0)).length
theorem cntZ_le (q : List Int) (ps : List Nat) : cntZ q ps ≤ ps.length := List.length_filter_le _ _
theorem rd41 (l : List S41) (i : Nat) : rX l (i : Int) = l.getD i z41 := by unfold rX; rw [Int.toNat_natCast]
theorem page_at {l : List S41} {ps : List Nat} (h : l.map (·.f0) = ps.map fun p : Nat => (p : Int)) (i : Nat) (hi : i < l.length) : ∃ hp : i < ps.length, (l.getD i z41).f0 = (ps[i] : Int) := by
  have hl : l.length = ps.length := by have := congrArg List.length h; simpa using this
  refine ⟨by omega, ?_⟩
  have := congrArg (fun z => z[i]?) h
  simp only [List.getElem?_map, List.getElem?_eq_getElem hi, List.getElem?_eq_getElem (show i < ps.length by omega), Option.map_some] at this
  rw [qG, List.getElem?_eq_getElem hi]
  exact qI this
theorem cntZ_step (q : List Int) (ps : List Nat) (i : Nat) (hi : i < ps.length) : cntZ q (ps.take (i + 1)) = cntZ q (ps.take i) + (if q.getD ps[i] 0 = 0 then 1 else 0) := by
  unfold cntZ
  rw [List.take_succ_eq_append_getElem hi, List.filter_append, List.length_append]
  by_cases c : q.getD ps[i] 0 = 0
  · rw [if_pos c]; simp only [List.filter_cons, List.filter_nil, qT c, if_true, List.length_singleton]
  · rw [if_neg c]; simp only [List.filter_cons, List.filter_nil, qF c, Bool.false_eq_true, if_false, List.length_nil]
theorem more_loop (t li si : Int) (q : List Int) (e : List S78) {l : List S41} {ps : List Nat} (h : l.map (·.f0) = ps.map fun p : Nat => (p : Int)) (hp : ∀ p ∈ ps, p < q.length) (hl : l.length ≤ 100) :
    Ev (fun k => quota_More.l0 k 0 l (l.length : Int) 0 t li si q e) (cntZ q ps : Int) := by
  have hlen : l.length = ps.length := by have := congrArg List.length h; simpa using this
  have key := Ev_fold (g := fun k s i => quota_More.l0 k s l (l.length : Int) i t li si q e) l.length (fun i => (cntZ q (ps.take i) : Int)) (cntZ q ps : Int) ?_ ?_
  · simpa [cntZ] using key
  · refine Ev.step (f := fun _ => some (cntZ q ps : Int)) (fun k => ?_) (Ev.now _)
    simp only [quota_More.l0]; rw [if_neg (by omega), hlen, List.take_length]
  · intro i hi r hr
    obtain ⟨hi2, hpg⟩ := page_at h i hi
    have hb := hp ps[i] (List.getElem_mem hi2)
    have hc := cntZ_le q (ps.take i)
    rw [List.length_take] at hc
    rw [cntZ_step q ps i hi2] at hr
    refine Ev.step (fun k => ?_) hr
    simp only [quota_More.l0]; rw [if_pos (by omega), if_pos (by omega), if_pos (by omega), rd41, hpg, if_pos (by omega), if_pos (by omega), rdn, w64 (a := (i : Int) + 1) (by omega) (by omega), w64 (a := (cntZ q (ps.take i) : Int) + 1) (by omega) (by omega)]
    by_cases c : q.getD ps[i] 0 = 0
    · rw [if_pos c, if_pos c]; push_cast; rfl
    · rw [if_neg c, if_neg c]; rfl
noncomputable def moreN (t li si : Int) (q : List Int) (e : List S78) (a n : Int) : Int := open Classical in if t = 1 ∧ okN t li si q e ∧ fits a n then (cntZ q (pgs a.toNat n.toNat) : Int) else 0
theorem pgs_len {a n : Int} (h : fits a n) : (pgs a.toNat n.toNat).length ≤ 5 := by
  unfold pgs; split
  · simp
  · simp only [List.length_map, List.length_range]; omega
theorem more_ev (t li si : Int) (q : List Int) (e : List S78) (a n : Int) (ha : -9223372036854775808 ≤ a ∧ a ≤ 9223372036854775807) (hl : e.length ≤ 5864062014634) (hs : ∀ x ∈ e, x.f0.size ≤ 140737488351232) :
    Ev (fun k => quota_More.f k t li si q e a n) (moreN t li si q e a n) := by
  unfold quota_More.f moreN
  have hbad : Ev (fun k => quota_More.j0 k a n true t li si q e) (0 : Int) := Ev.step (f := fun _ => some 0) (fun k => by simp only [quota_More.j0, if_true]) (Ev.now _)
  by_cases c0 : t = 1
  · simp only [if_pos c0]
    by_cases c1 : okN t li si q e
    · refine ((node_tells t li si q e hl hs).yes c1).bind ?_
      simp only [Bool.not_true]
      obtain ⟨l, h1, _, h3⟩ := pieces_ev (n := n) ha
      refine Ev.step (fun k => by simp only [quota_More.j0, Bool.false_eq_true, if_false]; rfl) (h1.bind ?_)
      by_cases c2 : fits a n
      · rw [if_pos ⟨c0, c1, c2⟩]
        rw [if_pos c2] at h3
        have hq : q.length = 5 := by subst c0; exact (okN_file c1).2.2.2.2.2.1
        refine more_loop t li si q e h3 (fun p hp => by have := pgs_lt c2 p hp; omega) ?_
        have := congrArg List.length h3; simp at this; have := pgs_len c2; omega
      · rw [if_neg (fun x => c2 x.2.2)]
        rw [if_neg c2] at h3
        have := more_loop t li si q e (ps := []) h3 (by simp) (by have := congrArg List.length h3; simp at this; simp [this])
        simpa [cntZ] using this
    · refine ((node_tells t li si q e hl hs).no c1).bind ?_
      simp only [Bool.not_false]
      rw [if_neg (fun x => c1 x.2.1)]; exact hbad
  · simp only [if_neg c0]
    rw [if_neg (fun x => c0 x.1)]; exact hbad
def fill (q : List Int) (ps : List Nat) : List Int := ps.foldl (fun q p => if q.getD p 0 = 0 then q.set p (1 + (p : Int)) else q) q
theorem getD_set (q : List Int) (p r : Nat) (v : Int) (hp : p < q.length) : (q.set p v).getD r 0 = if r = p then v else q.getD r 0 := by
  rw [qG, qG, List.getElem?_set]
  by_cases c : p = r
  · subst c; rw [if_pos rfl, if_pos rfl, if_pos hp]; rfl
  · rw [if_neg c, if_neg (fun x => c x.symm)]
theorem fill_get (ps : List Nat) : ∀ q : List Int, (∀ p ∈ ps, p < q.length) → ∀ r : Nat, (fill q ps).getD r 0 = if r ∈ ps ∧ q.getD r 0 = 0 then 1 + (r : Int) else q.getD r 0 := by
  induction ps with
  | nil => intro q _ r; rw [if_neg (by simp)]; rfl
  | cons p t ih =>
    intro q hp r
    have hp0 := hp p (by simp)
    have e : fill q (p :: t) = fill (if q.getD p 0 = 0 then q.set p (1 + (p : Int)) else q) t := rfl
    rw [e]
    by_cases c : q.getD p 0 = 0
    · rw [if_pos c, ih _ (fun x hx => by rw [List.length_set]; exact hp x (by simp [hx])), getD_set q p r _ hp0]
      by_cases c1 : r = p
      · subst c1
        rw [if_pos rfl, if_neg (fun x => by have := x.2; omega), if_pos ⟨by simp, c⟩]
      · rw [if_neg c1]
        by_cases c2 : r ∈ t ∧ q.getD r 0 = 0
        · rw [if_pos c2, if_pos ⟨by simp [c2.1], c2.2⟩]
        · rw [if_neg c2, if_neg (fun x => c2 ⟨by have := x.1; simp only [List.mem_cons] at this; rcases this with y | y; exact absurd y c1; exact y, x.2⟩)]
    · rw [if_neg c, ih _ (fun x hx => hp x (by simp [hx]))]
      by_cases c2 : r ∈ t ∧ q.getD r 0 = 0
      · rw [if_pos c2, if_pos ⟨by simp [c2.1], c2.2⟩]
      · rw [if_neg c2, if_neg (fun x => ?_)]
        have := x.1; simp only [List.mem_cons] at this
        rcases this with y | y
        · rw [y] at x; exact c x.2
        · exact c2 ⟨y, x.2⟩
def nz (q : List Int) : Nat → Nat
  | 0 => 0
  | n + 1 => nz q n + (if q.getD n 0 = 0 then 0 else 1)
theorem nz_refs (i : Int) (q : List Int) : ∀ n, (refsTo i q n).length = nz q n
  | 0 => by simp [refsTo, nz]
  | n + 1 => by
    have := nz_refs i q n
    by_cases c : q.getD n 0 = 0
    · rw [refs_skip i q n c, this]; simp only [nz]; rw [if_pos c]; rfl
    · rw [refs_add i q n c, List.length_append, this]; simp only [nz]; rw [if_neg c]; rfl
theorem nz_set (q : List Int) (p : Nat) (v : Int) (hv : v ≠ 0) (hp : p < q.length) (h0 : q.getD p 0 = 0) : ∀ n, nz (q.set p v) n = nz q n + (if p < n then 1 else 0)
  | 0 => by simp [nz]
  | n + 1 => by
    simp only [nz]
    rw [nz_set q p v hv hp h0 n, getD_set q p n v hp]
    by_cases c : n = p
    · subst c; rw [if_pos rfl, if_neg hv, if_pos h0, if_neg (by omega), if_pos (by omega)]
    · rw [if_neg c]
      by_cases c1 : p < n
      · simp only [if_pos c1, if_pos (show p < n + 1 by omega)]; omega
      · simp only [if_neg c1, if_neg (show ¬ p < n + 1 by omega)]; omega
theorem cntZ_congr {q q' : List Int} {ps : List Nat} (h : ∀ p ∈ ps, q.getD p 0 = q'.getD p 0) : cntZ q ps = cntZ q' ps := by
  unfold cntZ; congr 1; apply List.filter_congr; intro p hp; rw [h p hp]
theorem nz_fill (ps : List Nat) : ∀ q : List Int, (∀ p ∈ ps, p < q.length) → ps.Nodup → nz (fill q ps) q.length = nz q q.length + cntZ q ps := by
  induction ps with
  | nil => intro q _ _; simp [fill, cntZ]
  | cons p t ih =>
    intro q hp hd
    have hp0 := hp p (by simp)
    rw [List.nodup_cons] at hd
    have e : fill q (p :: t) = fill (if q.getD p 0 = 0 then q.set p (1 + (p : Int)) else q) t := rfl
    rw [e]
    by_cases c : q.getD p 0 = 0
    · rw [if_pos c]
      have h := ih (q.set p (1 + (p : Int))) (fun x hx => by rw [List.length_set]; exact hp x (by simp [hx])) hd.2
      rw [List.length_set] at h
      rw [h, nz_set q p _ (by omega) hp0 c, if_pos hp0]
      have e2 : cntZ (q.set p (1 + (p : Int))) t = cntZ q t := cntZ_congr (fun x hx => by rw [getD_set q p x _ hp0]; rw [if_neg (by rintro rfl; exact hd.1 hx)])
      have e3 : cntZ q (p :: t) = cntZ q t + 1 := by unfold cntZ; rw [List.filter_cons, if_pos (by simpa using c)]; rfl
      rw [e2, e3]; omega
    · rw [if_neg c]
      have e3 : cntZ q (p :: t) = cntZ q t := by unfold cntZ; rw [List.filter_cons, if_neg (by simpa using c)]
      rw [e3]; exact ih q (fun x hx => hp x (by simp [hx])) hd.2
theorem pgs_nodup (a n : Nat) : (pgs a n).Nodup := by
  unfold pgs; split
  · simp
  · rw [← List.range'_eq_map_range]; exact List.nodup_range'
theorem ents_tells (l : List S28) : ∀ (e : List S78), (∀ y ∈ e, 0 ≤ y.f1 ∧ y.f1 < l.length) → ∃ b, mtEnts l e = some b ∧ (b = true ↔ ∀ y ∈ e, (rU l y.f1).f0 ≠ 0)
  | [], _ => ⟨true, rfl, by simp⟩
  | y :: r, h => by
    obtain ⟨b, h1, h2⟩ := ents_tells l r (fun z hz => h z (by simp [hz]))
    have hy := h y (by simp)
    simp only [mtEnts]
    rw [if_pos hy]
    by_cases c : (rU l y.f1).f0 = 0
    · rw [if_pos c]; exact ⟨false, rfl, by simp only [Bool.false_eq_true, false_iff]; intro x; exact x y (by simp) c⟩
    · rw [if_neg c]
      refine ⟨b, h1, h2.trans ?_⟩
      simp only [List.mem_cons, forall_eq_or_imp, ne_eq, c, not_false_eq_true, true_and]
def seqOk : List Int → List Int → Prop
  | _, [] => True
  | seen, s :: r => ¬ (s ≠ 0 ∧ s ∈ seen) ∧ seqOk (s :: seen) r
theorem seqOk_append : ∀ (a b seen : List Int), seqOk seen (a ++ b) ↔ seqOk seen a ∧ seqOk (a.reverse ++ seen) b
  | [], b, seen => by simp [seqOk]
  | s :: a, b, seen => by
    simp only [List.cons_append, seqOk]
    rw [seqOk_append a b (s :: seen)]
    simp only [List.reverse_cons, List.append_assoc, List.singleton_append, and_assoc]
theorem seqs_tells : ∀ (q seen : List Int), seen.length + q.length ≤ 1000 → (∀ s ∈ q, (Lit.int .i64 s).wf = true) → ∃ o, mtSeqs seen q = some o ∧ (o = none ∨ o = some (q.reverse ++ seen)) ∧ (o = some (q.reverse ++ seen) ↔ seqOk seen q)
  | [], seen, _, _ => ⟨some seen, rfl, Or.inr rfl, by simp [seqOk]⟩
  | s :: r, seen, hl, hw => by
    simp only [List.length_cons] at hl
    simp only [mtSeqs]
    rw [if_pos (hw s (by simp))]
    by_cases c : s ≠ 0 ∧ s ∈ seen
    · rw [if_pos c]
      exact ⟨none, rfl, Or.inl rfl, by simp only [reduceCtorEq, false_iff, seqOk]; exact fun x => x.1 c⟩
    · rw [if_neg c, if_pos (by omega)]
      obtain ⟨o, h1, h2, h3⟩ := seqs_tells r (s :: seen) (by simp only [List.length_cons]; omega) (fun z hz => hw z (by simp [hz]))
      simp only [List.reverse_cons, List.append_assoc, List.singleton_append]
      refine ⟨o, h1, h2, h3.trans ?_⟩
      simp only [seqOk]
      exact ⟨fun x => ⟨c, x⟩, fun x => x.2⟩
theorem okX_wf {x : S28} (h : okX x) : ∀ s ∈ x.f3, (Lit.int .i64 s).wf = true := by
  intro s hs
  obtain ⟨i, hi, rfl⟩ := List.getElem_of_mem hs
  rcases h with h | h | h
  · omega
  · have := h.2.1 i hi
    have e : x.f3.getD i 0 = x.f3[i] := by rw [qG, List.getElem?_eq_getElem hi]; rfl
    unfold okQ at this
    rw [e] at this
    simp [Lit.wf, IntKind.min, IntKind.max, IntKind.signed, IntKind.bits]; omega
  · omega
theorem okX_ents {x : S28} (h : okX x) : ∀ y ∈ x.f4, 1 ≤ y.f1 ∧ y.f1 < 12 := by
  intro y hy
  rcases h with h | h | h
  · have : x.f4 = [] := List.length_eq_zero_iff.1 h.2.2.2.2
    rw [this] at hy; cases hy
  · have : x.f4 = [] := List.length_eq_zero_iff.1 h.2.2.2.2.2.2.2
    rw [this] at hy; cases hy
  · obtain ⟨i, hi, rfl⟩ := List.getElem_of_mem hy
    have := (h.2.2.2.2.1 i hi).1
    have e : x.f4.getD i z78 = x.f4[i] := by rw [qG, List.getElem?_eq_getElem hi]; rfl
    unfold okE at this
    rw [e] at this
    exact this.2
def scanP (l : List S28) (seen : List Int) (r : List S28) : Prop := (∀ x ∈ r, okX x) ∧ (∀ x ∈ r, ∀ y ∈ x.f4, (rU l y.f1).f0 ≠ 0) ∧ seqOk seen (r.flatMap (·.f3))
theorem scan_tells (l : List S28) (hl : l.length = 12) : ∀ (r : List S28) (seen : List Int), seen.length + 5 * r.length ≤ 1000 → (∀ x ∈ r, reach x) → ∃ o, Ev (fun k => mtScan k l seen r) o ∧ (o.isSome = true ↔ scanP l seen r)
  | [], seen, _, _ => ⟨some seen, Ev.now _, by simp [scanP, seqOk]⟩
  | x :: r, seen, hs, hr => by
    have hx := hr x (by simp)
    simp only [List.length_cons] at hs
    have hno : ¬ scanP l seen (x :: r) → ((none : Option (List Int)).isSome = true ↔ scanP l seen (x :: r)) := fun h => by simp only [Option.isSome_none, Bool.false_eq_true, false_iff]; exact h
    simp only [mtScan]
    by_cases c1 : okX x
    · have hq := okN_len c1
      have hN := (ref_node_tells x.f0 x.f1 x.f2 x.f3 x.f4 hx.1 hx.2).yes c1
      obtain ⟨b, e1, e2⟩ := ents_tells l x.f4 (fun y hy => by have := okX_ents c1 y hy; omega)
      cases b with
      | false =>
        refine ⟨none, hN.bind ?_, hno ?_⟩
        · simp only [if_true, e1, Option.bind_some, Bool.false_eq_true, if_false]; exact Ev.now _
        · intro h
          have := e2.2 (h.2.1 x (by simp))
          cases this
      | true =>
        have e2 := e2.1 rfl
        obtain ⟨o, s1, s2, s3⟩ := seqs_tells x.f3 seen (by omega) (okX_wf c1)
        rcases s2 with rfl | rfl
        · refine ⟨none, hN.bind ?_, hno ?_⟩
          · simp only [if_true, e1, s1, Option.bind_some]; exact Ev.now _
          · intro h
            have h := h.2.2
            simp only [List.flatMap_cons] at h
            have := s3.2 ((seqOk_append _ _ _).1 h).1
            cases this
        · have s3 := s3.1 rfl
          obtain ⟨o, h1, h2⟩ := scan_tells l hl r (x.f3.reverse ++ seen) (by simp only [List.length_append, List.length_reverse]; omega) (fun z hz => hr z (by simp [hz]))
          refine ⟨o, hN.bind ?_, h2.trans ?_⟩
          · simp only [if_true, e1, s1, Option.bind_some]; exact h1
          · unfold scanP
            simp only [List.mem_cons, forall_eq_or_imp, List.flatMap_cons, seqOk_append, s3, true_and]
            exact ⟨fun h => ⟨⟨c1, h.1⟩, ⟨e2, h.2.1⟩, h.2.2⟩, fun h => ⟨h.1.2, h.2.1.2, h.2.2⟩⟩
    · refine ⟨none, ((ref_node_tells _ _ _ _ _ hx.1 hx.2).no c1).bind ?_, hno (fun h => c1 (h.1 x (by simp)))⟩
      simp only [Bool.false_eq_true, if_false]
      exact Ev.now _
def named (l : List S28) (i : Int) : Nat := (l.flatMap (·.f4)).countP fun y => decide (y.f1 = i)
theorem named_le {l : List S28} (hX : ∀ x ∈ l, okX x) (i : Int) : named l i ≤ 10 * l.length := by
  unfold named
  induction l with
  | nil => simp
  | cons x r ih =>
    have := ih (fun z hz => hX z (by simp [hz]))
    have h1 := (okN_len (hX x (by simp))).2
    have h2 := List.countP_le_length (p := fun y : S78 => decide (y.f1 = i)) (l := x.f4)
    simp only [List.flatMap_cons, List.countP_append, List.length_cons]
    omega
theorem rd78 (l : List S78) (i : Nat) : rV l (i : Int) = l.getD i z78 := by unfold rV; rw [Int.toNat_natCast]
theorem take_getD {α : Type} (l : List α) (z : α) {i : Nat} (h : i < l.length) : l.take (i + 1) = l.take i ++ [l.getD i z] := by
  rw [List.take_succ_eq_append_getElem h, qG, List.getElem?_eq_getElem h]; rfl
theorem named_ev (l : List S28) (hl : l.length ≤ 12) (hX : ∀ x ∈ l, okX x) (a : Int) : Ev (fun k => potsherdref12_Named.f k l a) (named l a : Int) := by
  unfold potsherdref12_Named.f
  have hb := named_le hX a
  have hpre : ∀ i, named (l.take i) a ≤ 120 := fun i => by
    have := named_le (l := l.take i) (fun x hx => hX x (List.mem_of_mem_take hx)) a
    rw [List.length_take] at this; omega
  have key := Ev_fold (g := fun k s i => potsherdref12_Named.l0 k a s l (l.length : Int) i) l.length (fun i => (named (l.take i) a : Int)) (named l a : Int) ?_ ?_
  · simpa [named] using key
  · refine Ev.step (f := fun _ => some (named l a : Int)) (fun k => ?_) (Ev.now _)
    simp only [potsherdref12_Named.l0]; rw [if_neg (by omega), List.take_length]
  · intro i hi r hr
    refine Ev.step (fun k => by simp only [potsherdref12_Named.l0]; rw [if_pos (by omega), if_pos (by omega), if_pos (by omega), rd28]) ?_
    have hx := okN_len (hX _ (getD_mem l hi))
    generalize hxe : l.getD i z28 = x at hx
    have hnx : named (l.take (i + 1)) a = named (l.take i) a + x.f4.countP (fun y => decide (y.f1 = a)) := by
      rw [take_getD l z28 hi, hxe]; unfold named; rw [List.flatMap_append, List.countP_append]; simp
    have hp := hpre i
    generalize named (l.take i) a = s0 at hnx hp
    have k2 := Ev_fold (g := fun k s j => potsherdref12_Named.l1 k a s l (l.length : Int) i x.f4 (x.f4.length : Int) j) x.f4.length (fun j => ((s0 + (x.f4.take j).countP (fun y => decide (y.f1 = a)) : Nat) : Int)) r ?_ ?_
    · simpa using k2
    · refine Ev.step (fun k => by simp only [potsherdref12_Named.l1]; rw [if_neg (by omega), w64 (a := (i : Int) + 1) (by omega) (by omega), List.take_length]) ?_
      rw [← hnx]; exact hr
    · intro j hj r' h'
      refine Ev.step (fun k => ?_) h'
      have h2 := List.countP_le_length (p := fun y : S78 => decide (y.f1 = a)) (l := x.f4.take j)
      rw [List.length_take] at h2
      simp only [potsherdref12_Named.l1]
      rw [if_pos (by omega), if_pos (by omega), if_pos (by omega), rd78, w64 (a := (j : Int) + 1) (by omega) (by omega), take_getD x.f4 z78 hj, List.countP_append]
      generalize (x.f4.take j).countP (fun y => decide (y.f1 = a)) = s1 at h2 ⊢
      by_cases c : (x.f4.getD j z78).f1 = a
      · rw [if_pos c, w64 (by omega) (by omega)]; simp only [List.countP_cons, List.countP_nil, qT c, if_true]; congr 1
      · rw [if_neg c]; simp only [List.countP_cons, List.countP_nil, qF c, Bool.false_eq_true, if_false]; congr 1
def hangOk (l : List S28) (on : List Bool) (n : S28) (j : Nat) : Prop := (n.f0 = 2 → on.getD j false = true ∧ (0 < j → named l j = 1)) ∧ (n.f0 = 1 → n.f1 = named l j)
theorem rdB (q : List Bool) (i : Nat) : rdOf false q (i : Int) = q.getD i false := by unfold rdOf; rw [Int.toNat_natCast]
theorem tail_tells (l : List S28) (hl : l.length = 12) (hX : ∀ x ∈ l, okX x) (on : List Bool) (ho : on.length = 12) : ∀ (r : List S28) (i : Nat), i + r.length ≤ 12 → Tells (fun k => mtTail k l on r i) (∀ j, j < r.length → hangOk l on (r.getD j z28) (i + j))
  | [], i, _ => ⟨true, Ev.now _, by simp⟩
  | n :: r, i, h => by
    simp only [List.length_cons] at h
    have ih := tail_tells l hl hX on ho r (i + 1) (by omega)
    have hsplit : (∀ j, j < (n :: r).length → hangOk l on ((n :: r).getD j z28) (i + j)) ↔ hangOk l on n i ∧ ∀ j, j < r.length → hangOk l on (r.getD j z28) (i + 1 + j) := by
      constructor
      · intro x
        exact ⟨x 0 (by simp), fun j hj => by have := x (j + 1) (by simp; omega); rw [show i + 1 + j = i + (j + 1) by omega]; exact this⟩
      · rintro ⟨x, y⟩ j hj
        cases j with
        | zero => exact x
        | succ j => have := y j (by simp at hj; omega); rw [show i + (j + 1) = i + 1 + j by omega]; exact this
    simp only [mtTail]
    obtain ⟨b, i1, i2⟩ := ih
    have hn := named_ev l (by omega) hX (i : Int)
    have e : ((i + 1 : Nat) : Int) = (i : Int) + 1 := by push_cast; rfl
    rw [e] at i1
    by_cases c2 : n.f0 = 2
    · simp only [if_pos c2]
      by_cases c3 : on.getD i false = false ∨ 0 < (i : Int) ∧ (named l i : Int) ≠ 1
      · refine ⟨false, hn.bind ?_, ?_⟩
        · simp only [if_pos (show (0 ≤ (i : Int) ∧ (i : Int) < (on.length : Int)) from by omega), rdB, if_pos c3]; exact Ev.now _
        · rw [hsplit]
          simp only [Bool.false_eq_true, false_iff]
          rintro ⟨x, _⟩
          have := x.1 c2
          rcases c3 with c3 | c3
          · rw [c3] at this; cases this.1
          · exact c3.2 (by have := this.2 (by omega); omega)
      · refine ⟨b, hn.bind ?_, i2.trans ?_⟩
        · simp only [if_pos (show (0 ≤ (i : Int) ∧ (i : Int) < (on.length : Int)) from by omega), rdB, if_neg c3]; exact i1
        · rw [hsplit]
          refine ⟨fun x => ⟨⟨fun _ => ⟨?_, ?_⟩, fun y => by omega⟩, x⟩, fun x => x.2⟩
          · cases hh : on.getD i false with
            | true => rfl
            | false => exact absurd (Or.inl hh) c3
          · intro hi
            by_cases c4 : (named l i : Int) = 1
            · omega
            · exact absurd (Or.inr ⟨by omega, c4⟩) c3
    · simp only [if_neg c2]
      by_cases c3 : n.f0 = 1 ∧ n.f1 ≠ (named l i : Int)
      · refine ⟨false, hn.bind ?_, ?_⟩
        · simp only [if_pos c3]; exact Ev.now _
        · rw [hsplit]
          simp only [Bool.false_eq_true, false_iff]
          rintro ⟨x, _⟩
          exact c3.2 (x.2 c3.1)
      · refine ⟨b, hn.bind ?_, i2.trans ?_⟩
        · simp only [if_neg c3]; exact i1
        · rw [hsplit]
          refine ⟨fun x => ⟨⟨fun y => absurd y c2, fun y => ?_⟩, x⟩, fun x => x.2⟩
          by_cases c4 : n.f1 = (named l i : Int)
          · exact c4
          · exact absurd ⟨y, c4⟩ c3
theorem set_getD (l : List Bool) (i j : Nat) (v : Bool) : (l.set i v).getD j false = if i = j ∧ j < l.length then v else l.getD j false := by
  rw [qG, qG, List.getElem?_set]
  by_cases c : i = j
  · subst c
    by_cases c2 : i < l.length
    · rw [if_pos rfl, if_pos c2, if_pos ⟨rfl, c2⟩]; rfl
    · rw [if_pos rfl, if_neg c2, if_neg (fun x => c2 x.2), List.getElem?_eq_none (by omega)]
  · rw [if_neg c, if_neg (fun x => c x.1)]
structure marks (l : List S28) (I : List Bool → Prop) : Prop where
  start : I ((List.replicate 12 false).set 0 true)
  step : ∀ on x, on.length = 12 → I on → x < 12 → on.getD x false = true → ∀ y ∈ (l.getD x z28).f4, (l.getD y.f1.toNat z28).f0 = 2 → I (on.set y.f1.toNat true)
theorem mem_getD78 {l : List S78} {i : Nat} (hi : i < l.length) : l.getD i z78 ∈ l := by
  rw [qG, List.getElem?_eq_getElem hi]; exact List.getElem_mem hi
theorem reached_in (l : List S28) (hl : l.length = 12) (hX : ∀ x ∈ l, okX x) (I : List Bool → Prop) (hI : marks l I) (a b : Int) (i : Nat) (hi : i < 12) :
    ∀ d j : Nat, j + d = (l.getD i z28).f4.length → ∀ on : List Bool, on.length = 12 → on.getD i false = true → I on → ∀ R : List Bool → Prop,
      (∀ on', on'.length = 12 → I on' → (∀ y, on.getD y false = true → on'.getD y false = true) → ∃ r, Ev (fun k => potsherdref12_reached.l1 k on' a b l 12 ((i : Int) + 1) l) r ∧ R r) →
      ∃ r, Ev (fun k => potsherdref12_reached.l2 k on a b l 12 i (l.getD i z28).f4 ((l.getD i z28).f4.length : Int) j l) r ∧ R r := by
  intro d
  induction d with
  | zero =>
    intro j hj on ho _ hon R hk
    obtain ⟨r, h1, h2⟩ := hk on ho hon (fun _ h => h)
    refine ⟨r, Ev.step (fun k => ?_) h1, h2⟩
    simp only [potsherdref12_reached.l2]; rw [if_neg (by omega), w64 (a := (i : Int) + 1) (by omega) (by omega)]
  | succ d ih =>
    intro j hj on ho hoi hon R hk
    have hx := hX _ (getD_mem l (i := i) (by omega))
    have hlen := (okN_len hx).2
    have hy := okX_ents hx _ (mem_getD78 (l := (l.getD i z28).f4) (i := j) (by omega))
    have hym := mem_getD78 (l := (l.getD i z28).f4) (i := j) (by omega)
    generalize hY : (l.getD i z28).f4.getD j z78 = y at hy hym
    have hrd : rU l y.f1 = l.getD y.f1.toNat z28 := rfl
    have e1 : ((j + 1 : Nat) : Int) = (j : Int) + 1 := by push_cast; rfl
    by_cases c : (rU l y.f1).f0 = 2
    · obtain ⟨r, h1, h2⟩ := ih (j + 1) (by omega) (on.set y.f1.toNat true) (by rw [List.length_set]; exact ho) (by rw [set_getD]; split <;> first | rfl | exact hoi) (hI.step on i ho hon hi hoi y hym (by rw [← hrd]; exact c)) R
        (fun on' ho' hI' hm => hk on' ho' hI' (fun z hz => hm z (by rw [set_getD]; split <;> first | rfl | exact hz)))
      refine ⟨r, Ev.step (fun k => ?_) h1, h2⟩
      simp only [potsherdref12_reached.l2]
      rw [if_pos (by omega), if_pos (by omega), if_pos (by omega), rd78, hY, if_pos (by omega), if_pos (by omega), if_pos (by omega), if_pos (by omega), if_pos c, w64 (a := (j : Int) + 1) (by omega) (by omega), e1]
    · obtain ⟨r, h1, h2⟩ := ih (j + 1) (by omega) on ho hoi hon R hk
      refine ⟨r, Ev.step (fun k => ?_) h1, h2⟩
      simp only [potsherdref12_reached.l2]
      rw [if_pos (by omega), if_pos (by omega), if_pos (by omega), rd78, hY, if_pos (by omega), if_pos (by omega), if_pos (by omega), if_pos (by omega), if_neg c, w64 (a := (j : Int) + 1) (by omega) (by omega), e1]
theorem reached_mid (l : List S28) (hl : l.length = 12) (hX : ∀ x ∈ l, okX x) (I : List Bool → Prop) (hI : marks l I) (b : Nat) (hb : b < 12) :
    ∀ d i : Nat, i + d = 12 → ∀ on : List Bool, on.length = 12 → I on → ∀ R : List Bool → Prop,
      (∀ on', on'.length = 12 → I on' → ∃ r, Ev (fun k => potsherdref12_reached.l0 k on' 12 ((b : Int) + 1) l) r ∧ R r) →
      ∃ r, Ev (fun k => potsherdref12_reached.l1 k on 12 b l 12 i l) r ∧ R r := by
  intro d
  induction d with
  | zero =>
    intro i hi on ho hon R hk
    obtain ⟨r, h1, h2⟩ := hk on ho hon
    refine ⟨r, Ev.step (fun k => ?_) h1, h2⟩
    simp only [potsherdref12_reached.l1]; rw [if_neg (by omega), w64 (a := (b : Int) + 1) (by omega) (by omega)]
  | succ d ih =>
    intro i hi on ho hon R hk
    have e1 : ((i + 1 : Nat) : Int) = (i : Int) + 1 := by push_cast; rfl
    by_cases c : on.getD i false = true
    · obtain ⟨r, h1, h2⟩ := reached_in l hl hX I hI 12 b i (by omega) _ 0 (by rw [Nat.zero_add]) on ho c hon R (fun on' ho' hI' _ => by have := ih (i + 1) (by omega) on' ho' hI' R hk; rwa [e1] at this)
      refine ⟨r, Ev.step (fun k => ?_) h1, h2⟩
      simp only [potsherdref12_reached.l1]; rw [if_pos (by omega), if_pos (by omega), if_pos (by omega), if_pos (by omega), rdB, if_pos c, rd28]; rfl
    · obtain ⟨r, h1, h2⟩ := ih (i + 1) (by omega) on ho hon R hk
      refine ⟨r, Ev.step (fun k => ?_) h1, h2⟩
      simp only [potsherdref12_reached.l1]; rw [if_pos (by omega), if_pos (by omega), if_pos (by omega), if_pos (by omega), rdB, if_neg c, w64 (a := (i : Int) + 1) (by omega) (by omega), e1]
theorem reached_out (l : List S28) (hl : l.length = 12) (hX : ∀ x ∈ l, okX x) (I : List Bool → Prop) (hI : marks l I) :
    ∀ d b : Nat, b + d = 12 → ∀ on : List Bool, on.length = 12 → I on → ∃ r, Ev (fun k => potsherdref12_reached.l0 k on 12 b l) r ∧ (r.length = 12 ∧ I r) := by
  intro d
  induction d with
  | zero =>
    intro b hb on ho hon
    refine ⟨on, Ev.step (f := fun _ => some on) (fun k => ?_) (Ev.now _), ho, hon⟩
    simp only [potsherdref12_reached.l0]; rw [if_neg (by omega)]
  | succ d ih =>
    intro b hb on ho hon
    have e1 : ((b + 1 : Nat) : Int) = (b : Int) + 1 := by push_cast; rfl
    obtain ⟨r, h1, h2⟩ := reached_mid l hl hX I hI b (by omega) 12 0 (by omega) on ho hon (fun r => r.length = 12 ∧ I r) (fun on' ho' hI' => by have := ih (b + 1) (by omega) on' ho' hI'; rwa [e1] at this)
    refine ⟨r, Ev.step (fun k => ?_) h1, h2⟩
    simp only [potsherdref12_reached.l0]; rw [if_pos (by omega), hl]; rfl
theorem reached_ev (l : List S28) (hl : l.length = 12) (hX : ∀ x ∈ l, okX x) (h2 : (rU l 0).f0 = 2) (I : List Bool → Prop) (hI : marks l I) : ∃ on, Ev (fun k => potsherdref12_reached.f k l 0) on ∧ on.length = 12 ∧ I on := by
  obtain ⟨r, h1, h3⟩ := reached_out l hl hX I hI 12 0 (by omega) _ (by rw [List.length_set, List.length_replicate]) hI.start
  have e : ∀ k, potsherdref12_reached.f k l 0 = potsherdref12_reached.j0 k 0 (List.replicate 12 false) false l := by
    intro k
    unfold potsherdref12_reached.f
    have hn : ((l.length : Int)).toNat = 12 := by omega
    rw [if_pos (by omega), if_pos (by omega), hn]
    simp only [Option.bind_some, List.length_replicate]
    rw [if_neg (by omega), if_neg (by omega), if_pos (by omega), if_pos (by omega), h2]
    rfl
  have hs : Ev (fun k => potsherdref12_reached.j0 k 0 (List.replicate 12 false) false l) r := by
    refine Ev.step (fun k => ?_) h1
    simp only [potsherdref12_reached.j0]
    rw [if_neg (by decide), if_pos (by omega), if_pos (by rw [List.length_replicate]; omega), List.length_replicate]; rfl
  obtain ⟨K, hK⟩ := hs
  exact ⟨r, ⟨K, fun k hk => (e k).trans (hK k hk)⟩, h3⟩
def treeP (l : List S28) : Prop := l.length = 12 ∧ (rU l 0).f0 = 2 ∧ scanP l [] l ∧ ∃ on, on.length = 12 ∧ Ev (fun k => potsherdref12_reached.f k l 0) on ∧ ∀ j, j < 12 → hangOk l on (l.getD j z28) j
theorem maytree_tells (l : List S28) (hr : ∀ x ∈ l, reach x) : Tells (fun k => potsherdref12_MayTree.f k l) (treeP l) := by
  unfold potsherdref12_MayTree.f
  by_cases hl : l.length = 12
  · simp only [if_pos hl]
    by_cases h2 : (rU l 0).f0 = 2
    · simp only [if_pos h2]
      obtain ⟨o, s1, s2⟩ := scan_tells l hl l [] (by simp [hl]) hr
      cases o with
      | none =>
        refine ⟨false, s1.bind (Ev.now _), ?_⟩
        simp only [Bool.false_eq_true, false_iff]
        intro h
        have := s2.2 h.2.2.1
        cases this
      | some s =>
        have hs := s2.1 rfl
        obtain ⟨on, r1, r2, _⟩ := reached_ev l hl hs.1 h2 (fun _ => True) ⟨trivial, fun _ _ _ _ _ _ _ _ _ => trivial⟩
        obtain ⟨b, t1, t2⟩ := tail_tells l hl hs.1 on r2 l 0 (by omega)
        refine ⟨b, s1.bind (r1.bind t1), t2.trans ?_⟩
        constructor
        · intro x
          exact ⟨hl, h2, hs, on, r2, r1, fun j hj => by have := x j (by omega); rwa [Nat.zero_add] at this⟩
        · rintro ⟨_, _, _, on', _, r1', x⟩ j hj
          obtain rfl := Ev.one r1 r1'
          have := x j (by omega); rwa [Nat.zero_add]
    · simp only [if_neg h2]
      exact ⟨false, Ev.now _, by simp only [Bool.false_eq_true, false_iff]; exact fun h => h2 h.2.1⟩
  · simp only [if_neg hl]
    exact ⟨false, Ev.now _, by simp only [Bool.false_eq_true, false_iff]; exact fun h => hl h.1⟩
end Go.Proofs.Ytkigiehkckjlhaa.ReadsLib
