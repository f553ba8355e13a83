/- What a name, a node and a file may be, and their refs: the printed functions tell it at every input within the reach; no other condition. -/
import Derived.Test.YtkigiehkckjlhaaZSumsPlain
import Derived.Test.YtkigiehkckjlhaaZSumsPSumsx1
import Derived.Test.YtkigiehkckjlhaaZSumsPSumsx2
import Derived.Test.YtkigiehkckjlhaaZSumsPSumsx3
import Derived.Test.YtkigiehkckjlhaaZSumsPSumsx4
import Derived.Test.YtkigiehkckjlhaaZSumsPSumsx5
import Derived.Test.YtkigiehkckjlhaaZSumsPSumsx6
import Derived.Test.YtkigiehkckjlhaaZSumsPSumsx7
import Derived.Test.YtkigiehkckjlhaaZSumsPSumsx11
import Derived.Test.YtkigiehkckjlhaaZSumsPSumsx12
import Derived.Test.YtkigiehkckjlhaaZSumsPSumsx13
import Derived.Test.YtkigiehkckjlhaaZSumsPSumsx14
namespace Go.Proofs.Ytkigiehkckjlhaa.SumsLib
set_option linter.unusedVariables false
open Go.RowKit Go.Proofs.Ytkigiehkckjlhaa.PSums Go.Proofs.YtkigiehkckjlhaaW.PrintWords
open Go Go.Proofs.Ytkigiehkckjlhaa.Plain Go.Proofs.YtkigiehkckjlhaaW.PrintMore
theorem okc_path (k : Nat) (s : ByteArray) (n i : Int) (h0 : 0 ≤ i) (h1 : i < n) (h2 : i < s.size) : path_May.l0 (k + 1) s n i = if okc (bt s i) then path_May.l0 k s n (wrap64 (i + 1)) else some false := by
  simp only [path_May.l0]
  rw [if_pos h1, if_pos h0, if_pos h2]
  generalize path_May.l0 k s n (wrap64 (i + 1)) = R
  generalize bt s i = c
  by_cases h : okc c
  · rw [if_pos h]
    repeat' split
    all_goals first | rfl | omega
  · rw [if_neg h]
    repeat' split
    all_goals first | rfl | omega
theorem path_tells (s : ByteArray) (hs : s.size ≤ 140737488351232) : Tells (fun k => path_May.f k s) (okS s) := by
  have h := Tells_scan (g := fun k i => path_May.l0 k s (s.size : Int) i) s.size (fun i => okc (bt s i)) (1 ≤ s.size ∧ s.size ≤ 8 ∧ s.toList ≠ [46] ∧ s.toList ≠ [46, 46])
    (Tells.step (f := fun _ => some (decide (1 ≤ s.size ∧ s.size ≤ 8 ∧ s.toList ≠ [46] ∧ s.toList ≠ [46, 46]))) (fun k => by
      simp only [path_May.l0]
      rw [if_neg (by omega)]
      by_cases c1 : (s.size : Int) ≥ 1
      · rw [if_pos c1]
        by_cases c2 : (s.size : Int) ≤ 8
        · rw [if_pos c2]
          by_cases c3 : s.toList = ([46] : List UInt8)
          · rw [if_pos c3, decide_eq_false (fun h => h.2.2.1 c3)]
          · rw [if_neg c3]; congr 1
            by_cases c4 : s.toList = ([46, 46] : List UInt8)
            · rw [decide_eq_false (fun h => h.2.2.2 c4)]; simp [c4]
            · rw [decide_eq_true ⟨by omega, by omega, c3, c4⟩]; simp [c4]
        · rw [if_neg c2, decide_eq_false (by omega)]
      · rw [if_neg c1, decide_eq_false (by omega)]) ⟨_, Ev.now _, by simp⟩)
    (fun i hi hP r hr => Ev.step (fun k => by rw [okc_path k s _ i (by omega) (by omega) (by omega), if_pos hP, w64 (by omega) (by omega)]) hr)
    (fun i hi hP => Ev.step (f := fun _ => some false) (fun k => by rw [okc_path k s _ i (by omega) (by omega) (by omega), if_neg hP]) (Ev.now _))
  exact h.iff ⟨fun x => ⟨x.2, x.1⟩, fun x => ⟨x.2, x.1⟩⟩
theorem okc_name (k : Nat) (s : ByteArray) (n i : Int) (h0 : 0 ≤ i) (h1 : i < n) (h2 : i < s.size) : potsherdref12_Name.l0 (k + 1) s n i = if okc (bt s i) then potsherdref12_Name.l0 k s n (wrap64 (i + 1)) else some false := by
  simp only [potsherdref12_Name.l0]
  rw [if_pos h1, if_pos h0, if_pos h2]
  generalize potsherdref12_Name.l0 k s n (wrap64 (i + 1)) = R
  generalize bt s i = c
  by_cases h : okc c
  · rw [if_pos h]
    repeat' split
    all_goals first | rfl | omega
  · rw [if_neg h]
    repeat' split
    all_goals first | rfl | omega
theorem ref_name_tells (s : ByteArray) (hs : s.size ≤ 140737488351232) : Tells (fun k => potsherdref12_Name.f k s) (okS s) := by
  have h := Tells_scan (g := fun k i => potsherdref12_Name.l0 k s (s.size : Int) i) s.size (fun i => okc (bt s i)) True
    (Tells.step (f := fun _ => some true) (fun k => by simp only [potsherdref12_Name.l0]; rw [if_neg (by omega)]) ⟨_, Ev.now _, by simp⟩)
    (fun i hi hP r hr => Ev.step (fun k => by rw [okc_name k s _ i (by omega) (by omega) (by omega), if_pos hP, w64 (by omega) (by omega)]) hr)
    (fun i hi hP => Ev.step (f := fun _ => some false) (fun k => by rw [okc_name k s _ i (by omega) (by omega) (by omega), if_neg hP]) (Ev.now _))
  have hj : Ev (fun k => potsherdref12_Name.j0 k s true) false := Ev.step (f := fun _ => some false) (fun k => by simp only [potsherdref12_Name.j0, if_true]) (Ev.now _)
  unfold potsherdref12_Name.f
  by_cases c1 : (s.size : Int) < 1
  · simp only [if_pos c1]; exact ⟨false, hj, by simp; omega⟩
  · simp only [if_neg c1]
    by_cases c2 : (s.size : Int) > 8
    · simp only [if_pos c2]; exact ⟨false, hj, by simp; omega⟩
    · simp only [if_neg c2]
      by_cases c3 : s.toList = ([46] : List UInt8)
      · simp only [if_pos c3]; exact ⟨false, hj, by simp [c3]⟩
      · simp only [if_neg c3]
        by_cases c4 : s.toList = ([46, 46] : List UInt8)
        · simp only [c4, beq_self_eq_true]; exact ⟨false, hj, by simp [c4]⟩
        · have e : (s.toList == ([46, 46] : List UInt8)) = false := by simp [c4]
          simp only [e]
          refine Tells.step (fun k => by simp only [potsherdref12_Name.j0, Bool.false_eq_true, if_false]) (h.iff ⟨fun x => ⟨⟨by omega, by omega, c3, c4⟩, x.1⟩, fun x => ⟨x.2, trivial⟩⟩)
/-- What an entry may be. -/
abbrev okE (x : S78) : Prop := okS x.f0 ∧ 1 ≤ x.f1 ∧ x.f1 < 12
/-- The name of a is ahead of that of b. -/
abbrev lt (a b : S78) : Prop := Op.bytesLess a.f0.toList b.f0.toList = true
/-- What entries may be. -/
abbrev okL (l : List S78) : Prop := (∀ i, i < l.length → okE (l.getD i z78) ∧ (0 < i → lt (l.getD (i - 1) z78) (l.getD i z78))) ∧ l.length ≤ 10
theorem rd38 (l : List S78) (i : Nat) : rd_T78 l (i : Int) = l.getD i z78 := by unfold rd_T78; rw [Int.toNat_natCast]
theorem size_at {l : List S78} (h : ∀ x ∈ l, x.f0.size ≤ 140737488351232) (i : Nat) : (l.getD i z78).f0.size ≤ 140737488351232 := by
  rw [List.getD_eq_getElem?_getD]
  by_cases hi : i < l.length
  · rw [List.getElem?_eq_getElem hi]; exact h _ (List.getElem_mem hi)
  · rw [List.getElem?_eq_none (by omega)]; decide
theorem sole_tells (s : ByteArray) (n : Int) (hs : s.size ≤ 140737488351232) : Tells (fun k => name_sole.f k s n) (okS s ∧ 1 ≤ n ∧ n < 12) := by
  unfold name_sole.f
  refine Tells.of (fun h => ((path_tells s hs).yes h.1).bind ?_) (fun h => ?_)
  · exact Ev.const (fun k => by rw [if_pos rfl, if_pos (by omega)]) (by rw [decide_eq_true h.2.2])
  · by_cases c : okS s
    · refine ((path_tells s hs).yes c).bind (Ev.const (fun k => by rw [if_pos rfl]) ?_)
      by_cases c1 : n ≥ 1
      · rw [if_pos c1, decide_eq_false (fun x => h ⟨c, by omega, x⟩)]
      · rw [if_neg c1]
    · exact ((path_tells s hs).no c).bind (Ev.const (fun k => by rw [if_neg (by decide)]) rfl)
theorem may_tells (l : List S78) (hl : l.length ≤ 5864062014634) (hs : ∀ x ∈ l, x.f0.size ≤ 140737488351232) : Tells (fun k => name_May.f k l) (okL l) := by
  unfold name_May.f
  refine Tells_scan (g := fun k i => name_May.l0 k l l (l.length : Int) i) l.length _ _ (Tells.step (f := fun _ => some (decide ((l.length : Int) ≤ 10))) (fun k => by simp only [name_May.l0]; rw [if_neg (by omega)]) ⟨_, Ev.now _, by simp; omega⟩) ?_ ?_
  · intro i hi hP r hr
    refine Ev.step (fun k => by simp only [name_May.l0]; rw [if_pos (by omega), if_pos (by omega), if_pos (by omega), rd38]) ?_
    refine ((sole_tells (l.getD i z78).f0 (l.getD i z78).f1 (size_at hs i)).yes hP.1).bind (Ev.congr (fun k => by rw [if_pos rfl]) ?_)
    by_cases c : (i : Int) > 0
    · refine Ev.congr (fun k => by rw [if_pos c, w64 (a := (i : Int) - 1) (by omega) (by omega), if_pos (by omega), if_pos (by omega)]) ?_
      have e : rd_T78 l ((i : Int) - 1) = l.getD (i - 1) z78 := by rw [show ((i : Int) - 1) = ((i - 1 : Nat) : Int) by omega, rd38]
      refine Ev.congr (fun k => by rw [e, if_pos (hP.2 (by omega)), w64 (a := (i : Int) + 1) (by omega) (by omega)]) hr
    · exact Ev.congr (fun k => by rw [if_neg c, w64 (a := (i : Int) + 1) (by omega) (by omega)]) hr
  · intro i hi hP
    refine Ev.step (fun k => by simp only [name_May.l0]; rw [if_pos (by omega), if_pos (by omega), if_pos (by omega), rd38]) ?_
    by_cases c : okE (l.getD i z78)
    · refine ((sole_tells (l.getD i z78).f0 (l.getD i z78).f1 (size_at hs i)).yes c).bind (Ev.congr (fun k => by rw [if_pos rfl]) ?_)
      by_cases c1 : (i : Int) > 0
      · have e : rd_T78 l ((i : Int) - 1) = l.getD (i - 1) z78 := by rw [show ((i : Int) - 1) = ((i - 1 : Nat) : Int) by omega, rd38]
        exact Ev.const (fun k => by rw [if_pos c1, w64 (a := (i : Int) - 1) (by omega) (by omega), if_pos (by omega), if_pos (by omega), e, if_neg (fun x => hP ⟨c, fun _ => x⟩)]) rfl
      · exact absurd ⟨c, fun h => by omega⟩ hP
    · exact ((sole_tells (l.getD i z78).f0 (l.getD i z78).f1 (size_at hs i)).no c).bind (Ev.const (fun k => by rw [if_neg (by decide)]) rfl)
theorem ref_may_tells (l : List S78) (hl : l.length ≤ 5864062014634) (hs : ∀ x ∈ l, x.f0.size ≤ 140737488351232) : Tells (fun k => potsherdref12_MayEntries.f k l) (okL l) := by
  unfold potsherdref12_MayEntries.f
  by_cases c0 : (l.length : Int) > 10
  · exact ⟨false, Ev.const (fun k => if_pos c0) rfl, by simp; omega⟩
  refine Tells.congr (fun k => if_neg c0) ?_
  refine (Tells_scan (g := fun k i => potsherdref12_MayEntries.l0 k l l (l.length : Int) i) l.length (fun i => okE (l.getD i z78) ∧ (0 < i → lt (l.getD (i - 1) z78) (l.getD i z78))) True (Tells.step (f := fun _ => some true) (fun k => by simp only [potsherdref12_MayEntries.l0]; rw [if_neg (by omega)]) ⟨_, Ev.now _, by simp⟩) ?_ ?_).iff ⟨fun x => ⟨x.1, by omega⟩, fun x => ⟨x.1, trivial⟩⟩
  · intro i hi hP r hr
    refine Ev.step (fun k => by simp only [potsherdref12_MayEntries.l0]; rw [if_pos (by omega), if_pos (by omega), if_pos (by omega), rd38]) ?_
    refine ((ref_name_tells (l.getD i z78).f0 (size_at hs i)).yes hP.1.1).bind (Ev.congr (fun k => by rw [if_pos rfl]) ?_)
    by_cases c : (i : Int) > 0
    · refine Ev.congr (fun k => by rw [if_pos c, w64 (a := (i : Int) - 1) (by omega) (by omega), if_pos (by omega), if_pos (by omega)]) ?_
      have e : rd_T78 l ((i : Int) - 1) = l.getD (i - 1) z78 := by rw [show ((i : Int) - 1) = ((i - 1 : Nat) : Int) by omega, rd38]
      refine Ev.congr (fun k => by rw [e, if_pos (hP.2 (by omega)), if_neg (by have := hP.1.2; omega), if_neg (by have := hP.1.2; omega), w64 (a := (i : Int) + 1) (by omega) (by omega)]) hr
    · exact Ev.congr (fun k => by rw [if_neg c, if_neg (by have := hP.1.2; omega), if_neg (by have := hP.1.2; omega), w64 (a := (i : Int) + 1) (by omega) (by omega)]) hr
  · intro i hi hP
    refine Ev.step (fun k => by simp only [potsherdref12_MayEntries.l0]; rw [if_pos (by omega), if_pos (by omega), if_pos (by omega), rd38]) ?_
    by_cases c : okS (l.getD i z78).f0
    · refine ((ref_name_tells (l.getD i z78).f0 (size_at hs i)).yes c).bind (Ev.congr (fun k => by rw [if_pos rfl]) ?_)
      have hn : (if (l.getD i z78).f1 < 1 then some false else if (l.getD i z78).f1 ≥ 12 then some false else none) = (some false : Option Bool) ∨ okE (l.getD i z78) := by
        by_cases c1 : (l.getD i z78).f1 < 1
        · left; rw [if_pos c1]
        · by_cases c2 : (l.getD i z78).f1 ≥ 12
          · left; rw [if_neg c1, if_pos c2]
          · right; exact ⟨c, by omega, by omega⟩
      have hn2 : ∀ R : Option Bool, ¬ okE (l.getD i z78) → (if (l.getD i z78).f1 < 1 then some false else if (l.getD i z78).f1 ≥ 12 then some false else R) = some false := by
        intro R hE
        by_cases c1 : (l.getD i z78).f1 < 1
        · rw [if_pos c1]
        · rw [if_neg c1, if_pos (by have : ¬ (1 ≤ (l.getD i z78).f1 ∧ (l.getD i z78).f1 < 12) := fun x => hE ⟨c, x⟩; omega)]
      by_cases c1 : (i : Int) > 0
      · have e : rd_T78 l ((i : Int) - 1) = l.getD (i - 1) z78 := by rw [show ((i : Int) - 1) = ((i - 1 : Nat) : Int) by omega, rd38]
        refine Ev.const (o := some false) (fun k => ?_) rfl
        rw [if_pos c1, w64 (a := (i : Int) - 1) (by omega) (by omega), if_pos (by omega), if_pos (by omega), e]
        by_cases c2 : lt (l.getD (i - 1) z78) (l.getD i z78)
        · rw [if_pos c2]; exact hn2 _ (fun x => hP ⟨x, fun _ => c2⟩)
        · rw [if_neg c2]
      · exact Ev.const (o := some false) (fun k => by rw [if_neg c1]; exact hn2 _ (fun x => hP ⟨x, fun h => by omega⟩)) rfl
    · exact ((ref_name_tells (l.getD i z78).f0 (size_at hs i)).no c).bind (Ev.const (fun k => by rw [if_neg (by decide)]) rfl)
theorem rdn (q : List Int) (i : Nat) : rd q (i : Int) = q.getD i 0 := by unfold rd; rw [Int.toNat_natCast]
theorem within_eq (a b : Int) : node_within.f a b = some (decide (0 ≤ a ∧ a ≤ b)) := by
  unfold node_within.f
  by_cases h : a ≥ 0
  · rw [if_pos h]; congr 1; rw [decide_eq_decide]; omega
  · rw [if_neg h, decide_eq_false (by omega)]
/-- A page of a file. -/
abbrev okQ (si : Int) (q : List Int) (i : Nat) : Prop := 0 ≤ q.getD i 0 ∧ q.getD i 0 ≤ 1099511627776 ∧ (si ≤ (i : Int) * 16 → q.getD i 0 = 0)
/-- What a file may be. -/
abbrev okF (li si : Int) (q : List Int) (e : List S78) : Prop := (∀ i, i < q.length → okQ si q i) ∧ 0 ≤ li ∧ li ≤ 120 ∧ 0 ≤ si ∧ si ≤ 80 ∧ q.length = 5 ∧ e.length = 0
/-- What a node may be. -/
abbrev okN (t li si : Int) (q : List Int) (e : List S78) : Prop :=
  (t = 0 ∧ li = 0 ∧ si = 0 ∧ q.length = 0 ∧ e.length = 0) ∨ (t = 1 ∧ okF li si q e) ∨ (t = 2 ∧ li = 1 ∧ si = 0 ∧ q.length = 0 ∧ okL e)
theorem file_loop (t li si : Int) (q : List Int) (e : List S78) (hq : q.length ≤ 5) : Tells (fun k => node_file.l0 k q (q.length : Int) 0 t li si q e) (∀ i, i < q.length → okQ si q i) := by
  refine (Tells_scan (g := fun k i => node_file.l0 k q (q.length : Int) i t li si q e) q.length (okQ si q) True (Tells.step (f := fun _ => some true) (fun k => by simp only [node_file.l0]; rw [if_neg (by omega)]) ⟨_, Ev.now _, by simp⟩) ?_ ?_).iff ⟨fun x => x.1, fun x => ⟨x, trivial⟩⟩
  · intro i hi hP r hr
    obtain ⟨h1, h2, h3⟩ := hP
    refine Ev.step (fun k => ?_) hr
    simp only [node_file.l0]
    rw [if_pos (by omega), if_pos (by omega), if_pos (by omega), rdn, within_eq]
    simp only [Option.bind_some, decide_eq_true_eq]
    rw [if_pos ⟨h1, h2⟩, w64 (a := (i : Int) * 16) (by omega) (by omega), w64 (a := (i : Int) + 1) (by omega) (by omega)]
    by_cases c : (i : Int) * 16 ≥ si
    · rw [if_pos c, if_pos (h3 c)]
    · rw [if_neg c]
  · intro i hi hP
    refine Ev.step (f := fun _ => some false) (fun k => ?_) (Ev.now _)
    simp only [node_file.l0]
    rw [if_pos (by omega), if_pos (by omega), if_pos (by omega), rdn, within_eq]
    simp only [Option.bind_some, decide_eq_true_eq]
    by_cases c1 : 0 ≤ q.getD i 0 ∧ q.getD i 0 ≤ 1099511627776
    · rw [if_pos c1, w64 (a := (i : Int) * 16) (by omega) (by omega)]
      have c2 : ¬ (si ≤ (i : Int) * 16 → q.getD i 0 = 0) := fun x => hP ⟨c1.1, c1.2, x⟩
      by_cases c3 : (i : Int) * 16 ≥ si
      · rw [if_pos c3, if_neg (fun x => c2 (fun _ => x))]
      · exact absurd (fun x => absurd x (by omega)) c2
    · rw [if_neg c1]
theorem file_tells (t li si : Int) (q : List Int) (e : List S78) : Tells (fun k => node_file.f k t li si q e) (okF li si q e) := by
  unfold node_file.f
  simp only [within_eq, Option.bind_some, decide_eq_true_eq]
  have hbad : Ev (fun k => node_file.j0 k true t li si q e) false := Ev.step (f := fun _ => some false) (fun k => by simp only [node_file.j0, if_true]) (Ev.now _)
  by_cases c1 : 0 ≤ li ∧ li ≤ 120
  · simp only [if_pos c1]
    by_cases c2 : 0 ≤ si ∧ si ≤ 80
    · simp only [if_pos c2]
      by_cases c3 : (q.length : Int) = 5
      · simp only [if_pos c3]
        by_cases c4 : (e.length : Int) > 0
        · rw [decide_eq_true c4]; exact ⟨false, hbad, by simp only [Bool.false_eq_true, false_iff]; rintro ⟨_, x⟩; omega⟩
        · rw [decide_eq_false c4]
          exact (Tells.step (fun k => by simp only [node_file.j0, Bool.false_eq_true, if_false]) (file_loop t li si q e (by omega))).iff ⟨fun x => ⟨x, c1.1, c1.2, c2.1, c2.2, by omega, by omega⟩, fun x => x.1⟩
      · simp only [if_neg c3]; exact ⟨false, hbad, by simp only [Bool.false_eq_true, false_iff]; rintro ⟨_, x⟩; omega⟩
    · simp only [if_neg c2]; exact ⟨false, hbad, by simp only [Bool.false_eq_true, false_iff]; rintro ⟨_, x⟩; omega⟩
  · simp only [if_neg c1]; exact ⟨false, hbad, by simp only [Bool.false_eq_true, false_iff]; rintro ⟨_, x⟩; omega⟩
theorem node_tells (t li si : Int) (q : List Int) (e : List S78) (hl : e.length ≤ 5864062014634) (hs : ∀ x ∈ e, x.f0.size ≤ 140737488351232) : Tells (fun k => node_May.f k t li si q e) (okN t li si q e) := by
  unfold node_May.f
  by_cases c0 : t = 0
  · simp only [if_pos c0]
    refine ⟨decide (li = 0 ∧ si = 0 ∧ q.length = 0 ∧ e.length = 0), Ev.const (fun k => rfl) ?_, ?_⟩
    · by_cases c1 : li = 0
      · rw [if_pos c1]
        by_cases c2 : si = 0
        · rw [if_pos c2]
          by_cases c3 : (q.length : Int) = 0
          · rw [if_pos c3]; congr 1
            by_cases c4 : e.length = 0
            · rw [decide_eq_true ⟨c1, c2, by omega, c4⟩]; simp [c4]
            · rw [decide_eq_false (fun x => c4 x.2.2.2)]; simp; intro x; exact c4 (by simp [x])
          · rw [if_neg c3, decide_eq_false (by omega)]
        · rw [if_neg c2, decide_eq_false (by omega)]
      · rw [if_neg c1, decide_eq_false (by omega)]
    · simp only [decide_eq_true_eq]; constructor
      · intro x; exact Or.inl ⟨c0, x.1, x.2.1, x.2.2.1, x.2.2.2⟩
      · rintro (x | x | x)
        · exact x.2
        · exact absurd x.1 (by omega)
        · exact absurd x.1 (by omega)
  · simp only [if_neg c0]
    by_cases c1 : t = 1
    · simp only [if_pos c1, Option.bind_fun_some]
      refine (file_tells t li si q e).iff ⟨fun x => Or.inr (Or.inl ⟨c1, x⟩), ?_⟩
      rintro (x | x | x)
      · exact absurd x.1 c0
      · exact x.2
      · exact absurd x.1 (by omega)
    · simp only [if_neg c1]
      by_cases c2 : t = 2
      · simp only [if_pos c2, Option.bind_fun_some]
        have hout : ∀ P : Prop, okN t li si q e → (li = 1 ∧ si = 0 ∧ q.length = 0 ∧ okL e) := by
          rintro P (x | x | x)
          · exact absurd x.1 c0
          · exact absurd x.1 c1
          · exact x.2
        by_cases d1 : li = 1
        · simp only [if_pos d1]
          by_cases d2 : si = 0
          · simp only [if_pos d2]
            by_cases d3 : (q.length : Int) = 0
            · simp only [if_pos d3]
              exact (may_tells e hl hs).iff ⟨fun x => Or.inr (Or.inr ⟨c2, d1, d2, by omega, x⟩), fun x => (hout True x).2.2.2⟩
            · simp only [if_neg d3]; exact ⟨false, Ev.now _, by simp only [Bool.false_eq_true, false_iff]; intro x; have := hout True x; omega⟩
          · simp only [if_neg d2]; exact ⟨false, Ev.now _, by simp only [Bool.false_eq_true, false_iff]; intro x; have := hout True x; omega⟩
        · simp only [if_neg d1]; exact ⟨false, Ev.now _, by simp only [Bool.false_eq_true, false_iff]; intro x; have := hout True x; omega⟩
      · simp only [if_neg c2]
        refine ⟨false, Ev.now _, by simp only [Bool.false_eq_true, false_iff]; rintro (x | x | x) <;> omega⟩
theorem ref_node_tells (t li si : Int) (q : List Int) (e : List S78) (hl : e.length ≤ 5864062014634) (hs : ∀ x ∈ e, x.f0.size ≤ 140737488351232) : Tells (fun k => potsherdref12_MayNode.f k t li si q e) (okN t li si q e) := by
  unfold potsherdref12_MayNode.f
  have hbad : Ev (fun k => potsherdref12_MayNode.j0 k true t li si q e) false := Ev.step (f := fun _ => some false) (fun k => by simp only [potsherdref12_MayNode.j0, if_true]) (Ev.now _)
  by_cases c0 : t = 0
  · simp only [if_pos c0]
    refine ⟨decide (li = 0 ∧ si = 0 ∧ q.length = 0 ∧ e.length = 0), Ev.const (fun k => rfl) ?_, ?_⟩
    · by_cases c1 : li = 0
      · rw [if_pos c1]
        by_cases c2 : si = 0
        · rw [if_pos c2]
          by_cases c3 : (q.length : Int) = 0
          · rw [if_pos c3]; congr 1
            by_cases c4 : e.length = 0
            · rw [decide_eq_true ⟨c1, c2, by omega, c4⟩]; simp [c4]
            · rw [decide_eq_false (fun x => c4 x.2.2.2)]; simp; intro x; exact c4 (by simp [x])
          · rw [if_neg c3, decide_eq_false (by omega)]
        · rw [if_neg c2, decide_eq_false (by omega)]
      · rw [if_neg c1, decide_eq_false (by omega)]
    · simp only [decide_eq_true_eq]; constructor
      · intro x; exact Or.inl ⟨c0, x.1, x.2.1, x.2.2.1, x.2.2.2⟩
      · rintro (x | x | x)
        · exact x.2
        · exact absurd x.1 (by omega)
        · exact absurd x.1 (by omega)
  · simp only [if_neg c0]
    by_cases c2 : t = 2
    · simp only [if_pos c2, Option.bind_fun_some]
      have hout : okN t li si q e → (li = 1 ∧ si = 0 ∧ q.length = 0 ∧ okL e) := by
        rintro (x | x | x)
        · exact absurd x.1 c0
        · exact absurd x.1 (by omega)
        · exact x.2
      by_cases d1 : li = 1
      · simp only [if_pos d1]
        by_cases d2 : si = 0
        · simp only [if_pos d2]
          by_cases d3 : (q.length : Int) = 0
          · simp only [if_pos d3]
            exact (ref_may_tells e hl hs).iff ⟨fun x => Or.inr (Or.inr ⟨c2, d1, d2, by omega, x⟩), fun x => (hout x).2.2.2⟩
          · simp only [if_neg d3]; exact ⟨false, Ev.now _, by simp only [Bool.false_eq_true, false_iff]; intro x; have := hout x; omega⟩
        · simp only [if_neg d2]; exact ⟨false, Ev.now _, by simp only [Bool.false_eq_true, false_iff]; intro x; have := hout x; omega⟩
      · simp only [if_neg d1]; exact ⟨false, Ev.now _, by simp only [Bool.false_eq_true, false_iff]; intro x; have := hout x; omega⟩
    · simp only [if_neg c2]
      by_cases c1 : t = 1
      · simp only [if_pos c1]
        have hout : okN t li si q e → okF li si q e := by
          rintro (x | x | x)
          · exact absurd x.1 c0
          · exact x.2
          · exact absurd x.1 c2
        have bad : ¬ okF li si q e → Tells (fun k => potsherdref12_MayNode.j0 k true t li si q e) (okN t li si q e) := fun h => ⟨false, hbad, by simp only [Bool.false_eq_true, false_iff]; exact fun x => h (hout x)⟩
        by_cases d1 : li < 0
        · simp only [if_pos d1]; exact bad (by rintro ⟨_, x⟩; omega)
        · simp only [if_neg d1]
          by_cases d2 : li > 120
          · simp only [if_pos d2]; exact bad (by rintro ⟨_, x⟩; omega)
          · simp only [if_neg d2]
            by_cases d3 : si < 0
            · simp only [if_pos d3]; exact bad (by rintro ⟨_, x⟩; omega)
            · simp only [if_neg d3]
              by_cases d4 : si > 80
              · simp only [if_pos d4]; exact bad (by rintro ⟨_, x⟩; omega)
              · simp only [if_neg d4]
                by_cases d5 : (q.length : Int) = 5
                · simp only [if_pos d5]
                  by_cases d6 : (e.length : Int) = 0
                  · have e6 : ((e.length : Int) != 0) = false := by simp [d6]
                    rw [e6]
                    refine (Tells.step (f := fun k => potsherdref12_MayNode.l0 k q (q.length : Int) 0 t li si q e) (fun k => by simp only [potsherdref12_MayNode.j0, Bool.false_eq_true, if_false]) (P := ∀ i, i < q.length → okQ si q i) ?_).iff ⟨fun x => Or.inr (Or.inl ⟨c1, x, by omega, by omega, by omega, by omega, by omega, by omega⟩), fun x => (hout x).1⟩
                    refine (Tells_scan (g := fun k i => potsherdref12_MayNode.l0 k q (q.length : Int) i t li si q e) q.length (okQ si q) True (Tells.step (f := fun _ => some true) (fun k => by simp only [potsherdref12_MayNode.l0]; rw [if_neg (by omega)]) ⟨_, Ev.now _, by simp⟩) ?_ ?_).iff ⟨fun x => x.1, fun x => ⟨x, trivial⟩⟩
                    · intro i hi hP r hr
                      obtain ⟨h1, h2, h3⟩ := hP
                      refine Ev.step (fun k => ?_) hr
                      simp only [potsherdref12_MayNode.l0]
                      rw [if_pos (by omega), if_pos (by omega), if_pos (by omega), rdn, if_neg (by omega), if_neg (by omega), w64 (a := (i : Int) * 16) (by omega) (by omega), w64 (a := (i : Int) + 1) (by omega) (by omega)]
                      by_cases z : q.getD i 0 = 0
                      · rw [if_pos z]
                      · rw [if_neg z, if_neg (fun x => z (h3 x))]
                    · intro i hi hP
                      refine Ev.step (f := fun _ => some false) (fun k => ?_) (Ev.now _)
                      simp only [potsherdref12_MayNode.l0]
                      rw [if_pos (by omega), if_pos (by omega), if_pos (by omega), rdn, w64 (a := (i : Int) * 16) (by omega) (by omega)]
                      by_cases z1 : q.getD i 0 < 0
                      · rw [if_pos z1]
                      · rw [if_neg z1]
                        by_cases z2 : q.getD i 0 > 1099511627776
                        · rw [if_pos z2]
                        · rw [if_neg z2]
                          have c2 : ¬ (si ≤ (i : Int) * 16 → q.getD i 0 = 0) := fun x => hP ⟨by omega, by omega, x⟩
                          by_cases z3 : q.getD i 0 = 0
                          · exact absurd (fun _ => z3) c2
                          · rw [if_neg z3]
                            by_cases z4 : (i : Int) * 16 ≥ si
                            · rw [if_pos z4]
                            · exact absurd (fun x => absurd x (by omega)) c2
                  · have e6 : ((e.length : Int) != 0) = true := by simp; intro x; exact d6 (by simp [x])
                    rw [e6]; exact bad (by rintro ⟨_, x⟩; omega)
                · simp only [if_neg d5]; exact bad (by rintro ⟨_, x⟩; omega)
      · simp only [if_neg c1]
        refine ⟨false, Ev.now _, by simp only [Bool.false_eq_true, false_iff]; rintro (x | x | x) <;> omega⟩
/-- The refs of the first n pages of file i. -/
def refsTo (i : Int) (q : List Int) (n : Nat) : List S102 := (List.range n).filterMap fun p => if q.getD p 0 = 0 then none else some ⟨1 + i * 5 + (p : Int), q.getD p 0⟩
theorem refs_le (i : Int) (q : List Int) (n : Nat) : (refsTo i q n).length ≤ n := by
  have := List.length_filterMap_le (fun p => if q.getD p 0 = 0 then none else some (⟨1 + i * 5 + (p : Int), q.getD p 0⟩ : S102)) (List.range n)
  simpa [refsTo] using this
theorem refs_skip (i : Int) (q : List Int) (n : Nat) (h : q.getD n 0 = 0) : refsTo i q (n + 1) = refsTo i q n := by
  unfold refsTo; rw [List.range_succ, List.filterMap_append]; simp only [List.filterMap_cons, List.filterMap_nil, if_pos h, List.append_nil]
theorem refs_add (i : Int) (q : List Int) (n : Nat) (h : ¬ q.getD n 0 = 0) : refsTo i q (n + 1) = refsTo i q n ++ [⟨1 + i * 5 + (n : Int), q.getD n 0⟩] := by
  unfold refsTo; rw [List.range_succ, List.filterMap_append]; simp only [List.filterMap_cons, List.filterMap_nil, if_neg h]
/-- All refs of a node, as file i. -/
noncomputable def refsOf (i t li si : Int) (q : List Int) (e : List S78) : List S102 := open Classical in if t = 1 ∧ okN t li si q e ∧ 0 ≤ i ∧ i ≤ 11 then refsTo i q q.length else []
theorem okN_len {t li si : Int} {q : List Int} {e : List S78} (h : okN t li si q e) : q.length ≤ 5 ∧ e.length ≤ 10 := by
  rcases h with x | x | x
  · omega
  · have := x.2.2; omega
  · have := x.2.2.2.2.2; omega
theorem refs_ev (i t li si : Int) (q : List Int) (e : List S78) (hl : e.length ≤ 5864062014634) (hs : ∀ x ∈ e, x.f0.size ≤ 140737488351232) : Ev (fun k => node_Refs.f k i t li si q e) (refsOf i t li si q e) := by
  unfold node_Refs.f refsOf
  have hbad : Ev (fun k => node_Refs.j0 k i true t li si q e) ([] : List S102) := Ev.step (f := fun _ => some []) (fun k => by simp only [node_Refs.j0, if_true]) (Ev.now _)
  by_cases c0 : t = 1
  · simp only [if_pos c0]
    by_cases c1 : okN t li si q e
    · refine ((node_tells t li si q e hl hs).yes c1).bind ?_
      simp only [if_true, within_eq, Option.bind_some]
      by_cases c2 : 0 ≤ i ∧ i ≤ 11
      · rw [if_pos ⟨c0, c1, c2⟩]
        rw [decide_eq_true c2]
        refine Ev.step (f := fun k => node_Refs.l0 k i [] q (q.length : Int) 0) (fun k => by simp only [node_Refs.j0, Bool.not_true, Bool.false_eq_true, if_false]) ?_
        have hq := (okN_len c1).1
        refine Ev_fold (g := fun k s j => node_Refs.l0 k i s q (q.length : Int) j) q.length (fun n => refsTo i q n) _ (Ev.step (f := fun _ => some (refsTo i q q.length)) (fun k => by simp only [node_Refs.l0]; rw [if_neg (by omega)]) (Ev.now _)) ?_
        intro j hj r hr
        refine Ev.step (fun k => ?_) hr
        simp only [node_Refs.l0]
        rw [if_pos (by omega), if_pos (by omega), if_pos (by omega), rdn, w64 (a := (j : Int) + 1) (by omega) (by omega)]
        by_cases z : q.getD j 0 = 0
        · rw [if_pos z, refs_skip i q j z]
        · have := refs_le i q j
          rw [if_neg z, if_pos (by omega), refs_add i q j z, w64 (a := i * 5) (by omega) (by omega), w64 (a := 1 + i * 5) (by omega) (by omega), w64 (a := 1 + i * 5 + (j : Int)) (by omega) (by omega)]
      · rw [if_neg (fun x => c2 x.2.2), decide_eq_false c2]; exact hbad
    · rw [if_neg (fun x => c1 x.2.1)]
      refine ((node_tells t li si q e hl hs).no c1).bind ?_
      simp only [Bool.false_eq_true, if_false]; exact hbad
  · simp only [if_neg c0]; rw [if_neg (fun x => c0 x.1)]; exact hbad
theorem pages_ev (t li si : Int) (q : List Int) (e : List S78) (hl : e.length ≤ 5864062014634) (hs : ∀ x ∈ e, x.f0.size ≤ 140737488351232) : Ev (fun k => node_Pages.f k t li si q e) ((refsOf 0 t li si q e).length : Int) := by
  unfold node_Pages.f
  exact (refs_ev 0 t li si q e hl hs).bind (Ev.now _)
theorem ref_pages_ev (t li si : Int) (q : List Int) (e : List S78) (hl : e.length ≤ 5864062014634) (hs : ∀ x ∈ e, x.f0.size ≤ 140737488351232) : Ev (fun k => potsherdref12_Pages.f k t li si q e) ((refsOf 0 t li si q e).length : Int) := by
  unfold potsherdref12_Pages.f refsOf
  have hbad : Ev (fun k => potsherdref12_Pages.j0 k 0 true t li si q e) (0 : Int) := Ev.step (f := fun _ => some 0) (fun k => by simp only [potsherdref12_Pages.j0, if_true]) (Ev.now _)
  by_cases c0 : t = 1
  · simp only [if_pos c0]
    by_cases c1 : okN t li si q e
    · refine ((ref_node_tells t li si q e hl hs).yes c1).bind ?_
      rw [if_pos ⟨c0, c1, by omega, by omega⟩]
      refine Ev.step (f := fun k => potsherdref12_Pages.l0 k 0 q (q.length : Int) 0) (fun k => by simp only [potsherdref12_Pages.j0, Bool.not_true, Bool.false_eq_true, if_false]) ?_
      have hq := (okN_len c1).1
      refine Ev_fold (g := fun k s j => potsherdref12_Pages.l0 k s q (q.length : Int) j) q.length (fun n => ((refsTo 0 q n).length : Int)) _ (Ev.step (f := fun _ => some ((refsTo 0 q q.length).length : Int)) (fun k => by simp only [potsherdref12_Pages.l0]; rw [if_neg (by omega)]) (Ev.now _)) ?_
      intro j hj r hr
      refine Ev.step (fun k => ?_) hr
      simp only [potsherdref12_Pages.l0]
      rw [if_pos (by omega), if_pos (by omega), if_pos (by omega), rdn, w64 (a := (j : Int) + 1) (by omega) (by omega)]
      by_cases z : q.getD j 0 = 0
      · rw [if_pos z, refs_skip 0 q j z]
      · have := refs_le 0 q j
        rw [if_neg z, refs_add 0 q j z, w64 (by omega) (by omega)]
        simp
    · rw [if_neg (fun x => c1 x.2.1)]
      refine ((ref_node_tells t li si q e hl hs).no c1).bind ?_
      exact hbad
  · simp only [if_neg c0]; rw [if_neg (fun x => c0 x.1)]; exact hbad
/-- What Light counts. -/
def lsum (l : List S78) : Nat → Int
  | 0 => 0
  | n + 1 => wrap64 (lsum l n + ((l.getD n z78).f0.size : Int))
theorem light13_ev (l : List S78) (hl : l.length ≤ 5864062014634) : ∃ r, Ev (fun k => potsherdlaw13_Light.f k l) r ∧ (r = 0 ∨ r = 1) := by
  have hend : ∃ r, Ev (fun k => potsherdlaw13_Light.l0 k l (lsum l l.length) l (l.length : Int) (l.length : Int)) r ∧ (r = 0 ∨ r = 1) := by
    by_cases c1 : (l.length : Int) > 60
    · exact ⟨1, Ev.step (f := fun _ => some 1) (fun k => by simp only [potsherdlaw13_Light.l0]; rw [if_neg (by omega), if_pos c1]) (Ev.now _), .inr rfl⟩
    · by_cases c2 : lsum l l.length > 1000
      · exact ⟨1, Ev.step (f := fun _ => some 1) (fun k => by simp only [potsherdlaw13_Light.l0]; rw [if_neg (by omega), if_neg c1, if_pos c2]) (Ev.now _), .inr rfl⟩
      · exact ⟨0, Ev.step (f := fun _ => some 0) (fun k => by simp only [potsherdlaw13_Light.l0]; rw [if_neg (by omega), if_neg c1, if_neg c2]) (Ev.now _), .inl rfl⟩
  obtain ⟨r, hr, h01⟩ := hend
  refine ⟨r, ?_, h01⟩
  unfold potsherdlaw13_Light.f
  exact Ev_fold (g := fun k a i => potsherdlaw13_Light.l0 k l a l (l.length : Int) i) l.length (lsum l) r hr (fun i hi r hr => Ev.step (fun k => by
    simp only [potsherdlaw13_Light.l0]
    rw [if_pos (by omega), if_pos (by omega), if_pos (by omega), rd38, w64 (a := (i : Int) + 1) (by omega) (by omega)]; rfl) hr)
theorem light_ev (t li si : Int) (q : List Int) (e : List S78) (hl : e.length ≤ 5864062014634) : ∃ r, Ev (fun k => potsherdlaw14_Light.f k t li si q e) r ∧ (r = 0 ∨ r = 1) := by
  unfold potsherdlaw14_Light.f
  by_cases c : (q.length : Int) > 60
  · simp only [if_pos c]; exact ⟨1, Ev.now _, .inr rfl⟩
  · simp only [if_neg c]
    obtain ⟨r, hr, h⟩ := light13_ev e hl
    exact ⟨r, hr.bind (Ev.now _), h⟩
theorem refsOf_le (i t li si : Int) (q : List Int) (e : List S78) : (refsOf i t li si q e).length ≤ 5 := by
  unfold refsOf
  by_cases c : t = 1 ∧ okN t li si q e ∧ 0 ≤ i ∧ i ≤ 11
  · rw [if_pos c]; exact Nat.le_trans (refs_le _ _ _) (okN_len c.2.1).1
  · rw [if_neg c]; exact Nat.zero_le _
end Go.Proofs.Ytkigiehkckjlhaa.SumsLib
