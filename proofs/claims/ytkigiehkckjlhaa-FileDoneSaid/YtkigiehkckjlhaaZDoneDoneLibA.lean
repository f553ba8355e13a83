/- What a name, a node and a file may be, how many pages they have: the printed functions tell it at every input within the reach; no other condition. -/
import Derived.Test.YtkigiehkckjlhaaZDonePlain
import Derived.Test.YtkigiehkckjlhaaZDonePDonex36
namespace Go.Proofs.Ytkigiehkckjlhaa.DoneLib
set_option linter.unusedVariables false
open Go.RowKit Go.Proofs.Ytkigiehkckjlhaa.PDone Go.Proofs.YtkigiehkckjlhaaW.PrintWords
open Go Go.Proofs.Ytkigiehkckjlhaa.Plain Go.Proofs.YtkigiehkckjlhaaW.PrintMore
theorem okc_path (k : Nat) (s : ByteArray) (n i : Int) (h0 : 0 ≤ i) (h1 : i < n) (h2 : i < s.size) : path_May.l0 (k + 1) s n i = if okc (bt s i) then path_May.l0 k s n (wrap64 (i + 1)) else some false := by
  simp only [path_May.l0]
  rw [if_pos h1, if_pos h0, if_pos h2]
  generalize path_May.l0 k s n (wrap64 (i + 1)) = R
  generalize bt s i = c
  by_cases h : okc c
  · rw [if_pos h]
    repeat' split
    all_goals first | rfl | omega
  · rw [if_neg h]
    repeat' split
    all_goals first | rfl | omega
theorem path_tells (s : ByteArray) (hs : s.size ≤ 140737488351232) : Tells (fun k => path_May.f k s) (okS s) := by
  have h := Tells_scan (g := fun k i => path_May.l0 k s (s.size : Int) i) s.size (fun i => okc (bt s i)) (1 ≤ s.size ∧ s.size ≤ 8 ∧ s.toList ≠ [46] ∧ s.toList ≠ [46, 46])
    (Tells.step (f := fun _ => some (decide (1 ≤ s.size ∧ s.size ≤ 8 ∧ s.toList ≠ [46] ∧ s.toList ≠ [46, 46]))) (fun k => by
      simp only [path_May.l0]
      rw [if_neg (by omega)]
      by_cases c1 : (s.size : Int) ≥ 1
      · rw [if_pos c1]
        by_cases c2 : (s.size : Int) ≤ 8
        · rw [if_pos c2]
          by_cases c3 : s.toList = ([46] : List UInt8)
          · rw [if_pos c3, decide_eq_false (fun h => h.2.2.1 c3)]
          · rw [if_neg c3]; congr 1
            by_cases c4 : s.toList = ([46, 46] : List UInt8)
            · rw [decide_eq_false (fun h => h.2.2.2 c4)]; simp [c4]
            · rw [decide_eq_true ⟨by omega, by omega, c3, c4⟩]; simp [c4]
        · rw [if_neg c2, decide_eq_false (by omega)]
      · rw [if_neg c1, decide_eq_false (by omega)]) ⟨_, Ev.now _, by simp⟩)
    (fun i hi hP r hr => Ev.step (fun k => by rw [okc_path k s _ i (by omega) (by omega) (by omega), if_pos hP, w64 (by omega) (by omega)]) hr)
    (fun i hi hP => Ev.step (f := fun _ => some false) (fun k => by rw [okc_path k s _ i (by omega) (by omega) (by omega), if_neg hP]) (Ev.now _))
  exact h.iff ⟨fun x => ⟨x.2, x.1⟩, fun x => ⟨x.2, x.1⟩⟩
theorem okc_name (k : Nat) (s : ByteArray) (n i : Int) (h0 : 0 ≤ i) (h1 : i < n) (h2 : i < s.size) : potsherdref12_Name.l0 (k + 1) s n i = if okc (bt s i) then potsherdref12_Name.l0 k s n (wrap64 (i + 1)) else some false := by
  simp only [potsherdref12_Name.l0]
  rw [if_pos h1, if_pos h0, if_pos h2]
  generalize potsherdref12_Name.l0 k s n (wrap64 (i + 1)) = R
  generalize bt s i = c
  by_cases h : okc c
  · rw [if_pos h]
    repeat' split
    all_goals first | rfl | omega
  · rw [if_neg h]
    repeat' split
    all_goals first | rfl | omega
theorem ref_name_tells (s : ByteArray) (hs : s.size ≤ 140737488351232) : Tells (fun k => potsherdref12_Name.f k s) (okS s) := by
  have h := Tells_scan (g := fun k i => potsherdref12_Name.l0 k s (s.size : Int) i) s.size (fun i => okc (bt s i)) True
    (Tells.step (f := fun _ => some true) (fun k => by simp only [potsherdref12_Name.l0]; rw [if_neg (by omega)]) ⟨_, Ev.now _, by simp⟩)
    (fun i hi hP r hr => Ev.step (fun k => by rw [okc_name k s _ i (by omega) (by omega) (by omega), if_pos hP, w64 (by omega) (by omega)]) hr)
    (fun i hi hP => Ev.step (f := fun _ => some false) (fun k => by rw [okc_name k s _ i (by omega) (by omega) (by omega), if_neg hP]) (Ev.now _))
  have hj : Ev (fun k => potsherdref12_Name.j0 k s true) false := Ev.step (f := fun _ => some false) (fun k => by simp only [potsherdref12_Name.j0, if_true]) (Ev.now _)
  unfold potsherdref12_Name.f
  by_cases c1 : (s.size : Int) < 1
  · simp only [if_pos c1]; exact ⟨false, hj, by simp; omega⟩
  · simp only [if_neg c1]
    by_cases c2 : (s.size : Int) > 8
    · simp only [if_pos c2]; exact ⟨false, hj, by simp; omega⟩
    · simp only [if_neg c2]
      by_cases c3 : s.toList = ([46] : List UInt8)
      · simp only [if_pos c3]; exact ⟨false, hj, by simp [c3]⟩
      · simp only [if_neg c3]
        by_cases c4 : s.toList = ([46, 46] : List UInt8)
        · simp only [c4, beq_self_eq_true]; exact ⟨false, hj, by simp [c4]⟩
        · have e : (s.toList == ([46, 46] : List UInt8)) = false := by simp [c4]
          simp only [e]
          refine Tells.step (fun k => by simp only [potsherdref12_Name.j0, Bool.false_eq_true, if_false]) (h.iff ⟨fun x => ⟨⟨by omega, by omega, c3, c4⟩, x.1⟩, fun x => ⟨x.2, trivial⟩⟩)
abbrev okE (x : S78) : Prop := okS x.f0 ∧ 1 ≤ x.f1 ∧ x.f1 < 12
abbrev lt (a b : S78) : Prop := Op.bytesLess a.f0.toList b.f0.toList = true
abbrev okL (l : List S78) : Prop := (∀ i, i < l.length → okE (l.getD i z78) ∧ (0 < i → lt (l.getD (i - 1) z78) (l.getD i z78))) ∧ l.length ≤ 10
theorem rd38 (l : List S78) (i : Nat) : rd_T78 l (i : Int) = l.getD i z78 := by unfold rd_T78; rw [Int.toNat_natCast]
theorem size_at {l : List S78} (h : ∀ x ∈ l, x.f0.size ≤ 140737488351232) (i : Nat) : (l.getD i z78).f0.size ≤ 140737488351232 := by
  rw [List.getD_eq_getElem?_getD]
  by_cases hi : i < l.length
  · rw [List.getElem?_eq_getElem hi]; exact h _ (List.getElem_mem hi)
  · rw [List.getElem?_eq_none (by omega)]; decide
theorem sole_tells (s : ByteArray) (n : Int) (hs : s.size ≤ 140737488351232) : Tells (fun k => name_sole.f k s n) (okS s ∧ 1 ≤ n ∧ n < 12) := by
  unfold name_sole.f
  refine Tells.of (fun h => ((path_tells s hs).yes h.1).bind ?_) (fun h => ?_)
  · exact Ev.const (fun k => by rw [if_pos rfl, if_pos (by omega)]) (by rw [decide_eq_true h.2.2])
  · by_cases c : okS s
    · refine ((path_tells s hs).yes c).bind (Ev.const (fun k => by rw [if_pos rfl]) ?_)
      by_cases c1 : n ≥ 1
      · rw [if_pos c1, decide_eq_false (fun x => h ⟨c, by omega, x⟩)]
      · rw [if_neg c1]
    · exact ((path_tells s hs).no c).bind (Ev.const (fun k => by rw [if_neg (by decide)]) rfl)
theorem may_tells (l : List S78) (hl : l.length ≤ 5864062014634) (hs : ∀ x ∈ l, x.f0.size ≤ 140737488351232) : Tells (fun k => name_May.f k l) (okL l) := by
  unfold name_May.f
  refine Tells_scan (g := fun k i => name_May.l0 k l l (l.length : Int) i) l.length _ _ (Tells.step (f := fun _ => some (decide ((l.length : Int) ≤ 10))) (fun k => by simp only [name_May.l0]; rw [if_neg (by omega)]) ⟨_, Ev.now _, by simp; omega⟩) ?_ ?_
  · intro i hi hP r hr
    refine Ev.step (fun k => by simp only [name_May.l0]; rw [if_pos (by omega), if_pos (by omega), if_pos (by omega), rd38]) ?_
    refine ((sole_tells (l.getD i z78).f0 (l.getD i z78).f1 (size_at hs i)).yes hP.1).bind (Ev.congr (fun k => by rw [if_pos rfl]) ?_)
    by_cases c : (i : Int) > 0
    · refine Ev.congr (fun k => by rw [if_pos c, w64 (a := (i : Int) - 1) (by omega) (by omega), if_pos (by omega), if_pos (by omega)]) ?_
      have e : rd_T78 l ((i : Int) - 1) = l.getD (i - 1) z78 := by rw [show ((i : Int) - 1) = ((i - 1 : Nat) : Int) by omega, rd38]
      refine Ev.congr (fun k => by rw [e, if_pos (hP.2 (by omega)), w64 (a := (i : Int) + 1) (by omega) (by omega)]) hr
    · exact Ev.congr (fun k => by rw [if_neg c, w64 (a := (i : Int) + 1) (by omega) (by omega)]) hr
  · intro i hi hP
    refine Ev.step (fun k => by simp only [name_May.l0]; rw [if_pos (by omega), if_pos (by omega), if_pos (by omega), rd38]) ?_
    by_cases c : okE (l.getD i z78)
    · refine ((sole_tells (l.getD i z78).f0 (l.getD i z78).f1 (size_at hs i)).yes c).bind (Ev.congr (fun k => by rw [if_pos rfl]) ?_)
      by_cases c1 : (i : Int) > 0
      · have e : rd_T78 l ((i : Int) - 1) = l.getD (i - 1) z78 := by rw [show ((i : Int) - 1) = ((i - 1 : Nat) : Int) by omega, rd38]
        exact Ev.const (fun k => by rw [if_pos c1, w64 (a := (i : Int) - 1) (by omega) (by omega), if_pos (by omega), if_pos (by omega), e, if_neg (fun x => hP ⟨c, fun _ => x⟩)]) rfl
      · exact absurd ⟨c, fun h => by omega⟩ hP
    · exact ((sole_tells (l.getD i z78).f0 (l.getD i z78).f1 (size_at hs i)).no c).bind (Ev.const (fun k => by rw [if_neg (by decide)]) rfl)
theorem ref_may_tells (l : List S78) (hl : l.length ≤ 5864062014634) (hs : ∀ x ∈ l, x.f0.size ≤ 140737488351232) : Tells (fun k => potsherdref12_MayEntries.f k l) (okL l) := by
  unfold potsherdref12_MayEntries.f
  by_cases c0 : (l.length : Int) > 10
  · exact ⟨false, Ev.const (fun k => if_pos c0) rfl, by simp; omega⟩
  refine Tells.congr (fun k => if_neg c0) ?_
  refine (Tells_scan (g := fun k i => potsherdref12_MayEntries.l0 k l l (l.length : Int) i) l.length (fun i => okE (l.getD i z78) ∧ (0 < i → lt (l.getD (i - 1) z78) (l.getD i z78))) True (Tells.step (f := fun _ => some true) (fun k => by simp only [potsherdref12_MayEntries.l0]; rw [if_neg (by omega)]) ⟨_, Ev.now _, by simp⟩) ?_ ?_).iff ⟨fun x => ⟨x.1, by omega⟩, fun x => ⟨x.1, trivial⟩⟩
  · intro i hi hP r hr
    refine Ev.step (fun k => by simp only [potsherdref12_MayEntries.l0]; rw [if_pos (by omega), if_pos (by omega), if_pos (by omega), rd38]) ?_
    refine ((ref_name_tells (l.getD i z78).f0 (size_at hs i)).yes hP.1.1).bind (Ev.congr (fun k => by rw [if_pos rfl]) ?_)
    by_cases c : (i : Int) > 0
    · refine Ev.congr (fun k => by rw [if_pos c, w64 (a := (i : Int) - 1) (by omega) (by omega), if_pos (by omega), if_pos (by omega)]) ?_
      have e : rd_T78 l ((i : Int) - 1) = l.getD (i - 1) z78 := by rw [show ((i : Int) - 1) = ((i - 1 : Nat) : Int) by omega, rd38]
      refine Ev.congr (fun k => by rw [e, if_pos (hP.2 (by omega)), if_neg (by have := hP.1.2; omega), if_neg (by have := hP.1.2; omega), w64 (a := (i : Int) + 1) (by omega) (by omega)]) hr
    · exact Ev.congr (fun k => by rw [if_neg c, if_neg (by have := hP.1.2; omega), if_neg (by have := hP.1.2; omega), w64 (a := (i : Int) + 1) (by omega) (by omega)]) hr
  · intro i hi hP
    refine Ev.step (fun k => by simp only [potsherdref12_MayEntries.l0]; rw [if_pos (by omega), if_pos (by omega), if_pos (by omega), rd38]) ?_
    by_cases c : okS (l.getD i z78).f0
    · refine ((ref_name_tells (l.getD i z78).f0 (size_at hs i)).yes c).bind (Ev.congr (fun k => by rw [if_pos rfl]) ?_)
      have hn : (if (l.getD i z78).f1 < 1 then some false else if (l.getD i z78).f1 ≥ 12 then some false else none) = (some false : Option Bool) ∨ okE (l.getD i z78) := by
        by_cases c1 : (l.getD i z78).f1 < 1
        · left; rw [if_pos c1]
        · by_cases c2 : (l.getD i z78).f1 ≥ 12
          · left; rw [if_neg c1, if_pos c2]
          · right; exact ⟨c, by omega, by omega⟩
      have hn2 : ∀ R : Option Bool, ¬ okE (l.getD i z78) → (if (l.getD i z78).f1 < 1 then some false else if (l.getD i z78).f1 ≥ 12 then some false else R) = some false := by
        intro R hE
        by_cases c1 : (l.getD i z78).f1 < 1
        · rw [if_pos c1]
        · rw [if_neg c1, if_pos (by have : ¬ (1 ≤ (l.getD i z78).f1 ∧ (l.getD i z78).f1 < 12) := fun x => hE ⟨c, x⟩; omega)]
      by_cases c1 : (i : Int) > 0
      · have e : rd_T78 l ((i : Int) - 1) = l.getD (i - 1) z78 := by rw [show ((i : Int) - 1) = ((i - 1 : Nat) : Int) by omega, rd38]
        refine Ev.const (o := some false) (fun k => ?_) rfl
        rw [if_pos c1, w64 (a := (i : Int) - 1) (by omega) (by omega), if_pos (by omega), if_pos (by omega), e]
        by_cases c2 : lt (l.getD (i - 1) z78) (l.getD i z78)
        · rw [if_pos c2]; exact hn2 _ (fun x => hP ⟨x, fun _ => c2⟩)
        · rw [if_neg c2]
      · exact Ev.const (o := some false) (fun k => by rw [if_neg c1]; exact hn2 _ (fun x => hP ⟨x, fun h => by omega⟩)) rfl
    · exact ((ref_name_tells (l.getD i z78).f0 (size_at hs i)).no c).bind (Ev.const (fun k => by rw [if_neg (by decide)]) rfl)
theorem rdn (q : List Int) (i : Nat) : rd q (i : Int) = q.getD i 0 := by unfold rd; rw [Int.toNat_natCast]
theorem within_eq (a b : Int) : node_within.f a b = some (decide (0 ≤ a ∧ a ≤ b)) := by
  unfold node_within.f
  by_cases h : a ≥ 0
  · rw [if_pos h]; congr 1; rw [decide_eq_decide]; omega
  · rw [if_neg h, decide_eq_false (by omega)]
abbrev okQ (si : Int) (q : List Int) (i : Nat) : Prop := 0 ≤ q.getD i 0 ∧ q.getD i 0 ≤ 1099511627776 ∧ (si ≤ (i : Int) * 16 → q.getD i 0 = 0)
abbrev okF (li si : Int) (q : List Int) (e : List S78) : Prop := (∀ i, i < q.length → okQ si q i) ∧ 0 ≤ li ∧ li ≤ 120 ∧ 0 ≤ si ∧ si ≤ 80 ∧ q.length = 5 ∧ e.length = 0
abbrev okN (t li si : Int) (q : List Int) (e : List S78) : Prop :=
  (t = 0 ∧ li = 0 ∧ si = 0 ∧ q.length = 0 ∧ e.length = 0) ∨ (t = 1 ∧ okF li si q e) ∨ (t = 2 ∧ li = 1 ∧ si = 0 ∧ q.length = 0 ∧ okL e)
theorem file_loop (t li si : Int) (q : List Int) (e : List S78) (hq : q.length ≤ 5) : Tells (fun k => node_file.l0 k q (q.length : Int) 0 t li si q e) (∀ i, i < q.length → okQ si q i) := by
  refine (Tells_scan (g := fun k i => node_file.l0 k q (q.length : Int) i t li si q e) q.length (okQ si q) True (Tells.step (f := fun _ => some true) (fun k => by simp only [node_file.l0]; rw [if_neg (by omega)]) ⟨_, Ev.now _, by simp⟩) ?_ ?_).iff ⟨fun x => x.1, fun x => ⟨x, trivial⟩⟩
  · intro i hi hP r hr
    obtain ⟨h1, h2, h3⟩ := hP
    refine Ev.step (fun k => ?_) hr
    simp only [node_file.l0]
    rw [if_pos (by omega), if_pos (by omega), if_pos (by omega), rdn, within_eq]
    simp only [Option.bind_some, decide_eq_true_eq]
    rw [if_pos ⟨h1, h2⟩, w64 (a := (i : Int) * 16) (by omega) (by omega), w64 (a := (i : Int) + 1) (by omega) (by omega)]
    by_cases c : (i : Int) * 16 ≥ si
    · rw [if_pos c, if_pos (h3 c)]
    · rw [if_neg c]
  · intro i hi hP
    refine Ev.step (f := fun _ => some false) (fun k => ?_) (Ev.now _)
    simp only [node_file.l0]
    rw [if_pos (by omega), if_pos (by omega), if_pos (by omega), rdn, within_eq]
    simp only [Option.bind_some, decide_eq_true_eq]
    by_cases c1 : 0 ≤ q.getD i 0 ∧ q.getD i 0 ≤ 1099511627776
    · rw [if_pos c1, w64 (a := (i : Int) * 16) (by omega) (by omega)]
      have c2 : ¬ (si ≤ (i : Int) * 16 → q.getD i 0 = 0) := fun x => hP ⟨c1.1, c1.2, x⟩
      by_cases c3 : (i : Int) * 16 ≥ si
      · rw [if_pos c3, if_neg (fun x => c2 (fun _ => x))]
      · exact absurd (fun x => absurd x (by omega)) c2
    · rw [if_neg c1]
theorem file_tells (t li si : Int) (q : List Int) (e : List S78) : Tells (fun k => node_file.f k t li si q e) (okF li si q e) := by
  unfold node_file.f
  simp only [within_eq, Option.bind_some, decide_eq_true_eq]
  have hbad : Ev (fun k => node_file.j0 k true t li si q e) false := Ev.step (f := fun _ => some false) (fun k => by simp only [node_file.j0, if_true]) (Ev.now _)
  by_cases c1 : 0 ≤ li ∧ li ≤ 120
  · simp only [if_pos c1]
    by_cases c2 : 0 ≤ si ∧ si ≤ 80
    · simp only [if_pos c2]
      by_cases c3 : (q.length : Int) = 5
      · simp only [if_pos c3]
        by_cases c4 : (e.length : Int) > 0
        · rw [decide_eq_true c4]; exact ⟨false, hbad, by simp only [Bool.false_eq_true, false_iff]; rintro ⟨_, x⟩; omega⟩
        · rw [decide_eq_false c4]
          exact (Tells.step (fun k => by simp only [node_file.j0, Bool.false_eq_true, if_false]) (file_loop t li si q e (by omega))).iff ⟨fun x => ⟨x, c1.1, c1.2, c2.1, c2.2, by omega, by omega⟩, fun x => x.1⟩
      · simp only [if_neg c3]; exact ⟨false, hbad, by simp only [Bool.false_eq_true, false_iff]; rintro ⟨_, x⟩; omega⟩
    · simp only [if_neg c2]; exact ⟨false, hbad, by simp only [Bool.false_eq_true, false_iff]; rintro ⟨_, x⟩; omega⟩
  · simp only [if_neg c1]; exact ⟨false, hbad, by simp only [Bool.false_eq_true, false_iff]; rintro ⟨_, x⟩; omega⟩
theorem node_tells (t li si : Int) (q : List Int) (e : List S78) (hl : e.length ≤ 5864062014634) (hs : ∀ x ∈ e, x.f0.size ≤ 140737488351232) : Tells (fun k => node_May.f k t li si q e) (okN t li si q e) := by
  unfold node_May.f
  by_cases c0 : t = 0
  · simp only [if_pos c0]
    refine ⟨decide (li = 0 ∧ si = 0 ∧ q.length = 0 ∧ e.length = 0), Ev.const (fun k => rfl) ?_, ?_⟩
    · by_cases c1 : li = 0
      · rw [if_pos c1]
        by_cases c2 : si = 0
        · rw [if_pos c2]
          by_cases c3 : (q.length : Int) = 0
          · rw [if_pos c3]; congr 1
            by_cases c4 : e.length = 0
            · rw [decide_eq_true ⟨c1, c2, by omega, c4⟩]; simp [c4]
            · rw [decide_eq_false (fun x => c4 x.2.2.2)]; simp; intro x; exact c4 (by simp [x])
          · rw [if_neg c3, decide_eq_false (by omega)]
        · rw [if_neg c2, decide_eq_false (by omega)]
      · rw [if_neg c1, decide_eq_false (by omega)]
    · simp only [decide_eq_true_eq]; constructor
      · intro x; exact Or.inl ⟨c0, x.1, x.2.1, x.2.2.1, x.2.2.2⟩
      · rintro (x | x | x)
        · exact x.2
        · exact absurd x.1 (by omega)
        · exact absurd x.1 (by omega)
  · simp only [if_neg c0]
    by_cases c1 : t = 1
    · simp only [if_pos c1, Option.bind_fun_some]
      refine (file_tells t li si q e).iff ⟨fun x => Or.inr (Or.inl ⟨c1, x⟩), ?_⟩
      rintro (x | x | x)
      · exact absurd x.1 c0
      · exact x.2
      · exact absurd x.1 (by omega)
    · simp only [if_neg c1]
      by_cases c2 : t = 2
      · simp only [if_pos c2, Option.bind_fun_some]
        have hout : ∀ P : Prop, okN t li si q e → (li = 1 ∧ si = 0 ∧ q.length = 0 ∧ okL e) := by
          rintro P (x | x | x)
          · exact absurd x.1 c0
          · exact absurd x.1 c1
          · exact x.2
        by_cases d1 : li = 1
        · simp only [if_pos d1]
          by_cases d2 : si = 0
          · simp only [if_pos d2]
            by_cases d3 : (q.length : Int) = 0
            · simp only [if_pos d3]
              exact (may_tells e hl hs).iff ⟨fun x => Or.inr (Or.inr ⟨c2, d1, d2, by omega, x⟩), fun x => (hout True x).2.2.2⟩
            · simp only [if_neg d3]; exact ⟨false, Ev.now _, by simp only [Bool.false_eq_true, false_iff]; intro x; have := hout True x; omega⟩
          · simp only [if_neg d2]; exact ⟨false, Ev.now _, by simp only [Bool.false_eq_true, false_iff]; intro x; have := hout True x; omega⟩
        · simp only [if_neg d1]; exact ⟨false, Ev.now _, by simp only [Bool.false_eq_true, false_iff]; intro x; have := hout True x; omega⟩
      · simp only [if_neg c2]
        refine ⟨false, Ev.now _, by simp only [Bool.false_eq_true, false_iff]; rintro (x | x | x) <;> omega⟩
theorem ref_node_tells (t li si : Int) (q : List Int) (e : List S78) (hl : e.length ≤ 5864062014634) (hs : ∀ x ∈ e, x.f0.size ≤ 140737488351232) : Tells (fun k => potsherdref12_MayNode.f k t li si q e) (okN t li si q e) := by
  unfold potsherdref12_MayNode.f
  have hbad : Ev (fun k => potsherdref12_MayNode.j0 k true t li si q e) false := Ev.step (f := fun _ => some false) (fun k => by simp only [potsherdref12_MayNode.j0, if_true]) (Ev.now _)
  by_cases c0 : t = 0
  · simp only [if_pos c0]
    refine ⟨decide (li = 0 ∧ si = 0 ∧ q.length = 0 ∧ e.length = 0), Ev.const (fun k => rfl) ?_, ?_⟩
    · by_cases c1 : li = 0
      · rw [if_pos c1]
        by_cases c2 : si = 0
        · rw [if_pos c2]
          by_cases c3 : (q.length : Int) = 0
          · rw [if_pos c3]; congr 1
            by_cases c4 : e.length = 0
            · rw [decide_eq_true ⟨c1, c2, by omega, c4⟩]; simp [c4]
            · rw [decide_eq_false (fun x => c4 x.2.2.2)]; simp; intro x; exact c4 (by simp [x])
          · rw [if_neg c3, decide_eq_false (by omega)]
        · rw [if_neg c2, decide_eq_false (by omega)]
      · rw [if_neg c1, decide_eq_false (by omega)]
    · simp only [decide_eq_true_eq]; constructor
      · intro x; exact Or.inl ⟨c0, x.1, x.2.1, x.2.2.1, x.2.2.2⟩
      · rintro (x | x | x)
        · exact x.2
        · exact absurd x.1 (by omega)
        · exact absurd x.1 (by omega)
  · simp only [if_neg c0]
    by_cases c2 : t = 2
    · simp only [if_pos c2, Option.bind_fun_some]
      have hout : okN t li si q e → (li = 1 ∧ si = 0 ∧ q.length = 0 ∧ okL e) := by
        rintro (x | x | x)
        · exact absurd x.1 c0
        · exact absurd x.1 (by omega)
        · exact x.2
      by_cases d1 : li = 1
      · simp only [if_pos d1]
        by_cases d2 : si = 0
        · simp only [if_pos d2]
          by_cases d3 : (q.length : Int) = 0
          · simp only [if_pos d3]
            exact (ref_may_tells e hl hs).iff ⟨fun x => Or.inr (Or.inr ⟨c2, d1, d2, by omega, x⟩), fun x => (hout x).2.2.2⟩
          · simp only [if_neg d3]; exact ⟨false, Ev.now _, by simp only [Bool.false_eq_true, false_iff]; intro x; have := hout x; omega⟩
        · simp only [if_neg d2]; exact ⟨false, Ev.now _, by simp only [Bool.false_eq_true, false_iff]; intro x; have := hout x; omega⟩
      · simp only [if_neg d1]; exact ⟨false, Ev.now _, by simp only [Bool.false_eq_true, false_iff]; intro x; have := hout x; omega⟩
    · simp only [if_neg c2]
      by_cases c1 : t = 1
      · simp only [if_pos c1]
        have hout : okN t li si q e → okF li si q e := by
          rintro (x | x | x)
          · exact absurd x.1 c0
          · exact x.2
          · exact absurd x.1 c2
        have bad : ¬ okF li si q e → Tells (fun k => potsherdref12_MayNode.j0 k true t li si q e) (okN t li si q e) := fun h => ⟨false, hbad, by simp only [Bool.false_eq_true, false_iff]; exact fun x => h (hout x)⟩
        by_cases d1 : li < 0
        · simp only [if_pos d1]; exact bad (by rintro ⟨_, x⟩; omega)
        · simp only [if_neg d1]
          by_cases d2 : li > 120
          · simp only [if_pos d2]; exact bad (by rintro ⟨_, x⟩; omega)
          · simp only [if_neg d2]
            by_cases d3 : si < 0
            · simp only [if_pos d3]; exact bad (by rintro ⟨_, x⟩; omega)
            · simp only [if_neg d3]
              by_cases d4 : si > 80
              · simp only [if_pos d4]; exact bad (by rintro ⟨_, x⟩; omega)
              · simp only [if_neg d4]
                by_cases d5 : (q.length : Int) = 5
                · simp only [if_pos d5]
                  by_cases d6 : (e.length : Int) = 0
                  · have e6 : ((e.length : Int) != 0) = false := by simp [d6]
                    rw [e6]
                    refine (Tells.step (f := fun k => potsherdref12_MayNode.l0 k q (q.length : Int) 0 t li si q e) (fun k => by simp only [potsherdref12_MayNode.j0, Bool.false_eq_true, if_false]) (P := ∀ i, i < q.length → okQ si q i) ?_).iff ⟨fun x => Or.inr (Or.inl ⟨c1, x, by omega, by omega, by omega, by omega, by omega, by omega⟩), fun x => (hout x).1⟩
                    refine (Tells_scan (g := fun k i => potsherdref12_MayNode.l0 k q (q.length : Int) i t li si q e) q.length (okQ si q) True (Tells.step (f := fun _ => some true) (fun k => by simp only [potsherdref12_MayNode.l0]; rw [if_neg (by omega)]) ⟨_, Ev.now _, by simp⟩) ?_ ?_).iff ⟨fun x => x.1, fun x => ⟨x, trivial⟩⟩
                    · intro i hi hP r hr
                      obtain ⟨h1, h2, h3⟩ := hP
                      refine Ev.step (fun k => ?_) hr
                      simp only [potsherdref12_MayNode.l0]
                      rw [if_pos (by omega), if_pos (by omega), if_pos (by omega), rdn, if_neg (by omega), if_neg (by omega), w64 (a := (i : Int) * 16) (by omega) (by omega), w64 (a := (i : Int) + 1) (by omega) (by omega)]
                      by_cases z : q.getD i 0 = 0
                      · rw [if_pos z]
                      · rw [if_neg z, if_neg (fun x => z (h3 x))]
                    · intro i hi hP
                      refine Ev.step (f := fun _ => some false) (fun k => ?_) (Ev.now _)
                      simp only [potsherdref12_MayNode.l0]
                      rw [if_pos (by omega), if_pos (by omega), if_pos (by omega), rdn, w64 (a := (i : Int) * 16) (by omega) (by omega)]
                      by_cases z1 : q.getD i 0 < 0
                      · rw [if_pos z1]
                      · rw [if_neg z1]
                        by_cases z2 : q.getD i 0 > 1099511627776
                        · rw [if_pos z2]
                        · rw [if_neg z2]
                          have c2 : ¬ (si ≤ (i : Int) * 16 → q.getD i 0 = 0) := fun x => hP ⟨by omega, by omega, x⟩
                          by_cases z3 : q.getD i 0 = 0
                          · exact absurd (fun _ => z3) c2
                          · rw [if_neg z3]
                            by_cases z4 : (i : Int) * 16 ≥ si
                            · rw [if_pos z4]
                            · exact absurd (fun x => absurd x (by omega)) c2
                  · have e6 : ((e.length : Int) != 0) = true := by simp; intro x; exact d6 (by simp [x])
                    rw [e6]; exact bad (by rintro ⟨_, x⟩; omega)
                · simp only [if_neg d5]; exact bad (by rintro ⟨_, x⟩; omega)
      · simp only [if_neg c1]
        refine ⟨false, Ev.now _, by simp only [Bool.false_eq_true, false_iff]; rintro (x | x | x) <;> omega⟩
def refsTo (i : Int) (q : List Int) (n : Nat) : List S102 := (List.range n).filterMap fun p => if q.getD p 0 = 0 then none else some ⟨1 + i * 5 + (p : Int), q.getD p 0⟩
theorem refs_le (i : Int) (q : List Int) (n : Nat) : (refsTo i q n).length ≤ n := by
  have := List.length_filterMap_le (fun p => if q.getD p 0 = 0 then none else some (⟨1 + i * 5 + (p : Int), q.getD p 0⟩ : S102)) (List.range n)
  simpa [refsTo] using this
theorem refs_skip (i : Int) (q : List Int) (n : Nat) (h : q.getD n 0 = 0) : refsTo i q (n + 1) = refsTo i q n := by
  unfold refsTo; rw [List.range_succ, List.filterMap_append]; simp only [List.filterMap_cons, List.filterMap_nil, if_pos h, List.append_nil]
theorem refs_add (i : Int) (q : List Int) (n : Nat) (h : ¬ q.getD n 0 = 0) : refsTo i q (n + 1) = refsTo i q n ++ [⟨1 + i * 5 + (n : Int), q.getD n 0⟩] := by
  unfold refsTo; rw [List.range_succ, List.filterMap_append]; simp only [List.filterMap_cons, List.filterMap_nil, if_neg h]
noncomputable def refsOf (i t li si : Int) (q : List Int) (e : List S78) : List S102 := open Classical in if t = 1 ∧ okN t li si q e ∧ 0 ≤ i ∧ i ≤ 11 then refsTo i q q.length else []
theorem okN_len {t li si : Int} {q : List Int} {e : List S78} (h : okN t li si q e) : q.length ≤ 5 ∧ e.length ≤ 10 := by
  rcases h with x | x | x
  · omega
  · have := x.2.2; omega
  · have := x.2.2.2.2.2; omega
theorem refs_ev (i t li si : Int) (q : List Int) (e : List S78) (hl : e.length ≤ 5864062014634) (hs : ∀ x ∈ e, x.f0.size ≤ 140737488351232) : Ev (fun k => node_Refs.f k i t li si q e) (refsOf i t li si q e) := by
  unfold node_Refs.f refsOf
  have hbad : Ev (fun k => node_Refs.j0 k i true t li si q e) ([] : List S102) := Ev.step (f := fun _ => some []) (fun k => by simp only [node_Refs.j0, if_true]) (Ev.now _)
  by_cases c0 : t = 1
  · simp only [if_pos c0]
    by_cases c1 : okN t li si q e
    · refine ((node_tells t li si q e hl hs).yes c1).bind ?_
      simp only [if_true, within_eq, Option.bind_some]
      by_cases c2 : 0 ≤ i ∧ i ≤ 11
      · rw [if_pos ⟨c0, c1, c2⟩]
        rw [decide_eq_true c2]
        refine Ev.step (f := fun k => node_Refs.l0 k i [] q (q.length : Int) 0) (fun k => by simp only [node_Refs.j0, Bool.not_true, Bool.false_eq_true, if_false]) ?_
        have hq := (okN_len c1).1
        refine Ev_fold (g := fun k s j => node_Refs.l0 k i s q (q.length : Int) j) q.length (fun n => refsTo i q n) _ (Ev.step (f := fun _ => some (refsTo i q q.length)) (fun k => by simp only [node_Refs.l0]; rw [if_neg (by omega)]) (Ev.now _)) ?_
        intro j hj r hr
        refine Ev.step (fun k => ?_) hr
        simp only [node_Refs.l0]
        rw [if_pos (by omega), if_pos (by omega), if_pos (by omega), rdn, w64 (a := (j : Int) + 1) (by omega) (by omega)]
        by_cases z : q.getD j 0 = 0
        · rw [if_pos z, refs_skip i q j z]
        · have := refs_le i q j
          rw [if_neg z, if_pos (by omega), refs_add i q j z, w64 (a := i * 5) (by omega) (by omega), w64 (a := 1 + i * 5) (by omega) (by omega), w64 (a := 1 + i * 5 + (j : Int)) (by omega) (by omega)]
      · rw [if_neg (fun x => c2 x.2.2), decide_eq_false c2]; exact hbad
    · rw [if_neg (fun x => c1 x.2.1)]
      refine ((node_tells t li si q e hl hs).no c1).bind ?_
      simp only [Bool.false_eq_true, if_false]; exact hbad
  · simp only [if_neg c0]; rw [if_neg (fun x => c0 x.1)]; exact hbad
theorem pages_ev (t li si : Int) (q : List Int) (e : List S78) (hl : e.length ≤ 5864062014634) (hs : ∀ x ∈ e, x.f0.size ≤ 140737488351232) : Ev (fun k => node_Pages.f k t li si q e) ((refsOf 0 t li si q e).length : Int) := by
  unfold node_Pages.f
  exact (refs_ev 0 t li si q e hl hs).bind (Ev.now _)
def lsum (l : List S78) : Nat → Int
  | 0 => 0
  | n + 1 => wrap64 (lsum l n + ((l.getD n z78).f0.size : Int))
theorem light13_ev (l : List S78) (hl : l.length ≤ 5864062014634) : ∃ r, Ev (fun k => potsherdlaw13_Light.f k l) r ∧ (r = 0 ∨ r = 1) := by
  have hend : ∃ r, Ev (fun k => potsherdlaw13_Light.l0 k l (lsum l l.length) l (l.length : Int) (l.length : Int)) r ∧ (r = 0 ∨ r = 1) := by
    by_cases c1 : (l.length : Int) > 60
    · exact ⟨1, Ev.step (f := fun _ => some 1) (fun k => by simp only [potsherdlaw13_Light.l0]; rw [if_neg (by omega), if_pos c1]) (Ev.now _), .inr rfl⟩
    · by_cases c2 : lsum l l.length > 1000
      · exact ⟨1, Ev.step (f := fun _ => some 1) (fun k => by simp only [potsherdlaw13_Light.l0]; rw [if_neg (by omega), if_neg c1, if_pos c2]) (Ev.now _), .inr rfl⟩
      · exact ⟨0, Ev.step (f := fun _ => some 0) (fun k => by simp only [potsherdlaw13_Light.l0]; rw [if_neg (by omega), if_neg c1, if_neg c2]) (Ev.now _), .inl rfl⟩
  obtain ⟨r, hr, h01⟩ := hend
  refine ⟨r, ?_, h01⟩
  unfold potsherdlaw13_Light.f
  exact Ev_fold (g := fun k a i => potsherdlaw13_Light.l0 k l a l (l.length : Int) i) l.length (lsum l) r hr (fun i hi r hr => Ev.step (fun k => by
    simp only [potsherdlaw13_Light.l0]
    rw [if_pos (by omega), if_pos (by omega), if_pos (by omega), rd38, w64 (a := (i : Int) + 1) (by omega) (by omega)]; rfl) hr)
theorem light_ev (t li si : Int) (q : List Int) (e : List S78) (hl : e.length ≤ 5864062014634) : ∃ r, Ev (fun k => potsherdlaw14_Light.f k t li si q e) r ∧ (r = 0 ∨ r = 1) := by
  unfold potsherdlaw14_Light.f
  by_cases c : (q.length : Int) > 60
  · simp only [if_pos c]; exact ⟨1, Ev.now _, .inr rfl⟩
  · simp only [if_neg c]
    obtain ⟨r, hr, h⟩ := light13_ev e hl
    exact ⟨r, hr.bind (Ev.now _), h⟩
theorem copy_is (t li si : Int) (q : List Int) (e : List S78) (hq : q.length ≤ 17592186043904) (hl : e.length ≤ 5864062014634) : node_Copy.f t li si q e = some (t, li, si, q, e) := by
  unfold node_Copy.f slices_Clone_int_int.f api_Entry.f
  rw [if_pos (by omega), if_pos (by omega)]; rfl
theorem ref_copy_is (t li si : Int) (q : List Int) (e : List S78) (hq : q.length ≤ 17592186043904) (hl : e.length ≤ 5864062014634) : potsherdref12_CopyNode.f t li si q e = some (t, li, si, q, e) := by
  unfold potsherdref12_CopyNode.f
  rw [if_pos (by simp only [List.length_nil]; omega), if_pos (by simp only [List.length_nil]; omega)]; rfl
theorem refsOf_le (i t li si : Int) (q : List Int) (e : List S78) : (refsOf i t li si q e).length ≤ 5 := by
  unfold refsOf
  by_cases c : t = 1 ∧ okN t li si q e ∧ 0 ≤ i ∧ i ≤ 11
  · rw [if_pos c]; exact Nat.le_trans (refs_le _ _ _) (okN_len c.2.1).1
  · rw [if_neg c]; exact Nat.zero_le _
theorem okN_file {li si : Int} {q : List Int} {e : List S78} (h : okN 1 li si q e) : okF li si q e := by
  rcases h with x | x | x
  · omega
  · exact x.2
  · omega
abbrev okX (x : S28) : Prop := okN x.f0 x.f1 x.f2 x.f3 x.f4
def okT (l : List S28) : Prop := l.length = 12 ∧ ∀ x ∈ l, okX x
def reach (x : S28) : Prop := x.f4.length ≤ 5864062014634 ∧ ∀ y ∈ x.f4, y.f0.size ≤ 140737488351232
theorem rd28 (l : List S28) (i : Nat) : rd_T28 l (i : Int) = l.getD i z28 := by unfold rd_T28; rw [Int.toNat_natCast]
theorem getD_mem (l : List S28) {i : Nat} (hi : i < l.length) : l.getD i z28 ∈ l := by
  rw [List.getD_eq_getElem?_getD, List.getElem?_eq_getElem hi]; exact List.getElem_mem hi
theorem bad_ev (l : List S28) (hr : ∀ x ∈ l, reach x) : ∀ i : Int, 0 ≤ i → ∃ r, Ev (fun k => badAt k l i) r ∧ (0 ≤ r ↔ ¬ ∀ x ∈ l, okX x) := by
  induction l with
  | nil => intro i hi; exact ⟨-1, Ev.now _, by simp⟩
  | cons x r ih =>
    intro i hi
    obtain ⟨s, hs, he⟩ := ih (fun y hy => hr y (by simp [hy])) (i + 1) (by omega)
    have hx := hr x (by simp)
    obtain ⟨b, hb, hk⟩ := node_tells x.f0 x.f1 x.f2 x.f3 x.f4 hx.1 hx.2
    cases b with
    | true =>
      refine ⟨s, hb.bind (by simpa using hs), he.trans ?_⟩
      have hk := hk.1 rfl
      simp only [List.mem_cons, forall_eq_or_imp, hk, true_and]
    | false =>
      refine ⟨i, hb.bind (by simpa using Ev.now i), ?_⟩
      simp only [hi, true_iff]
      intro h
      have := hk.2 (h x (by simp))
      cases this
theorem off_tells (l : List S28) (hr : ∀ x ∈ l, reach x) : Tells (fun k => quota_off.f k l) (¬ okT l) := by
  unfold quota_off.f
  by_cases c : l.length = 12
  · simp only [if_pos c]
    obtain ⟨r, h1, h2⟩ := bad_ev l hr 0 (Int.le_refl _)
    refine ⟨decide (0 ≤ r), h1.bind (Ev.now _), ?_⟩
    rw [decide_eq_true_eq, h2]
    unfold okT
    simp only [c, true_and]
  · simp only [if_neg c]
    exact ⟨true, Ev.now _, by simp only [true_iff]; exact fun h => c h.1⟩
noncomputable def pagesX (x : S28) : Nat := (refsOf 0 x.f0 x.f1 x.f2 x.f3 x.f4).length
theorem pagesX_le (x : S28) : pagesX x ≤ 5 := refsOf_le _ _ _ _ _ _
noncomputable def usum (l : List S28) : Nat → Int
  | 0 => 0
  | i + 1 => usum l i + (pagesX (l.getD i z28) : Int)
theorem usum_le (l : List S28) : ∀ i, 0 ≤ usum l i ∧ usum l i ≤ 5 * i
  | 0 => by simp [usum]
  | i + 1 => by have := usum_le l i; have := pagesX_le (l.getD i z28); simp only [usum]; push_cast; omega
noncomputable def used (l : List S28) : Int := open Classical in if okT l then usum l l.length else 0
theorem used_le (l : List S28) : 0 ≤ used l ∧ used l ≤ 60 := by
  unfold used
  split
  · rename_i h; have := usum_le l l.length; have := h.1; omega
  · omega
theorem used_ev (l : List S28) (hr : ∀ x ∈ l, reach x) : Ev (fun k => quota_Used.f k l) (used l) := by
  unfold quota_Used.f used
  by_cases c : okT l
  · refine ((off_tells l hr).no (fun h => h c)).bind ?_
    simp only [Bool.false_eq_true, if_false]
    rw [if_pos c]
    have hl := c.1
    refine Ev_fold (g := fun k s i => quota_Used.l0 k s l (l.length : Int) i) l.length (usum l) (usum l l.length) ?_ ?_
    · refine Ev.step (f := fun _ => some (usum l l.length)) (fun k => ?_) (Ev.now _)
      simp only [quota_Used.l0]; rw [if_neg (by omega)]
    · intro i hi r h
      have hx := hr _ (getD_mem l hi)
      refine Ev.step (fun k => by simp only [quota_Used.l0]; rw [if_pos (by omega), if_pos (by omega), if_pos (by omega), rd28, w64 (a := (i : Int) + 1) (by omega) (by omega)]) ((pages_ev _ _ _ _ _ hx.1 hx.2).bind ?_)
      have h1 := usum_le l i
      have h2 := pagesX_le (l.getD i z28)
      have e : wrap64 (usum l i + (pagesX (l.getD i z28) : Int)) = usum l (i + 1) := by rw [w64 (by omega) (by omega)]; rfl
      unfold pagesX at e
      rw [e]; exact h
  · refine ((off_tells l hr).yes c).bind ?_
    simp only [if_true]
    rw [if_neg c]; exact Ev.now _
theorem fits_some (a b : Int) (ha : -9223372036854775808 ≤ a ∧ a ≤ 9223372036854775807) : span_Fits.f a b = some (decide (0 ≤ a ∧ 0 ≤ b ∧ a + b ≤ 80)) := by
  unfold span_Fits.f
  by_cases h1 : a ≥ 0
  · by_cases h2 : a ≤ 80
    · by_cases h3 : b ≥ 0
      · rw [if_pos h1, if_pos h2, if_pos h3, w64 (by omega) (by omega)]
        have : (b ≤ 80 - a) = (0 ≤ a ∧ 0 ≤ b ∧ a + b ≤ 80) := by rw [eq_iff_iff]; omega
        simp only [this]
      · rw [if_pos h1, if_pos h2, if_neg h3, decide_eq_false (by omega)]
    · rw [if_pos h1, if_neg h2, decide_eq_false (by omega)]
  · rw [if_neg h1, decide_eq_false (by omega)]
def pgs (a n : Nat) : List Nat := if n = 0 then [] else (List.range ((a % 16 + n + 15) / 16)).map (a / 16 + ·)
abbrev fits (a n : Int) : Prop := 0 ≤ a ∧ 0 ≤ n ∧ a + n ≤ 80
theorem pgs_all : ∀ a : Fin 81, ∀ n : Fin 81, a.val + n.val ≤ 80 → (span_Pieces.l0 20 (a.val : Int) (n.val : Int) []).map (fun l => l.map (·.f0)) = some ((pgs a.val n.val).map fun p : Nat => (p : Int)) := by decide +kernel
theorem pgs_is {a n : Int} (h : fits a n) : ∃ l, Ev (fun k => span_Pieces.l0 k a n []) l ∧ l.map (·.f0) = (pgs a.toNat n.toNat).map fun p : Nat => (p : Int) := by
  have h1 := pgs_all ⟨a.toNat, by omega⟩ ⟨n.toNat, by omega⟩ (by simp only []; omega)
  simp only [Int.toNat_of_nonneg h.1, Int.toNat_of_nonneg h.2.1] at h1
  cases hq : span_Pieces.l0 20 a n [] with
  | none => rw [hq] at h1; cases h1
  | some l =>
    rw [hq] at h1
    exact ⟨l, Ev.of (g := fun k => span_Pieces.l0 k a n []) (fun k => span_Pieces.mono_l k a n []) hq, Option.some.inj h1⟩
theorem pgs_lt {a n : Int} (h : fits a n) : ∀ p ∈ pgs a.toNat n.toNat, p < 5 := by
  intro p hp
  unfold pgs at hp
  split at hp
  · cases hp
  · simp only [List.mem_map, List.mem_range] at hp
    obtain ⟨i, hi, rfl⟩ := hp
    omega
theorem pieces_ev {a n : Int} (ha : -9223372036854775808 ≤ a ∧ a ≤ 9223372036854775807) : ∃ l, Ev (fun k => span_Pieces.f k a n) l ∧ True ∧ l.map (·.f0) = (if fits a n then pgs a.toNat n.toNat else []).map fun p : Nat => (p : Int) := by
  unfold span_Pieces.f
  simp only [fits_some a n ha, Option.bind_some]
  by_cases h : fits a n
  · obtain ⟨l, h1, h2⟩ := pgs_is h
    refine ⟨l, ?_, ?_, ?_⟩
    · simpa [h] using h1
    · trivial
    · rw [if_pos h]; exact h2
  · refine ⟨[], ?_, ?_, ?_⟩
    · simp [h]; exact Ev.now _
    · trivial
    · rw [if_neg h]; rfl
def cntZ (q : List Int) (ps : List Nat) : Nat := (ps.filter fun p => decide (q.getD p 0 = 0)).length
theorem cntZ_le (q : List Int) (ps : List Nat) : cntZ q ps ≤ ps.length := List.length_filter_le _ _
theorem rd41 (l : List S41) (i : Nat) : rd_T41 l (i : Int) = l.getD i z41 := by unfold rd_T41; rw [Int.toNat_natCast]
theorem page_at {l : List S41} {ps : List Nat} (h : l.map (·.f0) = ps.map fun p : Nat => (p : Int)) (i : Nat) (hi : i < l.length) : ∃ hp : i < ps.length, (l.getD i z41).f0 = (ps[i] : Int) := by
  have hl : l.length = ps.length := by have := congrArg List.length h; simpa using this
  refine ⟨by omega, ?_⟩
  have := congrArg (fun z => z[i]?) h
  simp only [List.getElem?_map, List.getElem?_eq_getElem hi, List.getElem?_eq_getElem (show i < ps.length by omega), Option.map_some] at this
  rw [List.getD_eq_getElem?_getD, List.getElem?_eq_getElem hi]
  exact Option.some.inj this
theorem cntZ_step (q : List Int) (ps : List Nat) (i : Nat) (hi : i < ps.length) : cntZ q (ps.take (i + 1)) = cntZ q (ps.take i) + (if q.getD ps[i] 0 = 0 then 1 else 0) := by
  unfold cntZ
  rw [List.take_succ_eq_append_getElem hi, List.filter_append, List.length_append]
  by_cases c : q.getD ps[i] 0 = 0
  · rw [if_pos c]; simp only [List.filter_cons, List.filter_nil, decide_eq_true c, if_true, List.length_singleton]
  · rw [if_neg c]; simp only [List.filter_cons, List.filter_nil, decide_eq_false c, Bool.false_eq_true, if_false, List.length_nil]
theorem more_loop (t li si : Int) (q : List Int) (e : List S78) {l : List S41} {ps : List Nat} (h : l.map (·.f0) = ps.map fun p : Nat => (p : Int)) (hp : ∀ p ∈ ps, p < q.length) (hl : l.length ≤ 100) :
    Ev (fun k => quota_More.l0 k 0 l (l.length : Int) 0 t li si q e) (cntZ q ps : Int) := by
  have hlen : l.length = ps.length := by have := congrArg List.length h; simpa using this
  have key := Ev_fold (g := fun k s i => quota_More.l0 k s l (l.length : Int) i t li si q e) l.length (fun i => (cntZ q (ps.take i) : Int)) (cntZ q ps : Int) ?_ ?_
  · simpa [cntZ] using key
  · refine Ev.step (f := fun _ => some (cntZ q ps : Int)) (fun k => ?_) (Ev.now _)
    simp only [quota_More.l0]; rw [if_neg (by omega), hlen, List.take_length]
  · intro i hi r hr
    obtain ⟨hi2, hpg⟩ := page_at h i hi
    have hb := hp ps[i] (List.getElem_mem hi2)
    have hc := cntZ_le q (ps.take i)
    rw [List.length_take] at hc
    rw [cntZ_step q ps i hi2] at hr
    refine Ev.step (fun k => ?_) hr
    simp only [quota_More.l0]; rw [if_pos (by omega), if_pos (by omega), if_pos (by omega), rd41, hpg, if_pos (by omega), if_pos (by omega), rdn, w64 (a := (i : Int) + 1) (by omega) (by omega), w64 (a := (cntZ q (ps.take i) : Int) + 1) (by omega) (by omega)]
    by_cases c : q.getD ps[i] 0 = 0
    · rw [if_pos c, if_pos c]; push_cast; rfl
    · rw [if_neg c, if_neg c]; rfl
noncomputable def moreN (t li si : Int) (q : List Int) (e : List S78) (a n : Int) : Int := open Classical in if t = 1 ∧ okN t li si q e ∧ fits a n then (cntZ q (pgs a.toNat n.toNat) : Int) else 0
theorem pgs_len {a n : Int} (h : fits a n) : (pgs a.toNat n.toNat).length ≤ 5 := by
  unfold pgs; split
  · simp
  · simp only [List.length_map, List.length_range]; omega
theorem more_ev (t li si : Int) (q : List Int) (e : List S78) (a n : Int) (ha : -9223372036854775808 ≤ a ∧ a ≤ 9223372036854775807) (hl : e.length ≤ 5864062014634) (hs : ∀ x ∈ e, x.f0.size ≤ 140737488351232) :
    Ev (fun k => quota_More.f k t li si q e a n) (moreN t li si q e a n) := by
  unfold quota_More.f moreN
  have hbad : Ev (fun k => quota_More.j0 k a n true t li si q e) (0 : Int) := Ev.step (f := fun _ => some 0) (fun k => by simp only [quota_More.j0, if_true]) (Ev.now _)
  by_cases c0 : t = 1
  · simp only [if_pos c0]
    by_cases c1 : okN t li si q e
    · refine ((node_tells t li si q e hl hs).yes c1).bind ?_
      simp only [Bool.not_true]
      obtain ⟨l, h1, _, h3⟩ := pieces_ev (n := n) ha
      refine Ev.step (fun k => by simp only [quota_More.j0, Bool.false_eq_true, if_false]; rfl) (h1.bind ?_)
      by_cases c2 : fits a n
      · rw [if_pos ⟨c0, c1, c2⟩]
        rw [if_pos c2] at h3
        have hq : q.length = 5 := by subst c0; exact (okN_file c1).2.2.2.2.2.1
        refine more_loop t li si q e h3 (fun p hp => by have := pgs_lt c2 p hp; omega) ?_
        have := congrArg List.length h3; simp at this; have := pgs_len c2; omega
      · rw [if_neg (fun x => c2 x.2.2)]
        rw [if_neg c2] at h3
        have := more_loop t li si q e (ps := []) h3 (by simp) (by have := congrArg List.length h3; simp at this; simp [this])
        simpa [cntZ] using this
    · refine ((node_tells t li si q e hl hs).no c1).bind ?_
      simp only [Bool.not_false]
      rw [if_neg (fun x => c1 x.2.1)]; exact hbad
  · simp only [if_neg c0]
    rw [if_neg (fun x => c0 x.1)]; exact hbad
theorem light15_ev (l : List S28) (hl : l.length ≤ 4611686018427387904) (hr : ∀ x ∈ l, reach x) : ∃ r, Ev (fun k => potsherdlaw15_Light.f k l) r ∧ 0 ≤ r ∧ r ≤ 40 := by
  unfold potsherdlaw15_Light.f
  by_cases c : (l.length : Int) > 40
  · simp only [if_pos c]; exact ⟨1, Ev.now _, by omega, by omega⟩
  simp only [if_neg c]
  have key : ∀ d i : Nat, i + d = l.length → ∀ s : Int, 0 ≤ s → s ≤ i → ∃ r, Ev (fun k => potsherdlaw15_Light.l0 k s l (l.length : Int) (i : Int)) r ∧ 0 ≤ r ∧ r ≤ 40 := by
    intro d
    induction d with
    | zero =>
      intro i hi s h0 h1
      refine ⟨s, Ev.step (f := fun _ => some s) (fun k => ?_) (Ev.now _), h0, by omega⟩
      simp only [potsherdlaw15_Light.l0]; rw [if_neg (by omega)]
    | succ d ih =>
      intro i hi s h0 h1
      have hx := hr _ (getD_mem l (i := i) (by omega))
      obtain ⟨r, hr1, hr2⟩ := light_ev (l.getD i z28).f0 (l.getD i z28).f1 (l.getD i z28).f2 (l.getD i z28).f3 (l.getD i z28).f4 hx.1
      obtain ⟨r', h2, h3⟩ := ih (i + 1) (by omega) (s + r) (by omega) (by push_cast; omega)
      refine ⟨r', Ev.step (fun k => by simp only [potsherdlaw15_Light.l0]; rw [if_pos (by omega), if_pos (by omega), if_pos (by omega), rd28, w64 (a := (i : Int) + 1) (by omega) (by omega)]) (hr1.bind ?_), h3⟩
      rw [w64 (by omega) (by omega)]
      push_cast at h2
      exact h2
  exact key l.length 0 (by omega) 0 (by omega) (by omega)
theorem getD_set (q : List Int) (p r : Nat) (v : Int) (hp : p < q.length) : (q.set p v).getD r 0 = if r = p then v else q.getD r 0 := by
  rw [List.getD_eq_getElem?_getD, List.getD_eq_getElem?_getD, List.getElem?_set]
  by_cases c : p = r
  · subst c; rw [if_pos rfl, if_pos rfl, if_pos hp]; rfl
  · rw [if_neg c, if_neg (fun x => c x.symm)]
theorem pgs_nodup (a n : Nat) : (pgs a n).Nodup := by
  unfold pgs; split
  · simp
  · rw [← List.range'_eq_map_range]; exact List.nodup_range'
theorem pgs_mem {a n p : Nat} (h : p ∈ pgs a n) : p * 16 < a + n := by
  unfold pgs at h; split at h
  · cases h
  · simp only [List.mem_map, List.mem_range] at h
    obtain ⟨i, hi, rfl⟩ := h
    omega
end Go.Proofs.Ytkigiehkckjlhaa.DoneLib
