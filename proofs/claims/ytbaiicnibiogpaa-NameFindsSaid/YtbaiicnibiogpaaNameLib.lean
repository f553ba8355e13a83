/- What names and entries may be, what is found, put in and taken out: the printed functions tell it at every input within the reach; no other condition. -/
import Derived.Test.YtbaiicnibiogpaaPlain
import Derived.Test.YtbaiicnibiogpaaPNamex2
import Derived.Test.YtbaiicnibiogpaaPNamex3
import Derived.Test.YtbaiicnibiogpaaPNamex4
import Derived.Test.YtbaiicnibiogpaaPNamex5
import Derived.Test.YtbaiicnibiogpaaPNamex6
import Derived.Test.YtbaiicnibiogpaaPNamex7
import Derived.Test.YtbaiicnibiogpaaPNamex8
import Derived.Test.YtbaiicnibiogpaaPNamex9
import Derived.Test.YtbaiicnibiogpaaPNamex11
import Derived.Test.YtbaiicnibiogpaaPNamex12
import Derived.Test.YtbaiicnibiogpaaPNamex13
import Derived.Test.YtbaiicnibiogpaaPNamex14
namespace Go.Proofs.Ytbaiicnibiogpaa.NameLib
set_option linter.unusedVariables false
open Go.RowKit Go.Proofs.Ytbaiicnibiogpaa.PName Go.Proofs.YtbaiicnibiogpaaW.PrintWords
open Go Go.Proofs.Ytbaiicnibiogpaa.Plain Go.Proofs.YtbaiicnibiogpaaW.PrintMore
theorem okc_path (k : Nat) (s : ByteArray) (n i : Int) (h0 : 0 ≤ i) (h1 : i < n) (h2 : i < s.size) : path_May.l0 (k + 1) s n i = if okc (bt s i) then path_May.l0 k s n (wrap64 (i + 1)) else some false := by
  simp only [path_May.l0]
  rw [if_pos h1, if_pos h0, if_pos h2]
  generalize path_May.l0 k s n (wrap64 (i + 1)) = R
  generalize bt s i = c
  by_cases h : okc c
  · rw [if_pos h]
    repeat' split
    all_goals first | rfl | omega
  · rw [if_neg h]
    repeat' split
    all_goals first | rfl | omega

theorem path_tells (s : ByteArray) (hs : s.size ≤ 140737488351232) : Tells (fun k => path_May.f k s) (okS s) := by
  have h := Tells_scan (g := fun k i => path_May.l0 k s (s.size : Int) i) s.size (fun i => okc (bt s i)) (1 ≤ s.size ∧ s.size ≤ 8 ∧ s.toList ≠ [46] ∧ s.toList ≠ [46, 46])
    (Tells.step (f := fun _ => some (decide (1 ≤ s.size ∧ s.size ≤ 8 ∧ s.toList ≠ [46] ∧ s.toList ≠ [46, 46]))) (fun k => by
      simp only [path_May.l0]
      rw [if_neg (by omega)]
      by_cases c1 : (s.size : Int) ≥ 1
      · rw [if_pos c1]
        by_cases c2 : (s.size : Int) ≤ 8
        · rw [if_pos c2]
          by_cases c3 : s.toList = ([46] : List UInt8)
          · rw [if_pos c3, decide_eq_false (fun h => h.2.2.1 c3)]
          · rw [if_neg c3]; congr 1
            by_cases c4 : s.toList = ([46, 46] : List UInt8)
            · rw [decide_eq_false (fun h => h.2.2.2 c4)]; simp [c4]
            · rw [decide_eq_true ⟨by omega, by omega, c3, c4⟩]; simp [c4]
        · rw [if_neg c2, decide_eq_false (by omega)]
      · rw [if_neg c1, decide_eq_false (by omega)]) ⟨_, Ev.now _, by simp⟩)
    (fun i hi hP r hr => Ev.step (fun k => by rw [okc_path k s _ i (by omega) (by omega) (by omega), if_pos hP, w64 (by omega) (by omega)]) hr)
    (fun i hi hP => Ev.step (f := fun _ => some false) (fun k => by rw [okc_path k s _ i (by omega) (by omega) (by omega), if_neg hP]) (Ev.now _))
  exact h.iff ⟨fun x => ⟨x.2, x.1⟩, fun x => ⟨x.2, x.1⟩⟩

theorem okc_name (k : Nat) (s : ByteArray) (n i : Int) (h0 : 0 ≤ i) (h1 : i < n) (h2 : i < s.size) : potsherdref12_Name.l0 (k + 1) s n i = if okc (bt s i) then potsherdref12_Name.l0 k s n (wrap64 (i + 1)) else some false := by
  simp only [potsherdref12_Name.l0]
  rw [if_pos h1, if_pos h0, if_pos h2]
  generalize potsherdref12_Name.l0 k s n (wrap64 (i + 1)) = R
  generalize bt s i = c
  by_cases h : okc c
  · rw [if_pos h]
    repeat' split
    all_goals first | rfl | omega
  · rw [if_neg h]
    repeat' split
    all_goals first | rfl | omega

theorem ref_name_tells (s : ByteArray) (hs : s.size ≤ 140737488351232) : Tells (fun k => potsherdref12_Name.f k s) (okS s) := by
  have h := Tells_scan (g := fun k i => potsherdref12_Name.l0 k s (s.size : Int) i) s.size (fun i => okc (bt s i)) True
    (Tells.step (f := fun _ => some true) (fun k => by simp only [potsherdref12_Name.l0]; rw [if_neg (by omega)]) ⟨_, Ev.now _, by simp⟩)
    (fun i hi hP r hr => Ev.step (fun k => by rw [okc_name k s _ i (by omega) (by omega) (by omega), if_pos hP, w64 (by omega) (by omega)]) hr)
    (fun i hi hP => Ev.step (f := fun _ => some false) (fun k => by rw [okc_name k s _ i (by omega) (by omega) (by omega), if_neg hP]) (Ev.now _))
  have hj : Ev (fun k => potsherdref12_Name.j0 k s true) false := Ev.step (f := fun _ => some false) (fun k => by simp only [potsherdref12_Name.j0, if_true]) (Ev.now _)
  unfold potsherdref12_Name.f
  by_cases c1 : (s.size : Int) < 1
  · simp only [if_pos c1]; exact ⟨false, hj, by simp; omega⟩
  · simp only [if_neg c1]
    by_cases c2 : (s.size : Int) > 8
    · simp only [if_pos c2]; exact ⟨false, hj, by simp; omega⟩
    · simp only [if_neg c2]
      by_cases c3 : s.toList = ([46] : List UInt8)
      · simp only [if_pos c3]; exact ⟨false, hj, by simp [c3]⟩
      · simp only [if_neg c3]
        by_cases c4 : s.toList = ([46, 46] : List UInt8)
        · simp only [c4, beq_self_eq_true]; exact ⟨false, hj, by simp [c4]⟩
        · have e : (s.toList == ([46, 46] : List UInt8)) = false := by simp [c4]
          simp only [e]
          refine Tells.step (fun k => by simp only [potsherdref12_Name.j0, Bool.false_eq_true, if_false]) (h.iff ⟨fun x => ⟨⟨by omega, by omega, c3, c4⟩, x.1⟩, fun x => ⟨x.2, trivial⟩⟩)

/-- What an entry may be. -/
abbrev okE (x : S38) : Prop := okS x.f0 ∧ 1 ≤ x.f1 ∧ x.f1 < 12
/-- The name of a is ahead of that of b. -/
abbrev lt (a b : S38) : Prop := Op.bytesLess a.f0.toList b.f0.toList = true
/-- What entries may be. -/
abbrev okL (l : List S38) : Prop := (∀ i, i < l.length → okE (l.getD i z38) ∧ (0 < i → lt (l.getD (i - 1) z38) (l.getD i z38))) ∧ l.length ≤ 10

theorem rd38 (l : List S38) (i : Nat) : rd_T38 l (i : Int) = l.getD i z38 := by unfold rd_T38; rw [Int.toNat_natCast]
theorem rd38' (l : List S38) (i : Nat) (h : 0 < i) (h1 : i ≤ 9223372036854775807) : rd_T38 l (wrap64 ((i : Int) - 1)) = l.getD (i - 1) z38 := by
  rw [w64 (by omega) (by omega), show ((i : Int) - 1) = ((i - 1 : Nat) : Int) by omega, rd38]
theorem size_at {l : List S38} (h : ∀ x ∈ l, x.f0.size ≤ 140737488351232) (i : Nat) : (l.getD i z38).f0.size ≤ 140737488351232 := by
  rw [List.getD_eq_getElem?_getD]
  by_cases hi : i < l.length
  · rw [List.getElem?_eq_getElem hi]; exact h _ (List.getElem_mem hi)
  · rw [List.getElem?_eq_none (by omega)]; decide

theorem sole_tells (s : ByteArray) (n : Int) (hs : s.size ≤ 140737488351232) : Tells (fun k => name_sole.f k s n) (okS s ∧ 1 ≤ n ∧ n < 12) := by
  unfold name_sole.f
  refine Tells.of (fun h => ((path_tells s hs).yes h.1).bind ?_) (fun h => ?_)
  · exact Ev.const (fun k => by rw [if_pos rfl, if_pos (by omega)]) (by rw [decide_eq_true h.2.2])
  · by_cases c : okS s
    · refine ((path_tells s hs).yes c).bind (Ev.const (fun k => by rw [if_pos rfl]) ?_)
      by_cases c1 : n ≥ 1
      · rw [if_pos c1, decide_eq_false (fun x => h ⟨c, by omega, x⟩)]
      · rw [if_neg c1]
    · exact ((path_tells s hs).no c).bind (Ev.const (fun k => by rw [if_neg (by decide)]) rfl)

theorem may_tells (l : List S38) (hl : l.length ≤ 5864062014634) (hs : ∀ x ∈ l, x.f0.size ≤ 140737488351232) : Tells (fun k => name_May.f k l) (okL l) := by
  unfold name_May.f
  refine Tells_scan (g := fun k i => name_May.l0 k l l (l.length : Int) i) l.length _ _ (Tells.step (f := fun _ => some (decide ((l.length : Int) ≤ 10))) (fun k => by simp only [name_May.l0]; rw [if_neg (by omega)]) ⟨_, Ev.now _, by simp; omega⟩) ?_ ?_
  · intro i hi hP r hr
    refine Ev.step (fun k => by simp only [name_May.l0]; rw [if_pos (by omega), if_pos (by omega), if_pos (by omega), rd38]) ?_
    refine ((sole_tells (l.getD i z38).f0 (l.getD i z38).f1 (size_at hs i)).yes hP.1).bind (Ev.congr (fun k => by rw [if_pos rfl]) ?_)
    by_cases c : (i : Int) > 0
    · refine Ev.congr (fun k => by rw [if_pos c, w64 (a := (i : Int) - 1) (by omega) (by omega), if_pos (by omega), if_pos (by omega)]) ?_
      have e : rd_T38 l ((i : Int) - 1) = l.getD (i - 1) z38 := by rw [show ((i : Int) - 1) = ((i - 1 : Nat) : Int) by omega, rd38]
      refine Ev.congr (fun k => by rw [e, if_pos (hP.2 (by omega)), w64 (a := (i : Int) + 1) (by omega) (by omega)]) hr
    · exact Ev.congr (fun k => by rw [if_neg c, w64 (a := (i : Int) + 1) (by omega) (by omega)]) hr
  · intro i hi hP
    refine Ev.step (fun k => by simp only [name_May.l0]; rw [if_pos (by omega), if_pos (by omega), if_pos (by omega), rd38]) ?_
    by_cases c : okE (l.getD i z38)
    · refine ((sole_tells (l.getD i z38).f0 (l.getD i z38).f1 (size_at hs i)).yes c).bind (Ev.congr (fun k => by rw [if_pos rfl]) ?_)
      by_cases c1 : (i : Int) > 0
      · have e : rd_T38 l ((i : Int) - 1) = l.getD (i - 1) z38 := by rw [show ((i : Int) - 1) = ((i - 1 : Nat) : Int) by omega, rd38]
        exact Ev.const (fun k => by rw [if_pos c1, w64 (a := (i : Int) - 1) (by omega) (by omega), if_pos (by omega), if_pos (by omega), e, if_neg (fun x => hP ⟨c, fun _ => x⟩)]) rfl
      · exact absurd ⟨c, fun h => by omega⟩ hP
    · exact ((sole_tells (l.getD i z38).f0 (l.getD i z38).f1 (size_at hs i)).no c).bind (Ev.const (fun k => by rw [if_neg (by decide)]) rfl)

theorem ref_may_tells (l : List S38) (hl : l.length ≤ 5864062014634) (hs : ∀ x ∈ l, x.f0.size ≤ 140737488351232) : Tells (fun k => potsherdref12_MayEntries.f k l) (okL l) := by
  unfold potsherdref12_MayEntries.f
  by_cases c0 : (l.length : Int) > 10
  · exact ⟨false, Ev.const (fun k => if_pos c0) rfl, by simp; omega⟩
  refine Tells.congr (fun k => if_neg c0) ?_
  refine (Tells_scan (g := fun k i => potsherdref12_MayEntries.l0 k l l (l.length : Int) i) l.length (fun i => okE (l.getD i z38) ∧ (0 < i → lt (l.getD (i - 1) z38) (l.getD i z38))) True (Tells.step (f := fun _ => some true) (fun k => by simp only [potsherdref12_MayEntries.l0]; rw [if_neg (by omega)]) ⟨_, Ev.now _, by simp⟩) ?_ ?_).iff ⟨fun x => ⟨x.1, by omega⟩, fun x => ⟨x.1, trivial⟩⟩
  · intro i hi hP r hr
    refine Ev.step (fun k => by simp only [potsherdref12_MayEntries.l0]; rw [if_pos (by omega), if_pos (by omega), if_pos (by omega), rd38]) ?_
    refine ((ref_name_tells (l.getD i z38).f0 (size_at hs i)).yes hP.1.1).bind (Ev.congr (fun k => by rw [if_pos rfl]) ?_)
    by_cases c : (i : Int) > 0
    · refine Ev.congr (fun k => by rw [if_pos c, w64 (a := (i : Int) - 1) (by omega) (by omega), if_pos (by omega), if_pos (by omega)]) ?_
      have e : rd_T38 l ((i : Int) - 1) = l.getD (i - 1) z38 := by rw [show ((i : Int) - 1) = ((i - 1 : Nat) : Int) by omega, rd38]
      refine Ev.congr (fun k => by rw [e, if_pos (hP.2 (by omega)), if_neg (by have := hP.1.2; omega), if_neg (by have := hP.1.2; omega), w64 (a := (i : Int) + 1) (by omega) (by omega)]) hr
    · exact Ev.congr (fun k => by rw [if_neg c, if_neg (by have := hP.1.2; omega), if_neg (by have := hP.1.2; omega), w64 (a := (i : Int) + 1) (by omega) (by omega)]) hr
  · intro i hi hP
    refine Ev.step (fun k => by simp only [potsherdref12_MayEntries.l0]; rw [if_pos (by omega), if_pos (by omega), if_pos (by omega), rd38]) ?_
    by_cases c : okS (l.getD i z38).f0
    · refine ((ref_name_tells (l.getD i z38).f0 (size_at hs i)).yes c).bind (Ev.congr (fun k => by rw [if_pos rfl]) ?_)
      have hn : (if (l.getD i z38).f1 < 1 then some false else if (l.getD i z38).f1 ≥ 12 then some false else none) = (some false : Option Bool) ∨ okE (l.getD i z38) := by
        by_cases c1 : (l.getD i z38).f1 < 1
        · left; rw [if_pos c1]
        · by_cases c2 : (l.getD i z38).f1 ≥ 12
          · left; rw [if_neg c1, if_pos c2]
          · right; exact ⟨c, by omega, by omega⟩
      have hn2 : ∀ R : Option Bool, ¬ okE (l.getD i z38) → (if (l.getD i z38).f1 < 1 then some false else if (l.getD i z38).f1 ≥ 12 then some false else R) = some false := by
        intro R hE
        by_cases c1 : (l.getD i z38).f1 < 1
        · rw [if_pos c1]
        · rw [if_neg c1, if_pos (by have : ¬ (1 ≤ (l.getD i z38).f1 ∧ (l.getD i z38).f1 < 12) := fun x => hE ⟨c, x⟩; omega)]
      by_cases c1 : (i : Int) > 0
      · have e : rd_T38 l ((i : Int) - 1) = l.getD (i - 1) z38 := by rw [show ((i : Int) - 1) = ((i - 1 : Nat) : Int) by omega, rd38]
        refine Ev.const (o := some false) (fun k => ?_) rfl
        rw [if_pos c1, w64 (a := (i : Int) - 1) (by omega) (by omega), if_pos (by omega), if_pos (by omega), e]
        by_cases c2 : lt (l.getD (i - 1) z38) (l.getD i z38)
        · rw [if_pos c2]; exact hn2 _ (fun x => hP ⟨x, fun _ => c2⟩)
        · rw [if_neg c2]
      · exact Ev.const (o := some false) (fun k => by rw [if_neg c1]; exact hn2 _ (fun x => hP ⟨x, fun h => by omega⟩)) rfl
    · exact ((ref_name_tells (l.getD i z38).f0 (size_at hs i)).no c).bind (Ev.const (fun k => by rw [if_neg (by decide)]) rfl)

theorem u8_tri (a b : UInt8) : (a < b ∧ ¬ b < a ∧ a ≠ b) ∨ (¬ a < b ∧ b < a ∧ a ≠ b) ∨ (¬ a < b ∧ ¬ b < a ∧ a = b) := by
  rcases Nat.lt_trichotomy a.toNat b.toNat with h | h | h
  · left; refine ⟨UInt8.lt_iff_toNat_lt.2 h, fun x => ?_, fun x => ?_⟩
    · have := UInt8.lt_iff_toNat_lt.1 x; omega
    · subst x; omega
  · right; right; refine ⟨fun x => ?_, fun x => ?_, UInt8.toNat_inj.1 h⟩
    · have := UInt8.lt_iff_toNat_lt.1 x; omega
    · have := UInt8.lt_iff_toNat_lt.1 x; omega
  · right; left; refine ⟨fun x => ?_, UInt8.lt_iff_toNat_lt.2 h, fun x => ?_⟩
    · have := UInt8.lt_iff_toNat_lt.1 x; omega
    · subst x; omega
theorem less_irr : ∀ a : List UInt8, Op.bytesLess a a = false
  | [] => rfl
  | x :: a => by
    have h := less_irr a
    simp only [Op.bytesLess, h, Bool.and_false, Bool.or_false]
    rcases u8_tri x x with h1 | h1 | h1
    · exact absurd rfl h1.2.2
    · exact absurd rfl h1.2.2
    · exact decide_eq_false h1.1
theorem less_iff (x y : UInt8) (a b : List UInt8) : Op.bytesLess (x :: a) (y :: b) = true ↔ x < y ∨ (x = y ∧ Op.bytesLess a b = true) := by
  simp only [Op.bytesLess, Bool.or_eq_true, decide_eq_true_eq, Bool.and_eq_true, beq_iff_eq]
theorem less_trans : ∀ {a b c : List UInt8}, Op.bytesLess a b = true → Op.bytesLess b c = true → Op.bytesLess a c = true
  | _, [], _, h, _ => by simp [Op.bytesLess] at h
  | _, _ :: _, [], _, h => by simp [Op.bytesLess] at h
  | [], _ :: _, _ :: _, _, _ => rfl
  | x :: a, y :: b, z :: c, h, k => by
    rw [less_iff] at h k ⊢
    rcases h with h | ⟨rfl, h⟩
    · rcases k with k | ⟨rfl, k⟩
      · left
        have h1 := UInt8.lt_iff_toNat_lt.1 h
        have h2 := UInt8.lt_iff_toNat_lt.1 k
        exact UInt8.lt_iff_toNat_lt.2 (by omega)
      · exact .inl h
    · rcases k with k | ⟨rfl, k⟩
      · exact .inl k
      · exact .inr ⟨rfl, less_trans h k⟩
theorem less_tri : ∀ {a b : List UInt8}, Op.bytesLess a b = false → a ≠ b → Op.bytesLess b a = true
  | [], [], _, h => absurd rfl h
  | [], _ :: _, h, _ => by simp [Op.bytesLess] at h
  | _ :: _, [], _, _ => rfl
  | x :: a, y :: b, h, k => by
    rw [less_iff]
    have h' : ¬ (x < y ∨ (x = y ∧ Op.bytesLess a b = true)) := by rw [← less_iff, h]; simp
    rcases u8_tri x y with h1 | h1 | h1
    · exact absurd (.inl h1.1) h'
    · exact .inl h1.2.1
    · obtain rfl := h1.2.2
      refine .inr ⟨rfl, less_tri ?_ (fun e => k (by rw [e]))⟩
      cases e : Op.bytesLess a b with
      | false => rfl
      | true => exact absurd (.inr ⟨rfl, e⟩) h'

/-- The name of an entry. -/
abbrev key (x : S38) : List UInt8 := x.f0.toList
theorem key_inj {a b : ByteArray} (h : a.toList = b.toList) : a = b := by
  rw [ByteArray.toList_eq, ByteArray.toList_eq] at h
  exact ByteArray.ext (Array.toList_inj.mp h)

theorem getD_get (l : List S38) (i : Nat) (h : i < l.length) : l.getD i z38 = l[i] := by
  rw [List.getD_eq_getElem?_getD, List.getElem?_eq_getElem h]; rfl
theorem okL_iff (l : List S38) : okL l ↔ (∀ x ∈ l, okE x) ∧ l.Pairwise lt ∧ l.length ≤ 10 := by
  constructor
  · rintro ⟨h, hl⟩
    have step : ∀ d i j (hi : i < l.length) (hj : j < l.length), j = i + 1 + d → lt l[i] l[j] := by
      intro d
      induction d with
      | zero =>
        intro i j hi hj e
        have := (h j hj).2 (by omega)
        rw [getD_get l j hj, getD_get l (j - 1) (by omega)] at this
        have e2 : j - 1 = i := by omega
        simp only [e2] at this; exact this
      | succ d ih =>
        intro i j hi hj e
        have h1 := ih i (j - 1) hi (by omega) (by omega)
        have h2 := (h j hj).2 (by omega)
        rw [getD_get l j hj, getD_get l (j - 1) (by omega)] at h2
        exact less_trans h1 h2
    refine ⟨fun x hx => ?_, List.pairwise_iff_getElem.2 (fun i j hi hj hij => step (j - i - 1) i j hi hj (by omega)), hl⟩
    obtain ⟨i, hi, rfl⟩ := List.getElem_of_mem hx
    have := (h i hi).1
    rw [getD_get l i hi] at this; exact this
  · rintro ⟨h1, h2, h3⟩
    refine ⟨fun i hi => ⟨by rw [getD_get l i hi]; exact h1 _ (List.getElem_mem hi), fun h0 => ?_⟩, h3⟩
    rw [getD_get l i hi, getD_get l (i - 1) (by omega)]
    exact List.pairwise_iff_getElem.1 h2 (i - 1) i (by omega) hi (by omega)

/-- The node of a name; -1 where it is not. -/
def find : List S38 → List UInt8 → Int
  | [], _ => -1
  | x :: r, s => if key x = s then x.f1 else find r s
theorem place_spec : ∀ (l : List S38) (s : List UInt8) (c : Int),
    (placeFrom l s c = -1 ∧ (∀ x ∈ l, key x ≠ s) ∧ find l s = -1) ∨
    (∃ i : Nat, ∃ h : i < l.length, placeFrom l s c = c + i ∧ key l[i] = s ∧ find l s = l[i].f1 ∧ ∀ j (hj : j < i), key (l[j]'(by omega)) ≠ s)
  | [], s, c => .inl ⟨rfl, by simp, rfl⟩
  | x :: r, s, c => by
    by_cases hx : key x = s
    · right
      exact ⟨0, by simp, by simp [placeFrom, hx], hx, by simp [find, hx], fun j hj => absurd hj (Nat.not_lt_zero _)⟩
    · rcases place_spec r s (c + 1) with ⟨h1, h2, h3⟩ | ⟨i, hi, h1, h2, h3, h4⟩
      · left
        exact ⟨by simp only [placeFrom]; rw [if_neg hx]; exact h1, by intro y hy; rcases List.mem_cons.1 hy with rfl | hy; exact hx; exact h2 y hy, by simp only [find]; rw [if_neg hx]; exact h3⟩
      · right
        refine ⟨i + 1, by simp; omega, ?_, h2, ?_, ?_⟩
        · simp only [placeFrom]; rw [if_neg hx, h1]; push_cast; omega
        · simp only [find]; rw [if_neg hx]; exact h3
        · intro j hj
          cases j with
          | zero => exact hx
          | succ j => exact h4 j (by omega)
theorem find_none {l : List S38} {s : List UInt8} (h : ∀ x ∈ l, key x ≠ s) : find l s = -1 := by
  induction l with
  | nil => rfl
  | cons x r ih => simp only [find]; rw [if_neg (h x (by simp))]; exact ih (fun y hy => h y (by simp [hy]))
theorem find_some {l : List S38} (hp : l.Pairwise lt) {x : S38} (hx : x ∈ l) : find l (key x) = x.f1 := by
  induction l with
  | nil => cases hx
  | cons y r ih =>
    rw [List.pairwise_cons] at hp
    simp only [find]
    rcases List.mem_cons.1 hx with rfl | hx
    · rw [if_pos rfl]
    · rw [if_neg, ih hp.2 hx]
      intro e
      have := hp.1 x hx
      unfold lt at this
      rw [show y.f0.toList = x.f0.toList from e, less_irr] at this
      cases this

theorem find_is (l : List S38) (a : ByteArray) (hl : l.length ≤ 5864062014634) : name_Find.f l a = some (find l a.toList) := by
  unfold name_Find.f name_place.f
  rw [if_pos (by omega)]
  simp only [Option.bind_some]
  rcases place_spec l a.toList 0 with ⟨h1, h2, h3⟩ | ⟨i, hi, h1, h2, h3, h4⟩
  · rw [h1, if_pos (by decide), h3]
  · rw [h1, if_neg (by omega), if_pos (by omega), if_pos (by omega), h3, show (0 : Int) + (i : Int) = (i : Int) by omega, rd38, getD_get l i hi]

theorem drop_at (l : List S38) (i : Nat) (h : i < l.length) : l.drop i = l.getD i z38 :: l.drop (i + 1) := by
  rw [List.drop_eq_getElem_cons h, getD_get l i h]

theorem at_ev (l : List S38) (a : ByteArray) (hl : l.length ≤ 5864062014634) : Ev (fun k => potsherdref12_At.f k l a) (find l a.toList) := by
  unfold potsherdref12_At.f
  have key_ : ∀ d i, i + d = l.length → Ev (fun k => potsherdref12_At.l0 k a l (l.length : Int) (i : Int)) (find (l.drop i) a.toList) := by
    intro d
    induction d with
    | zero =>
      intro i hi
      rw [List.drop_eq_nil_of_le (by omega)]
      exact Ev.step (f := fun _ => some (-1)) (fun k => by simp only [potsherdref12_At.l0]; rw [if_neg (by omega)]) (Ev.now _)
    | succ d ih =>
      intro i hi
      rw [drop_at l i (by omega)]
      simp only [find]
      by_cases c : key (l.getD i z38) = a.toList
      · rw [if_pos c]
        exact Ev.step (f := fun _ => some (l.getD i z38).f1) (fun k => by simp only [potsherdref12_At.l0]; rw [if_pos (by omega), if_pos (by omega), if_pos (by omega), rd38, if_pos c]) (Ev.now _)
      · rw [if_neg c]
        exact Ev.step (fun k => by simp only [potsherdref12_At.l0]; rw [if_pos (by omega), if_pos (by omega), if_pos (by omega), rd38, if_neg c, w64 (a := (i : Int) + 1) (by omega) (by omega)]; rfl) (ih (i + 1) (by omega))
  exact key_ l.length 0 (by omega)

theorem rdL (ls : List (List S38)) (i : Nat) (h : i < ls.length) : rd_L3 ls (i : Int) = ls[i] := by
  unfold rd_L3; rw [Int.toNat_natCast, List.getD_eq_getElem?_getD, List.getElem?_eq_getElem h]; rfl
theorem take_up (ls : List (List S38)) (i : Nat) (h : i < ls.length) : (ls.take (i + 1)).flatten = (ls.take i).flatten ++ ls[i] := by
  rw [List.take_add_one, List.getElem?_eq_getElem h, List.flatten_append]; simp
theorem take_le (ls : List (List S38)) (i : Nat) : (ls.take i).flatten.length ≤ ls.flatten.length := by
  have : ls.flatten.length = (ls.take i).flatten.length + (ls.drop i).flatten.length := by rw [← List.length_append, ← List.flatten_append, List.take_append_drop]
  omega
theorem concat_ev (ls : List (List S38)) (h : ls.flatten.length < 5864062014805) (hn : ls.length ≤ 10) : Ev (fun k => api_Entry_42.f k ls) ls.flatten := by
  unfold api_Entry_42.f
  refine Ev_fold (g := fun k (s : Int) i => api_Entry_42.l0 k ls s ls (ls.length : Int) i) ls.length (fun n => ((ls.take n).flatten.length : Int)) _ ?_ ?_
  · refine Ev.step (f := fun k => api_Entry_42.l1 k ([] : List S38) ls (ls.length : Int) 0) (fun k => ?_) ?_
    · simp only [api_Entry_42.l0]
      rw [if_neg (by omega), List.take_length]
      unfold api_Entry_54.f
      rw [if_pos ⟨rfl, by omega, by omega⟩]; rfl
    · refine Ev_fold (g := fun k (s : List S38) i => api_Entry_42.l1 k s ls (ls.length : Int) i) ls.length (fun n => (ls.take n).flatten) _ ?_ ?_
      · exact Ev.step (f := fun _ => some ls.flatten) (fun k => by simp only [api_Entry_42.l1]; rw [if_neg (by omega), List.take_length]) (Ev.now _)
      · intro i hi r hr
        refine Ev.step (fun k => ?_) hr
        have h1 := take_up ls i hi
        have h2 := take_le ls (i + 1)
        rw [h1, List.length_append] at h2
        simp only [api_Entry_42.l1]
        rw [if_pos (by omega), if_pos (by omega), if_pos (by omega), rdL ls i hi, if_pos (by omega), h1, w64 (a := (i : Int) + 1) (by omega) (by omega)]
  · intro i hi r hr
    refine Ev.step (fun k => ?_) hr
    have h1 := take_up ls i hi
    have h2 := take_le ls (i + 1)
    rw [h1, List.length_append] at h2
    simp only [api_Entry_42.l0]
    rw [if_pos (by omega), if_pos (by omega), if_pos (by omega), rdL ls i hi, w64 (a := ((ls.take i).flatten.length : Int) + (ls[i].length : Int)) (by omega) (by omega), if_neg (by omega), h1, w64 (a := (i : Int) + 1) (by omega) (by omega), List.length_append]
    push_cast; rfl

/-- One entry more, in its place. -/
def ins : List S38 → S38 → List S38
  | [], x => [x]
  | y :: r, x => if Op.bytesLess (key y) (key x) = true then y :: ins r x else x :: y :: r
def cnt : List S38 → List UInt8 → Nat
  | [], _ => 0
  | y :: r, s => if Op.bytesLess (key y) s = true then cnt r s + 1 else 0
theorem cnt_le : ∀ (l : List S38) (s : List UInt8), cnt l s ≤ l.length
  | [], _ => Nat.le_refl _
  | y :: r, s => by
    have := cnt_le r s
    simp only [cnt]
    by_cases c : Op.bytesLess (key y) s = true
    · rw [if_pos c]; simp; omega
    · rw [if_neg c]; exact Nat.zero_le _
theorem ins_cut : ∀ (l : List S38) (x : S38), l.take (cnt l (key x)) ++ x :: l.drop (cnt l (key x)) = ins l x
  | [], x => rfl
  | y :: r, x => by
    have := ins_cut r x
    simp only [cnt, ins]
    by_cases c : Op.bytesLess (key y) (key x) = true
    · rw [if_pos c, if_pos c, List.take_succ_cons, List.drop_succ_cons, List.cons_append, this]
    · rw [if_neg c, if_neg c]; rfl
theorem ins_len : ∀ (l : List S38) (x : S38), (ins l x).length = l.length + 1
  | [], x => rfl
  | y :: r, x => by
    simp only [ins]
    by_cases c : Op.bytesLess (key y) (key x) = true
    · rw [if_pos c, List.length_cons, ins_len r x]; rfl
    · rw [if_neg c]; rfl
theorem ins_mem : ∀ (l : List S38) (x z : S38), z ∈ ins l x ↔ z = x ∨ z ∈ l
  | [], x, z => by simp [ins]
  | y :: r, x, z => by
    simp only [ins]
    by_cases c : Op.bytesLess (key y) (key x) = true
    · rw [if_pos c, List.mem_cons, ins_mem r x z, List.mem_cons]
      constructor
      · rintro (h | h | h)
        · exact .inr (.inl h)
        · exact .inl h
        · exact .inr (.inr h)
      · rintro (h | h | h)
        · exact .inr (.inl h)
        · exact .inl h
        · exact .inr (.inr h)
    · rw [if_neg c, List.mem_cons]
theorem ins_sorted : ∀ (l : List S38) (x : S38), l.Pairwise lt → (∀ y ∈ l, key y ≠ key x) → (ins l x).Pairwise lt
  | [], x, _, _ => List.pairwise_singleton _ _
  | y :: r, x, h, hk => by
    have h0 := h
    rw [List.pairwise_cons] at h
    simp only [ins]
    by_cases c : Op.bytesLess (key y) (key x) = true
    · rw [if_pos c, List.pairwise_cons]
      refine ⟨fun z hz => ?_, ins_sorted r x h.2 (fun z hz => hk z (by simp [hz]))⟩
      rcases (ins_mem r x z).1 hz with rfl | hz
      · exact c
      · exact h.1 z hz
    · rw [if_neg c, List.pairwise_cons]
      have hyx : lt x y := less_tri (by simpa using c) (hk y (by simp))
      refine ⟨fun z hz => ?_, h0⟩
      rcases List.mem_cons.1 hz with rfl | hz
      · exact hyx
      · exact less_trans hyx (h.1 z hz)

/-- One entry less. -/
def rm : List S38 → List UInt8 → List S38
  | [], _ => []
  | y :: r, s => if key y = s then r else y :: rm r s
theorem rm_cut : ∀ (l : List S38) (s : List UInt8) (i : Nat) (h : i < l.length), key l[i] = s → (∀ j (hj : j < i), key (l[j]'(by omega)) ≠ s) → l.take i ++ l.drop (i + 1) = rm l s
  | y :: r, s, 0, h, hk, _ => by
    have hk : key y = s := hk
    simp only [rm]; rw [if_pos hk]; rfl
  | y :: r, s, i + 1, h, hk, hj => by
    have h0 : key y ≠ s := hj 0 (by omega)
    simp only [rm]
    rw [if_neg h0, List.take_succ_cons, List.drop_succ_cons, List.cons_append, rm_cut r s i (by simpa using h) hk (fun j h' => hj (j + 1) (by omega))]
theorem rm_filter : ∀ (l : List S38) (s : List UInt8), l.Pairwise lt → rm l s = l.filter (fun x => decide (key x ≠ s))
  | [], _, _ => rfl
  | y :: r, s, h => by
    rw [List.pairwise_cons] at h
    simp only [rm]
    by_cases c : key y = s
    · rw [if_pos c, List.filter_cons_of_neg (by simpa using c)]
      rw [List.filter_eq_self.2]
      intro z hz
      simp only [decide_eq_true_eq]
      intro e
      have := h.1 z hz
      unfold lt at this
      rw [show y.f0.toList = z.f0.toList from c.trans e.symm, less_irr] at this
      cases this
    · rw [if_neg c, List.filter_cons_of_pos (by simpa using c), rm_filter r s h.2]
theorem rm_ins : ∀ (l : List S38) (x : S38), (∀ y ∈ l, key y ≠ key x) → rm (ins l x) (key x) = l
  | [], x, _ => by simp only [ins, rm, if_true]
  | y :: r, x, h => by
    simp only [ins]
    by_cases c : Op.bytesLess (key y) (key x) = true
    · rw [if_pos c]; simp only [rm]; rw [if_neg (h y (by simp)), rm_ins r x (fun z hz => h z (by simp [hz]))]
    · rw [if_neg c]; simp only [rm, if_true]

/-- What With answers. -/
noncomputable def withL (l : List S38) (a : ByteArray) (n : Int) : List S38 × Int := open Classical in
  if okL l ∧ okS a ∧ 1 ≤ n ∧ n < 12 then (if (∃ x ∈ l, key x = a.toList) then ([], 9) else if (l.length : Int) ≥ 10 then ([], 14) else (ins l ⟨a, n⟩, 0)) else ([], 1)
/-- What Without answers. -/
noncomputable def lessL (l : List S38) (s : List UInt8) : List S38 × Int := open Classical in
  if okL l then (if (∃ x ∈ l, key x = s) then (rm l s, 0) else ([], 8)) else ([], 1)
theorem find_pos {l : List S38} {s : List UInt8} (h : okL l) : (find l s ≥ 0 ↔ ∃ x ∈ l, key x = s) ∧ (find l s < 0 ↔ ¬ ∃ x ∈ l, key x = s) := by
  have hh := (okL_iff l).1 h
  rcases place_spec l s 0 with ⟨_, h2, h3⟩ | ⟨i, hi, _, h2, h3, _⟩
  · rw [h3]; constructor
    · constructor
      · intro x; omega
      · rintro ⟨x, hx, e⟩; exact absurd e (h2 x hx)
    · exact ⟨fun _ ⟨x, hx, e⟩ => h2 x hx e, fun _ => by decide⟩
  · have h5 := (hh.1 l[i] (List.getElem_mem hi)).2.1
    rw [h3]; constructor
    · exact ⟨fun _ => ⟨_, List.getElem_mem hi, h2⟩, fun _ => by omega⟩
    · exact ⟨fun x => by omega, fun x => absurd ⟨_, List.getElem_mem hi, h2⟩ x⟩
theorem place_pos (l : List S38) (s : List UInt8) : (placeFrom l s 0 ≥ 0 ↔ ∃ x ∈ l, key x = s) ∧ (placeFrom l s 0 < 0 ↔ ¬ ∃ x ∈ l, key x = s) := by
  rcases place_spec l s 0 with ⟨h1, h2, h3⟩ | ⟨i, hi, h1, h2, h3, _⟩
  · rw [h1]; constructor
    · constructor
      · intro x; omega
      · rintro ⟨x, hx, e⟩; exact absurd e (h2 x hx)
    · exact ⟨fun _ ⟨x, hx, e⟩ => h2 x hx e, fun _ => by decide⟩
  · rw [h1]; constructor
    · exact ⟨fun _ => ⟨_, List.getElem_mem hi, h2⟩, fun _ => by omega⟩
    · exact ⟨fun x => by omega, fun x => absurd ⟨_, List.getElem_mem hi, h2⟩ x⟩

theorem place_is (l : List S38) (a : ByteArray) (hl : l.length ≤ 5864062014634) : name_place.f l a = some (placeFrom l a.toList 0) := by
  unfold name_place.f
  rw [if_pos (by omega)]
/-- The places where an entry goes. -/
theorem cut_len (l : List S38) (x : S38) (i : Nat) : [l.take i, [x], l.drop i].flatten.length = l.length + 1 := by
  have : (l.take i).length + (l.drop i).length = l.length := by rw [← List.length_append, List.take_append_drop]
  simp only [List.flatten_cons, List.flatten_nil, List.append_nil, List.length_append, List.length_singleton]; omega
theorem cut_is (l : List S38) (x : S38) (i : Nat) : [l.take i, [x], l.drop i].flatten = l.take i ++ x :: l.drop i := by simp

theorem with_loop (l : List S38) (a : ByteArray) (n : Int) (hl : l.length ≤ 10) : Ev (fun k => name_With.l0 k l a 0 a n) (ins l ⟨a, n⟩, 0) := by
  have fin : ∀ i : Nat, i ≤ l.length → Ev (fun k => (api_Entry_42.f k [l.take i, [(⟨a, n⟩ : S38)], l.drop i]).bind fun t => some (t, (0 : Int))) (l.take i ++ ⟨a, n⟩ :: l.drop i, 0) := by
    intro i hi
    have h := concat_ev [l.take i, [(⟨a, n⟩ : S38)], l.drop i] (by rw [cut_len]; omega) (by simp)
    rw [cut_is] at h
    exact h.bind (Ev.now _)
  have key_ : ∀ d i, i + d = l.length → Ev (fun k => name_With.l0 k l a (i : Int) a n) (l.take (i + cnt (l.drop i) a.toList) ++ ⟨a, n⟩ :: l.drop (i + cnt (l.drop i) a.toList), 0) := by
    intro d
    induction d with
    | zero =>
      intro i hi
      rw [List.drop_eq_nil_of_le (show l.length ≤ i by omega)]
      simp only [cnt, Nat.add_zero]
      exact Ev.step (fun k => by simp only [name_With.l0]; rw [if_neg (by omega), if_pos (by omega), if_pos (by omega), Int.toNat_natCast]) (fin i (by omega))
    | succ d ih =>
      intro i hi
      rw [drop_at l i (by omega)]
      simp only [cnt]
      by_cases c : Op.bytesLess (key (l.getD i z38)) a.toList = true
      · rw [if_pos c]
        have := ih (i + 1) (by omega)
        rw [show i + 1 + cnt (l.drop (i + 1)) a.toList = i + (cnt (l.drop (i + 1)) a.toList + 1) by omega] at this
        exact Ev.step (fun k => by simp only [name_With.l0]; rw [if_pos (by omega), if_pos (by omega), rd38, if_pos c, w64 (a := (i : Int) + 1) (by omega) (by omega)]; rfl) this
      · rw [if_neg c, Nat.add_zero]
        exact Ev.step (fun k => by simp only [name_With.l0]; rw [if_pos (by omega), if_pos (by omega), rd38, if_neg c, if_pos (by omega), Int.toNat_natCast]) (fin i (by omega))
  have h := key_ l.length 0 (by omega)
  simp only [Nat.zero_add, List.drop_zero] at h
  rw [show a.toList = key (⟨a, n⟩ : S38) from rfl, ins_cut] at h
  exact h

theorem with_ev (l : List S38) (a : ByteArray) (n : Int) (hl : l.length ≤ 5864062014634) (hs : ∀ x ∈ l, x.f0.size ≤ 140737488351232) (ha : a.size ≤ 140737488351232) : Ev (fun k => name_With.f k l a n) (withL l a n) := by
  unfold name_With.f
  have hbad : ¬ (okL l ∧ okS a ∧ 1 ≤ n ∧ n < 12) → Ev (fun k => name_With.j0 k l a true a n) (withL l a n) := by
    intro c
    unfold withL; rw [if_neg c]
    exact Ev.step (f := fun _ => some ([], 1)) (fun k => by simp only [name_With.j0, if_true]) (Ev.now _)
  by_cases c1 : okL l
  · refine ((may_tells l hl hs).yes c1).bind ?_
    simp only [if_true]
    by_cases c2 : okS a ∧ 1 ≤ n ∧ n < 12
    · refine ((sole_tells a n ha).yes c2).bind ?_
      unfold withL; rw [if_pos ⟨c1, c2⟩]
      refine Ev.step (fun k => by simp only [name_With.j0, Bool.not_true, Bool.false_eq_true, if_false, place_is l a hl, Option.bind_some]; rfl) ?_
      by_cases c3 : ∃ x ∈ l, key x = a.toList
      · rw [if_pos c3]; simp only [if_pos ((place_pos l a.toList).1.2 c3)]; exact Ev.now _
      · rw [if_neg c3]; simp only [if_neg (fun x => c3 ((place_pos l a.toList).1.1 x))]
        by_cases c4 : (l.length : Int) ≥ 10
        · simp only [if_pos c4]; exact Ev.now _
        · simp only [if_neg c4]; exact with_loop l a n (by omega)
    · refine ((sole_tells a n ha).no c2).bind ?_
      exact hbad (fun x => c2 x.2)
  · refine ((may_tells l hl hs).no c1).bind ?_
    simp only [Bool.false_eq_true, if_false]
    exact hbad (fun x => c1 x.1)

theorem without_ev (l : List S38) (a : ByteArray) (hl : l.length ≤ 5864062014634) (hs : ∀ x ∈ l, x.f0.size ≤ 140737488351232) : Ev (fun k => name_Without.f k l a) (lessL l a.toList) := by
  unfold name_Without.f lessL
  by_cases c1 : okL l
  · rw [if_pos c1]
    refine ((may_tells l hl hs).yes c1).bind ?_
    simp only [if_true, place_is l a hl, Option.bind_some]
    rcases place_spec l a.toList 0 with ⟨h1, h2, h3⟩ | ⟨i, hi, h1, h2, h3, h4⟩
    · rw [h1]
      simp only [show (-1 : Int) < 0 from by decide, if_true]
      rw [if_neg (fun ⟨x, hx, e⟩ => h2 x hx e)]; exact Ev.now _
    · have hl10 := ((okL_iff l).1 c1).2.2
      rw [h1, show (0 : Int) + (i : Int) = (i : Int) by omega, if_pos ⟨_, List.getElem_mem hi, h2⟩, w64 (a := (i : Int) + 1) (by omega) (by omega)]
      simp only [if_neg (show ¬ (i : Int) < 0 by omega), if_pos (show 0 ≤ (i : Int) by omega), if_pos (show (i : Int) ≤ (l.length : Int) by omega), if_pos (show 0 ≤ (i : Int) + 1 by omega), if_pos (show (i : Int) + 1 ≤ (l.length : Int) by omega), Int.toNat_natCast, show ((i : Int) + 1).toNat = i + 1 by omega]
      have hlen : [l.take i, l.drop (i + 1)].flatten.length ≤ l.length := by
        simp only [List.flatten_cons, List.flatten_nil, List.append_nil, List.length_append, List.length_take, List.length_drop]; omega
      have h := concat_ev [l.take i, l.drop (i + 1)] (by omega) (by simp)
      rw [show [l.take i, l.drop (i + 1)].flatten = l.take i ++ l.drop (i + 1) by simp, rm_cut l a.toList i hi h2 h4] at h
      exact h.bind (Ev.now _)
  · rw [if_neg c1]
    refine ((may_tells l hl hs).no c1).bind ?_
    simp only [Bool.false_eq_true, if_false]; exact Ev.now _

theorem names_ev (l : List S38) (hl : l.length ≤ 5864062014634) : Ev (fun k => name_Names.f k l) (l.map (·.f0)) := by
  unfold name_Names.f
  refine Ev_fold (g := fun k (s : List ByteArray) i => name_Names.l0 k s l (l.length : Int) i) l.length (fun n => (l.take n).map (·.f0)) _ ?_ ?_
  · exact Ev.step (f := fun _ => some (l.map (·.f0))) (fun k => by simp only [name_Names.l0]; rw [if_neg (by omega), List.take_length]) (Ev.now _)
  · intro i hi r hr
    refine Ev.step (fun k => ?_) hr
    have : (l.take (i + 1)).map (·.f0) = (l.take i).map (·.f0) ++ [(l.getD i z38).f0] := by
      rw [List.take_add_one, List.getElem?_eq_getElem hi, List.map_append, getD_get l i hi]; rfl
    simp only [name_Names.l0]
    rw [if_pos (by omega), if_pos (by omega), if_pos (by omega), if_pos (by rw [List.length_map, List.length_take]; omega), rd38, this, w64 (a := (i : Int) + 1) (by omega) (by omega)]

theorem ents_self (l : List S38) (hl : l.length ≤ 5864062014634) : Ev (fun k => potsherdref12_SameEntries.f k l l) true := by
  unfold potsherdref12_SameEntries.f
  simp only [if_true]
  refine Ev_fold (g := fun k (_ : Unit) i => potsherdref12_SameEntries.l0 k l l (l.length : Int) i) l.length (fun _ => ()) _ (Ev.step (f := fun _ => some true) (fun k => by simp only [potsherdref12_SameEntries.l0]; rw [if_neg (by omega)]) (Ev.now _)) ?_
  intro i hi r hr
  exact Ev.step (fun k => by simp only [potsherdref12_SameEntries.l0]; rw [if_pos (by omega), if_pos (by omega), if_pos (by omega), if_pos (by omega), if_neg (by simp), w64 (a := (i : Int) + 1) (by omega) (by omega)]) hr

theorem ref_with_loop (l : List S38) (a : ByteArray) (n : Int) (hl : l.length ≤ 10) : Ev (fun k => potsherdref12_With.l0 k l a n 0) (ins l ⟨a, n⟩, 0) := by
  have key_ : ∀ d i, i + d = l.length → Ev (fun k => potsherdref12_With.l0 k l a n (i : Int)) (l.take (i + cnt (l.drop i) a.toList) ++ ⟨a, n⟩ :: l.drop (i + cnt (l.drop i) a.toList), 0) := by
    intro d
    induction d with
    | zero =>
      intro i hi
      rw [List.drop_eq_nil_of_le (show l.length ≤ i by omega)]
      simp only [cnt, Nat.add_zero]
      refine Ev.step (f := fun _ => some (l.take i ++ ⟨a, n⟩ :: l.drop i, 0)) (fun k => ?_) (Ev.now _)
      simp only [potsherdref12_With.l0]
      rw [if_neg (by omega), if_pos (by omega), if_pos (by omega), Int.toNat_natCast]
      simp only [Option.bind_some, List.nil_append, List.length_nil]
      rw [if_pos (by simp only [List.length_take]; omega), if_pos (by simp only [List.length_take, List.length_singleton]; omega), if_pos (by simp only [List.length_append, List.length_take, List.length_singleton, List.length_drop]; omega), List.append_assoc]; rfl
    | succ d ih =>
      intro i hi
      rw [drop_at l i (by omega)]
      simp only [cnt]
      by_cases c : Op.bytesLess (key (l.getD i z38)) a.toList = true
      · rw [if_pos c]
        have := ih (i + 1) (by omega)
        rw [show i + 1 + cnt (l.drop (i + 1)) a.toList = i + (cnt (l.drop (i + 1)) a.toList + 1) by omega] at this
        exact Ev.step (fun k => by simp only [potsherdref12_With.l0]; rw [if_pos (by omega), if_pos (by omega), rd38, if_pos c, w64 (a := (i : Int) + 1) (by omega) (by omega)]; rfl) this
      · rw [if_neg c, Nat.add_zero]
        refine Ev.step (f := fun _ => some (l.take i ++ ⟨a, n⟩ :: l.drop i, 0)) (fun k => ?_) (Ev.now _)
        simp only [potsherdref12_With.l0]
        rw [if_pos (by omega), if_pos (by omega), rd38, if_neg c, if_pos (by omega), Int.toNat_natCast]
        simp only [Option.bind_some, List.nil_append, List.length_nil]
        rw [if_pos (by simp only [List.length_take]; omega), if_pos (by simp only [List.length_take, List.length_singleton]; omega), if_pos (by simp only [List.length_append, List.length_take, List.length_singleton, List.length_drop]; omega), List.append_assoc]; rfl
  have h := key_ l.length 0 (by omega)
  simp only [Nat.zero_add, List.drop_zero] at h
  rw [show a.toList = key (⟨a, n⟩ : S38) from rfl, ins_cut] at h
  exact h

theorem ref_with_ev (l : List S38) (a : ByteArray) (n : Int) (hl : l.length ≤ 5864062014634) (hs : ∀ x ∈ l, x.f0.size ≤ 140737488351232) (ha : a.size ≤ 140737488351232) : Ev (fun k => potsherdref12_With.f k l a n) (withL l a n) := by
  unfold potsherdref12_With.f
  have hbad : ¬ (okL l ∧ okS a ∧ 1 ≤ n ∧ n < 12) → Ev (fun k => potsherdref12_With.j0 k l a n true) (withL l a n) := by
    intro c
    unfold withL; rw [if_neg c]
    exact Ev.step (f := fun _ => some ([], 1)) (fun k => by simp only [potsherdref12_With.j0, if_true]) (Ev.now _)
  by_cases c1 : okL l
  · refine ((ref_may_tells l hl hs).yes c1).bind ?_
    simp only [if_true]
    by_cases c2 : okS a
    · refine ((ref_name_tells a ha).yes c2).bind ?_
      simp only [if_true]
      by_cases c3 : n < 1
      · simp only [if_pos c3]; exact hbad (fun x => by have := x.2.2.1; omega)
      · simp only [if_neg c3]
        by_cases c4 : n ≥ 12
        · simp only [decide_eq_true c4]; exact hbad (fun x => by have := x.2.2.2; omega)
        · simp only [decide_eq_false c4]
          unfold withL; rw [if_pos ⟨c1, c2, by omega, by omega⟩]
          refine Ev.step (f := fun k => (potsherdref12_At.f k l a).bind fun t218 => (if t218 ≥ 0 then (some (([] : List (S38)), 9)) else (if (l.length : Int) ≥ 10 then (some (([] : List (S38)), 14)) else (potsherdref12_With.l0 k l a n 0)))) (fun k => by simp only [potsherdref12_With.j0, Bool.false_eq_true, if_false]) ?_
          refine (at_ev l a hl).bind ?_
          by_cases c5 : ∃ x ∈ l, key x = a.toList
          · rw [if_pos c5]; simp only [if_pos ((find_pos c1).1.2 c5)]; exact Ev.now _
          · rw [if_neg c5]; simp only [if_neg (fun x => c5 ((find_pos c1).1.1 x))]
            by_cases c6 : (l.length : Int) ≥ 10
            · simp only [if_pos c6]; exact Ev.now _
            · simp only [if_neg c6]; exact ref_with_loop l a n (by omega)
    · refine ((ref_name_tells a ha).no c2).bind ?_
      simp only [Bool.false_eq_true, if_false]
      exact hbad (fun x => c2 x.2.1)
  · refine ((ref_may_tells l hl hs).no c1).bind ?_
    simp only [Bool.false_eq_true, if_false]
    exact hbad (fun x => c1 x.1)

theorem ref_without_ev (l : List S38) (a : ByteArray) (hl : l.length ≤ 5864062014634) (hs : ∀ x ∈ l, x.f0.size ≤ 140737488351232) : Ev (fun k => potsherdref12_Without.f k l a) (lessL l a.toList) := by
  unfold potsherdref12_Without.f lessL
  by_cases c1 : okL l
  · rw [if_pos c1]
    refine ((ref_may_tells l hl hs).yes c1).bind ?_
    simp only [if_true]
    refine (at_ev l a hl).bind ?_
    by_cases c5 : ∃ x ∈ l, key x = a.toList
    · rw [if_pos c5]; simp only [if_neg (fun x => (find_pos c1).2.1 x c5)]
      have hh := (okL_iff l).1 c1
      rw [rm_filter l a.toList hh.2.1]
      refine Ev_fold (g := fun k (s : List S38) i => potsherdref12_Without.l0 k a s l (l.length : Int) i) l.length (fun i => (l.take i).filter (fun x => decide (key x ≠ a.toList))) _ ?_ ?_
      · exact Ev.step (f := fun _ => some (l.filter (fun x => decide (key x ≠ a.toList)), 0)) (fun k => by simp only [potsherdref12_Without.l0]; rw [if_neg (by omega), List.take_length]) (Ev.now _)
      · intro i hi r hr
        refine Ev.step (fun k => ?_) hr
        have ht : l.take (i + 1) = l.take i ++ [l.getD i z38] := by rw [List.take_add_one, List.getElem?_eq_getElem hi, getD_get l i hi]; rfl
        have hle : ((l.take i).filter (fun x => decide (key x ≠ a.toList))).length ≤ 10 := Nat.le_trans (List.length_filter_le _ _) (by rw [List.length_take]; omega)
        simp only [potsherdref12_Without.l0]
        rw [if_pos (by omega), if_pos (by omega), if_pos (by omega), rd38, w64 (a := (i : Int) + 1) (by omega) (by omega), ht, List.filter_append]
        by_cases c : key (l.getD i z38) = a.toList
        · rw [if_pos c, List.filter_cons_of_neg (by simpa using c), List.filter_nil, List.append_nil]
        · rw [if_neg c, if_pos (by omega), List.filter_cons_of_pos (by simpa using c), List.filter_nil]
    · rw [if_neg c5]; simp only [if_pos ((find_pos c1).2.2 c5)]; exact Ev.now _
  · rw [if_neg c1]
    refine ((ref_may_tells l hl hs).no c1).bind ?_
    simp only [Bool.false_eq_true, if_false]; exact Ev.now _

theorem awake_ev : Ev (fun k => potsherdlaw13_awake.f k) true := Ev.of potsherdlaw13_awake.mono (k := 30) (by decide +kernel)
theorem awake_bind : Ev (fun k => (potsherdlaw13_awake.f k).bind fun t => some t) true := awake_ev.bind (Ev.now _)
/-- What Light counts. -/
def lsum (l : List S38) : Nat → Int
  | 0 => 0
  | n + 1 => wrap64 (lsum l n + ((l.getD n z38).f0.size : Int))

theorem light13_ev (l : List S38) (hl : l.length ≤ 5864062014634) : ∃ r, Ev (fun k => potsherdlaw13_Light.f k l) r ∧ (r = 0 ∨ r = 1) := by
  have hend : ∃ r, Ev (fun k => potsherdlaw13_Light.l0 k l (lsum l l.length) l (l.length : Int) (l.length : Int)) r ∧ (r = 0 ∨ r = 1) := by
    by_cases c1 : (l.length : Int) > 60
    · exact ⟨1, Ev.step (f := fun _ => some 1) (fun k => by simp only [potsherdlaw13_Light.l0]; rw [if_neg (by omega), if_pos c1]) (Ev.now _), .inr rfl⟩
    · by_cases c2 : lsum l l.length > 1000
      · exact ⟨1, Ev.step (f := fun _ => some 1) (fun k => by simp only [potsherdlaw13_Light.l0]; rw [if_neg (by omega), if_neg c1, if_pos c2]) (Ev.now _), .inr rfl⟩
      · exact ⟨0, Ev.step (f := fun _ => some 0) (fun k => by simp only [potsherdlaw13_Light.l0]; rw [if_neg (by omega), if_neg c1, if_neg c2]) (Ev.now _), .inl rfl⟩
  obtain ⟨r, hr, h01⟩ := hend
  refine ⟨r, ?_, h01⟩
  unfold potsherdlaw13_Light.f
  exact Ev_fold (g := fun k a i => potsherdlaw13_Light.l0 k l a l (l.length : Int) i) l.length (lsum l) r hr (fun i hi r hr => Ev.step (fun k => by
    simp only [potsherdlaw13_Light.l0]
    rw [if_pos (by omega), if_pos (by omega), if_pos (by omega), rd38, w64 (a := (i : Int) + 1) (by omega) (by omega)]; rfl) hr)


end Go.Proofs.Ytbaiicnibiogpaa.NameLib
