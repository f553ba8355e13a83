/- The law NameOrder, as printed, comes to true at every input within the reach. -/
import Derived.Test.YtbaiicnibiogpaaNameLib
import Derived.Test.YtbaiicnibiogpaaPNamex10
namespace Go.Proofs.Ytbaiicnibiogpaa.PureNameOrder
set_option linter.unusedVariables false
open Go.RowKit Go.Proofs.Ytbaiicnibiogpaa.PName Go.Proofs.YtbaiicnibiogpaaW.PrintWords
open Go.Proofs.Ytbaiicnibiogpaa.NameLib
open Go Go.Proofs.Ytbaiicnibiogpaa.Plain Go.Proofs.YtbaiicnibiogpaaW.PrintMore
theorem Ev_walk {β : Type} {g : Nat → Int → Option β} (n : Nat) (I : Nat → Prop) (r : β) (hend : I n → Ev (fun k => g k n) r)
    (hstep : ∀ i, i < n → I i → Ev (fun k => g k i) r ∨ (I (i + 1) ∧ (Ev (fun k => g k ((i : Int) + 1)) r → Ev (fun k => g k i) r))) : I 0 → Ev (fun k => g k 0) r := by
  have key_ : ∀ d i, i + d = n → I i → Ev (fun k => g k (i : Int)) r := by
    intro d
    induction d with
    | zero => intro i hi h; obtain rfl : i = n := by omega
              exact hend h
    | succ d ih =>
      intro i hi h
      rcases hstep i (by omega) h with h1 | ⟨h1, h2⟩
      · exact h1
      · exact h2 (by have := ih (i + 1) (by omega) h1; push_cast at this; exact this)
  exact key_ n 0 (by omega)

theorem sorted_eq : ∀ (l l' : List S38), l.Pairwise lt → l'.Pairwise lt → (∀ x, x ∈ l ↔ x ∈ l') → l = l'
  | [], [], _, _, _ => rfl
  | [], y :: r, _, _, h => absurd ((h y).2 (by simp)) (by simp)
  | y :: r, [], _, _, h => absurd ((h y).1 (by simp)) (by simp)
  | x :: l, y :: r, h1, h2, h => by
    rw [List.pairwise_cons] at h1 h2
    have irr : ∀ z : S38, ¬ lt z z := fun z hz => by unfold lt at hz; rw [less_irr] at hz; cases hz
    have hxy : x = y := by
      rcases List.mem_cons.1 ((h x).1 (by simp)) with e | hx
      · exact e
      · rcases List.mem_cons.1 ((h y).2 (by simp)) with e | hy
        · exact e.symm
        · exact absurd (less_trans (h1.1 y hy) (h2.1 x hx)) (irr x)
    subst hxy
    rw [sorted_eq l r h1.2 h2.2 (fun z => ?_)]
    constructor
    · intro hz
      rcases List.mem_cons.1 ((h z).1 (by simp [hz])) with rfl | h3
      · exact absurd (h1.1 z hz) (irr z)
      · exact h3
    · intro hz
      rcases List.mem_cons.1 ((h z).2 (by simp [hz])) with rfl | h3
      · exact absurd (h2.1 z hz) (irr z)
      · exact h3

def ent (L : List ByteArray) (j : Nat) : S38 := ⟨L.getD j ByteArray.empty, 1 + (j : Int)⟩
def put (L : List ByteArray) (f : Nat → Nat) : Nat → List S38
  | 0 => []
  | i + 1 => ins (put L f i) (ent L (f i))

theorem put_facts (L : List ByteArray) (f : Nat → Nat) (hL : L.length ≤ 10) (hok : ∀ j, j < L.length → okS (L.getD j ByteArray.empty)) (hd : ∀ j j', j < L.length → j' < L.length → j ≠ j' → (L.getD j ByteArray.empty).toList ≠ (L.getD j' ByteArray.empty).toList)
    (hf : ∀ j, j < L.length → f j < L.length) (hi : ∀ j j', j < L.length → j' < L.length → f j = f j' → j = j') :
    ∀ i, i ≤ L.length → (put L f i).Pairwise lt ∧ (∀ x, x ∈ put L f i ↔ ∃ j, j < i ∧ x = ent L (f j)) ∧ (put L f i).length = i
  | 0, _ => ⟨List.Pairwise.nil, by simp [put], rfl⟩
  | i + 1, h => by
    obtain ⟨h1, h2, h3⟩ := put_facts L f hL hok hd hf hi i (by omega)
    refine ⟨ins_sorted _ _ h1 (fun y hy => ?_), fun x => ?_, by simp only [put]; rw [ins_len, h3]⟩
    · obtain ⟨j, hj, rfl⟩ := (h2 y).1 hy
      exact hd (f j) (f i) (hf j (by omega)) (hf i (by omega)) (fun e => by have := hi j i (by omega) (by omega) e; omega)
    · simp only [put]; rw [ins_mem, h2]
      constructor
      · rintro (rfl | ⟨j, hj, rfl⟩)
        · exact ⟨i, by omega, rfl⟩
        · exact ⟨j, by omega, rfl⟩
      · rintro ⟨j, hj, rfl⟩
        by_cases e : j = i
        · subst e; exact .inl rfl
        · exact .inr ⟨j, by omega, rfl⟩

theorem put_ok (L : List ByteArray) (f : Nat → Nat) (hL : L.length ≤ 10) (hok : ∀ j, j < L.length → okS (L.getD j ByteArray.empty)) (hd : ∀ j j', j < L.length → j' < L.length → j ≠ j' → (L.getD j ByteArray.empty).toList ≠ (L.getD j' ByteArray.empty).toList)
    (hf : ∀ j, j < L.length → f j < L.length) (hi : ∀ j j', j < L.length → j' < L.length → f j = f j' → j = j') (i : Nat) (h : i ≤ L.length) : okL (put L f i) := by
  obtain ⟨h1, h2, h3⟩ := put_facts L f hL hok hd hf hi i h
  refine (okL_iff _).2 ⟨fun x hx => ?_, h1, by omega⟩
  obtain ⟨j, hj, rfl⟩ := (h2 x).1 hx
  have := hf j (by omega)
  exact ⟨hok _ this, by show (1 : Int) ≤ 1 + (f j : Int); omega, by show 1 + (f j : Int) < 12; omega⟩

theorem put_ev (L : List ByteArray) (f : Nat → Nat) (hL : L.length ≤ 10) (hok : ∀ j, j < L.length → okS (L.getD j ByteArray.empty)) (hd : ∀ j j', j < L.length → j' < L.length → j ≠ j' → (L.getD j ByteArray.empty).toList ≠ (L.getD j' ByteArray.empty).toList)
    (hf : ∀ j, j < L.length → f j < L.length) (hi : ∀ j j', j < L.length → j' < L.length → f j = f j' → j = j') (i : Nat) (h : i < L.length) :
    Ev (fun k => name_With.f k (put L f i) (L.getD (f i) ByteArray.empty) (1 + (f i : Int))) (put L f (i + 1), 0) := by
  have ok := put_ok L f hL hok hd hf hi i (by omega)
  obtain ⟨h1, h2, h3⟩ := put_facts L f hL hok hd hf hi i (by omega)
  have hfi := hf i h
  have hh := (okL_iff _).1 ok
  have hw := with_ev (put L f i) (L.getD (f i) ByteArray.empty) (1 + (f i : Int)) (by omega) (fun x hx => by have := (hh.1 x hx).1.1.2.1; omega) (by have := (hok _ hfi).1.2.1; omega)
  have e : withL (put L f i) (L.getD (f i) ByteArray.empty) (1 + (f i : Int)) = (put L f (i + 1), 0) := by
    unfold withL
    rw [if_pos ⟨ok, hok _ hfi, by omega, by omega⟩, if_neg, if_neg (by omega)]
    · rfl
    · rintro ⟨x, hx, e⟩
      obtain ⟨j, hj, rfl⟩ := (h2 x).1 hx
      exact hd (f j) (f i) (hf j (by omega)) hfi (fun e => by have := hi j i (by omega) (by omega) e; omega) e
  rw [e] at hw; exact hw

theorem rdS (L : List ByteArray) (i : Nat) : rdOf ByteArray.empty L (i : Int) = L.getD i ByteArray.empty := by unfold rdOf; rw [Int.toNat_natCast]
theorem zzz_ok : okS (⟨#[122, 122, 122]⟩ : ByteArray) := by
  refine ⟨⟨by decide, by decide, by decide +kernel, by decide +kernel⟩, fun i hi => ?_⟩
  have hi : i < 3 := hi
  rcases (by omega : i = 0 ∨ i = 1 ∨ i = 2) with rfl | rfl | rfl <;> exact .inl (by decide)

theorem order_end (L : List ByteArray) (t : Nat) (ht : t ≤ L.length) (hL : L.length ≤ 10) (hok : ∀ j, j < L.length → okS (L.getD j ByteArray.empty)) (hd : ∀ j j', j < L.length → j' < L.length → j ≠ j' → (L.getD j ByteArray.empty).toList ≠ (L.getD j' ByteArray.empty).toList) :
    Ev (fun k => potsherdlaw13_NameOrder.l2 k L (t : Int) [] [] (L.length : Int) 0) true := by
  let f : Nat → Nat := fun j => if j + t < L.length then j + t else j + t - L.length
  have hf : ∀ j, j < L.length → f j < L.length := fun j hj => by
    by_cases c : j + t < L.length
    · show (if j + t < L.length then j + t else j + t - L.length) < _; rw [if_pos c]; exact c
    · show (if j + t < L.length then j + t else j + t - L.length) < _; rw [if_neg c]; omega
  have hi : ∀ j j', j < L.length → j' < L.length → f j = f j' → j = j' := fun j j' hj hj' e => by
    have e : (if j + t < L.length then j + t else j + t - L.length) = (if j' + t < L.length then j' + t else j' + t - L.length) := e
    split at e <;> split at e <;> omega
  have hs : ∀ j, j < L.length → ∃ i, i < L.length ∧ f i = j := fun j hj => by
    by_cases c : t ≤ j
    · exact ⟨j - t, by omega, by show (if _ then _ else _) = _; rw [if_pos (by omega)]; omega⟩
    · exact ⟨j + L.length - t, by omega, by show (if _ then _ else _) = _; rw [if_neg (by omega)]; omega⟩
  have g1 := put_facts L id hL hok hd (fun j h => h) (fun j j' _ _ e => e)
  have g2 := put_facts L f hL hok hd hf hi
  have w1 := put_ev L id hL hok hd (fun j h => h) (fun j j' _ _ e => e)
  have w2 := put_ev L f hL hok hd hf hi
  refine Ev_fold (g := fun k (s : List S38 × List S38) i => potsherdlaw13_NameOrder.l2 k L (t : Int) s.1 s.2 (L.length : Int) i) L.length (fun i => (put L id i, put L f i)) true ?_ ?_
  · have ok := put_ok L id hL hok hd (fun j h => h) (fun j j' _ _ e => e) L.length (Nat.le_refl _)
    obtain ⟨h1, h2, h3⟩ := g1 L.length (Nat.le_refl _)
    obtain ⟨k1, k2, k3⟩ := g2 L.length (Nat.le_refl _)
    have hh := (okL_iff _).1 ok
    have he : put L f L.length = put L id L.length := sorted_eq _ _ k1 h1 (fun x => by
      rw [h2, k2]
      constructor
      · rintro ⟨j, hj, rfl⟩; exact ⟨f j, hf j hj, rfl⟩
      · rintro ⟨j, hj, rfl⟩
        obtain ⟨i, hi', e⟩ := hs j hj
        exact ⟨i, hi', by rw [e]; rfl⟩)
    have hsz : ∀ x ∈ put L id L.length, x.f0.size ≤ 140737488351232 := fun x hx => by have := (hh.1 x hx).1.1.2.1; omega
    have hw := with_ev (put L id L.length) ⟨#[122, 122, 122]⟩ 1 (by omega) hsz (by decide)
    show Ev (fun k => potsherdlaw13_NameOrder.l2 k L (t : Int) (put L id L.length) (put L f L.length) (L.length : Int) (L.length : Int)) true
    rw [he]
    generalize put L id L.length = A at ok h1 h3 hh hsz hw
    refine Ev.step (fun k => by simp only [potsherdlaw13_NameOrder.l2]; rw [if_neg (by omega)]) ?_
    refine hw.bind ((ents_self A (by omega)).bind ?_)
    simp only [if_true]
    refine ((may_tells A (by omega) hsz).yes ok).bind ?_
    simp only [if_true, h3, find_is A _ (show A.length ≤ 5864062014634 by omega), Option.bind_some]
    by_cases c : (L.length : Int) = 10
    · simp only [if_pos c]
      by_cases c3 : ∃ x ∈ A, key x = (⟨#[122, 122, 122]⟩ : ByteArray).toList
      · rw [show withL A ⟨#[122, 122, 122]⟩ 1 = ([], 9) by unfold withL; rw [if_pos ⟨ok, zzz_ok, by decide, by decide⟩, if_pos c3]]
        simp only [decide_eq_false (fun x => (find_pos ok).2.1 x c3), show ((9 : Int) == 14) = false from rfl, beq_self_eq_true, if_true]
        exact awake_bind
      · rw [show withL A ⟨#[122, 122, 122]⟩ 1 = ([], 14) by unfold withL; rw [if_pos ⟨ok, zzz_ok, by decide, by decide⟩, if_neg c3, if_pos (by omega)]]
        simp only [decide_eq_true ((find_pos ok).2.2 c3), show ((14 : Int) == 14) = true from rfl, beq_self_eq_true, if_true]
        exact awake_bind
    · simp only [if_neg c]
      by_cases c3 : ∃ x ∈ A, key x = (⟨#[122, 122, 122]⟩ : ByteArray).toList
      · rw [show withL A ⟨#[122, 122, 122]⟩ 1 = ([], 9) by unfold withL; rw [if_pos ⟨ok, zzz_ok, by decide, by decide⟩, if_pos c3]]
        simp only [show ((9 : Int) == 14) = false from rfl, beq_self_eq_true, if_true]
        exact awake_bind
      · rw [show withL A ⟨#[122, 122, 122]⟩ 1 = (ins A ⟨⟨#[122, 122, 122]⟩, 1⟩, 0) by unfold withL; rw [if_pos ⟨ok, zzz_ok, by decide, by decide⟩, if_neg c3, if_neg (by omega)]]
        simp only [show ((0 : Int) == 14) = false from rfl, beq_self_eq_true, if_true]
        exact awake_bind
  · intro i hi' r hr
    have hm : Int.tmod (wrap64 ((i : Int) + (t : Int))) (L.length : Int) = ((f i : Nat) : Int) := by
      rw [w64 (by omega) (by omega), Int.tmod_eq_emod_of_nonneg (by omega)]
      show _ = (((if i + t < L.length then i + t else i + t - L.length) : Nat) : Int)
      split
      · rw [Int.emod_eq_of_lt (by omega) (by omega)]; omega
      · rw [show (i : Int) + (t : Int) = ((i : Int) + (t : Int) - (L.length : Int)) + (L.length : Int) by omega, Int.add_emod_right, Int.emod_eq_of_lt (by omega) (by omega)]; omega
    have hfi := hf i hi'
    refine Ev.step (f := fun k => (name_With.f k (put L id i) (L.getD (id i) ByteArray.empty) (1 + (id i : Int))).bind fun bt191 => (if bt191.2 = 0 then ((name_With.f k (put L f i) (L.getD (f i) ByteArray.empty) (1 + (f i : Int))).bind fun bt195 => (if bt195.2 = 0 then (potsherdlaw13_NameOrder.l2 k L (t : Int) bt191.1 bt195.1 (L.length : Int) ((i : Int) + 1)) else (some false))) else (some false))) (fun k => ?_) ?_
    · simp only [potsherdlaw13_NameOrder.l2]
      rw [if_pos (by omega), if_pos (by omega), if_pos (by omega), if_neg (by omega), hm, if_pos (by omega), if_pos (by omega), rdS, rdS, w64 (a := 1 + (i : Int)) (by omega) (by omega), w64 (a := 1 + (f i : Int)) (by omega) (by omega), w64 (a := (i : Int) + 1) (by omega) (by omega)]; rfl
    · refine (w1 i hi').bind ?_
      simp only [if_true]
      refine (w2 i hi').bind ?_
      simp only [if_true]
      exact hr

theorem NameOrder (L : List ByteArray) (turn : Int) (hz : ∀ x ∈ L, x.size ≤ 140737488351232) : ∃ k, potsherdlaw13_NameOrder.f k L turn = some true := by
  obtain ⟨K, h⟩ : Ev (fun k => potsherdlaw13_NameOrder.f k L turn) true := by
    unfold potsherdlaw13_NameOrder.f
    by_cases c : (L.length : Int) > 10
    · simp only [if_pos c]; exact awake_bind
    simp only [if_neg c]
    have szd : ∀ i, (L.getD i ByteArray.empty).size ≤ 140737488351232 := fun i => by
      by_cases hi : i < L.length
      · rw [List.getD_eq_getElem?_getD, List.getElem?_eq_getElem hi]; exact hz _ (List.getElem_mem hi)
      · rw [List.getD_eq_getElem?_getD, List.getElem?_eq_none (by omega)]; decide
    refine Ev_walk (g := fun k i => potsherdlaw13_NameOrder.l0 k L turn L (L.length : Int) i) L.length (fun i => (∀ j, j < i → okS (L.getD j ByteArray.empty)) ∧ (∀ j j', j < i → j' < i → j ≠ j' → (L.getD j ByteArray.empty).toList ≠ (L.getD j' ByteArray.empty).toList)) true ?_ ?_ ⟨fun j hj => absurd hj (Nat.not_lt_zero _), fun j _ hj => absurd hj (Nat.not_lt_zero _)⟩
    · rintro ⟨hok, hd⟩
      obtain ⟨p, p0, p1, pe⟩ := umod turn ((L.length : Int) + 1) (by omega) (by omega)
      have hu : IntKind.u64.wrap (wrap64 ((L.length : Int) + 1)) = (L.length : Int) + 1 := by rw [w64 (by omega) (by omega), u64w]; omega
      obtain ⟨t, rfl⟩ := Int.eq_ofNat_of_zero_le p0
      exact Ev.step (fun k => by simp only [potsherdlaw13_NameOrder.l0]; rw [if_neg (by omega), hu, if_neg (by omega), pe]) (order_end L t (by omega) (by omega) hok hd)
    · intro i hi ⟨hok, hd⟩
      by_cases c1 : okS (L.getD i ByteArray.empty)
      · by_cases c2 : ∃ j, j < i ∧ (L.getD i ByteArray.empty).toList = (L.getD j ByteArray.empty).toList
        · left
          refine Ev.step (f := fun k => (potsherdref12_Name.f k (L.getD i ByteArray.empty)).bind fun t184 => (if t184 = true then (potsherdlaw13_NameOrder.l1 k L turn (L.getD i ByteArray.empty) L (L.length : Int) (i : Int) (L.take i) (i : Int) 0) else ((potsherdlaw13_awake.f k).bind fun t185 => (some t185)))) (fun k => ?_) ?_
          · simp only [potsherdlaw13_NameOrder.l0]
            rw [if_pos (by omega), if_pos (by omega), if_pos (by omega), rdS, if_pos (by omega), Int.toNat_natCast, List.length_take, Nat.min_eq_left (by omega)]
          · refine ((ref_name_tells _ (szd i)).yes c1).bind ?_
            simp only [if_true]
            obtain ⟨j0, hj0, he0⟩ := c2
            refine Ev_walk (g := fun k j => potsherdlaw13_NameOrder.l1 k L turn (L.getD i ByteArray.empty) L (L.length : Int) (i : Int) (L.take i) (i : Int) j) i (fun j => j ≤ j0) true (fun h => absurd h (by omega)) ?_ (Nat.zero_le _)
            intro j hj hjj
            have hr : rdOf ByteArray.empty (L.take i) (j : Int) = L.getD j ByteArray.empty := by
              rw [rdS, List.getD_eq_getElem?_getD, List.getElem?_take_of_lt hj, List.getD_eq_getElem?_getD]
            by_cases e : (L.getD i ByteArray.empty).toList = (L.getD j ByteArray.empty).toList
            · left
              exact Ev.step (fun k => by simp only [potsherdlaw13_NameOrder.l1]; rw [if_pos (by omega), if_pos (by omega), if_pos (by rw [List.length_take]; omega), hr, if_pos e]) awake_bind
            · right
              refine ⟨?_, fun h => Ev.step (fun k => by simp only [potsherdlaw13_NameOrder.l1]; rw [if_pos (by omega), if_pos (by omega), if_pos (by rw [List.length_take]; omega), hr, if_neg e, w64 (a := (j : Int) + 1) (by omega) (by omega)]) h⟩
              by_cases e2 : j = j0
              · subst e2; exact absurd he0 e
              · omega
        · right
          have hne : ∀ j, j < i → (L.getD i ByteArray.empty).toList ≠ (L.getD j ByteArray.empty).toList := fun j hj e => c2 ⟨j, hj, e⟩
          refine ⟨⟨fun j hj => ?_, fun j j' hj hj' hn => ?_⟩, fun hr0 => ?_⟩
          · by_cases e : j = i
            · subst e; exact c1
            · exact hok j (by omega)
          · by_cases e : j = i
            · subst e; exact hne j' (by omega)
            · by_cases e' : j' = i
              · subst e'; exact fun x => hne j (by omega) x.symm
              · exact hd j j' (by omega) (by omega) hn
          · refine Ev.step (f := fun k => (potsherdref12_Name.f k (L.getD i ByteArray.empty)).bind fun t184 => (if t184 = true then (potsherdlaw13_NameOrder.l1 k L turn (L.getD i ByteArray.empty) L (L.length : Int) (i : Int) (L.take i) (i : Int) 0) else ((potsherdlaw13_awake.f k).bind fun t185 => (some t185)))) (fun k => ?_) ?_
            · simp only [potsherdlaw13_NameOrder.l0]
              rw [if_pos (by omega), if_pos (by omega), if_pos (by omega), rdS, if_pos (by omega), Int.toNat_natCast, List.length_take, Nat.min_eq_left (by omega)]
            · refine ((ref_name_tells _ (szd i)).yes c1).bind ?_
              simp only [if_true]
              refine Ev_walk (g := fun k j => potsherdlaw13_NameOrder.l1 k L turn (L.getD i ByteArray.empty) L (L.length : Int) (i : Int) (L.take i) (i : Int) j) i (fun _ => True) true (fun _ => Ev.step (fun k => by simp only [potsherdlaw13_NameOrder.l1]; rw [if_neg (by omega), w64 (a := (i : Int) + 1) (by omega) (by omega)]) hr0) ?_ trivial
              intro j hj _
              right
              refine ⟨trivial, fun h => Ev.step (fun k => ?_) h⟩
              have hr : rdOf ByteArray.empty (L.take i) (j : Int) = L.getD j ByteArray.empty := by
                rw [rdS, List.getD_eq_getElem?_getD, List.getElem?_take_of_lt hj, List.getD_eq_getElem?_getD]
              simp only [potsherdlaw13_NameOrder.l1]
              rw [if_pos (by omega), if_pos (by omega), if_pos (by rw [List.length_take]; omega), hr, if_neg (hne j hj), w64 (a := (j : Int) + 1) (by omega) (by omega)]
      · left
        refine Ev.step (f := fun k => (potsherdref12_Name.f k (L.getD i ByteArray.empty)).bind fun t184 => (if t184 = true then (potsherdlaw13_NameOrder.l1 k L turn (L.getD i ByteArray.empty) L (L.length : Int) (i : Int) (L.take i) (i : Int) 0) else ((potsherdlaw13_awake.f k).bind fun t185 => (some t185)))) (fun k => ?_) ?_
        · simp only [potsherdlaw13_NameOrder.l0]
          rw [if_pos (by omega), if_pos (by omega), if_pos (by omega), rdS, if_pos (by omega), Int.toNat_natCast, List.length_take, Nat.min_eq_left (by omega)]
        · refine ((ref_name_tells _ (szd i)).no c1).bind ?_
          simp only [Bool.false_eq_true, if_false]; exact awake_bind
  exact ⟨K, h K (Nat.le_refl _)⟩

end Go.Proofs.Ytbaiicnibiogpaa.PureNameOrder
