/- The reading of an argument of any kind that is made of whole numbers, strings, structs and slices is what the printed contracts ask of it: a value of the Lean type, by its Kd, with each number in its range and each row within the reach; holds of every program whose table has the types as named. -/
import Derived.SizedLaws
import Derived.ChangeSlices
import Derived.Carry
import Derived.OpenShut
import Derived.ChangeMaps
import Derived.Test.YtkigiehkckjlhaaZReadsWWords
namespace Go.Proofs.Ytkigiehkckjlhaa.Opens
open Go Go.ChangeShapes Go.WideShapes Go.RowKit Go.Proofs.YtkigiehkckjlhaaW.PrintWords
def Opn {α : Type} (P : Program) (t : TypeId) (k : Kd α) (G : α → Prop) : Prop :=
  P.cellsOf t = k.sz ∧ ∀ (H : Type) (enc : TypeId × Value → H) (w : World) (base : Nat) (spare : Nat → Bool) (held : Bool) (n : Nat) (cs : List Value) (x : DataW H × List MemPlace),
    DataW.trod enc P w base spare held n t cs = some x → ∃ y, k.K w y cs ∧ ((x.1.weights P t).all (· ≤ reachBytes) = true → G y)
theorem op_int {P : Program} {t : TypeId} {k : IntKind} (ht : P.underlying t = some (.int k)) (hc : P.cellsOf t = 1) : Opn P t (Kd.int k) (fun z => (Lit.int k z).wf = true) := by
  refine ⟨hc, fun H enc w base spare held n cs x h => ?_⟩
  obtain ⟨z, rfl, rfl, hw⟩ := DataW.trod_int ht h
  exact ⟨z, rfl, fun _ => hw⟩
theorem weightsAll_mem {H : Type} {P : Program} {e : TypeId} {p : Nat → Bool} : ∀ {l : List (DataW H)} {d : DataW H}, (DataW.weightsAll P e l).all p = true → d ∈ l → (d.weights P e).all p = true
  | [], _, _, h => by cases h
  | c :: r, d, hw, h => by
    rw [DataW.weightsAll, List.all_append, Bool.and_eq_true] at hw
    rcases List.mem_cons.1 h with rfl | h
    · exact hw.1
    · exact weightsAll_mem hw.2 h
theorem add2 (a : Addr) (i j : Nat) : (a.add i).add j = a.add (i + j) := by
  unfold Addr.add
  by_cases hi : i = 0
  · by_cases hj : j = 0 <;> simp_all
  · by_cases hj : j = 0 <;> simp_all [Nat.add_assoc]
theorem list_of {α : Type} {n : Nat} {Q : Nat → α → Prop} (h : ∀ i, i < n → ∃ y, Q i y) : ∃ ys : List α, ys.length = n ∧ ∀ i y, ys[i]? = some y → Q i y := by
  induction n with
  | zero => exact ⟨[], rfl, fun i y h => by simp at h⟩
  | succ n ih =>
    obtain ⟨ys, hl, hy⟩ := ih (fun i hi => h i (by omega))
    obtain ⟨y, hq⟩ := h n (by omega)
    refine ⟨ys ++ [y], by simp [hl], fun i z hz => ?_⟩
    by_cases hi : i < n
    · rw [List.getElem?_append_left (by omega)] at hz; exact hy i z hz
    · have : i = n := by
        have := (List.getElem?_eq_some_iff.1 hz).1
        simp [hl] at this; omega
      subst this
      rw [List.getElem?_append_right (by omega)] at hz
      simp [hl] at hz
      subst hz; exact hq
theorem op_slice {α : Type} {P : Program} {t e : TypeId} {d : Kd α} {G : α → Prop} {B : Nat} (ht : P.underlying t = some (.slice e)) (hc : P.cellsOf t = 1) (hB : P.bytesOf e = B) (h : Opn P e d G) :
    Opn P t (Kd.slice e d) (fun xs => xs.length * B ≤ 140737488351232 ∧ ∀ x ∈ xs, G x) := by
  refine ⟨hc, fun H enc w base spare held n cs x hx => ?_⟩
  rcases DataW.trod_slice ht hx with ⟨rfl, rfl⟩ | ⟨a, len, cap, elems, rest, m, _, rfl, rfl, hb, hl, hm, hlen, hel, _, _⟩
  · exact ⟨[], ⟨none, 0, rfl, Nat.le_refl _, rfl, by simp, fun h => absurd h (by simp)⟩, fun _ => ⟨by simp, fun x hx => by cases hx⟩⟩
  · have each : ∀ i, i < len → ∃ y, ∃ c, c.length = d.sz ∧ d.K w y c ∧ (∀ j u, c[j]? = some u → w.cell? (a.add (i * d.sz + j)) = some u) ∧ ∃ z, elems[i]? = some z ∧ ((z.1.weights P e).all (· ≤ reachBytes) = true → G y) := by
      intro i hi
      have h1 := hel i hi
      have h2 : elems[i]? = some (elems[i]'(by omega)) := List.getElem?_eq_getElem (by omega)
      rw [h2, Option.bind_eq_some_iff] at h1
      obtain ⟨c, hcs, htr⟩ := h1
      obtain ⟨y, hK, hG⟩ := h.2 H enc w base spare held m c _ htr
      obtain ⟨_, hcl, hat⟩ := World.cells?_some hcs
      refine ⟨y, c, d.K_len hK, hK, fun j u hu => ?_, _, h2, hG⟩
      have hj : j < c.length := (List.getElem?_eq_some_iff.1 hu).1
      have := hat j (by omega)
      rw [h.1] at this
      rw [hu] at this
      rw [← this, add2]
    obtain ⟨ys, hyl, hy⟩ := list_of each
    refine ⟨ys, ⟨some a, cap, by rw [hyl], by omega, rfl, by have : maxLen = 9223372036854775807 := rfl; omega, fun _ => ⟨a, rfl, fun j p hp => ?_⟩⟩, fun hw => ?_⟩
    · obtain ⟨c, hcl, hK, hat, _⟩ := hy j p hp
      exact ⟨c, hcl, hK, hat⟩
    · simp only [DataW.weights, ht, List.all_cons, List.all_append, Bool.and_eq_true, decide_eq_true_eq] at hw
      obtain ⟨hw0, hw1, _⟩ := hw
      refine ⟨?_, fun x hx => ?_⟩
      · rw [hB] at hw0
        have : ys.length * B ≤ (elems.length + rest.length) * B := Nat.mul_le_mul_right _ (by omega)
        have hr : reachBytes = 140737488351232 := rfl
        simp only [List.length_map] at hw0
        omega
      · obtain ⟨i, hi, rfl⟩ := List.getElem_of_mem hx
        obtain ⟨c, _, _, _, z, hz, hG⟩ := hy i _ (List.getElem?_eq_getElem hi)
        exact hG (weightsAll_mem hw1 (List.mem_map.2 ⟨z, List.mem_of_getElem? hz, rfl⟩))
def OpL {α : Type} (P : Program) (fs : List Field) (off : Nat) (k : Kd α) (G : α → Prop) : Prop :=
  ∀ (H : Type) (enc : TypeId × Value → H) (w : World) (base : Nat) (spare : Nat → Bool) (held : Bool) (n : Nat) (cs : List Value) (xs : List (DataW H × List MemPlace)),
    cs.length = off + k.sz → xs.length = fs.length → (∀ (i : Nat) (f : Field), fs[i]? = some f → DataW.trod enc P w base spare held n f.type ((cs.drop f.offset).take (P.cellsOf f.type)) = xs[i]?) →
    ∃ y, k.K w y (cs.drop off) ∧ ((DataW.weightsEach P (fs.map (·.type)) (xs.map (·.1))).all (· ≤ reachBytes) = true → G y)
theorem opL_one {α : Type} {P : Program} {f : Field} {off : Nat} {k : Kd α} {G : α → Prop} (ho : f.offset = off) (h : Opn P f.type k G) : OpL P [f] off k G := by
  intro H enc w base spare held n cs xs hl hx hf
  match xs, hx with
  | [x], _ =>
    have h0 := hf 0 f rfl
    rw [ho, h.1, List.take_of_length_le (by rw [List.length_drop]; omega)] at h0
    obtain ⟨y, hK, hG⟩ := h.2 H enc w base spare held n _ x h0
    exact ⟨y, hK, fun hw => hG (by simpa [DataW.weightsEach] using hw)⟩
theorem opL_cons {α β : Type} {P : Program} {f : Field} {fs : List Field} {off : Nat} {k : Kd α} {l : Kd β} {G : α → Prop} {G' : β → Prop} (ho : f.offset = off) (h : Opn P f.type k G) (hr : OpL P fs (off + k.sz) l G') :
    OpL P (f :: fs) off (Kd.pair k l) (fun x => G x.1 ∧ G' x.2) := by
  intro H enc w base spare held n cs xs hl hx hf
  match xs, hx with
  | x :: xs, hx =>
    have hs : (Kd.pair k l).sz = k.sz + l.sz := rfl
    have h0 := hf 0 f rfl
    rw [ho, h.1] at h0
    obtain ⟨y, hK, hG⟩ := h.2 H enc w base spare held n _ x h0
    obtain ⟨z, hK', hG'⟩ := hr H enc w base spare held n cs xs (by omega) (by simpa using hx) (fun i g hg => by simpa using hf (i + 1) g (by simpa using hg))
    refine ⟨(y, z), ⟨_, _, ?_, hK, hK'⟩, fun hw => ?_⟩
    · rw [← List.drop_drop, List.take_append_drop]
    · simp only [List.map_cons, DataW.weightsEach, List.all_append, Bool.and_eq_true] at hw
      exact ⟨hG hw.1, hG' hw.2⟩
theorem op_struct {α β : Type} {P : Program} {t : TypeId} {fs : Array Field} {k : Kd α} {G : α → Prop} (f : β → α) (b : α → β) (hb : ∀ x, f (b x) = x) (ht : P.underlying t = some (.struct fs)) (hc : P.cellsOf t = k.sz) (h : OpL P fs.toList 0 k G) :
    Opn P t (Kd.iso k f) (fun x => G (f x)) := by
  refine ⟨hc, fun H enc w base spare held n cs x hx => ?_⟩
  obtain ⟨xs, m, _, rfl, hl, hxl, hf⟩ := DataW.trod_struct ht hx
  obtain ⟨y, hK, hG⟩ := h H enc w base spare held m cs xs (by omega) (by simpa using hxl) (fun i g hg => hf i g (by simpa using hg))
  refine ⟨b y, ?_, fun hw => ?_⟩
  · show k.K w (f (b y)) cs
    rw [hb]; simpa using hK
  · show G (f (b y))
    rw [hb]
    refine hG ?_
    simpa [DataW.weights, ht] using hw
theorem weights_at {H : Type} {P : Program} {p : Nat → Bool} : ∀ {ts : List TypeId} {ds : List (DataW H)} {j : Nat} {t : TypeId} {d : DataW H}, (DataW.weightsEach P ts ds).all p = true → ts[j]? = some t → ds[j]? = some d → (d.weights P t).all p = true
  | t' :: ts, d' :: ds, 0, t, d, hw, ht, hd => by
    simp at ht hd; subst ht; subst hd
    rw [DataW.weightsEach, List.all_append, Bool.and_eq_true] at hw
    exact hw.1
  | t' :: ts, d' :: ds, j + 1, t, d, hw, ht, hd => by
    rw [DataW.weightsEach, List.all_append, Bool.and_eq_true] at hw
    exact weights_at hw.2 (by simpa using ht) (by simpa using hd)
  | [], _, _, _, _, _, ht, _ => by simp at ht
  | _ :: _, [], _, _, _, _, _, hd => by simp at hd
theorem Opn.arg {α : Type} {P : Program} {t : TypeId} {k : Kd α} {G : α → Prop} (h : Opn P t k G) {H : Type} {enc : TypeId × Value → H} {w : World} {base : Nat} {spare : Nat → Bool} {held : Bool} {v : Value} {d : DataW H} {ps : List MemPlace}
    {ts : List TypeId} {ds : List (DataW H)} {j : Nat} (hsz : (DataW.weightsEach P ts ds).all (· ≤ reachBytes) = true) (ht : ts[j]? = some t) (hd : ds[j]? = some d) (hx : DataW.Trod enc P w base spare held t v d ps) :
    ∃ y, k.K w y v.cells.toList ∧ G y := by
  obtain ⟨n, hn⟩ := hx
  obtain ⟨y, hK, hG⟩ := h.2 H enc w base spare held n _ _ hn
  exact ⟨y, hK, hG (weights_at hsz ht hd)⟩
end Go.Proofs.Ytkigiehkckjlhaa.Opens
