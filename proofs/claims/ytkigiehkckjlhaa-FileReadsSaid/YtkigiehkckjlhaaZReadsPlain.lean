/- Plain facts on 64-bit whole numbers, on functions of rounds and on loops that all texts of this seat use; no condition. -/
import Derived.Test.YtkigiehkckjlhaaZReadsWMore
import Derived.Test.YtkigiehkckjlhaaZReadsWWords
import GoSem.Claim
namespace Go.Proofs.Ytkigiehkckjlhaa.Plain
open Go Go.RowKit Go.Proofs.YtkigiehkckjlhaaW.PrintWords Go.Proofs.YtkigiehkckjlhaaW.PrintMore
theorem u64w (a : Int) : IntKind.u64.wrap a = a % 18446744073709551616 := by
  simp [IntKind.wrap, IntKind.bits, IntKind.signed]
theorem umod (a m : Int) (hm : 0 < m) (hm2 : m ≤ 4611686018427387904) : ∃ p, 0 ≤ p ∧ p < m ∧ wrap64 (Int.tmod (IntKind.u64.wrap a) m) = p := by
  rw [u64w]
  have h0 : 0 ≤ a % 18446744073709551616 := Int.emod_nonneg _ (by decide)
  rw [Int.tmod_eq_emod_of_nonneg h0]
  have h1 := Int.emod_nonneg (a % 18446744073709551616) (b := m) (by omega)
  have h2 := Int.emod_lt_of_pos (a % 18446744073709551616) hm
  refine ⟨_, h1, h2, ?_⟩
  generalize a % 18446744073709551616 % m = x at *
  unfold wrap64; omega
theorem w64 {a : Int} (h : -9223372036854775808 ≤ a) (h' : a ≤ 9223372036854775807) : wrap64 a = a := by unfold wrap64; omega
theorem tdiv16 {a : Int} (h : 0 ≤ a) : Int.tdiv a 16 = a / 16 := Int.tdiv_eq_ediv_of_nonneg h
theorem tmod16 {a : Int} (h : 0 ≤ a) : Int.tmod a 16 = a % 16 := Int.tmod_eq_emod_of_nonneg h
theorem mx_eq (a b : Int) : mx a b = if a < b then b else a := rfl
theorem Ev.one {α : Type} {g : Nat → Option α} {r s : α} (h : Ev g r) (k : Ev g s) : r = s := by
  obtain ⟨K, h⟩ := h
  obtain ⟨K', k⟩ := k
  have h1 := h (max K K') (by omega)
  have h2 := k (max K K') (by omega)
  rw [h1] at h2
  exact Option.some.inj h2
theorem Ev.const {α : Type} {g : Nat → Option α} {o : Option α} {r : α} (h : ∀ k, g k = o) (k : o = some r) : Ev g r := ⟨0, fun n _ => (h n).trans k⟩
def Tells (g : Nat → Option Bool) (P : Prop) : Prop := ∃ b, Ev g b ∧ (b = true ↔ P)
theorem Tells.yes {g : Nat → Option Bool} {P : Prop} (h : Tells g P) (p : P) : Ev g true := by
  obtain ⟨b, h1, h2⟩ := h; rw [h2.2 p] at h1; exact h1
theorem Tells.no {g : Nat → Option Bool} {P : Prop} (h : Tells g P) (p : ¬ P) : Ev g false := by
  obtain ⟨b, h1, h2⟩ := h
  cases b with
  | false => exact h1
  | true => exact absurd (h2.1 rfl) p
theorem Tells.of {g : Nat → Option Bool} {P : Prop} (h : P → Ev g true) (h' : ¬ P → Ev g false) : Tells g P := by
  by_cases p : P
  · exact ⟨true, h p, by simp [p]⟩
  · exact ⟨false, h' p, by simp [p]⟩
theorem Tells.iff {g : Nat → Option Bool} {P Q : Prop} (h : Tells g P) (e : P ↔ Q) : Tells g Q := by
  obtain ⟨b, h1, h2⟩ := h; exact ⟨b, h1, h2.trans e⟩
theorem Tells.one {g : Nat → Option Bool} {P : Prop} (h : Tells g P) {b : Bool} (k : Ev g b) : (b = true ↔ P) := by
  obtain ⟨c, h1, h2⟩ := h; rw [Ev.one k h1]; exact h2
theorem Tells.step {g f : Nat → Option Bool} {P : Prop} (h : ∀ k, g (k + 1) = f k) (k : Tells f P) : Tells g P := by
  obtain ⟨b, h1, h2⟩ := k; exact ⟨b, h1.step h, h2⟩
theorem Tells.congr {g f : Nat → Option Bool} {P : Prop} (h : ∀ k, g k = f k) (k : Tells f P) : Tells g P := by
  obtain ⟨b, h1, h2⟩ := k; exact ⟨b, h1.congr h, h2⟩
theorem Tells_scan {g : Nat → Int → Option Bool} (n : Nat) (P : Nat → Prop) (E : Prop)
    (hend : Tells (fun k => g k n) E)
    (hyes : ∀ i, i < n → P i → ∀ r, Ev (fun k => g k ((i : Int) + 1)) r → Ev (fun k => g k i) r)
    (hno : ∀ i, i < n → ¬ P i → Ev (fun k => g k i) false) :
    Tells (fun k => g k 0) ((∀ i, i < n → P i) ∧ E) := by
  have key : ∀ d, d ≤ n → Tells (fun k => g k ((n - d : Nat) : Int)) ((∀ i, n - d ≤ i → i < n → P i) ∧ E) := by
    intro d
    induction d with
    | zero => intro _; exact (by simpa using hend : Tells (fun k => g k ((n - 0 : Nat) : Int)) E).iff ⟨fun h => ⟨fun i h1 h2 => by omega, h⟩, fun h => h.2⟩
    | succ d ih =>
      intro hd
      have e2 : P (n - (d + 1)) → ((∀ i, n - d ≤ i → i < n → P i) ↔ (∀ i, n - (d + 1) ≤ i → i < n → P i)) := by
        intro hP
        constructor
        · intro h i h3 h4
          by_cases h5 : i = n - (d + 1)
          · rw [h5]; exact hP
          · exact h i (by omega) h4
        · intro h i h3 h4; exact h i (by omega) h4
      by_cases hP : P (n - (d + 1))
      · obtain ⟨b, h1, h2⟩ := ih (by omega)
        have e : ((n - (d + 1) : Nat) : Int) + 1 = ((n - d : Nat) : Int) := by omega
        exact ⟨b, hyes (n - (d + 1)) (by omega) hP b (by rw [e]; exact h1), h2.trans (by rw [e2 hP])⟩
      · exact ⟨false, hno _ (by omega) hP, by
          constructor
          · intro h; cases h
          · intro h; exact absurd (h.1 _ (Nat.le_refl _) (by omega)) hP⟩
  have h := key n (Nat.le_refl _)
  rw [Nat.sub_self] at h
  exact h.iff ⟨fun x => ⟨fun i hi => x.1 i (Nat.zero_le _) hi, x.2⟩, fun x => ⟨fun i _ hi => x.1 i hi, x.2⟩⟩
theorem Ev_fold {β σ : Type} {g : Nat → σ → Int → Option β} (n : Nat) (s : Nat → σ) (r : β)
    (hend : Ev (fun k => g k (s n) n) r)
    (hstep : ∀ i, i < n → ∀ r, Ev (fun k => g k (s (i + 1)) ((i : Int) + 1)) r → Ev (fun k => g k (s i) i) r) :
    Ev (fun k => g k (s 0) 0) r := by
  have key : ∀ d, d ≤ n → Ev (fun k => g k (s (n - d)) ((n - d : Nat) : Int)) r := by
    intro d
    induction d with
    | zero => intro _; simpa using hend
    | succ d ih =>
      intro hd
      have h1 := ih (by omega)
      refine hstep (n - (d + 1)) (by omega) r ?_
      have e : ((n - (d + 1) : Nat) : Int) + 1 = ((n - d : Nat) : Int) := by omega
      have e2 : n - (d + 1) + 1 = n - d := by omega
      rw [e, e2]; exact h1
  have h := key n (Nat.le_refl _)
  rw [Nat.sub_self] at h
  exact h
abbrev okc (c : Int) : Prop := (97 ≤ c ∧ c ≤ 122) ∨ (48 ≤ c ∧ c ≤ 57) ∨ c = 46 ∨ c = 95 ∨ c = 45
abbrev okS (s : ByteArray) : Prop := (1 ≤ s.size ∧ s.size ≤ 8 ∧ s.toList ≠ [46] ∧ s.toList ≠ [46, 46]) ∧ ∀ i, i < s.size → okc (bt s i)
end Go.Proofs.Ytkigiehkckjlhaa.Plain
