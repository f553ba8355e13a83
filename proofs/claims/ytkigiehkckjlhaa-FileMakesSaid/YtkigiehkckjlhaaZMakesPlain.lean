/- Plain facts on 64-bit whole numbers, on functions of rounds and on loops that all texts of this seat use; no condition. -/
import Derived.Test.YtkigiehkckjlhaaZMakesWMore
import Derived.Test.YtkigiehkckjlhaaZMakesWWords
import GoSem.Claim
namespace Go.Proofs.Ytkigiehkckjlhaa.Plain
open Go Go.RowKit Go.Proofs.YtkigiehkckjlhaaW.PrintWords Go.Proofs.YtkigiehkckjlhaaW.PrintMore
theorem wf64 {a : Int} (h : (Lit.int .i64 a).wf = true) : -9223372036854775808 ≤ a ∧ a ≤ 9223372036854775807 := by
  simp [Lit.wf, IntKind.min, IntKind.max, IntKind.signed, IntKind.bits] at h
  omega
theorem w64 {a : Int} (h : -9223372036854775808 ≤ a) (h' : a ≤ 9223372036854775807) : wrap64 a = a := by unfold wrap64; omega
/-- Two answers of one function are one. -/
theorem Ev.one {α : Type} {g : Nat → Option α} {r s : α} (h : Ev g r) (k : Ev g s) : r = s := by
  obtain ⟨K, h⟩ := h
  obtain ⟨K', k⟩ := k
  have h1 := h (max K K') (by omega)
  have h2 := k (max K K') (by omega)
  rw [h1] at h2
  exact Option.some.inj h2
theorem Ev.const {α : Type} {g : Nat → Option α} {o : Option α} {r : α} (h : ∀ k, g k = o) (k : o = some r) : Ev g r := ⟨0, fun n _ => (h n).trans k⟩
/-- A function of rounds tells, with enough of them, whether P holds. -/
def Tells (g : Nat → Option Bool) (P : Prop) : Prop := ∃ b, Ev g b ∧ (b = true ↔ P)
theorem Tells.no {g : Nat → Option Bool} {P : Prop} (h : Tells g P) (p : ¬ P) : Ev g false := by
  obtain ⟨b, h1, h2⟩ := h
  cases b with
  | false => exact h1
  | true => exact absurd (h2.1 rfl) p
theorem Tells.of {g : Nat → Option Bool} {P : Prop} (h : P → Ev g true) (h' : ¬ P → Ev g false) : Tells g P := by
  by_cases p : P
  · exact ⟨true, h p, by simp [p]⟩
  · exact ⟨false, h' p, by simp [p]⟩
theorem Tells.one {g : Nat → Option Bool} {P : Prop} (h : Tells g P) {b : Bool} (k : Ev g b) : (b = true ↔ P) := by
  obtain ⟨c, h1, h2⟩ := h; rw [Ev.one k h1]; exact h2
theorem Tells.step {g f : Nat → Option Bool} {P : Prop} (h : ∀ k, g (k + 1) = f k) (k : Tells f P) : Tells g P := by
  obtain ⟨b, h1, h2⟩ := k; exact ⟨b, h1.step h, h2⟩
theorem Tells.congr {g f : Nat → Option Bool} {P : Prop} (h : ∀ k, g k = f k) (k : Tells f P) : Tells g P := by
  obtain ⟨b, h1, h2⟩ := k; exact ⟨b, h1.congr h, h2⟩
/-- A loop that carries a value over n places. -/
theorem Ev_fold {β σ : Type} {g : Nat → σ → Int → Option β} (n : Nat) (s : Nat → σ) (r : β)
    (hend : Ev (fun k => g k (s n) n) r)
    (hstep : ∀ i, i < n → ∀ r, Ev (fun k => g k (s (i + 1)) ((i : Int) + 1)) r → Ev (fun k => g k (s i) i) r) :
    Ev (fun k => g k (s 0) 0) r := by
  have key : ∀ d, d ≤ n → Ev (fun k => g k (s (n - d)) ((n - d : Nat) : Int)) r := by
    intro d
    induction d with
    | zero => intro _; simpa using hend
    | succ d ih =>
      intro hd
      have h1 := ih (by omega)
      refine hstep (n - (d + 1)) (by omega) r ?_
      have e : ((n - (d + 1) : Nat) : Int) + 1 = ((n - d : Nat) : Int) := by omega
      have e2 : n - (d + 1) + 1 = n - d := by omega
      rw [e, e2]; exact h1
  have h := key n (Nat.le_refl _)
  rw [Nat.sub_self] at h
  exact h
end Go.Proofs.Ytkigiehkckjlhaa.Plain
