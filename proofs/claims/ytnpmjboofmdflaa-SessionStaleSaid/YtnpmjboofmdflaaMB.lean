/- Which rows are heaps: the reference's word; what Due and Drop of the program come to. -/
import Derived.Test.YtnpmjboofmdflaaMA
namespace Go.Proofs.Ytnpmjboofmdflaa.PB
open Go.RowKit Go.Proofs.YtnpmjboofmdflaaW.PrintWords Go.Proofs.Ytnpmjboofmdflaa.Hp

def Ev2 (g : Nat → Option Bool) (p : Prop) : Prop := ∃ b, Ev g b ∧ (b = true ↔ p)
theorem Ev2.step {g f : Nat → Option Bool} {p : Prop} (h : ∀ k, g (k + 1) = f k) (e : Ev2 f p) : Ev2 g p := by
  obtain ⟨b, h1, h2⟩ := e
  exact ⟨b, Ev.step h h1, h2⟩
theorem Ev2.congr {g f : Nat → Option Bool} {p : Prop} (h : ∀ k, g k = f k) (e : Ev2 f p) : Ev2 g p := by
  obtain ⟨b, h1, h2⟩ := e
  exact ⟨b, Ev.congr h h1, h2⟩
theorem Ev2.no {p : Prop} (h : ¬ p) : Ev2 (fun _ => some false) p := ⟨false, Ev.now _, by simp [h]⟩
theorem Ev2.true {g : Nat → Option Bool} {p : Prop} (e : Ev2 g p) (h : p) : Ev g true := by
  obtain ⟨b, h1, h2⟩ := e
  have := h2.2 h
  subst this
  exact h1
/- Due: the heap as it is behind all that are due, and their numbers, in order -/
def due : Nat → List S85 → Int → List S85
  | 0, xs, _ => xs
  | n + 1, xs, t => if 0 < xs.length ∧ (xs.getD 0 z85).f0 ≤ t then due n (pop lt z85 xs) t else xs
/- Drop -/
end Go.Proofs.Ytnpmjboofmdflaa.PB
