/- Rows of the call's own whose elements hold no row: their cells are a plain list. -/
import Derived.Test.YtnpmjboofmdflaaWWords
namespace Go.Proofs.Ytnpmjboofmdflaa.Cp
open Go.RowKit Go.Proofs.YtnpmjboofmdflaaW.PrintWords
section
variable {α : Type} {d : Kd α} (f : α → List Value)

theorem reps_flat {R : α → List Value → Prop} {k : Nat} (hR : ∀ x cs, R x cs → cs = f x) (xs : List α) : ∀ cs : List Value, Reps R k xs cs → cs = xs.flatMap f := by
  induction xs with
  | nil => intro cs h; have := h.1; simp at this; simp [this]
  | cons x xs ih =>
    intro cs h
    have h0 := hR _ _ (h.2 0 x rfl)
    rw [Nat.zero_mul, List.drop_zero] at h0
    have h1 : Reps R k xs (cs.drop k) := ⟨by rw [List.length_drop, h.1, List.length_cons, Nat.succ_mul]; omega, fun j p hj => by
      have := h.2 (j + 1) p (by simpa using hj)
      rw [Nat.succ_mul, Nat.add_comm] at this
      rw [List.drop_drop]
      exact this⟩
    rw [List.flatMap_cons, ← ih _ h1, ← h0, List.take_append_drop]
theorem R_flat {e : Nat} {w : World} {base : Nat} {ok : Nat → Prop} {v : Value} {xs : List α} (hM : ∀ {ok} x cs, d.M w base ok x cs → cs = f x) (h : d.R e w base ok v xs) :
    (∀ k, v.ownBlock = some k → ok k) ∧ w.ownsRow base e d.sz v xs.length (xs.flatMap f) := by
  obtain ⟨h0, inner, ho, hr⟩ := h
  have := reps_flat f hM xs inner hr
  subst this
  exact ⟨h0, ho⟩
end
end Go.Proofs.Ytnpmjboofmdflaa.Cp
