/- Rows of the call's own whose elements hold no row: their cells are a plain list. -/
import Derived.Test.YtnpmjboofmdflaaWWords
namespace Go.Proofs.Ytnpmjboofmdflaa.Cp
open Go.RowKit Go.Proofs.YtnpmjboofmdflaaW.PrintWords
section
variable {α : Type} {d : Kd α} (f : α → List Value)

theorem reps_flat {R : α → List Value → Prop} {k : Nat} (hR : ∀ x cs, R x cs → cs = f x) (xs : List α) : ∀ cs : List Value, Reps R k xs cs → cs = xs.flatMap f := by
 induction xs with
 | nil => intro cs h; have := h.1; simp at this; simp [this]
 | cons x xs ih =>
  intro cs h
  have h0 := hR _ _ (h.2 0 x rfl)
  rw [Nat.zero_mul, List.drop_zero] at h0
  have h1 : Reps R k xs (cs.drop k) := ⟨by rw [List.length_drop, h.1, List.length_cons, Nat.succ_mul]; omega, fun j p hj => by
   have := h.2 (j + 1) p (by simpa using hj)
   rw [Nat.succ_mul, Nat.add_comm] at this
   rw [List.drop_drop]
   exact this⟩
  rw [List.flatMap_cons, ← ih _ h1, ← h0, List.take_append_drop]
theorem flat_reps {R : α → List Value → Prop} {k : Nat} (hR : ∀ x, R x (f x)) (hl : ∀ x, (f x).length = k) (xs : List α) : Reps R k xs (xs.flatMap f) := by
 induction xs with
 | nil => exact Reps.none _ _
 | cons x xs ih =>
  rw [List.flatMap_cons]
  refine ⟨by rw [List.length_append, hl, ih.1, List.length_cons, Nat.succ_mul, Nat.add_comm], fun j q hq => ?_⟩
  cases j with
  | zero =>
   simp only [List.getElem?_cons_zero, Option.some.injEq] at hq
   subst hq
   rw [Nat.zero_mul, List.drop_zero, List.take_append_of_le_length (by rw [hl]; exact Nat.le_refl _), List.take_of_length_le (by rw [hl]; exact Nat.le_refl _)]
   exact hR _
  | succ j =>
   simp only [List.getElem?_cons_succ] at hq
   have h1 := ih.2 j q hq
   rw [Nat.succ_mul, List.drop_append, List.drop_of_length_le (by rw [hl]; exact Nat.le_add_left _ _), List.nil_append, hl, Nat.add_sub_cancel]
   exact h1
theorem flat_len {k : Nat} (hl : ∀ x, (f x).length = k) (xs : List α) : (xs.flatMap f).length = xs.length * k := (flat_reps (R := fun _ _ => True) f (fun _ => trivial) hl xs).1
theorem flat_take {k : Nat} (hl : ∀ x, (f x).length = k) : ∀ (xs : List α) (i : Nat), (xs.flatMap f).take (i * k) = (xs.take i).flatMap f := by
 intro xs
 induction xs with
 | nil => intro i; simp
 | cons x xs ih =>
  intro i
  cases i with
  | zero => simp
  | succ i =>
   rw [List.flatMap_cons, List.take_succ_cons, List.flatMap_cons, ← ih i, List.take_append, hl, Nat.succ_mul, Nat.add_sub_cancel, List.take_of_length_le (by rw [hl]; exact Nat.le_add_left _ _)]
theorem R_flat {e : Nat} {w : World} {base : Nat} {ok : Nat → Prop} {v : Value} {xs : List α} (hM : ∀ {ok} x cs, d.M w base ok x cs → cs = f x) (h : d.R e w base ok v xs) :
  (∀ k, v.ownBlock = some k → ok k) ∧ w.ownsRow base e d.sz v xs.length (xs.flatMap f) := by
 obtain ⟨h0, inner, ho, hr⟩ := h
 have := reps_flat f hM xs inner hr
 subst this
 exact ⟨h0, ho⟩
theorem flat_R {e : Nat} {w : World} {base : Nat} {ok : Nat → Prop} {v : Value} {xs : List α} (hM : ∀ {ok} x, d.M w base ok x (f x)) (hl : ∀ x, (f x).length = d.sz) (h0 : ∀ k, v.ownBlock = some k → ok k) (h : w.ownsRow base e d.sz v xs.length (xs.flatMap f)) :
  d.R e w base ok v xs := ⟨h0, _, h, flat_reps f (fun x => hM x) hl xs⟩
end
end Go.Proofs.Ytnpmjboofmdflaa.Cp
