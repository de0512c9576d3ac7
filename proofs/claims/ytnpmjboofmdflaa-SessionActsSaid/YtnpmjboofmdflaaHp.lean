/- Heaps over lists, plain: rows in which no element is less than the one above it; what goes up, what goes down; which elements there are. -/
import Derived.RowKit
namespace Go.Proofs.Ytnpmjboofmdflaa.Hp
section
variable {α : Type} (lt : α → α → Bool) (d : α)

def sw (xs : List α) (i j : Nat) : List α := (xs.set i (xs.getD j d)).set j (xs.getD i d)
def up : Nat → List α → Nat → List α
  | 0, xs, _ => xs
  | n + 1, xs, i => if 0 < i ∧ lt (xs.getD i d) (xs.getD ((i - 1) / 2) d) = true then up n (sw d xs i ((i - 1) / 2)) ((i - 1) / 2) else xs
def b1 (xs : List α) (i : Nat) : Nat := if 2 * i + 1 < xs.length ∧ lt (xs.getD (2 * i + 1) d) (xs.getD i d) = true then 2 * i + 1 else i
def bst (xs : List α) (i : Nat) : Nat := if 2 * i + 2 < xs.length ∧ lt (xs.getD (2 * i + 2) d) (xs.getD (b1 lt d xs i) d) = true then 2 * i + 2 else b1 lt d xs i
def down : Nat → List α → Nat → List α
  | 0, xs, _ => xs
  | n + 1, xs, i => if bst lt d xs i = i then xs else down n (sw d xs i (bst lt d xs i)) (bst lt d xs i)
def put (xs : List α) (a : α) : List α := up lt d xs.length (xs ++ [a]) xs.length
def pop (xs : List α) : List α := down lt d xs.length ((xs.set 0 (xs.getD (xs.length - 1) d)).take (xs.length - 1)) 0
def Heap (xs : List α) : Prop := ∀ i, 0 < i → i < xs.length → lt (xs.getD i d) (xs.getD ((i - 1) / 2) d) = false

structure Ord : Prop where
  trans : ∀ a b c, lt a b = false → lt b c = false → lt a c = false
  asymm : ∀ a b, lt a b = true → lt b a = false

theorem sw_length (xs : List α) (i j : Nat) : (sw d xs i j).length = xs.length := by simp [sw]
variable {lt d}
theorem up_length : ∀ (n : Nat) (xs : List α) (i : Nat), (up lt d n xs i).length = xs.length
 | 0, _, _ => rfl
 | n + 1, xs, i => by
  unfold up
  split
  ·rw [up_length n, sw_length]
  ·rfl
theorem down_length : ∀ (n : Nat) (xs : List α) (i : Nat), (down lt d n xs i).length = xs.length
 | 0, _, _ => rfl
 | n + 1, xs, i => by
  unfold down
  split
  ·rfl
  ·rw [down_length n, sw_length]
theorem put_length (xs : List α) (a : α) : (put lt d xs a).length = xs.length + 1 := by simp [put, up_length]
theorem pop_length (xs : List α) : (pop lt d xs).length = xs.length - 1 := by simp [pop, down_length]

theorem bst_child (O : Ord lt) {xs : List α} {i b : Nat} (hb : bst lt d xs i = b) (hne : b ≠ i) :
  b < xs.length ∧ (b - 1) / 2 = i ∧ i < b ∧ lt (xs.getD b d) (xs.getD i d) = true ∧ ∀ j, 0 < j → j < xs.length → (j - 1) / 2 = i → lt (xs.getD j d) (xs.getD b d) = false := by
 have irr : ∀ a, lt a a = false := fun a => by
  cases h : lt a a with
  | false => rfl
  | true => have := O.asymm _ _ h; rw [h] at this; cases this
 unfold bst at hb
 split at hb
 ·rename_i hc
  subst hb
  obtain ⟨hl, hlt⟩ := hc
  have hlt2 : lt (xs.getD (2 * i + 2) d) (xs.getD i d) = true := by
   cases h : lt (xs.getD (2 * i + 2) d) (xs.getD i d) with
   | true => rfl
   | false =>
    unfold b1 at hlt
    split at hlt
    ·rename_i hc1
     have := O.trans _ _ _ h (O.asymm _ _ hc1.2)
     rw [this] at hlt
     cases hlt
    ·rw [h] at hlt; cases hlt
  refine ⟨hl, by omega, by omega, hlt2, fun j hj hjl hp => ?_⟩
  rcases (by omega : j = 2 * i + 1 ∨ j = 2 * i + 2) with rfl | rfl
  ·unfold b1 at hlt
   split at hlt
   ·exact O.asymm _ _ hlt
   ·rename_i hc1
    have h1 : lt (xs.getD (2 * i + 1) d) (xs.getD i d) = false := by
     cases h : lt (xs.getD (2 * i + 1) d) (xs.getD i d) with
     | false => rfl
     | true => exact absurd ⟨hjl, h⟩ hc1
    exact O.trans _ _ _ h1 (O.asymm _ _ hlt2)
  ·exact irr _
 ·rename_i hc
  unfold b1 at hb
  split at hb
  ·rename_i hc1
   subst hb
   refine ⟨hc1.1, by omega, by omega, hc1.2, fun j hj hjl hp => ?_⟩
   rcases (by omega : j = 2 * i + 1 ∨ j = 2 * i + 2) with rfl | rfl
   ·exact irr _
   ·have e : b1 lt d xs i = 2 * i + 1 := by unfold b1; rw [if_pos hc1]
    rw [e] at hc
    cases h : lt (xs.getD (2 * i + 2) d) (xs.getD (2 * i + 1) d) with
    | false => rfl
    | true => exact absurd ⟨hjl, h⟩ hc
  ·exact absurd hb.symm hne

/- which elements there are: how many of each kind p -/
theorem bst_lt {xs : List α} {i : Nat} (hi : i < xs.length) : bst lt d xs i < xs.length := by
 unfold bst
 split
 ·rename_i h; exact h.1
 ·unfold b1
  split
  ·rename_i h; exact h.1
  ·exact hi
end
end Go.Proofs.Ytnpmjboofmdflaa.Hp
