/- Heaps over lists, plain: rows in which no element is less than the one above it; what goes up, what goes down; which elements there are. -/
import Derived.RowKit
namespace Go.Proofs.Ytnpmjboofmdflaa.Hp
section
variable {α : Type} (lt : α → α → Bool) (d : α)

def sw (xs : List α) (i j : Nat) : List α := (xs.set i (xs.getD j d)).set j (xs.getD i d)
def up : Nat → List α → Nat → List α
  | 0, xs, _ => xs
  | n + 1, xs, i => if 0 < i ∧ lt (xs.getD i d) (xs.getD ((i - 1) / 2) d) = true then up n (sw d xs i ((i - 1) / 2)) ((i - 1) / 2) else xs
def b1 (xs : List α) (i : Nat) : Nat := if 2 * i + 1 < xs.length ∧ lt (xs.getD (2 * i + 1) d) (xs.getD i d) = true then 2 * i + 1 else i
def bst (xs : List α) (i : Nat) : Nat := if 2 * i + 2 < xs.length ∧ lt (xs.getD (2 * i + 2) d) (xs.getD (b1 lt d xs i) d) = true then 2 * i + 2 else b1 lt d xs i
def down : Nat → List α → Nat → List α
  | 0, xs, _ => xs
  | n + 1, xs, i => if bst lt d xs i = i then xs else down n (sw d xs i (bst lt d xs i)) (bst lt d xs i)
def put (xs : List α) (a : α) : List α := up lt d xs.length (xs ++ [a]) xs.length
def pop (xs : List α) : List α := down lt d xs.length ((xs.set 0 (xs.getD (xs.length - 1) d)).take (xs.length - 1)) 0
def Heap (xs : List α) : Prop := ∀ i, 0 < i → i < xs.length → lt (xs.getD i d) (xs.getD ((i - 1) / 2) d) = false

structure Ord : Prop where
  trans : ∀ a b c, lt a b = false → lt b c = false → lt a c = false
  asymm : ∀ a b, lt a b = true → lt b a = false

theorem sw_length (xs : List α) (i j : Nat) : (sw d xs i j).length = xs.length := by simp [sw]
variable {lt d}
theorem up_length : ∀ (n : Nat) (xs : List α) (i : Nat), (up lt d n xs i).length = xs.length
  | 0, _, _ => rfl
  | n + 1, xs, i => by
    unfold up
    split
    · rw [up_length n, sw_length]
    · rfl
theorem put_length (xs : List α) (a : α) : (put lt d xs a).length = xs.length + 1 := by simp [put, up_length]
/- which elements there are: how many of each kind p -/
end
end Go.Proofs.Ytnpmjboofmdflaa.Hp
