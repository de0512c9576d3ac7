/- All cells of a box, at once. -/
import Derived.Test.YtbhkopbalhhpgaaWMore
namespace Go.Proofs.Ytbhkopbalhhpgaa.Cb
open Go.RowKit Go.Proofs.YtbhkopbalhhpgaaW.PrintWords
theorem c2 {w : World} {g : Nat} {t : TypeId} {a0 a1 : Value} (h : w.heap[g]? = some (.cells #[a0, a1] t (0, 0))) : w.cell? ⟨g, 0, none⟩ = some a0 ∧ w.cell? ⟨g, 1, none⟩ = some a1 := ⟨(blk_cell h 0).trans rfl, (blk_cell h 1).trans rfl⟩
theorem f2 {w : World} {g : Nat} {t : TypeId} {c : Array Value} (h : w.heap[g]? = some (.cells c t (0, 0))) : w.frozen? ⟨g, 0, none⟩ = false ∧ w.frozen? ⟨g, 1, none⟩ = false := ⟨blk_frozen h 0, blk_frozen h 1⟩
theorem c3 {w : World} {g : Nat} {t : TypeId} {a0 a1 a2 : Value} (h : w.heap[g]? = some (.cells #[a0, a1, a2] t (0, 0))) : w.cell? ⟨g, 0, none⟩ = some a0 ∧ w.cell? ⟨g, 1, none⟩ = some a1 ∧ w.cell? ⟨g, 2, none⟩ = some a2 := ⟨(blk_cell h 0).trans rfl, (blk_cell h 1).trans rfl, (blk_cell h 2).trans rfl⟩
theorem f3 {w : World} {g : Nat} {t : TypeId} {c : Array Value} (h : w.heap[g]? = some (.cells c t (0, 0))) : w.frozen? ⟨g, 0, none⟩ = false ∧ w.frozen? ⟨g, 1, none⟩ = false ∧ w.frozen? ⟨g, 2, none⟩ = false := ⟨blk_frozen h 0, blk_frozen h 1, blk_frozen h 2⟩
theorem c4 {w : World} {g : Nat} {t : TypeId} {a0 a1 a2 a3 : Value} (h : w.heap[g]? = some (.cells #[a0, a1, a2, a3] t (0, 0))) : w.cell? ⟨g, 0, none⟩ = some a0 ∧ w.cell? ⟨g, 1, none⟩ = some a1 ∧ w.cell? ⟨g, 2, none⟩ = some a2 ∧ w.cell? ⟨g, 3, none⟩ = some a3 := ⟨(blk_cell h 0).trans rfl, (blk_cell h 1).trans rfl, (blk_cell h 2).trans rfl, (blk_cell h 3).trans rfl⟩
theorem f4 {w : World} {g : Nat} {t : TypeId} {c : Array Value} (h : w.heap[g]? = some (.cells c t (0, 0))) : w.frozen? ⟨g, 0, none⟩ = false ∧ w.frozen? ⟨g, 1, none⟩ = false ∧ w.frozen? ⟨g, 2, none⟩ = false ∧ w.frozen? ⟨g, 3, none⟩ = false := ⟨blk_frozen h 0, blk_frozen h 1, blk_frozen h 2, blk_frozen h 3⟩
theorem nb {w : World} {a g : Nat} {o : Obj} (hg : g = w.heap.size) (h : w.heap[a]? = some o) : Aside0 (a ≠ g) ∧ Aside0 (g ≠ a) := by
  subst hg
  exact ⟨⟨Nat.ne_of_lt (blk_lt h)⟩, ⟨Nat.ne_of_gt (blk_lt h)⟩⟩
theorem bx {g : Nat} {w W W' : World} (h : Below w.heap.size w W) (hg : g = W.heap.size) (hb : Below W.heap.size W W') : Aside0 (Below w.heap.size w W') ∧ Aside0 (w.heap.size ≤ g) := by
  subst hg
  exact ⟨⟨below_step h hb⟩, ⟨below_size h⟩⟩
end Go.Proofs.Ytbhkopbalhhpgaa.Cb
