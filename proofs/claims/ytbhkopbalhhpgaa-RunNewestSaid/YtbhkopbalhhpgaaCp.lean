/- 'copy' between rows of elements of several cells, as a run; the words that a walk takes it by. -/
import Derived.Laws.CopyRow
import Derived.Laws.CopyOwn
import Derived.Deep.RegionLaw
import Derived.Test.YtbhkopbalhhpgaaWWords
namespace Go.Proofs.Ytbhkopbalhhpgaa.Cp
open Go.RowKit Go.Proofs.YtbhkopbalhhpgaaW.PrintWords
variable {P : Program}

theorem cell_of_blk {w : World} {g : Nat} {cur : Array Value} {t : TypeId} (hg : w.heap[g]? = some (.cells cur t (0, 0))) (j : Nat) : w.cell? ⟨g, j, none⟩ = cur[j]? := by simp [World.cell?, hg]
theorem zero_size (z : Array Value) (k : Nat) : (Builtin.zeroCells z k).size = k * z.size := by
  simp [Builtin.zeroCells]

end Go.Proofs.Ytbhkopbalhhpgaa.Cp
