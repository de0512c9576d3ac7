/- 'copy' between rows of elements of several cells, as a run; the words that a walk takes it by. -/
import Derived.Laws.CopyRow
import Derived.Laws.CopyOwn
import Derived.Deep.RegionLaw
import Derived.Test.YtnpmjboofmdflaaWWords
namespace Go.Proofs.Ytnpmjboofmdflaa.Cp
open Go.RowKit Go.Proofs.YtnpmjboofmdflaaW.PrintWords
variable {P : Program}

theorem zero_size (z : Array Value) (k : Nat) : (Builtin.zeroCells z k).size = k * z.size := by
 simp [Builtin.zeroCells]

theorem zero_one (z : Array Value) (n : Nat) (h : ∀ v ∈ z.toList, v.oneCell' = true) (h0 : 0 < z.size) : ∀ v ∈ (Builtin.zeroCells z n).toList, v.oneCell' = true := by
 intro v hv
 unfold Builtin.zeroCells at hv
 rw [Array.toList_map, List.mem_map] at hv
 obtain ⟨i, _, rfl⟩ := hv
 have hl : i % z.size < z.size := Nat.mod_lt _ h0
 refine h _ ?_
 simp [hl]
/-- 'clear' of a run of elements of several cells. -/
theorem run_clear_rowK (w : World) (t e ty : TypeId) (Z : Value) (ht : P.underlying t = some (.slice e)) (hv : ∀ w, (zeroValue e).run P w = .ok Z w) (k : Nat) (hk : Z.cells.size = k) (hk0 : 0 < k) (h1 : ∀ v ∈ Z.cells.toList, v.oneCell' = true)
  (g o n c : Nat) (cur : Array Value) (t' : TypeId) (hg : w.heap[g]? = some (.cells cur t' (0, 0))) (hn : 0 < n) (hfit : o + n * k ≤ cur.size) :
  (Builtin.clear_ #[t] ty #[.slice (some ⟨g, o, none⟩) n c]).run P w = .ok (.tuple #[]) (w.setRow g (cur.toList.take o ++ (Builtin.zeroCells Z.cells n).toList ++ cur.toList.drop (o + (Builtin.zeroCells Z.cells n).toList.length)).toArray) := by
 have hz : (Builtin.zeroCells Z.cells n).toList.length = n * k := by rw [Array.length_toList, zero_size, hk]
 have hst := run_storeCells_at P g o t' (Builtin.zeroCells Z.cells n).toList 0 cur w hg (by rw [hz]; simpa using hfit) (zero_one _ _ h1 (by omega))
 simp only [Nat.add_zero] at hst
 obtain ⟨m, rfl⟩ : ∃ m, n = m + 1 := ⟨n - 1, by omega⟩
 simp [Builtin.clear_, run_underlying ht, hv, hst]
end Go.Proofs.Ytnpmjboofmdflaa.Cp
