/- What run.Merge hands back: its keys rise, none twice; each is the last one of its key; each key is there. -/
import Derived.Test.YtbhkopbalhhpgaaPMx8
import Derived.Test.YtbhkopbalhhpgaaPMTa
namespace Go.Proofs.Ytbhkopbalhhpgaa.PM
open Go.RowKit Go.Proofs.YtbhkopbalhhpgaaW.PrintWords
set_option linter.unusedVariables false
set_option linter.unusedSimpArgs false

def mgL (all : List S57) : List S57 := (lasts all).mergeSort leW
theorem mgL_len (all : List S57) : (mgL all).length ≤ all.length := by
  unfold mgL
  rw [List.length_mergeSort]
  induction all with
  | nil => exact Nat.le_refl _
  | cons x xs ih =>
    simp only [lasts]
    split
    · exact Nat.le_succ_of_le ih
    · exact Nat.succ_le_succ ih
theorem merge_eq (l0 l1 : List S57) (hl : l0.length + l1.length ≤ 1000000) (hb : ∀ x ∈ l0 ++ l1, x.f0.size ≤ 9223372036854775807) : run_Merge.f l0 l1 = some (mgL (l0 ++ l1)) := by
  unfold run_Merge.f
  rw [if_pos hl, if_pos (List.all_eq_true.2 (fun x hx => decide_eq_true (hb x hx)))]
  rfl
theorem rdW_get (xs : List S57) (i : Nat) (h : i < xs.length) : rd_T57 xs (i : Int) = xs[i] := by simp [rd_T57, List.getD_eq_getElem?_getD, h]
theorem mshown_ev : Ev (fun k => stanchionlaw06_shown.f k) true := Ev.of stanchionlaw06_shown.mono (k := 100) (by decide +kernel)
end Go.Proofs.Ytbhkopbalhhpgaa.PM
