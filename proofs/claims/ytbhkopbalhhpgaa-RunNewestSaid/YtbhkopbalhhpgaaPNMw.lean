/- What run.Merge hands back: its keys rise, none twice; each is the last one of its key; each key is there. -/
import Derived.Test.YtbhkopbalhhpgaaPNx6
import Derived.Test.YtbhkopbalhhpgaaPNTa
namespace Go.Proofs.Ytbhkopbalhhpgaa.PN
open Go.RowKit Go.Proofs.YtbhkopbalhhpgaaW.PrintWords
set_option linter.unusedVariables false
set_option linter.unusedSimpArgs false

def mgL (all : List S57) : List S57 := (lasts all).mergeSort leW
theorem mgL_mem (all : List S57) (x : S57) : x ∈ mgL all ↔ lastW all x.f0.toList = some x := by
  rw [← mem_lasts]
  exact (List.mergeSort_perm _ _).mem_iff
theorem mgL_strict (all : List S57) : (mgL all).Pairwise (fun x y => ltS x.f0 y.f0 = true) := by
  have h1 : (mgL all).Pairwise (fun x y => leW x y = true) := List.pairwise_mergeSort leW_trans leW_total _
  have h2 : ((mgL all).map fun x => x.f0.toList).Nodup := ((List.mergeSort_perm (lasts all) leW).map _).nodup_iff.2 (nodup_lasts all)
  have h3 : (mgL all).Pairwise (fun x y => x.f0.toList ≠ y.f0.toList) := List.Pairwise.of_map _ (fun a b h => h) h2
  refine (h1.and h3).imp (fun {x y} h => ?_)
  cases hq : ltS x.f0 y.f0 with
  | true => rfl
  | false =>
    exfalso
    have h4 := h.1
    unfold leW at h4
    exact h.2 (bl_total _ _ hq (by simpa using h4))
theorem mgL_key (all : List S57) (y : S57) (h : y ∈ all) : ∃ x ∈ mgL all, x.f0.toList = y.f0.toList := by
  cases hq : lastW all y.f0.toList with
  | none => exact absurd rfl ((lastW_none all _).1 hq y h)
  | some x =>
    have hk := (lastW_key all _ x hq).1
    exact ⟨x, (mgL_mem all x).2 (by rw [hk]; exact hq), hk⟩
theorem mgL_len (all : List S57) : (mgL all).length ≤ all.length := by
  unfold mgL
  rw [List.length_mergeSort]
  induction all with
  | nil => exact Nat.le_refl _
  | cons x xs ih =>
    simp only [lasts]
    split
    · exact Nat.le_succ_of_le ih
    · exact Nat.succ_le_succ ih
theorem merge_eq (l0 l1 : List S57) (hl : l0.length + l1.length ≤ 1000000) (hb : ∀ x ∈ l0 ++ l1, x.f0.size ≤ 9223372036854775807) : run_Merge.f l0 l1 = some (mgL (l0 ++ l1)) := by
  unfold run_Merge.f
  rw [if_pos hl, if_pos (List.all_eq_true.2 (fun x hx => decide_eq_true (hb x hx)))]
  rfl
theorem rdW_get (xs : List S57) (i : Nat) (h : i < xs.length) : rd_T57 xs (i : Int) = xs[i] := by simp [rd_T57, List.getD_eq_getElem?_getD, h]
theorem mshown_ev : Ev (fun k => stanchionlaw06_shown.f k) true := Ev.of stanchionlaw06_shown.mono (k := 100) (by decide +kernel)
end Go.Proofs.Ytbhkopbalhhpgaa.PN
