/- A row that rises is told by what is found in it; what writes make of nothing is told by the last write of each key. -/
import Derived.Test.YtbhkopbalhhpgaaPMMw
namespace Go.Proofs.Ytbhkopbalhhpgaa.PM
open Go.RowKit Go.Proofs.YtbhkopbalhhpgaaW.PrintWords
set_option linter.unusedVariables false
set_option linter.unusedSimpArgs false

theorem find_foldW (key : ByteArray) : ∀ (ws : List S57) (l : List S62), findL (ws.foldl stepW l) key = match lastW ws key.toList with
    | some x => if x.f2 = true then ((⟨#[]⟩ : ByteArray), false) else (x.f1, true)
    | none => findL l key
  | [], l => rfl
  | x :: ws, l => by
    rw [List.foldl_cons, find_foldW key ws (stepW l x)]
    simp only [lastW]
    cases lastW ws key.toList with
    | some y => rfl
    | none =>
      simp only
      unfold stepW
      by_cases h : x.f0.toList = key.toList
      · rw [if_pos h]
        have hk := str_ext h
        by_cases h2 : x.f2 = true
        · rw [if_pos h2, hk, find_drop_own]
          simp only [h2, if_pos]
        · have h3 : x.f2 = false := by simpa using h2
          rw [if_neg h2, hk, find_put_own]
          simp only [h3, if_neg (show ¬ (false = true) by decide)]
      · have hne : x.f0 ≠ key := fun e => h (by rw [e])
        rw [if_neg h]
        by_cases h2 : x.f2 = true
        · rw [if_pos h2]; exact find_drop _ _ hne _
        · rw [if_neg h2]; exact find_put _ _ _ _ hne
theorem findL_mem {a : List S62} (ha : Srt a) {y : S62} (hy : y ∈ a) : findL a y.f0 = (y.f1, true) := by
  obtain ⟨A, C, rfl⟩ := List.append_of_mem hy
  refine findL_hit A y C _ (fun z hz => ?_) ((eqK_iff _ _).2 rfl)
  have hlt : ltS z.f0 y.f0 = true := (List.pairwise_append.1 ha).2.2 z hz y (List.mem_cons_self ..)
  cases hq : eqK62 y.f0 z with
  | false => rfl
  | true =>
    rw [(eqK_iff _ _).1 hq, ltS_irrefl] at hlt
    cases hlt
theorem findL_of {b : List S62} {k v : ByteArray} (h : findL b k = (v, true)) : ∃ y ∈ b, y.f0 = k ∧ y.f1 = v := by
  unfold findL at h
  cases hq : b.find? (eqK62 k) with
  | none => rw [hq] at h; simp at h
  | some y =>
    rw [hq] at h
    refine ⟨y, List.mem_of_find?_eq_some hq, (eqK_iff _ _).1 (List.find?_some hq), ?_⟩
    exact congrArg Prod.fst h
theorem srt_sub {a b : List S62} (ha : Srt a) (h : ∀ key, findL a key = findL b key) (y : S62) (hy : y ∈ a) : y ∈ b := by
  obtain ⟨z, hz, e0, e1⟩ := findL_of ((h y.f0).symm.trans (findL_mem ha hy))
  obtain ⟨z0, z1⟩ := z
  obtain ⟨y0, y1⟩ := y
  simp only at e0 e1
  subst e0
  subst e1
  exact hz
theorem srt_ext {a b : List S62} (ha : Srt a) (hb : Srt b) (h : ∀ key, findL a key = findL b key) : a = b := by
  have nd : ∀ l : List S62, Srt l → l.Nodup := fun l hl => List.Pairwise.imp (fun {x y} hxy e => by rw [e, ltS_irrefl] at hxy; cases hxy) hl
  have hp : a.Perm b := (List.perm_ext_iff_of_nodup (nd _ ha) (nd _ hb)).2 (fun y => ⟨srt_sub ha h y, srt_sub hb (fun k => (h k).symm) y⟩)
  refine List.Perm.eq_of_pairwise (le := fun (x y : S62) => ltS x.f0 y.f0 = true) (fun x y _ _ h1 h2 => ?_) ha hb hp
  rw [ltS_asymm h1] at h2
  cases h2
theorem srt_nil : Srt ([] : List S62) := List.Pairwise.nil
theorem fold_merge (all : List S57) : (mgL all).foldl stepW ([] : List S62) = all.foldl stepW [] :=
  srt_ext (srt_fold _ _ srt_nil) (srt_fold _ _ srt_nil) (fun key => by rw [find_foldW, find_foldW, mgL_last])
theorem run_fold_eq (l : List S57) (hl : l.length ≤ 1000000) : run_Fold.f l = some (l.foldl stepW ([] : List S62)) := by
  unfold run_Fold.f
  rw [apply_eq [] l (by rw [List.length_nil]; omega), Option.bind_some]
end Go.Proofs.Ytbhkopbalhhpgaa.PM
