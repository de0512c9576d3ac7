/- What the law RunFolds comes to: true, whatever is handed in. -/
import Derived.Test.YtbhkopbalhhpgaaGdRunFolds
import Derived.Test.YtbhkopbalhhpgaaPMMf
import Derived.Test.YtbhkopbalhhpgaaPMTr
namespace Go.Proofs.Ytbhkopbalhhpgaa.PM
open Go.RowKit Go.Proofs.YtbhkopbalhhpgaaW.PrintWords
set_option linter.unusedVariables false
set_option linter.unusedSimpArgs false

theorem stanchionlaw06_RunFolds.pure : stanchionlaw06_RunFolds.Pure := by
  intro x0 x1 hx0 hx1
  apply Ev.rounds
  unfold stanchionlaw06_RunFolds.f
  refine Ev.bind mshown_ev ?_
  have big : ∀ b : Bool, (b = true ∨ x0.length + x1.length ≤ 1000000) → Ev (fun k => stanchionlaw06_RunFolds.j0 k x0 x1 true b) true := by
    intro b hb
    cases b with
    | true =>
      refine Ev.step (f := fun k => some true) (fun k => ?_) (Ev.now _)
      simp only [stanchionlaw06_RunFolds.j0]
      rw [if_pos trivial]
    | false =>
      have hn : x0.length + x1.length ≤ 1000000 := by
        rcases hb with h | h
        · cases h
        · exact h
      have hz : ∀ x ∈ x0 ++ x1, x.f0.size ≤ 9223372036854775807 := fun x hx => by
        rcases List.mem_append.1 hx with h | h
        · have := (hx0.2 x h).1; omega
        · have := (hx1.2 x h).1; omega
      have hlen := mgL_len (x0 ++ x1)
      rw [List.length_append] at hlen
      have hf0 := fold_len x0 ([] : List S62)
      have hf1 := fold_len (x0 ++ x1) ([] : List S62)
      rw [List.length_append] at hf1
      rw [List.length_nil] at hf0 hf1
      refine Ev.step (f := fun k => (stanchionref05_Apply.f k (x0.foldl stepW ([] : List S62)) x1).bind fun t297 => (if true = true then ((stanchionref05_Same.f k ((x0 ++ x1).foldl stepW ([] : List S62)) t297).bind fun t300 => (some t300)) else (some false))) (fun k => ?_) ?_
      · simp only [stanchionlaw06_RunFolds.j0]
        rw [if_neg (by decide), merge_eq x0 x1 hn hz, Option.bind_some, run_fold_eq _ (by omega), Option.bind_some, run_fold_eq _ (by omega), Option.bind_some, fold_merge]
      · refine Ev.bind (rapply_ev _ _ (by omega) (fun x hx => by have := (hx1.2 x hx).1; omega)) ?_
        simp only [if_pos]
        exact Ev.bind (same_ev _ _ (by rw [List.foldl_append]) (by rw [← List.foldl_append]; omega)) (Ev.now _)
  by_cases c : (x0.length : Int) > 500
  · simp only [if_pos c]
    exact big true (.inl rfl)
  · simp only [if_neg c]
    by_cases c2 : (x1.length : Int) > 500
    · rw [decide_eq_true c2]
      exact big true (.inl rfl)
    · rw [decide_eq_false c2]
      exact big false (.inr (by omega))
end Go.Proofs.Ytbhkopbalhhpgaa.PM
