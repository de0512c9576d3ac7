/- What the law RunMerges comes to: true, whatever is handed in. -/
import Derived.Test.YtbhkopbalhhpgaaGdRunMerges
import Derived.Test.YtbhkopbalhhpgaaPMMr
namespace Go.Proofs.Ytbhkopbalhhpgaa.PM
open Go.RowKit Go.Proofs.YtbhkopbalhhpgaaW.PrintWords
set_option linter.unusedVariables false
set_option linter.unusedSimpArgs false

theorem rfold_ev (l : List S57) (hl : l.length ≤ 1000000) (hb : ∀ x ∈ l, x.f0.size < 4611686018427387904) : Ev (fun k => stanchionref06_Fold.f k l) (l.foldl stepW ([] : List S62)) := by
  unfold stanchionref06_Fold.f
  exact Ev.bind (rapply_ev [] l (by rw [List.length_nil]; omega) hb) (Ev.now _)
theorem stanchionlaw06_RunMerges.pure : stanchionlaw06_RunMerges.Pure := by
  intro x0 x1 hx0 hx1
  apply Ev.rounds
  unfold stanchionlaw06_RunMerges.f
  refine Ev.bind mshown_ev ?_
  have big : ∀ b : Bool, (b = true ∨ x0.length + x1.length ≤ 1000000) → Ev (fun k => stanchionlaw06_RunMerges.j0 k x0 x1 true b) true := by
    intro b hb
    cases b with
    | true =>
      refine Ev.step (f := fun k => some true) (fun k => ?_) (Ev.now _)
      simp only [stanchionlaw06_RunMerges.j0]
      rw [if_pos trivial]
    | false =>
      have hn : x0.length + x1.length ≤ 1000000 := by
        rcases hb with h | h
        · cases h
        · exact h
      have hz : ∀ x ∈ x0 ++ x1, x.f0.size < 4611686018427387904 := fun x hx => by
        rcases List.mem_append.1 hx with h | h
        · have := (hx0.2 x h).1; omega
        · have := (hx1.2 x h).1; omega
      have hz0 : ∀ x ∈ x0, x.f0.size < 4611686018427387904 := fun x hx => hz x (List.mem_append_left _ hx)
      have hlen := mgL_len (x0 ++ x1)
      rw [List.length_append] at hlen
      have hf0 := fold_len x0 ([] : List S62)
      rw [List.length_nil] at hf0
      refine Ev.step (f := fun k => (stanchionref06_Merge.f k x0 x1).bind fun t276 => ((stanchionref05_Writes.f k (mgL (x0 ++ x1)) t276).bind fun t279 => (if true = true then (if t279 = true then ((stanchionref06_Fold.f k x0).bind fun t283 => ((stanchionref05_Same.f k (x0.foldl stepW ([] : List S62)) t283).bind fun t286 => (some t286))) else (some false)) else (some false)))) (fun k => ?_) ?_
      · simp only [stanchionlaw06_RunMerges.j0]
        rw [if_neg (by decide), merge_eq x0 x1 hn (fun x hx => by have := hz x hx; omega), Option.bind_some, run_fold_eq _ (by omega)]
        rfl
      · refine Ev.bind (rmerge_ev x0 x1 hn hz) (Ev.bind (writes_ev _ (by omega)) ?_)
        simp only [if_pos]
        exact Ev.bind (rfold_ev x0 (by omega) hz0) (Ev.bind (same_ev _ _ rfl (by omega)) (Ev.now _))
  by_cases c : (x0.length : Int) > 500
  · simp only [if_pos c]
    exact big true (.inl rfl)
  · simp only [if_neg c]
    by_cases c2 : (x1.length : Int) > 500
    · rw [decide_eq_true c2]
      exact big true (.inl rfl)
    · rw [decide_eq_false c2]
      exact big false (.inr (by omega))
end Go.Proofs.Ytbhkopbalhhpgaa.PM
