/- What the law RunBack comes to: true, where the input is of the bulk that is asked. -/
import Derived.Test.YtbhkopbalhhpgaaGdRunBack
import Derived.Test.YtbhkopbalhhpgaaPBRb
namespace Go.Proofs.Ytbhkopbalhhpgaa.PB
open Go.RowKit Go.Proofs.YtbhkopbalhhpgaaW.PrintWords
set_option linter.unusedVariables false
set_option linter.unusedSimpArgs false

theorem rowsR_small : ∀ l : List S62, (rowsR l).length ≤ 21 * (l.map b62).sum
  | [] => Nat.zero_le _
  | x :: r => by
    have h1 := rowsR_small r
    have h2 := encR_len x
    rw [rowsR_cons, List.length_append, List.map_cons, List.sum_cons]
    simp only [b62, b9]
    omega
theorem stanchionlaw06_RunBack.pure : stanchionlaw06_RunBack.Pure := by
  intro x0 x1 hx0 hx1 hb
  apply Ev.rounds
  unfold stanchionlaw06_RunBack.f
  have h0 := hx0.1
  have hk : ∀ x ∈ x0, x.f0.size < 4611686018427387904 ∧ x.f1.size < 4611686018427387904 := fun x hx => by
    have := hx0.2 x hx
    have h2 := this.1; have h3 := this.2
    omega
  have hbody : (bodyR x0).length ≤ 1073741824 := by
    have h1 := rowsR_small x0
    have h2 := numL_len x0.length
    simp only [b22] at hb
    unfold bodyR
    rw [List.length_append]
    omega
  refine Ev.bind rshown_ev (Ev.bind (bytesR_ev x0 (by omega) (by omega) hk) ?_)
  by_cases hm : mayR x0 = true
  · obtain ⟨ho, hbk⟩ := takeQ_back hm hbody
    have hlen : (sealL (mkB (bodyR x0))).length ≤ 1073741866 := by
      have t1 := textL_len (mkB (bodyR x0)); have t2 := numL_len (sv (mkB (bodyR x0)))
      rw [mkB_size] at t1
      unfold sealL
      rw [List.length_append]
      omega
    obtain ⟨L, hL⟩ : ∃ L, L = sealL (mkB (bodyR x0)) := ⟨_, rfl⟩
    rw [← hL] at ho hbk hlen ⊢
    simp only [if_pos hm, if_pos]
    refine Ev.bind (takeQ_ev L (by omega)) ?_
    rw [hbk]
    refine Ev.bind (sameR_ev x0 (by omega)) ?_
    simp only [if_pos]
    by_cases c1 : x1 < 0
    · refine Ev.step (f := fun k => some true) (fun k => ?_) (Ev.now _)
      simp only [stanchionlaw06_RunBack.j0]
      rw [if_neg (by decide), if_pos c1]
    · by_cases c2 : x1 ≥ (L.length : Int)
      · refine Ev.step (f := fun k => some true) (fun k => ?_) (Ev.now _)
        simp only [stanchionlaw06_RunBack.j0]
        rw [if_neg (by decide), if_neg c1, mkB_size, if_pos c2]
      · have r3 := takeQ_part ho x1.toNat (by omega)
        refine Ev.step (f := fun k => (run_Take.f k (mkB (L.take x1.toNat))).bind fun bt167 => (if true = true then (some (bt167.2 == 3)) else (some false))) (fun k => ?_) (Ev.bind (takeQ_ev _ (by rw [List.length_take]; omega)) ?_)
        · simp only [stanchionlaw06_RunBack.j0]
          rw [if_neg (by decide), if_neg c1, mkB_size, if_neg c2, if_pos (by omega), if_pos (by omega), mk_take]
        · simp only [if_pos, r3]
          exact Ev.now _
  · simp only [if_neg hm]
    simp only [if_neg (show ¬ ((1 : Int) = 0) by decide)]
    exact Ev.now _
end Go.Proofs.Ytbhkopbalhhpgaa.PB
