/- What the law BatchPairs comes to: true, where the input is of the bulk that is asked. -/
import Derived.Test.YthcdlgphabaidaaGdBatchPairs
import Derived.Test.YthcdlgphabaidaaPBBp
namespace Go.Proofs.Ythcdlgphabaidaa.PB
open Go.RowKit Go.Proofs.YthcdlgphabaidaaW.PrintWords

theorem stanchionlaw07_BatchPairs.pure : stanchionlaw07_BatchPairs.Pure := by
  intro x0 x1 hx0 hx1 hb
  apply Ev.rounds
  unfold stanchionlaw07_BatchPairs.f
  have h0 := sum_len b68 (fun x => by unfold b68 b9; omega) x0.f0
  have h1 := sum_len b68 (fun x => by unfold b68 b9; omega) x0.f1
  have h2 := sum_len b68 (fun x => by unfold b68 b9; omega) x1
  unfold b24 b22 at hb
  have hk0 : ∀ x ∈ x0.f0, x.f0.size < 4611686018427387904 := fun x hx => by have := (hx0.1.2 x hx).1; omega
  have hk1 : ∀ x ∈ x0.f1, x.f0.size < 4611686018427387904 := fun x hx => by have := (hx0.2.2 x hx).1; omega
  have hl := back_len x1 [] []
  simp only [List.length_nil] at hl
  refine Ev.bind shown_ev (Ev.bind (pairs_ev _ _ (by omega) hk0 hk1) (Ev.bind (rpairs_ev _ _ (by omega) hk0 hk1) (Ev.bind (same_ev _ _ rfl (by unfold pairsL; rw [List.length_append, List.length_map, List.length_map]; omega)) (Ev.bind (back_ev _ (by omega)) (Ev.bind (rback_ev _ (by omega)) (Ev.bind (rsame7_ev _ _ (by omega) (by omega)) ?_))))))
  simp only [if_pos, beq_self_eq_true]
  exact Ev.now _
end Go.Proofs.Ythcdlgphabaidaa.PB
