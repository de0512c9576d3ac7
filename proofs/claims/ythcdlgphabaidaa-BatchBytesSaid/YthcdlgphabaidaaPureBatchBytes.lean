/- What the law BatchBytes comes to: true, where the input is of the bulk that is asked. -/
import Derived.Test.YthcdlgphabaidaaGdBatchBytes
import Derived.Test.YthcdlgphabaidaaPRBw
namespace Go.Proofs.Ythcdlgphabaidaa.PR
open Go.RowKit Go.Proofs.YthcdlgphabaidaaW.PrintWords
set_option linter.unusedVariables false

theorem stanchionlaw07_BatchBytes.pure : stanchionlaw07_BatchBytes.Pure := by
  intro x0 x1 hx0 hx1
  apply Ev.rounds
  unfold stanchionlaw07_BatchBytes.f
  have h0 := hx0.2.2.1
  have h9 : x1.size ≤ 140737488351232 := hx1
  have hz := str_len x1
  have hk : ∀ x ∈ x0.f2, x.f0.size < 4611686018427387904 ∧ x.f1.size < 4611686018427387904 := fun x hx => by
    have := hx0.2.2.2 x hx
    have h2 := this.1; have h3 := this.2.1
    omega
  have e1 := take_ev x1.toList (by omega)
  have e2 := rtake_ev x1.toList (by omega)
  rw [mkB_self] at e1 e2
  have hl := takeR_len x1.toList
  refine Ev.bind shown_ev (Ev.bind (bytes_ev _ _ _ (by omega) hk) (Ev.bind (rbytes_ev _ _ _ (by omega) hk) (Ev.bind e1 (Ev.bind e2 (Ev.bind (same_batch _ _ _ (by omega)) ?_)))))
  simp only [if_pos]
  refine Ev.bind (may_ev _ _ _ (by omega)) (Ev.bind (rmay_ev _ _ _ (by omega) (fun x hx => (hk x hx).1)) ?_)
  rw [beq_self_eq_true]
  exact Ev.now _
end Go.Proofs.Ythcdlgphabaidaa.PR
