/- What the law BatchDoes comes to: true, where the input is of the bulk that is asked. -/
import Derived.Test.YthcdlgphabaidaaGdBatchDoes
import Derived.Test.YthcdlgphabaidaaPBBm
namespace Go.Proofs.Ythcdlgphabaidaa.PB
open Go.RowKit Go.Proofs.YthcdlgphabaidaaW.PrintWords

theorem stanchionlaw07_BatchDoes.pure : stanchionlaw07_BatchDoes.Pure := by
  intro x0 hx0
  apply Ev.rounds
  unfold stanchionlaw07_BatchDoes.f
  have h0 := hx0.1.1.1
  have h1 := hx0.1.2.1
  have h2 := hx0.2.1.2.2.1
  have h3 := hx0.2.2.2.1.1
  have h4 := hx0.2.2.2.2.1
  have h5 := hx0.2.1.2.1
  have hw : ∀ x ∈ x0.f1.f2, x.f0.size < 4611686018427387904 := fun x hx => by
    have := (hx0.2.1.2.2.2 x hx).1
    omega
  have hl := doL_len x0.f0.f0 x0.f0.f1 x0.f1.f0 x0.f1.f1 x0.f1.f2
  refine Ev.bind shown_ev (Ev.bind (do_ev_s _ _ _ _ _ (by omega) (by omega) (by omega)) (Ev.bind (rdo_ev_s _ _ _ _ _ (by omega) (by omega) (by omega) hw (by omega)) (Ev.bind (rbsame_ev _ _ _ _ (by omega) (by omega)) ?_)))
  simp only [decided_eq _ _ _ (show x0.f0.f1.length < 4611686018427387904 by omega), Option.bind_some]
  refine Ev.bind (rdecided_ev _ _ _ (by omega)) ?_
  simp only [decP_self, Bool.and_self, if_pos, beq_self_eq_true]
  refine Ev.bind (bsame_ev _ _ _ _ (by omega) (by omega)) (Ev.bind (rbsame_ev _ _ _ _ (by omega) (by omega)) ?_)
  simp only [beq_self_eq_true, if_pos]
  exact Ev.bind (bsame_ev _ _ _ _ (by omega) (by omega)) (by simp only [decP_self, Bool.and_self]; exact Ev.now _)
end Go.Proofs.Ythcdlgphabaidaa.PB
