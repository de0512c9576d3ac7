/- What the law TablePuts comes to: true, where the input is of the bulk that is asked. -/
import Derived.Test.YtdoamckcibcdcaaGdTablePuts
import Derived.Test.YtdoamckcibcdcaaTb3
namespace Go.Proofs.Ytdoamckcibcdcaa.PB
open Go.RowKit Go.Proofs.YtdoamckcibcdcaaW.PrintWords

theorem stanchionlaw05_TablePuts.pure : stanchionlaw05_TablePuts.Pure := by
  intro x0 hx0 hb
  apply Ev.rounds
  unfold stanchionlaw05_TablePuts.f
  have hl : x0.f0.length ≤ 1048576 ∧ x0.f3.length ≤ 1048576 := by
    have h1 := sum_len b59 (fun x => by unfold b59 b9; omega) x0.f0
    have h2 := sum_len b56 (fun x => by unfold b56 b9; omega) x0.f3
    unfold b49 b22 b47 at hb
    omega
  have hk : x0.f1.size < 4611686018427387904 := by have := hx0.2.1; unfold g9 at *; omega
  have hw : ∀ x ∈ x0.f3, x.f0.size < 4611686018427387904 := fun x hx => by have := (hx0.2.2.2.2 x hx).1; omega
  have l1 := put_len x0.f0 x0.f1 x0.f2
  have l2 := drop_len x0.f0 x0.f1
  have l3 := fold_len x0.f3 x0.f0
  simp only [put_eq x0.f0 x0.f1 x0.f2 (by omega), drop_eq x0.f0 x0.f1 (by omega), apply_eq x0.f0 x0.f3 (by omega), Option.bind_some]
  refine Ev.bind shown_ev (Ev.bind (rput_ev _ _ _ hk (by omega)) (Ev.bind (same_ev _ _ rfl (by omega)) (Ev.bind (rdrop_ev _ _ (by omega)) (Ev.bind (same_ev _ _ rfl (by omega)) ?_))))
  simp only [if_pos]
  exact Ev.bind (rapply_ev _ _ (by omega) hw) (Ev.bind (same_ev _ _ rfl (by omega)) (Ev.now _))
end Go.Proofs.Ytdoamckcibcdcaa.PB
