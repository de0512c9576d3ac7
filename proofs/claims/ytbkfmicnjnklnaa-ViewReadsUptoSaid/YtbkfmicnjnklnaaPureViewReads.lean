/- What the law ViewReads comes to: true, whatever is handed in. -/
import Derived.Test.YtbkfmicnjnklnaaGdViewReads
import Derived.Test.YtbkfmicnjnklnaaPBTw
namespace Go.Proofs.Ytbkfmicnjnklnaa.PB
open Go.RowKit Go.Proofs.YtbkfmicnjnklnaaW.PrintWords

theorem stanchionlaw12_ViewReads.pure : stanchionlaw12_ViewReads.Pure := by
  intro x0 hx0 hb
  apply Ev.rounds
  unfold stanchionlaw12_ViewReads.f
  have h0 : x0.f0.length ≤ 1048576 := by
    have := sum_len b33 (fun x => by unfold b33 b9; omega) x0.f0
    simp only [b25, b22] at hb
    omega
  have h1 : x0.f1.length ≤ 1048576 := by
    have := sum_len b43 (fun x => by unfold b43 b9; omega) x0.f1
    simp only [b25, b23] at hb
    omega
  have hw : ∀ x ∈ x0.f0, x.f0.size < 4611686018427387904 := fun x hx => by have := (hx0.1.2 x hx).1; omega
  have hp : ∀ x ∈ x0.f1, x.f0.size < 4611686018427387904 := fun x hx => by have := (hx0.2.1.2 x hx).1; omega
  have hl := scan_len x0.f0 x0.f1 x0.f3 x0.f4 x0.f5
  refine Ev.bind vshown_ev ?_
  simp only [get_eq x0.f0 x0.f1 x0.f2 (show x0.f1.length < 4611686018427387904 by omega), Option.bind_some]
  refine Ev.bind (rget_ev x0.f0 x0.f1 x0.f2 (by omega) (by omega)) ?_
  refine Ev.bind (scan_ev x0.f0 x0.f1 x0.f3 x0.f4 x0.f5 (by omega)) (Ev.bind (rscan_ev x0.f0 x0.f1 x0.f3 x0.f4 x0.f5 (by omega) hp hw) (Ev.bind (same_ev _ _ rfl (by omega)) ?_))
  simp only [if_pos, beq_self_eq_true]
  exact Ev.now _
end Go.Proofs.Ytbkfmicnjnklnaa.PB
