/- What the law ViewTwice comes to: true, whatever is handed in. -/
import Derived.Test.YtbkfmicnjnklnaaGdViewTwice
import Derived.Test.YtbkfmicnjnklnaaPBTw
namespace Go.Proofs.Ytbkfmicnjnklnaa.PB
open Go.RowKit Go.Proofs.YtbkfmicnjnklnaaW.PrintWords

theorem stanchionlaw12_ViewTwice.pure : stanchionlaw12_ViewTwice.Pure := by
  intro x0 x1 x2 hx0 hx1 hx2
  apply Ev.rounds
  unfold stanchionlaw12_ViewTwice.f
  have h0 : x0.length < 3518437208870 := by have := hx0.1; omega
  have l1 := set_len x0 ⟨x2.f0, x1.f1, x1.f2⟩
  have l2 := set_len x0 ⟨x2.f0, x2.f1, x2.f2⟩
  refine Ev.bind vshown_ev ?_
  simp only [if_pos, set_eq x0 _ _ _ (show x0.length < 3518437208880 by omega), Option.bind_some]
  simp only [set_eq (setL33 x0 ⟨x2.f0, x1.f1, x1.f2⟩) _ _ _ (by omega), Option.bind_some]
  exact Ev.bind (writes_ev _ _ (set_again x0 ⟨x2.f0, x1.f1, x1.f2⟩ ⟨x2.f0, x2.f1, x2.f2⟩ rfl) (by omega)) (Ev.now _)
end Go.Proofs.Ytbkfmicnjnklnaa.PB
