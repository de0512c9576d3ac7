/- What the law ViewOwn comes to: true, whatever is handed in. -/
import Derived.Test.YtbkfmicnjnklnaaGdViewOwn
import Derived.Test.YtbkfmicnjnklnaaPCTv
namespace Go.Proofs.Ytbkfmicnjnklnaa.PC
open Go.RowKit Go.Proofs.YtbkfmicnjnklnaaW.PrintWords

theorem stanchionlaw12_ViewOwn.pure : stanchionlaw12_ViewOwn.Pure := by
  intro x0 hx0
  apply Ev.rounds
  unfold stanchionlaw12_ViewOwn.f
  have h0 : x0.f0.length < 3518437208880 := by have := hx0.1.1; omega
  have h1 : x0.f1.length < 4611686018427387904 := by have := hx0.2.1.1; omega
  refine Ev.bind vshown_ev ?_
  simp only [set_eq _ _ _ _ h0, Option.bind_some, get_eq _ _ _ h1]
  have own : getL (setL33 x0.f0 ⟨x0.f2.f0, x0.f2.f1, x0.f2.f2⟩) x0.f1 x0.f2.f0 = if x0.f2.f2 = true then (⟨#[]⟩, false) else (x0.f2.f1, true) := get_set_own x0.f0 ⟨x0.f2.f0, x0.f2.f1, x0.f2.f2⟩ x0.f1
  rw [own]
  by_cases e : x0.f3.toList = x0.f2.f0.toList
  · cases x0.f2.f2 <;> simp [e] <;> exact Ev.now _
  · have ne : x0.f2.f0 ≠ x0.f3 := fun h => e (by rw [h])
    rw [get_set x0.f0 ⟨x0.f2.f0, x0.f2.f1, x0.f2.f2⟩ x0.f1 x0.f3 ne]
    cases x0.f2.f2 <;> simp [e] <;> exact Ev.now _
end Go.Proofs.Ytbkfmicnjnklnaa.PC
