/- What the law ViewSets comes to: true, whatever is handed in. -/
import Derived.Test.YtbkfmicnjnklnaaGdViewSets
import Derived.Test.YtbkfmicnjnklnaaPBTw
namespace Go.Proofs.Ytbkfmicnjnklnaa.PB
open Go.RowKit Go.Proofs.YtbkfmicnjnklnaaW.PrintWords

theorem sumW_bulk' : ∀ l : List S33, sumW l ≤ (l.map b33).sum
  | [] => Nat.le_refl _
  | x :: l => by
    have := sumW_bulk' l
    rw [sumW_cons, List.map_cons, List.sum_cons]
    simp only [wt, b33, b9, b4]
    omega
theorem stanchionlaw12_ViewSets.pure : stanchionlaw12_ViewSets.Pure := by
  intro x0 x1 hx0 hx1 hb
  apply Ev.rounds
  unfold stanchionlaw12_ViewSets.f
  have h0 : x0.length < 3518437207000 := by
    have := sum_len b33 (fun x => by unfold b33 b9; omega) x0
    simp only [b22] at hb
    omega
  have hs : sumW x0 ≤ 1048576 := by
    have := sumW_bulk' x0
    simp only [b22] at hb
    omega
  have hk : x1.f0.size < 4611686018427387904 := by have := hx1.1; omega
  have hw : ∀ x ∈ x0, x.f0.size < 4611686018427387904 := fun x hx => by have := (hx0.2 x hx).1; omega
  have l1 := set_len x0 ⟨x1.f0, x1.f1, x1.f2⟩
  refine Ev.bind vshown_ev ?_
  simp only [set_eq x0 _ _ _ (show x0.length < 3518437208000 by omega), Option.bind_some, List.length_nil, Nat.zero_add, if_pos (show x0.length < 3518437208883 by omega), List.nil_append, if_pos]
  refine Ev.bind (rset_ev x0 ⟨x1.f0, x1.f1, x1.f2⟩ hk (by omega)) (Ev.bind (writes_ev _ _ rfl (by omega)) (Ev.bind (writes_ev _ _ rfl (by omega)) ?_))
  simp only [if_pos]
  refine Ev.bind (vsize_ev x0 (by omega) (by omega)) (Ev.bind (rsize_ev x0 (by omega) (by omega)) ?_)
  simp only [if_pos]
  refine Ev.bind (vrises_ev x0 (by omega)) (Ev.bind (rrises_ev x0 (by omega) hw) ?_)
  simp only [beq_self_eq_true]
  exact Ev.now _
end Go.Proofs.Ytbkfmicnjnklnaa.PB
