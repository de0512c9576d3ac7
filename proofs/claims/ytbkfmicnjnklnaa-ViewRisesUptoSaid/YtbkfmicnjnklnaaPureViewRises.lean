/- What the law ViewRises comes to: true, whatever is handed in. -/
import Derived.Test.YtbkfmicnjnklnaaGdViewRises
import Derived.Test.YtbkfmicnjnklnaaPCTv
namespace Go.Proofs.Ytbkfmicnjnklnaa.PC
open Go.RowKit Go.Proofs.YtbkfmicnjnklnaaW.PrintWords

theorem sumW_bulk : ∀ l : List S33, sumW l ≤ (l.map b33).sum
  | [] => Nat.le_refl _
  | x :: l => by
    have := sumW_bulk l
    rw [sumW_cons, List.map_cons, List.sum_cons]
    simp only [wt, b33, b9, b4]
    omega
theorem stanchionlaw12_ViewRises.pure : stanchionlaw12_ViewRises.Pure := by
  intro x0 x1 hx0 hx1 hb
  apply Ev.rounds
  unfold stanchionlaw12_ViewRises.f
  have h0 : x0.length < 3518437208000 := by
    have := sum_len b33 (fun x => by unfold b33 b9; omega) x0
    simp only [b22] at hb
    omega
  have hs : sumW x0 ≤ 1048576 := by
    have := sumW_bulk x0
    simp only [b22] at hb
    omega
  have hx : x1.f0.size + x1.f1.size ≤ 1048576 := by
    simp only [b33, b9, b4] at hb
    omega
  have hl := set_len x0 ⟨x1.f0, x1.f1, x1.f2⟩
  have hw := sumW_set x0 ⟨x1.f0, x1.f1, x1.f2⟩
  have hwt : wt (⟨x1.f0, x1.f1, x1.f2⟩ : S33) = x1.f0.size + x1.f1.size := rfl
  refine Ev.bind vshown_ev (Ev.bind (vrises_ev x0 (by omega)) ?_)
  cases hr : risesW x0 with
  | false => exact Ev.now _
  | true =>
    simp only [if_pos, set_eq _ _ _ _ h0, Option.bind_some]
    have hr2 : risesW (setL33 x0 ⟨x1.f0, x1.f1, x1.f2⟩) = true := (risesW_srt _).2 (srtW_set _ ((risesW_srt _).1 hr))
    refine Ev.bind (vrises_ev _ (by omega)) ?_
    rw [hr2]
    simp only [if_pos]
    have fin : Ev (fun k => (view_Size.f k (setL33 x0 ⟨x1.f0, x1.f1, x1.f2⟩)).bind fun t => (view_Size.f k x0).bind fun u => some (decide (t ≤ wrap64 (wrap64 (u + (x1.f0.size : Int)) + (x1.f1.size : Int))))) true := by
      refine Ev.bind (vsize_ev _ (by omega) (by omega)) (Ev.bind (vsize_ev _ (by omega) (by omega)) ?_)
      have : decide (((sumW (setL33 x0 ⟨x1.f0, x1.f1, x1.f2⟩) : Nat) : Int) ≤ wrap64 (wrap64 (((sumW x0 : Nat) : Int) + (x1.f0.size : Int)) + (x1.f1.size : Int))) = true := by
        rw [decide_eq_true_iff]
        unfold wrap64
        omega
      rw [this]
      exact Ev.now _
    rcases hl with hl | hl
    · have e1 : ((setL33 x0 ⟨x1.f0, x1.f1, x1.f2⟩).length : Int) = (x0.length : Int) := by omega
      simp only [if_pos e1]
      exact fin
    · have e1 : ¬ ((setL33 x0 ⟨x1.f0, x1.f1, x1.f2⟩).length : Int) = (x0.length : Int) := by omega
      have e2 : ((setL33 x0 ⟨x1.f0, x1.f1, x1.f2⟩).length : Int) = wrap64 ((x0.length : Int) + 1) := by unfold wrap64; omega
      simp only [if_neg e1, if_pos e2]
      exact fin
end Go.Proofs.Ytbkfmicnjnklnaa.PC
