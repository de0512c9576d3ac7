/- What the law TableTwice comes to: true, whatever is handed in. -/
import Derived.Test.YtdoamckcibcdcaaGdTableTwice
import Derived.Test.YtdoamckcibcdcaaTb
namespace Go.Proofs.Ytdoamckcibcdcaa.PB
open Go.RowKit Go.Proofs.YtdoamckcibcdcaaW.PrintWords

theorem stanchionlaw05_TableTwice.pure : stanchionlaw05_TableTwice.Pure := by
  intro x0 hx0
  apply Ev.rounds
  unfold stanchionlaw05_TableTwice.f
  have hlen : x0.f0.length < 4398046511000 := by have := hx0.1.1; omega
  have l1 := put_len x0.f0 x0.f1 x0.f2
  have l2 := put_len x0.f0 x0.f1 x0.f3
  simp only [put_eq x0.f0 _ _ (by omega : x0.f0.length < 4398046511104), put_eq (putL59 x0.f0 x0.f1 x0.f2) _ _ (by omega), find_eq x0.f0 x0.f1 (by omega), Option.bind_some]
  refine Ev.bind shown_ev (Ev.bind (same_ev _ _ (put_again x0.f0 x0.f1 x0.f2 x0.f3) (by omega)) ?_)
  simp only [if_pos]
  rcases ix_split (eqK59 x0.f1) x0.f0 with h | ⟨A, x, C, hl, hA, hx⟩
  · rw [findL_miss _ _ h]
    exact Ev.now _
  · have e : findL x0.f0 x0.f1 = (x.f1, true) := by rw [hl]; exact findL_hit A x C x0.f1 hA hx
    rw [e]
    have e2 : putL59 x0.f0 x0.f1 x.f1 = x0.f0 := by
      have hk := (eqK_iff _ _).1 hx
      rw [hl]
      unfold putL59
      rw [ix_hit _ _ _ _ hA hx, if_pos (by omega), ← hk]
      simp
    simp only [if_pos]
    exact Ev.bind (same_ev _ _ e2 (by omega)) (Ev.now _)
end Go.Proofs.Ytdoamckcibcdcaa.PB
