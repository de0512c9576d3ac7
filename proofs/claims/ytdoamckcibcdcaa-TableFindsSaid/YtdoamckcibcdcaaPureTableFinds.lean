/- What the law TableFinds comes to: true, whatever is handed in. -/
import Derived.Test.YtdoamckcibcdcaaGdTableFinds
import Derived.Test.YtdoamckcibcdcaaTb2
namespace Go.Proofs.Ytdoamckcibcdcaa.PB
open Go.RowKit Go.Proofs.YtdoamckcibcdcaaW.PrintWords

theorem stanchionlaw05_TableFinds.pure : stanchionlaw05_TableFinds.Pure := by
  intro x0 hx0
  apply Ev.rounds
  unfold stanchionlaw05_TableFinds.f
  have hlen : x0.f0.length < 4398046511000 := by have := hx0.1.1; omega
  have hb : ∀ x ∈ x0.f0, x.f0.size < 4611686018427387904 := fun x hx => by have := (hx0.1.2 x hx).1; omega
  have hk : x0.f1.size < 4611686018427387904 := by have := hx0.2.1; unfold g9 at *; omega
  simp only [find_eq x0.f0 x0.f1 (by omega), Option.bind_some]
  have hr := range_ev x0.f0 x0.f2 x0.f3 x0.f4 (by omega)
  have hl : ((x0.f0.filter (betw x0.f2 x0.f3)).take x0.f4.toNat).length ≤ x0.f0.length := by
    rw [List.length_take]
    have := List.length_filter_le (betw x0.f2 x0.f3) x0.f0
    omega
  refine Ev.bind shown_ev (Ev.bind (rfind_ev x0.f0 x0.f1 (by omega)) (Ev.bind hr (Ev.bind (rrange_ev x0.f0 x0.f2 x0.f3 x0.f4 (by omega) hb) (Ev.bind (same_ev _ _ rfl (by omega)) ?_))))
  simp only [if_pos, beq_self_eq_true]
  refine Ev.bind (tright_ev x0.f0 (by omega)) (Ev.bind (right_ev x0.f0 (by omega) hb) ?_)
  simp only [beq_self_eq_true, if_pos]
  have hbt := between_eq ⟨x0.f1, x0.f1⟩ x0.f2 x0.f3
  simp only at hbt
  simp only [hbt, Option.bind_some]
  refine Ev.bind (rbetween_ev ⟨x0.f1, x0.f1⟩ x0.f2 x0.f3 hk) ?_
  simp only [beq_self_eq_true]
  exact Ev.now _
end Go.Proofs.Ytdoamckcibcdcaa.PB
