/- What the law AuditSteps comes to: true, whatever is handed in. -/
import Derived.Test.YtlacmlceedkfoaaGdAuditSteps
import Derived.Test.YtlacmlceedkfoaaPBTy
namespace Go.Proofs.Ytlacmlceedkfoaa.PB
open Go.RowKit Go.Proofs.YtlacmlceedkfoaaW.PrintWords

theorem stanchionlaw19_AuditSteps.pure : stanchionlaw19_AuditSteps.Pure := by
  intro x0 hx0 hb
  apply Ev.rounds
  unfold stanchionlaw19_AuditSteps.f stanchionlaw19_shown.f
  obtain ⟨w, base, s, l⟩ := x0
  obtain ⟨hgw, hgb, hgs, hgl⟩ := hx0
  simp only at hgw hgb hgs hgl
  have h0 : w.length + base.length + l.length ≤ 1048576 := by
    have h1 := sum_len b61 (fun x => by unfold b61 b9; omega) w
    have h2 := sum_len b59 (fun x => by unfold b59 b9; omega) base
    have h3 := sum_len b27 (fun x => by unfold b27 b9; omega) l
    simp only [b30, b22, b23, b28] at hb
    omega
  have hk : s.f0.f1.size < 4611686018427387904 := by have := hgs.1.2.1; omega
  have hws : ∀ x ∈ w, x.f0.size < 4611686018427387904 := fun x hx => by have := (hgw.2 x hx).1; omega
  have hbs : ∀ x ∈ base, x.f0.size < 4611686018427387904 := fun x hx => by have := (hgb.2 x hx).1; omega
  have hls : ∀ x ∈ l, x.f0.f1.size < 4611686018427387904 := fun x hx => by have := (hgl.2 x hx).1.2.1; omega
  have hl1 := stepA_len w base s
  have hl2 := oneA_len base l []
  rw [List.length_nil] at hl2
  simp only [Option.bind_some]
  refine Ev.bind (step_ev w base s (by omega) (by omega)) (Ev.bind (rstep_ev w base s (by omega) (by omega) hk hbs hws) (Ev.bind (one_ev base l (by omega) (by omega)) (Ev.bind (rone_ev base l (by omega) (by omega) hbs hls) (Ev.bind (writes_ev _ _ rfl (by omega)) ?_))))
  simp only [if_pos]
  refine Ev.bind (writes_ev _ _ rfl (by omega)) ?_
  simp only [if_pos, beq_self_eq_true]
  exact Ev.now _
end Go.Proofs.Ytlacmlceedkfoaa.PB
