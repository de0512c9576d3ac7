/- What the law SessionStale comes to: true, whatever is handed in. -/
import Derived.Test.YtnpmjboofmdflaaGdSessionStale
import Derived.Test.YtnpmjboofmdflaaPBSa
namespace Go.Proofs.Ytnpmjboofmdflaa.PB
open Go.RowKit Go.Proofs.YtnpmjboofmdflaaW.PrintWords Go.Proofs.YtnpmjboofmdflaaW.PrintMore Go.Proofs.Ytnpmjboofmdflaa.Hp

theorem stanchionlaw17_SessionStale.pure : stanchionlaw17_SessionStale.Pure := by
  intro x0 x1 hx0 hx1
  have hr : Rng x0.f1 := fun y hy => wf64 (hx0.2.1.2 y hy).2.1
  apply Ev.rounds
  unfold stanchionlaw17_SessionStale.f
  refine Ev.bind shown17_ev (Ev.bind (judge_ev x0.f0 x0.f1 x0.f2 x0.f3 x0.f4 x1.f0 x1.f1 x1.f2 x1.f3 x1.f4 x1.f5.f0 x1.f5.f1 x1.f5.f2 x1.f5.f3 x1.f5.f4 x1.f5.f5 hr) ?_)
  simp only [find_eq, Option.bind_some]
  unfold judge
  by_cases he : x1.f1 = x0.f0
  · simp only [if_pos he]
    cases hf : fnd x0.f1 x1.f2 with
    | none => exact Ev.congr (f := fun _ => some true) (fun _ => by simp [tup]) (Ev.now _)
    | some x => exact Ev.congr (f := fun _ => some true) (fun _ => by simp [tup]) (Ev.now _)
  · simp only [if_neg he]
    exact Ev.congr (f := fun _ => some true) (fun _ => by simp) (Ev.now _)
end Go.Proofs.Ytnpmjboofmdflaa.PB
