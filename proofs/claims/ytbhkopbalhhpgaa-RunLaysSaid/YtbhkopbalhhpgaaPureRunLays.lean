/- What the law RunLays comes to: true, whatever is handed in. -/
import Derived.Test.YtbhkopbalhhpgaaGdRunLays
import Derived.Test.YtbhkopbalhhpgaaPYDz
namespace Go.Proofs.Ytbhkopbalhhpgaa.PY
open Go.RowKit Go.Proofs.YtbhkopbalhhpgaaW.PrintWords
set_option linter.unusedVariables false
set_option linter.unusedSimpArgs false

theorem stanchionlaw06_RunLays.pure : stanchionlaw06_RunLays.Pure := by
 intro x0 x1 x2 hx0 hx1 hx2
 apply Ev.rounds
 unfold stanchionlaw06_RunLays.f
 have hl : x0.f0.length < 2932031007401 := by have := hx0.1.1; omega
 have hb : Bd x0.f0 := fun y hy => by have := hx0.1.2 y hy; have h1 := this.2.1; have h2 := this.2.2; omega
 have hs : x2.size ≤ 1125899906842624 := by have := hx2; unfold g9 at this; omega
 have hn : x1.size ≤ 4611686018427387904 := by have := hx1; unfold g9 at this; omega
 obtain ⟨q, p1, p2, p3⟩ := lay_both x0.f0 x0.f1 x0.f2 x0.f3 x1 x2 hl hb hs hn
 obtain ⟨z, t1, t2, t3⟩ := load_both x0.f0 x0.f1 x0.f2 x0.f3 x1 (by omega) hb
 refine Ev.bind rshown_ev (Ev.bind p1 (Ev.bind p2 (Ev.bind t1 (Ev.bind t2 (Ev.bind (dsame_ev _ _ _ _ p3) ?_)))))
 simp only [if_pos]
 refine Ev.bind (sameR_ev _ t3) ?_
 simp only [if_pos, beq_self_eq_true]
 exact Ev.now _
end Go.Proofs.Ytbhkopbalhhpgaa.PY
