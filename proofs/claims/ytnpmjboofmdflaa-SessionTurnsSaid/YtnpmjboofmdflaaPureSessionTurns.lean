/- What the law SessionTurns comes to: true, whatever is handed in. -/
import Derived.Test.YtnpmjboofmdflaaGdSessionTurns
import Derived.Test.YtnpmjboofmdflaaPBSr
namespace Go.Proofs.Ytnpmjboofmdflaa.PB
open Go.RowKit Go.Proofs.YtnpmjboofmdflaaW.PrintWords Go.Proofs.YtnpmjboofmdflaaW.PrintMore Go.Proofs.Ytnpmjboofmdflaa.Hp

theorem tk_lenT (l : List S42) (h : List S85) (t id c : Int) : (tk l h t id c).1.length = l.length ∧ (tk l h t id c).2.1.length ≤ h.length + 1 := by
  unfold tk
  cases fnd l id with
  | none => exact ⟨rfl, Nat.le_succ _⟩
  | some x =>
    show (if x.f1 ≥ 1073741824 then (l, h, (4 : Int)) else (upd l id (uTake c), ren h t id, 0)).1.length = _ ∧ (if x.f1 ≥ 1073741824 then (l, h, (4 : Int)) else (upd l id (uTake c), ren h t id, 0)).2.1.length ≤ _
    split
    · exact ⟨rfl, Nat.le_succ _⟩
    · exact ⟨upd_len _ _ _, ren_len _ _ _⟩
theorem wth_lenT (l : List S42) (id : Int) (u : S42 → S42) : (wth l id u).1.length = l.length := by
  unfold wth
  cases fnd l id with
  | none => rfl
  | some x => exact upd_len id u l
theorem stanchionlaw17_SessionTurns.pure : stanchionlaw17_SessionTurns.Pure := by
  intro x0 hx0
  obtain ⟨⟨a, l, h, n, t⟩, ⟨q0, q1, q2, q3, q4, q5, q6, q7, q8, q9, q10⟩, id, c, last, txn⟩ := x0
  obtain ⟨hS, _⟩ := hx0
  have hr : Rng l := fun y hy => wf64 (hS.2.1.2 y hy).2.1
  have ht := wfu64 hS.2.2.2.2
  simp only at ht ⊢
  apply Ev.rounds
  unfold stanchionlaw17_SessionTurns.f
  refine Ev.bind shown17_ev ?_
  unfold stanchionlaw17_few.f
  by_cases hq : (l.length : Int) ≤ 100 ∧ (h.length : Int) ≤ 100
  · have hl : l.length ≤ 100 := by omega
    have hh : h.length ≤ 100 := by omega
    have o1 := tk_lenT l h t id c
    have o2 := wth_lenT l id (uAnswer last)
    have o3 := wth_lenT l id (uBind txn)
    simp only [if_pos hq.1, decide_eq_true hq.2, Option.bind_some, if_pos, Bool.not_true]
    refine Ev.step (f := _) (fun k => by simp only [stanchionlaw17_SessionTurns.j0]; rw [if_neg (by decide)]) ?_
    refine Ev.bind (judge_ev a l h n t q0 q1 q2 q3 q4 q5 q6 q7 q8 q9 q10 hr) (Ev.bind (rjudge_ev a l h n t q0 q1 q2 q3 q4 q5 q6 q7 q8 q9 q10 (by omega)) ?_)
    refine Ev.bind (take_ev a l h n t id c (by omega) (by omega) ht.1 ht.2) (Ev.bind (rtake_ev a l h n t id c (by omega) (by omega) ht.1 ht.2) ?_)
    simp only [answer_eq a l h n t id last (show l.length < 2513169434916 by omega), bind_eq a l h n t id txn (show l.length < 2513169434916 by omega), Option.bind_some]
    refine Ev.bind (ranswer_ev a l h n t id last (by omega)) (Ev.bind (rbind_ev a l h n t id txn (by omega)) ?_)
    refine Ev.bind (rsame_self _ _ _ _ _ (by omega) (by omega)) ?_
    simp only [if_pos]
    refine Ev.bind (rsame_self _ _ _ _ _ (by omega) (by omega)) ?_
    simp only [if_pos]
    refine Ev.bind (rsame_self _ _ _ _ _ (by omega) (by omega)) ?_
    exact Ev.congr (f := fun _ => some true) (fun _ => by simp) (Ev.now _)
  · have hf : (if (l.length : Int) ≤ 100 then some (decide ((h.length : Int) ≤ 100)) else some false) = some false := by
      by_cases h1 : (l.length : Int) ≤ 100
      · rw [if_pos h1, decide_eq_false (fun h2 => hq ⟨h1, h2⟩)]
      · rw [if_neg h1]
    simp only [hf, Option.bind_some, if_pos, Bool.not_false]
    exact Ev.step (f := fun _ => some true) (fun k => by simp only [stanchionlaw17_SessionTurns.j0]; exact if_pos trivial) (Ev.now _)
end Go.Proofs.Ytnpmjboofmdflaa.PB
