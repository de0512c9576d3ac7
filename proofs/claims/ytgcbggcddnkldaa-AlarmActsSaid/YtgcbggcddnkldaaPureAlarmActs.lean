/- What the law AlarmActs comes to: true, whatever is handed in. -/
import Derived.Test.YtgcbggcddnkldaaGdAlarmActs
import Derived.Test.YtgcbggcddnkldaaMC
namespace Go.Proofs.Ytgcbggcddnkldaa.PB
open Go.RowKit Go.Proofs.YtgcbggcddnkldaaW.PrintWords Go.Proofs.Ytgcbggcddnkldaa.Hp

theorem dropsA_length (id : Int) : ∀ (xs acc : List S27), (drops xs id acc).length ≤ xs.length + acc.length
  | [], acc => by simp [drops]
  | x :: r, acc => by
    unfold drops
    split
    · have := dropsA_length id r acc
      simp; omega
    · have := dropsA_length id r (put lt z27 acc x)
      rw [put_length] at this
      simp; omega
theorem stanchionlaw15_AlarmActs.pure : stanchionlaw15_AlarmActs.Pure := by
  intro x0 hx0
  apply Ev.rounds
  unfold stanchionlaw15_AlarmActs.f
  refine Ev.bind shown_ev ?_
  by_cases h : (x0.f0.length : Int) > 300
  · simp only [if_pos h]
    exact Ev.now _
  · simp only [if_neg h]
    have hpop : ∃ r : List S27 × Int × Int × Bool, Ev (fun k => alarm_Pop.f k x0.f0) r ∧ Ev (fun k => stanchionref15_Pop.f k x0.f0) r ∧ r.1.length ≤ 300 := by
      by_cases h0 : 0 < x0.f0.length
      · exact ⟨_, pop_ev x0.f0 h0 (by omega), rpop_ev x0.f0 h0 (by omega), by show (pop lt z27 x0.f0).length ≤ 300; rw [pop_length]; omega⟩
      · have hx : x0.f0 = [] := List.eq_nil_of_length_eq_zero (by omega)
        rw [hx]
        exact ⟨([], 0, 0, false), Ev.now _, Ev.now _, by simp⟩
    obtain ⟨r, hr, hr2, hrl⟩ := hpop
    have hdl := due_length x0.f0.length x0.f0 x0.f2
    have hdr := dropsA_length x0.f3 x0.f0 []
    obtain ⟨ba, hba, hia⟩ := aheap_ev x0.f0 (by omega)
    obtain ⟨bb, hbb, hib⟩ := rheap_ev x0.f0 (by omega)
    have hab : ba = bb := by
      cases ba <;> cases bb <;> simp_all
    have tail : Ev (fun k => stanchionlaw15_AlarmActs.j0 k x0.f0 x0.f3 true true (due x0.f0.length x0.f0 x0.f2) (dueIds x0.f0.length x0.f0 x0.f2) (due x0.f0.length x0.f0 x0.f2) (dueIds x0.f0.length x0.f0 x0.f2) true x0.f1.f0 x0.f1.f1) true := by
      refine Ev.step (f := fun k => (stanchionref15_Same.f k (due x0.f0.length x0.f0 x0.f2) (due x0.f0.length x0.f0 x0.f2)).bind fun t300 => (if t300 = true then ((stanchionref10_Ints.f k (dueIds x0.f0.length x0.f0 x0.f2) (dueIds x0.f0.length x0.f0 x0.f2)).bind fun t301 => (stanchionlaw15_AlarmActs.j1 k x0.f0 x0.f3 true true true t301 x0.f1.f0 x0.f1.f1)) else (stanchionlaw15_AlarmActs.j1 k x0.f0 x0.f3 true true true false x0.f1.f0 x0.f1.f1))) (fun k => by simp only [stanchionlaw15_AlarmActs.j0]) (Ev.bind (rsame_ev _ _ rfl (by omega)) ?_)
      simp only [if_pos]
      refine Ev.bind (ints_ev _ (by omega)) ?_
      refine Ev.step (f := fun k => (alarm_Drop.f k x0.f0 x0.f3).bind fun t302 => ((stanchionref15_Drop.f k x0.f0 x0.f3).bind fun t305 => ((stanchionref15_Same.f k t302 t305).bind fun t308 => (if t308 = true then ((alarm_Heap.f k x0.f0).bind fun t309 => ((stanchionref15_Heap.f k x0.f0).bind fun t310 => (if (t309 == t310) = true then (if (x0.f0.length : Int) = 0 then (some true) else (if 0 < (x0.f0.length : Int) then ((alarm_Less.f ((rd_T27 x0.f0 0).f0) ((rd_T27 x0.f0 0).f1) x0.f1.f0 x0.f1.f1).bind fun t312 => ((stanchionref15_Less.f ((rd_T27 x0.f0 0).f0) ((rd_T27 x0.f0 0).f1) x0.f1.f0 x0.f1.f1).bind fun t314 => (some (t312 == t314)))) else (none))) else (some false)))) else (some false))))) (fun k => by simp only [stanchionlaw15_AlarmActs.j1, if_pos]) ?_
      refine Ev.bind (drop_ev x0.f0 x0.f3 (by omega)) (Ev.bind (rdrop_ev x0.f0 x0.f3 (by omega)) (Ev.bind (rsame_ev _ _ rfl (by simp at hdr; omega)) ?_))
      simp only [if_pos]
      refine Ev.bind hba (Ev.bind hbb ?_)
      rw [hab]
      simp only [beq_self_eq_true, if_pos]
      by_cases h0 : (x0.f0.length : Int) = 0
      · simp only [if_pos h0]
        exact Ev.now _
      · have h1 : 0 < (x0.f0.length : Int) := by omega
        simp only [if_neg h0, if_pos h1, less_eq, rless_eq, Option.bind_some, beq_self_eq_true]
        exact Ev.now _
    refine Ev.bind (put_ev x0.f0 x0.f1 (by omega)) (Ev.bind (rput_ev x0.f0 x0.f1 (by omega)) (Ev.bind (rsame_ev _ _ rfl (by rw [put_length]; omega)) (Ev.bind hr (Ev.bind hr2 (Ev.bind (due_ev x0.f0 x0.f2 (by omega)) (Ev.bind (rdue_ev x0.f0 x0.f2 (by omega)) (Ev.bind (rsame_ev _ _ rfl (by omega)) ?_)))))))
    simp only [if_pos, beq_self_eq_true, Bool.and_self]
    exact tail
end Go.Proofs.Ytgcbggcddnkldaa.PB
