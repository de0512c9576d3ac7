/- What the law AlarmStays comes to: true, whatever is handed in. -/
import Derived.Test.YtgcbggcddnkldaaGdAlarmStays
import Derived.Test.YtgcbggcddnkldaaMB
namespace Go.Proofs.Ytgcbggcddnkldaa.PB
open Go.RowKit Go.Proofs.YtgcbggcddnkldaaW.PrintWords Go.Proofs.Ytgcbggcddnkldaa.Hp

theorem drops_length (id : Int) : ∀ (xs acc : List S27), (drops xs id acc).length ≤ xs.length + acc.length
  | [], acc => by simp [drops]
  | x :: r, acc => by
    unfold drops
    split
    · have := drops_length id r acc
      simp; omega
    · have := drops_length id r (put lt z27 acc x)
      rw [put_length] at this
      simp; omega

theorem stanchionlaw15_AlarmStays.pure : stanchionlaw15_AlarmStays.Pure := by
  intro x0 hx0
  apply Ev.rounds
  unfold stanchionlaw15_AlarmStays.f
  have hlen : x0.f0.length < 1152921504606846976 := by have := hx0.1.1; omega
  obtain ⟨b, hev, hiff⟩ := rheap_ev x0.f0 hlen
  refine Ev.bind shown_ev (Ev.bind hev ?_)
  have up (q : Bool) (hq : q = true) : Ev (fun k => stanchionlaw15_AlarmStays.j0 k x0.f0 x0.f2 x0.f3 true q x0.f1.f0 x0.f1.f1) true := by
    subst hq
    refine Ev.step (f := fun _ => some true) (fun k => ?_) (Ev.now _)
    simp only [stanchionlaw15_AlarmStays.j0]
    exact if_pos trivial
  by_cases h : (x0.f0.length : Int) > 300
  · simp only [if_pos h]
    exact up _ rfl
  · simp only [if_neg h]
    cases b with
    | false => exact up _ rfl
    | true =>
      have hh : Heap lt z27 x0.f0 := hiff.1 rfl
      have hpop : ∃ r : List S27 × Int × Int × Bool, Ev (fun k => alarm_Pop.f k x0.f0) r ∧ Heap lt z27 r.1 ∧ r.1.length ≤ 300 := by
        by_cases h0 : 0 < x0.f0.length
        · exact ⟨_, pop_ev x0.f0 h0 (by omega), pop_heap lt_ord hh, by show (pop lt z27 x0.f0).length ≤ 300; rw [pop_length]; omega⟩
        · have hx : x0.f0 = [] := List.eq_nil_of_length_eq_zero (by omega)
          rw [hx]
          exact ⟨([], 0, 0, false), Ev.now _, fun i _ hi => absurd hi (by simp), by simp⟩
      obtain ⟨r, hr, hrh, hrl⟩ := hpop
      have hdl := due_length x0.f0.length x0.f0 x0.f2
      have hdr := drops_length x0.f3 x0.f0 []
      have heap (xs : List S27) (hl : xs.length ≤ 1000) (hp : Heap lt z27 xs) : Ev (fun k => stanchionref15_Heap.f k xs) true := (rheap_ev xs (by omega)).true hp
      refine Ev.step (f := fun k => (alarm_Pop.f k x0.f0).bind fun bt227 => ((alarm_Due.f k x0.f0 x0.f2).bind fun bt234 => ((alarm_Put.f k x0.f0 x0.f1.f0 x0.f1.f1).bind fun t240 => ((stanchionref15_Heap.f k t240).bind fun t243 => (if t243 = true then ((stanchionref15_Heap.f k bt227.1).bind fun t244 => (if t244 = true then ((stanchionref15_Heap.f k bt234.1).bind fun t245 => (if t245 = true then ((alarm_Drop.f k x0.f0 x0.f3).bind fun t246 => ((stanchionref15_Heap.f k t246).bind fun t249 => (some t249))) else (some false))) else (some false))) else (some false)))))) (fun k => ?_) ?_
      · simp only [stanchionlaw15_AlarmStays.j0]
        rw [if_neg (by decide)]
        simp only [if_true]
      · refine Ev.bind hr (Ev.bind (due_ev x0.f0 x0.f2 (by omega)) (Ev.bind (put_ev x0.f0 x0.f1 (by omega)) (Ev.bind (heap _ (by rw [put_length]; omega) (put_heap lt_ord hh _)) ?_)))
        simp only [if_true]
        refine Ev.bind (heap _ (by omega) hrh) ?_
        simp only [if_true]
        refine Ev.bind (heap _ (by omega) (due_heap _ _ _ hh)) ?_
        simp only [if_true]
        exact Ev.bind (drop_ev x0.f0 x0.f3 (by omega)) (Ev.bind (heap _ (by simp at hdr; omega) (drops_heap _ _ _ (fun i _ hi => absurd hi (by simp)))) (Ev.now _))
end Go.Proofs.Ytgcbggcddnkldaa.PB
