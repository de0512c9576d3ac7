/- What the law AlarmFirst comes to: true, whatever is handed in. -/
import Derived.Test.YtgcbggcddnkldaaGdAlarmFirst
import Derived.Test.YtgcbggcddnkldaaMB
namespace Go.Proofs.Ytgcbggcddnkldaa.PB
open Go.RowKit Go.Proofs.YtgcbggcddnkldaaW.PrintWords Go.Proofs.Ytgcbggcddnkldaa.Hp

theorem first_l0 (x0 x5 : List S27) (x7 : Bool) (a : S27) (hb : x0.length ≤ 300) (hmin : ∀ i, i < x0.length → lt (x0.getD i z27) a = false) (hx : x7 = true → x5.length + 1 = x0.length) : ∀ (d i : Nat), x0.length - i = d → i ≤ x0.length →
    Ev (fun k => stanchionlaw15_AlarmFirst.l0 k x0 true x5 x7 (i : Int) a.f0 a.f1) true := by
  intro d
  induction d with
  | zero =>
    intro i hd hi
    refine Ev.step (f := fun _ => some true) (fun k => ?_) (Ev.now _)
    simp only [stanchionlaw15_AlarmFirst.l0]
    rw [if_neg (by omega), if_pos trivial]
    cases x7 with
    | false => rfl
    | true =>
      have e : wrap64 ((x0.length : Int) - 1) = ((x5.length : Nat) : Int) := by have := hx rfl; unfold wrap64; omega
      rw [if_pos rfl, e]
      simp
  | succ d ih =>
    intro i hd hi
    refine Ev.step (fun k => ?_) (ih (i + 1) (by omega) (by omega))
    have e : wrap64 ((i : Int) + 1) = ((i + 1 : Nat) : Int) := by unfold wrap64; omega
    simp only [stanchionlaw15_AlarmFirst.l0]
    rw [if_pos (by omega), if_pos (by omega), rd_nat, less_eq, Option.bind_some, if_neg (by rw [hmin i (by omega)]; decide), e]

theorem stanchionlaw15_AlarmFirst.pure : stanchionlaw15_AlarmFirst.Pure := by
  intro x0 hx0
  apply Ev.rounds
  unfold stanchionlaw15_AlarmFirst.f
  have hlen : x0.length < 1152921504606846976 := by have := hx0.1; omega
  obtain ⟨b, hev, hiff⟩ := rheap_ev x0 hlen
  refine Ev.bind shown_ev (Ev.bind hev ?_)
  have up (q : Bool) (hq : q = true) : Ev (fun k => stanchionlaw15_AlarmFirst.j0 k x0 true q) true := by
    subst hq
    refine Ev.step (f := fun _ => some true) (fun k => ?_) (Ev.now _)
    simp only [stanchionlaw15_AlarmFirst.j0]
    exact if_pos trivial
  by_cases h : (x0.length : Int) > 300
  · simp only [if_pos h]
    exact up _ rfl
  · simp only [if_neg h]
    cases b with
    | false => exact up _ rfl
    | true =>
      have hh : Heap lt z27 x0 := hiff.1 rfl
      by_cases h0 : 0 < x0.length
      · refine Ev.step (f := fun k => (alarm_Pop.f k x0).bind fun bt => if (bt.2.2.2 != (decide ((x0.length : Int) > 0))) = true then (some false) else (stanchionlaw15_AlarmFirst.l0 k x0 true bt.1 bt.2.2.2 0 bt.2.1 bt.2.2.1)) (fun k => ?_) (Ev.bind (pop_ev x0 h0 (by omega)) ?_)
        · simp only [stanchionlaw15_AlarmFirst.j0]
          rw [if_neg (by decide)]
        · have hd : decide ((x0.length : Int) > 0) = true := by simpa using h0
          simp only [hd]
          exact first_l0 x0 (pop lt z27 x0) true (x0.getD 0 z27) (by omega) (fun i hi => heap_root lt_ord hh i i (Nat.le_refl _) hi) (fun _ => by rw [pop_length]; omega) x0.length 0 (by omega) (by omega)
      · have hx : x0 = [] := List.eq_nil_of_length_eq_zero (by omega)
        subst hx
        exact Ev.of (fun k => (stanchionlaw15_AlarmFirst.mono_l k).1 _ _ _) (k := 5) (by kernel_rfl)
end Go.Proofs.Ytgcbggcddnkldaa.PB
