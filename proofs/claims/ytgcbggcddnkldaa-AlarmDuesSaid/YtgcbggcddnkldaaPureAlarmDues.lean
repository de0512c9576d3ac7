/- What the law AlarmDues comes to: true, whatever is handed in. -/
import Derived.Test.YtgcbggcddnkldaaGdAlarmDues
import Derived.Test.YtgcbggcddnkldaaMB
namespace Go.Proofs.Ytgcbggcddnkldaa.PB
open Go.RowKit Go.Proofs.YtgcbggcddnkldaaW.PrintWords Go.Proofs.Ytgcbggcddnkldaa.Hp

theorem dues_take (p : S27 → Bool) (xs : List S27) (i : Nat) (h : i < xs.length) : (xs.take (i + 1)).countP p = (xs.take i).countP p + if p (xs.getD i z27) = true then 1 else 0 := by
  rw [List.take_add_one, List.countP_append, List.getElem?_eq_getElem h, List.getD_eq_getElem?_getD, List.getElem?_eq_getElem h]
  simp [List.countP_cons]
theorem mem_getD (xs : List S27) (i : Nat) (h : i < xs.length) : xs.getD i z27 ∈ xs := by
  rw [List.getD_eq_getElem?_getD, List.getElem?_eq_getElem h]
  exact List.getElem_mem h

theorem dues_l2 (x0 : List S27) (x2 : Int) (x9 : List S27) (x10 : List Int) (n : Nat) (x14 : List S27) (hb : x0.length ≤ 200) (h14 : x14.length ≤ 1000) (hd : ∀ x ∈ x14, x.f1 ≠ x2) (hn : x10.length = n) (h9 : x9.length + n = x0.length) : ∀ (d i : Nat), x14.length - i = d → i ≤ x14.length →
    Ev (fun k => stanchionlaw15_AlarmDues.l2 k x0 x2 true x9 x10 (n : Int) x14 (i : Int)) true := by
  intro d
  induction d with
  | zero =>
    intro i hi hl
    refine Ev.step (f := fun _ => some true) (fun k => ?_) (Ev.now _)
    simp only [stanchionlaw15_AlarmDues.l2]
    have e : wrap64 ((x0.length : Int) - (n : Int)) = ((x9.length : Nat) : Int) := by unfold wrap64; omega
    rw [if_neg (by omega), if_pos trivial, if_pos (by omega), e]
    simp
  | succ d ih =>
    intro i hi hl
    refine Ev.step (fun k => ?_) (ih (i + 1) (by omega) (by omega))
    have e : wrap64 ((i : Int) + 1) = ((i + 1 : Nat) : Int) := by unfold wrap64; omega
    simp only [stanchionlaw15_AlarmDues.l2]
    rw [if_pos (by omega), if_pos (by omega), rd_nat, if_neg (hd _ (mem_getD x14 i (by omega))), e]

theorem dues_l1 (x0 : List S27) (x1 x2 : Int) (x9 : List S27) (x10 : List Int) (n : Nat) (hb : x0.length ≤ 200) (hn : x10.length = n) (h9 : x9.length + n = x0.length) (hd : ∀ x ∈ x9, ¬ x.f0 ≤ x1) : ∀ (d i : Nat), x9.length - i = d → i ≤ x9.length →
    Ev (fun k => stanchionlaw15_AlarmDues.l1 k x0 x1 x2 true x9 x10 (n : Int) (i : Int)) true := by
  intro d
  induction d with
  | zero =>
    intro i hi hl
    refine Ev.step (f := fun k => (alarm_Drop.f k x0 x2).bind fun t260 => stanchionlaw15_AlarmDues.l2 k x0 x2 true x9 x10 (n : Int) t260 0) (fun k => ?_) (Ev.bind (drop_ev x0 x2 (by omega)) ?_)
    · simp only [stanchionlaw15_AlarmDues.l1]
      rw [if_neg (by omega)]
    · have hlen : (drops x0 x2 []).length ≤ 1000 := by
        have := drops_count x2 (fun _ => true) x0 []
        simp only [List.countP_true, List.length_nil] at this
        have h2 := List.countP_le_length (p := fun x => true && decide (x.f1 ≠ x2)) (l := x0)
        omega
      exact dues_l2 x0 x2 x9 x10 n _ hb hlen (drops_none x2 x0) hn h9 _ 0 rfl (by omega)
  | succ d ih =>
    intro i hi hl
    refine Ev.step (fun k => ?_) (ih (i + 1) (by omega) (by omega))
    have e : wrap64 ((i : Int) + 1) = ((i + 1 : Nat) : Int) := by unfold wrap64; omega
    simp only [stanchionlaw15_AlarmDues.l1]
    rw [if_pos (by omega), if_pos (by omega), rd_nat, if_neg (hd _ (mem_getD x9 i (by omega))), e]

theorem dues_l0 (x0 : List S27) (x1 x2 : Int) (x9 : List S27) (x10 : List Int) (hb : x0.length ≤ 200) (hn : x10.length = x0.countP (fun x => decide (x.f0 ≤ x1))) (h9 : x9.length + x10.length = x0.length) (hd : ∀ x ∈ x9, ¬ x.f0 ≤ x1) : ∀ (d i : Nat), x0.length - i = d → i ≤ x0.length →
    Ev (fun k => stanchionlaw15_AlarmDues.l0 k x0 x1 x2 true x9 x10 (((x0.take i).countP (fun x => decide (x.f0 ≤ x1)) : Nat) : Int) (i : Int)) true := by
  intro d
  induction d with
  | zero =>
    intro i hi hl
    rw [List.take_of_length_le (by omega), ← hn]
    refine Ev.step (fun k => ?_) (dues_l1 x0 x1 x2 x9 x10 x10.length hb rfl h9 hd x9.length 0 (by omega) (by omega))
    simp only [stanchionlaw15_AlarmDues.l0]
    rw [if_neg (by omega)]
    rfl
  | succ d ih =>
    intro i hi hl
    have next := ih (i + 1) (by omega) (by omega)
    rw [dues_take _ x0 i (by omega)] at next
    have e : wrap64 ((i : Int) + 1) = ((i + 1 : Nat) : Int) := by unfold wrap64; omega
    have hc := List.countP_le_length (p := fun x : S27 => decide (x.f0 ≤ x1)) (l := x0.take i)
    rw [List.length_take] at hc
    have e2 : wrap64 ((((x0.take i).countP (fun x => decide (x.f0 ≤ x1)) : Nat) : Int) + 1) = (((x0.take i).countP (fun x => decide (x.f0 ≤ x1)) + 1 : Nat) : Int) := by unfold wrap64; omega
    refine Ev.step (fun k => ?_) next
    simp only [stanchionlaw15_AlarmDues.l0]
    rw [if_pos (by omega), if_pos (by omega), rd_nat, e, e2]
    by_cases q : (x0.getD i z27).f0 ≤ x1
    · rw [if_pos q, if_pos (by simpa using q)]
    · rw [if_neg q, if_neg (by simpa using q)]; rfl

theorem stanchionlaw15_AlarmDues.pure : stanchionlaw15_AlarmDues.Pure := by
  intro x0 x1 x2 hx0 _ _
  apply Ev.rounds
  unfold stanchionlaw15_AlarmDues.f
  have hlen : x0.length < 1152921504606846976 := by have := hx0.1; omega
  obtain ⟨b, hev, hiff⟩ := rheap_ev x0 hlen
  refine Ev.bind shown_ev (Ev.bind hev ?_)
  have up (q : Bool) (hq : q = true) : Ev (fun k => stanchionlaw15_AlarmDues.j0 k x0 x1 x2 true q) true := by
    subst hq
    refine Ev.step (f := fun _ => some true) (fun k => ?_) (Ev.now _)
    simp only [stanchionlaw15_AlarmDues.j0]
    exact if_pos trivial
  by_cases h : (x0.length : Int) > 200
  · simp only [if_pos h]
    exact up _ rfl
  · simp only [if_neg h]
    cases b with
    | false => exact up _ rfl
    | true =>
      have hh : Heap lt z27 x0 := hiff.1 rfl
      refine Ev.step (f := fun k => (alarm_Due.f k x0 x1).bind fun bt => stanchionlaw15_AlarmDues.l0 k x0 x1 x2 true bt.1 bt.2 0 0) (fun k => ?_) (Ev.bind (due_ev x0 x1 (by omega)) ?_)
      · simp only [stanchionlaw15_AlarmDues.j0]
        rw [if_neg (by decide)]
      · have hdl := due_length x0.length x0 x1
        have hdone := due_done x0.length x0 x1 (Nat.le_refl _) hh
        have hcnt := due_count (fun x => decide (¬ x.f0 ≤ x1)) x0.length x0 x1 (fun x hx => by simpa using hx)
        have hall : (due x0.length x0 x1).countP (fun x => decide (¬ x.f0 ≤ x1)) = (due x0.length x0 x1).length := List.countP_eq_length.2 (fun x hx => by simpa using hdone x hx)
        have hsum := List.length_eq_countP_add_countP (fun x : S27 => decide (x.f0 ≤ x1)) (l := x0)
        have heq : x0.countP (fun x => decide (¬ x.f0 ≤ x1)) = x0.countP (fun x => decide ¬ (decide (x.f0 ≤ x1)) = true) := by
          congr 1
          funext x
          simp
        exact dues_l0 x0 x1 x2 (due x0.length x0 x1) (dueIds x0.length x0 x1) (by omega) (by omega) (by omega) hdone x0.length 0 (by omega) (by omega)
end Go.Proofs.Ytgcbggcddnkldaa.PB
