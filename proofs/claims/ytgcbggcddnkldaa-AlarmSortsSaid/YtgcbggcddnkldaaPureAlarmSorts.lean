/- What the law AlarmSorts comes to: true, whatever is put in. -/
import Derived.Test.YtgcbggcddnkldaaGdAlarmSorts
import Derived.Test.YtgcbggcddnkldaaMA
namespace Go.Proofs.Ytgcbggcddnkldaa.PB
open Go.RowKit Go.Proofs.YtgcbggcddnkldaaW.PrintWords Go.Proofs.Ytgcbggcddnkldaa.Hp

theorem take_count (p : S27 → Bool) (xs : List S27) (i : Nat) (h : i < xs.length) : (xs.take (i + 1)).countP p = (xs.take i).countP p + if p (xs.getD i z27) = true then 1 else 0 := by
  rw [List.take_add_one, List.countP_append, List.getElem?_eq_getElem h, List.getD_eq_getElem?_getD, List.getElem?_eq_getElem h]
  simp [List.countP_cons]
def same (y : S27) (x : S27) : Bool := x.f0 == y.f0 && (x.f1 == y.f1)

theorem sorts_l3 (x0 h out : List S27) (hb : x0.length ≤ 200) (ho : out.length = x0.length) (i : Nat) (hi : i < x0.length) (hc : ∀ p, out.countP p = x0.countP p)
    (next : Ev (fun k => stanchionlaw15_AlarmSorts.l2 k x0 true h out ((i + 1 : Nat) : Int)) true) : ∀ (d j : Nat), x0.length - j = d → j ≤ x0.length →
    Ev (fun k => stanchionlaw15_AlarmSorts.l3 k x0 true h out (i : Int) (((x0.take j).countP (same (x0.getD i z27)) : Nat) : Int) (((out.take j).countP (same (x0.getD i z27)) : Nat) : Int) (j : Int)) true := by
  intro d
  induction d with
  | zero =>
    intro j hj hl
    obtain rfl : j = x0.length := by omega
    refine Ev.step (f := fun k => stanchionlaw15_AlarmSorts.l2 k x0 true h out ((i + 1 : Nat) : Int)) (fun k => ?_) next
    simp only [stanchionlaw15_AlarmSorts.l3]
    rw [if_neg (by omega), List.take_length, ← ho, List.take_length, hc, if_pos rfl]
    congr 1
    unfold wrap64
    omega
  | succ d ih =>
    intro j hj hl
    have hjl : j < x0.length := by omega
    have hlt := List.countP_le_length (p := same (x0.getD i z27)) (l := x0.take j)
    have hlt2 := List.countP_le_length (p := same (x0.getD i z27)) (l := out.take j)
    rw [List.length_take] at hlt hlt2
    have e1 := take_count (same (x0.getD i z27)) x0 j hjl
    have e2 := take_count (same (x0.getD i z27)) out j (by omega)
    refine Ev.step (fun k => ?_) (ih (j + 1) (by omega) (by omega))
    simp only [stanchionlaw15_AlarmSorts.l3]
    have w1 : ∀ n : Nat, n ≤ 1000 → wrap64 ((n : Int) + 1) = ((n + 1 : Nat) : Int) := fun n hn => by unfold wrap64; omega
    rw [if_pos (by omega), if_pos (by omega), if_pos (by omega), if_pos (by omega), rd_nat, rd_nat, rd_nat]
    rw [w1 j (by omega), w1 _ (by omega : (x0.take j).countP (same (x0.getD i z27)) ≤ 1000), w1 _ (by omega : (out.take j).countP (same (x0.getD i z27)) ≤ 1000), e1, e2]
    by_cases q1 : same (x0.getD i z27) (x0.getD j z27) = true
    · rw [if_pos (show ((x0.getD j z27).f0 == (x0.getD i z27).f0 && ((x0.getD j z27).f1 == (x0.getD i z27).f1)) = true from q1), if_pos (by omega), if_pos q1]
      by_cases q2 : same (x0.getD i z27) (out.getD j z27) = true
      · rw [if_pos (show ((out.getD j z27).f0 == (x0.getD i z27).f0 && ((out.getD j z27).f1 == (x0.getD i z27).f1)) = true from q2), if_pos q2]
      · rw [if_neg (show ¬ ((out.getD j z27).f0 == (x0.getD i z27).f0 && ((out.getD j z27).f1 == (x0.getD i z27).f1)) = true from q2), if_neg q2]; rfl
    · rw [if_neg (show ¬ ((x0.getD j z27).f0 == (x0.getD i z27).f0 && ((x0.getD j z27).f1 == (x0.getD i z27).f1)) = true from q1), if_pos (by omega), if_neg q1]
      by_cases q2 : same (x0.getD i z27) (out.getD j z27) = true
      · rw [if_pos (show ((out.getD j z27).f0 == (x0.getD i z27).f0 && ((out.getD j z27).f1 == (x0.getD i z27).f1)) = true from q2), if_pos q2]; rfl
      · rw [if_neg (show ¬ ((out.getD j z27).f0 == (x0.getD i z27).f0 && ((out.getD j z27).f1 == (x0.getD i z27).f1)) = true from q2), if_neg q2]; rfl

theorem sorts_l2 (x0 h out : List S27) (hb : x0.length ≤ 200) (ho : out.length = x0.length) (hh : h.length = 0) (hc : ∀ p, out.countP p = x0.countP p) : ∀ (d i : Nat), x0.length - i = d → i ≤ x0.length →
    Ev (fun k => stanchionlaw15_AlarmSorts.l2 k x0 true h out (i : Int)) true := by
  intro d
  induction d with
  | zero =>
    intro i hi hl
    refine Ev.step (f := fun _ => some true) (fun k => ?_) (Ev.now _)
    simp only [stanchionlaw15_AlarmSorts.l2]
    rw [if_neg (by omega), if_pos trivial, hh]
    rfl
  | succ d ih =>
    intro i hi hl
    refine Ev.step (fun k => ?_) (sorts_l3 x0 h out hb ho i (by omega) hc (ih (i + 1) (by omega) (by omega)) x0.length 0 (by omega) (by omega))
    simp only [stanchionlaw15_AlarmSorts.l2]
    rw [if_pos (by omega)]
    rfl

theorem sorts_l1 (x0 : List S27) (hb : x0.length ≤ 200) : ∀ (d : Nat) (h out : List S27), x0.length - out.length = d → out.length ≤ x0.length → Heap lt z27 h → h.length = x0.length - out.length →
    (∀ p, out.countP p + h.countP p = x0.countP p) → (0 < out.length → 0 < h.length → lt (h.getD 0 z27) (out.getD (out.length - 1) z27) = false) →
    Ev (fun k => stanchionlaw15_AlarmSorts.l1 k x0 true h out) true := by
  intro d
  induction d with
  | zero =>
    intro h out hd hol hh hhl hc hlast
    have h0 : h = [] := List.eq_nil_of_length_eq_zero (by omega)
    refine Ev.step (f := fun k => stanchionlaw15_AlarmSorts.l2 k x0 true h out 0) (fun k => ?_) (sorts_l2 x0 h out hb (by omega) (by omega) (fun p => ?_) x0.length 0 (by omega) (by omega))
    · simp only [stanchionlaw15_AlarmSorts.l1]
      rw [if_neg (by omega)]
    · have := hc p
      rw [h0] at this
      simpa using this
  | succ d ih =>
    intro h out hd hol hh hhl hc hlast
    have hpos : 0 < h.length := by omega
    have hroot := heap_root lt_ord (pop_heap lt_ord hh)
    have next := ih (pop lt z27 h) (out ++ [h.getD 0 z27]) (by simp; omega) (by simp; omega) (pop_heap lt_ord hh) (by rw [pop_length]; simp; omega) (fun p => by
        have := hc p
        have := pop_count (lt := lt) (d := z27) p hpos
        rw [List.countP_append]
        simp only [List.countP_cons, List.countP_nil, Nat.zero_add]
        omega) (fun _ hp => by
        have e : (out ++ [h.getD 0 z27]).getD ((out ++ [h.getD 0 z27]).length - 1) z27 = h.getD 0 z27 := by
          rw [List.getD_eq_getElem?_getD, List.getElem?_append_right (by simp)]
          simp
        rw [e]
        have hm : (pop lt z27 h).getD 0 z27 ∈ h := by
          have hq : 0 < (pop lt z27 h).countP (same ((pop lt z27 h).getD 0 z27)) := List.countP_pos_iff.2 ⟨(pop lt z27 h).getD 0 z27, by
            rw [List.getD_eq_getElem?_getD, List.getElem?_eq_getElem hp]
            exact List.getElem_mem hp, by simp [same]⟩
          have := pop_count (lt := lt) (d := z27) (same ((pop lt z27 h).getD 0 z27)) hpos
          obtain ⟨y, hy1, hy2⟩ := List.countP_pos_iff.1 (show 0 < h.countP (same ((pop lt z27 h).getD 0 z27)) by omega)
          have : y = (pop lt z27 h).getD 0 z27 := by
            simp only [same, Bool.and_eq_true, beq_iff_eq] at hy2
            cases y
            cases hz : (pop lt z27 h).getD 0 z27
            rw [hz] at hy2
            simp_all
          rw [← this]
          exact hy1
        obtain ⟨i, hi, he⟩ := List.mem_iff_getElem.1 hm
        rw [← he]
        have := heap_root lt_ord hh i i (Nat.le_refl _) hi
        rw [List.getD_eq_getElem?_getD, List.getElem?_eq_getElem hi] at this
        exact this)
    refine Ev.step (f := fun k => (alarm_Pop.f k h).bind fun bt => if bt.2.2.2 = true then (if (out.length : Int) > 0 then (if 0 ≤ (wrap64 ((out.length : Int) - 1)) then (if (wrap64 ((out.length : Int) - 1)) < (out.length : Int) then ((alarm_Less.f bt.2.1 bt.2.2.1 ((rd_T27 out (wrap64 ((out.length : Int) - 1))).f0) ((rd_T27 out (wrap64 ((out.length : Int) - 1))).f1)).bind fun t189 => (if t189 = true then (some false) else (if out.length < 8796093022208 then (stanchionlaw15_AlarmSorts.l1 k x0 true bt.1 (out ++ [(⟨bt.2.1, bt.2.2.1⟩ : S27)])) else (none)))) else (none)) else (none)) else (if out.length < 8796093022208 then (stanchionlaw15_AlarmSorts.l1 k x0 true bt.1 (out ++ [(⟨bt.2.1, bt.2.2.1⟩ : S27)])) else (none))) else (some false)) (fun k => ?_) (Ev.bind (pop_ev h hpos (by omega)) ?_)
    · simp only [stanchionlaw15_AlarmSorts.l1]
      rw [if_pos (by omega)]
    · refine Ev.congr (fun k => ?_) next
      by_cases hout : 0 < out.length
      · have hl := hlast hout hpos
        have ew : wrap64 ((out.length : Int) - 1) = ((out.length - 1 : Nat) : Int) := by unfold wrap64; omega
        simp only []
        rw [if_pos trivial, if_pos (by omega), ew, if_pos (by omega), if_pos (by omega), rd_nat, less_eq, Option.bind_some, if_neg (by rw [hl]; decide), if_pos (by omega)]
      · simp only []
        rw [if_pos trivial, if_neg (by omega), if_pos (by omega)]

theorem sorts_l0 (x0 : List S27) (hb : x0.length ≤ 200) : ∀ (d i : Nat) (h : List S27), x0.length - i = d → i ≤ x0.length → Heap lt z27 h → h.length = i → (∀ p, h.countP p = (x0.take i).countP p) →
    Ev (fun k => stanchionlaw15_AlarmSorts.l0 k x0 true h (i : Int)) true := by
  intro d
  induction d with
  | zero =>
    intro i h hd hi hh hl hc
    refine Ev.step (f := fun k => stanchionlaw15_AlarmSorts.l1 k x0 true h []) (fun k => ?_) (sorts_l1 x0 hb x0.length h [] (by simp) (by simp) hh (by simp; omega) (fun p => ?_) (fun h0 => by simp at h0))
    · simp only [stanchionlaw15_AlarmSorts.l0]
      rw [if_neg (by omega)]
    · rw [hc p, List.take_of_length_le (by omega)]
      simp
  | succ d ih =>
    intro i h hd hi hh hl hc
    refine Ev.step (f := fun k => (alarm_Put.f k h (x0.getD i z27).f0 (x0.getD i z27).f1).bind fun t => stanchionlaw15_AlarmSorts.l0 k x0 true t ((i + 1 : Nat) : Int)) (fun k => ?_) ?_
    · simp only [stanchionlaw15_AlarmSorts.l0]
      rw [if_pos (by omega), if_pos (by omega), rd_nat]
      have : wrap64 ((i : Int) + 1) = ((i + 1 : Nat) : Int) := by unfold wrap64; omega
      rw [this]
    · refine Ev.bind (put_ev h _ (by omega)) (ih (i + 1) _ (by omega) (by omega) (put_heap lt_ord hh _) (by rw [put_length]; omega) (fun p => ?_))
      rw [put_count, hc p, take_count p x0 i (by omega)]

theorem stanchionlaw15_AlarmSorts.pure : stanchionlaw15_AlarmSorts.Pure := by
  intro x0 _
  apply Ev.rounds
  unfold stanchionlaw15_AlarmSorts.f
  refine Ev.bind shown_ev ?_
  by_cases h : (x0.length : Int) > 200
  · simp only [if_pos h]
    exact Ev.now _
  · simp only [if_neg h]
    exact sorts_l0 x0 (by omega) x0.length 0 [] (by omega) (by omega) (fun i h0 hl => by simp at hl) rfl (fun p => by simp)
end Go.Proofs.Ytgcbggcddnkldaa.PB
