-- Made by a program of this workplace out of the translation (wip/tools in the repo). Not trusted: Lean checks it.
import Derived.Test.YtgcbggcddnkldaaPBx0
namespace Go.Proofs.Ytgcbggcddnkldaa.PB
open Go.RowKit Go.Proofs.YtgcbggcddnkldaaW.PrintWords Go.Proofs.YtgcbggcddnkldaaW.PrintLast Go.Proofs.YtgcbggcddnkldaaW.PrintMore
attribute [local go_sem] max2_int min2_int max_two min_two max_three min_three max_four min_four   -- for this text's walks alone
set_option linter.unusedVariables false
set_option linter.unusedSimpArgs false

/-! ### alarm_Less (function 11): what it is -/
def alarm_Less.f (a0_0 : Int) (a0_1 : Int) (a1_0 : Int) (a1_1 : Int) : Option (Bool) := if a0_0 < a1_0 then (some true) else (if a0_0 = a1_0 then (some (decide (a0_1 < a1_1))) else (some false))

/-! ### api_Alarm (function 23): what it is -/
def api_Alarm.f (l0 : List (S27)) : Option ((List (S27))) := (some (([] : List (S27)) : List (S27))).bind fun y103 => (if y103.length + l0.length < 8796093022208 then (some (y103 ++ l0)) else (none))

/-! ### alarm_Put (function 9): what it is -/
def alarm_Put.l0 : Nat → List (S27) → Int → Option ((List (S27)))
  | 0, _, _ => none
  | k + 1, x0, x5 => if x5 > 0 then (if 0 ≤ x5 then (if x5 < (x0.length : Int) then (if 0 ≤ (wrap64 (Int.tdiv (wrap64 (x5 - 1)) 2)) then (if (wrap64 (Int.tdiv (wrap64 (x5 - 1)) 2)) < (x0.length : Int) then ((alarm_Less.f ((rd_T27 x0 x5).f0) ((rd_T27 x0 x5).f1) ((rd_T27 x0 (wrap64 (Int.tdiv (wrap64 (x5 - 1)) 2))).f0) ((rd_T27 x0 (wrap64 (Int.tdiv (wrap64 (x5 - 1)) 2))).f1)).bind fun t121 => (if t121 = true then (alarm_Put.l0 k ((x0.set (x5 : Int).toNat (⟨(rd_T27 x0 (wrap64 (Int.tdiv (wrap64 (x5 - 1)) 2))).f0, (rd_T27 x0 (wrap64 (Int.tdiv (wrap64 (x5 - 1)) 2))).f1⟩ : S27)).set ((wrap64 (Int.tdiv (wrap64 (x5 - 1)) 2)) : Int).toNat (⟨(rd_T27 x0 x5).f0, (rd_T27 x0 x5).f1⟩ : S27)) (wrap64 (Int.tdiv (wrap64 (x5 - 1)) 2))) else (some x0))) else (none)) else (none)) else (none)) else (none)) else (some x0)
def alarm_Put.f (k : Nat) (l0 : List (S27)) (a1_0 : Int) (a1_1 : Int) : Option ((List (S27))) := (api_Alarm.f l0).bind fun t110 => ((some (([(⟨a1_0, a1_1⟩ : S27)] : List (S27)) : List (S27))).bind fun y113 => (if t110.length + y113.length < 8796093022208 then ((some (t110 ++ y113 : List (S27))).bind fun y116 => (alarm_Put.l0 k y116 (wrap64 ((y116.length : Int) - 1)))) else (none)))
theorem alarm_Put.mono_l : ∀ k, (∀ y0 y1, LeO (alarm_Put.l0 k y0 y1) (alarm_Put.l0 (k + 1) y0 y1))
  | 0 => fun _ _ r h => by simp [alarm_Put.l0] at h
  | k + 1 => by
    have ih0 := alarm_Put.mono_l k
    · intro y0 y1
      unfold alarm_Put.l0
      repeat' first
      | (with_reducible exact ih0 _ _)
      | (with_reducible exact LeO.refl _)
      | (with_reducible exact LeO.none _)
      | (with_reducible refine LeO.ite ?_ ?_)
      | (with_reducible refine LeO.bind ?_ (fun _ => ?_))
      | exact ih0 _ _
      | exact LeO.none _
      | refine LeO.ite ?_ ?_
      | refine LeO.bind ?_ (fun _ => ?_)
theorem alarm_Put.mono : ∀ a0 a1 a2 k, LeO (alarm_Put.f k a0 a1 a2) (alarm_Put.f (k + 1) a0 a1 a2) := by
  intro a0 a1 a2 k
  have ih0 := alarm_Put.mono_l k
  unfold alarm_Put.f
  repeat' first
      | (with_reducible exact ih0 _ _)
      | (with_reducible exact LeO.refl _)
      | (with_reducible exact LeO.none _)
      | (with_reducible refine LeO.ite ?_ ?_)
      | (with_reducible refine LeO.bind ?_ (fun _ => ?_))
      | exact ih0 _ _
      | exact LeO.none _
      | refine LeO.ite ?_ ?_
      | refine LeO.bind ?_ (fun _ => ?_)

/-! ### alarm_sink (function 24): what it is -/
mutual
def alarm_sink.l0 : Nat → List (S27) → Int → Option ((List (S27)))
  | 0, _, _ => none
  | k + 1, x0, x2 => if (wrap64 ((wrap64 (2 * x2)) + 1)) < (x0.length : Int) then (if 0 ≤ (wrap64 ((wrap64 (2 * x2)) + 1)) then (if 0 ≤ x2 then (if x2 < (x0.length : Int) then ((alarm_Less.f ((rd_T27 x0 (wrap64 ((wrap64 (2 * x2)) + 1))).f0) ((rd_T27 x0 (wrap64 ((wrap64 (2 * x2)) + 1))).f1) ((rd_T27 x0 x2).f0) ((rd_T27 x0 x2).f1)).bind fun t128 => (if t128 = true then (alarm_sink.j1 k x0 x2 (wrap64 ((wrap64 (2 * x2)) + 1))) else (alarm_sink.j1 k x0 x2 x2))) else (none)) else (none)) else (none)) else (alarm_sink.j1 k x0 x2 x2)
def alarm_sink.j1 : Nat → List (S27) → Int → Int → Option ((List (S27)))
  | 0, _, _, _ => none
  | k + 1, x0, x2, x3 => if (wrap64 ((wrap64 ((wrap64 (2 * x2)) + 1)) + 1)) < (x0.length : Int) then (if 0 ≤ (wrap64 ((wrap64 ((wrap64 (2 * x2)) + 1)) + 1)) then (if 0 ≤ x3 then (if x3 < (x0.length : Int) then ((alarm_Less.f ((rd_T27 x0 (wrap64 ((wrap64 ((wrap64 (2 * x2)) + 1)) + 1))).f0) ((rd_T27 x0 (wrap64 ((wrap64 ((wrap64 (2 * x2)) + 1)) + 1))).f1) ((rd_T27 x0 x3).f0) ((rd_T27 x0 x3).f1)).bind fun t131 => (if t131 = true then (alarm_sink.j2 k x0 x2 (wrap64 ((wrap64 ((wrap64 (2 * x2)) + 1)) + 1))) else (alarm_sink.j2 k x0 x2 x3))) else (none)) else (none)) else (none)) else (alarm_sink.j2 k x0 x2 x3)
def alarm_sink.j2 : Nat → List (S27) → Int → Int → Option ((List (S27)))
  | 0, _, _, _ => none
  | k + 1, x0, x2, x3 => if x3 = x2 then (some x0) else (if 0 ≤ x3 then (if x3 < (x0.length : Int) then (if 0 ≤ x2 then (if x2 < (x0.length : Int) then (alarm_sink.l0 k ((x0.set (x2 : Int).toNat (⟨(rd_T27 x0 x3).f0, (rd_T27 x0 x3).f1⟩ : S27)).set (x3 : Int).toNat (⟨(rd_T27 x0 x2).f0, (rd_T27 x0 x2).f1⟩ : S27)) x3) else (none)) else (none)) else (none)) else (none))
end
def alarm_sink.f (k : Nat) (l0 : List (S27)) : Option ((List (S27))) := alarm_sink.l0 k l0 0
theorem alarm_sink.mono_l : ∀ k, (∀ y0 y1, LeO (alarm_sink.l0 k y0 y1) (alarm_sink.l0 (k + 1) y0 y1)) ∧ (∀ y0 y1 y2, LeO (alarm_sink.j1 k y0 y1 y2) (alarm_sink.j1 (k + 1) y0 y1 y2)) ∧ (∀ y0 y1 y2, LeO (alarm_sink.j2 k y0 y1 y2) (alarm_sink.j2 (k + 1) y0 y1 y2))
  | 0 => ⟨fun _ _ r h => by simp [alarm_sink.l0] at h, fun _ _ _ r h => by simp [alarm_sink.j1] at h, fun _ _ _ r h => by simp [alarm_sink.j2] at h⟩
  | k + 1 => by
    obtain ⟨ih0, ih1, ih2⟩ := alarm_sink.mono_l k
    refine ⟨?_, ?_, ?_⟩
    · intro y0 y1
      unfold alarm_sink.l0
      repeat' first
      | (with_reducible exact ih0 _ _)
      | (with_reducible exact ih1 _ _ _)
      | (with_reducible exact ih2 _ _ _)
      | (with_reducible exact LeO.refl _)
      | (with_reducible exact LeO.none _)
      | (with_reducible refine LeO.ite ?_ ?_)
      | (with_reducible refine LeO.bind ?_ (fun _ => ?_))
      | exact ih0 _ _
      | exact ih1 _ _ _
      | exact ih2 _ _ _
      | exact LeO.none _
      | refine LeO.ite ?_ ?_
      | refine LeO.bind ?_ (fun _ => ?_)
    · intro y0 y1 y2
      unfold alarm_sink.j1
      repeat' first
      | (with_reducible exact ih0 _ _)
      | (with_reducible exact ih1 _ _ _)
      | (with_reducible exact ih2 _ _ _)
      | (with_reducible exact LeO.refl _)
      | (with_reducible exact LeO.none _)
      | (with_reducible refine LeO.ite ?_ ?_)
      | (with_reducible refine LeO.bind ?_ (fun _ => ?_))
      | exact ih0 _ _
      | exact ih1 _ _ _
      | exact ih2 _ _ _
      | exact LeO.none _
      | refine LeO.ite ?_ ?_
      | refine LeO.bind ?_ (fun _ => ?_)
    · intro y0 y1 y2
      unfold alarm_sink.j2
      repeat' first
      | (with_reducible exact ih0 _ _)
      | (with_reducible exact ih1 _ _ _)
      | (with_reducible exact ih2 _ _ _)
      | (with_reducible exact LeO.refl _)
      | (with_reducible exact LeO.none _)
      | (with_reducible refine LeO.ite ?_ ?_)
      | (with_reducible refine LeO.bind ?_ (fun _ => ?_))
      | exact ih0 _ _
      | exact ih1 _ _ _
      | exact ih2 _ _ _
      | exact LeO.none _
      | refine LeO.ite ?_ ?_
      | refine LeO.bind ?_ (fun _ => ?_)
theorem alarm_sink.mono : ∀ a0 k, LeO (alarm_sink.f k a0) (alarm_sink.f (k + 1) a0) := by
  intro a0 k
  obtain ⟨ih0, ih1, ih2⟩ := alarm_sink.mono_l k
  unfold alarm_sink.f
  repeat' first
      | (with_reducible exact ih0 _ _)
      | (with_reducible exact ih1 _ _ _)
      | (with_reducible exact ih2 _ _ _)
      | (with_reducible exact LeO.refl _)
      | (with_reducible exact LeO.none _)
      | (with_reducible refine LeO.ite ?_ ?_)
      | (with_reducible refine LeO.bind ?_ (fun _ => ?_))
      | exact ih0 _ _
      | exact ih1 _ _ _
      | exact ih2 _ _ _
      | exact LeO.none _
      | refine LeO.ite ?_ ?_
      | refine LeO.bind ?_ (fun _ => ?_)

/-! ### alarm_Pop (function 10): what it is -/
def alarm_Pop.f (k : Nat) (l0 : List (S27)) : Option ((List (S27)) × Int × Int × Bool) := if (l0.length : Int) = 0 then (some (l0, 0, 0, false)) else (if 0 < (l0.length : Int) then ((api_Alarm.f l0).bind fun t139 => (if 0 ≤ (wrap64 ((l0.length : Int) - 1)) then (if (wrap64 ((l0.length : Int) - 1)) < (t139.length : Int) then (if 0 < (t139.length : Int) then (if (wrap64 ((l0.length : Int) - 1)) ≤ (t139.length : Int) then ((alarm_sink.f k ((t139.set (0 : Int).toNat (⟨(rd_T27 t139 (wrap64 ((l0.length : Int) - 1))).f0, (rd_T27 t139 (wrap64 ((l0.length : Int) - 1))).f1⟩ : S27)).take ((wrap64 ((l0.length : Int) - 1)) : Int).toNat)).bind fun t147 => (some (t147, (rd_T27 l0 0).f0, (rd_T27 l0 0).f1, true))) else (none)) else (none)) else (none)) else (none))) else (none))
theorem alarm_Pop.mono : ∀ a0 k, LeO (alarm_Pop.f k a0) (alarm_Pop.f (k + 1) a0) := by
  intro a0 k
  unfold alarm_Pop.f
  repeat' first
      | (with_reducible exact alarm_sink.mono _ _)
      | (with_reducible exact LeO.refl _)
      | (with_reducible exact LeO.none _)
      | (with_reducible refine LeO.ite ?_ ?_)
      | (with_reducible refine LeO.bind ?_ (fun _ => ?_))
      | exact alarm_sink.mono _ _
      | exact LeO.none _
      | refine LeO.ite ?_ ?_
      | refine LeO.bind ?_ (fun _ => ?_)

/-! ### alarm_Due (function 13): what it is -/
def alarm_Due.l0 : Nat → List (S27) → Int → List Int → Option ((List (S27)) × List Int)
  | 0, _, _, _ => none
  | k + 1, x0, x1, x6 => if (x0.length : Int) > 0 then (if 0 < (x0.length : Int) then (if ((rd_T27 x0 0).f0) ≤ x1 then ((alarm_Pop.f k x0).bind fun bt149 => (if x6.length < 17592186044416 then (alarm_Due.l0 k bt149.1 x1 (x6 ++ [bt149.2.2.1])) else (none))) else (some (x0, x6))) else (none)) else (some (x0, x6))
def alarm_Due.f (k : Nat) (l0 : List (S27)) (a1 : Int) : Option ((List (S27)) × List Int) := alarm_Due.l0 k l0 a1 ([] : List Int)
theorem alarm_Due.mono_l : ∀ k, (∀ y0 y1 y2, LeO (alarm_Due.l0 k y0 y1 y2) (alarm_Due.l0 (k + 1) y0 y1 y2))
  | 0 => fun _ _ _ r h => by simp [alarm_Due.l0] at h
  | k + 1 => by
    have ih0 := alarm_Due.mono_l k
    · intro y0 y1 y2
      unfold alarm_Due.l0
      repeat' first
      | (with_reducible exact ih0 _ _ _)
      | (with_reducible exact alarm_Pop.mono _ _)
      | (with_reducible exact LeO.refl _)
      | (with_reducible exact LeO.none _)
      | (with_reducible refine LeO.ite ?_ ?_)
      | (with_reducible refine LeO.bind ?_ (fun _ => ?_))
      | exact ih0 _ _ _
      | exact alarm_Pop.mono _ _
      | exact LeO.none _
      | refine LeO.ite ?_ ?_
      | refine LeO.bind ?_ (fun _ => ?_)
theorem alarm_Due.mono : ∀ a0 a1 k, LeO (alarm_Due.f k a0 a1) (alarm_Due.f (k + 1) a0 a1) := by
  intro a0 a1 k
  have ih0 := alarm_Due.mono_l k
  unfold alarm_Due.f
  repeat' first
      | (with_reducible exact ih0 _ _ _)
      | (with_reducible exact alarm_Pop.mono _ _)
      | (with_reducible exact LeO.refl _)
      | (with_reducible exact LeO.none _)
      | (with_reducible refine LeO.ite ?_ ?_)
      | (with_reducible refine LeO.bind ?_ (fun _ => ?_))
      | exact ih0 _ _ _
      | exact alarm_Pop.mono _ _
      | exact LeO.none _
      | refine LeO.ite ?_ ?_
      | refine LeO.bind ?_ (fun _ => ?_)

/-! ### stanchionlaw15_shown (function 8): what it is -/
def stanchionlaw15_shown.f (k : Nat)  : Option (Bool) := (alarm_Put.f k ([] : List (S27)) 5 1).bind fun t159 => ((alarm_Put.f k t159 3 2).bind fun t162 => ((alarm_Put.f k t162 4 3).bind fun t165 => ((alarm_Due.f k t165 4).bind fun bt168 => (if (bt168.2.length : Int) = 2 then (if 0 < (bt168.2.length : Int) then (if (rd bt168.2 0) = 2 then (if 1 < (bt168.2.length : Int) then (if (rd bt168.2 1) = 3 then (some ((bt168.1.length : Int) == 1)) else (some false)) else (none)) else (some false)) else (none)) else (some false)))))
theorem stanchionlaw15_shown.mono : ∀ k, LeO (stanchionlaw15_shown.f k ) (stanchionlaw15_shown.f (k + 1) ) := by
  intro  k
  unfold stanchionlaw15_shown.f
  repeat' first
      | (with_reducible exact alarm_Due.mono _ _ _)
      | (with_reducible exact alarm_Put.mono _ _ _ _)
      | (with_reducible exact LeO.refl _)
      | (with_reducible exact LeO.none _)
      | (with_reducible refine LeO.ite ?_ ?_)
      | (with_reducible refine LeO.bind ?_ (fun _ => ?_))
      | exact alarm_Due.mono _ _ _
      | exact alarm_Put.mono _ _ _ _
      | exact LeO.none _
      | refine LeO.ite ?_ ?_
      | refine LeO.bind ?_ (fun _ => ?_)

/-! ### stanchionlaw15_AlarmSorts (function 3): what it is -/
mutual
def stanchionlaw15_AlarmSorts.l0 : Nat → List (S27) → Bool → List (S27) → Int → Option (Bool)
  | 0, _, _, _, _ => none
  | k + 1, x0, x3, x4, x5 => if x5 < (x0.length : Int) then (if 0 ≤ x5 then ((alarm_Put.f k x4 ((rd_T27 x0 x5).f0) ((rd_T27 x0 x5).f1)).bind fun t178 => (stanchionlaw15_AlarmSorts.l0 k x0 x3 t178 (wrap64 (x5 + 1)))) else (none)) else (stanchionlaw15_AlarmSorts.l1 k x0 x3 x4 ([] : List (S27)))
def stanchionlaw15_AlarmSorts.l1 : Nat → List (S27) → Bool → List (S27) → List (S27) → Option (Bool)
  | 0, _, _, _, _ => none
  | k + 1, x0, x3, x4, x6 => if (x6.length : Int) < (x0.length : Int) then ((alarm_Pop.f k x4).bind fun bt181 => (if bt181.2.2.2 = true then (if (x6.length : Int) > 0 then (if 0 ≤ (wrap64 ((x6.length : Int) - 1)) then (if (wrap64 ((x6.length : Int) - 1)) < (x6.length : Int) then ((alarm_Less.f bt181.2.1 bt181.2.2.1 ((rd_T27 x6 (wrap64 ((x6.length : Int) - 1))).f0) ((rd_T27 x6 (wrap64 ((x6.length : Int) - 1))).f1)).bind fun t189 => (if t189 = true then (some false) else (if x6.length < 8796093022208 then (stanchionlaw15_AlarmSorts.l1 k x0 x3 bt181.1 (x6 ++ [(⟨bt181.2.1, bt181.2.2.1⟩ : S27)])) else (none)))) else (none)) else (none)) else (if x6.length < 8796093022208 then (stanchionlaw15_AlarmSorts.l1 k x0 x3 bt181.1 (x6 ++ [(⟨bt181.2.1, bt181.2.2.1⟩ : S27)])) else (none))) else (some false))) else (stanchionlaw15_AlarmSorts.l2 k x0 x3 x4 x6 0)
def stanchionlaw15_AlarmSorts.l2 : Nat → List (S27) → Bool → List (S27) → List (S27) → Int → Option (Bool)
  | 0, _, _, _, _, _ => none
  | k + 1, x0, x3, x4, x6, x10 => if x10 < (x0.length : Int) then (stanchionlaw15_AlarmSorts.l3 k x0 x3 x4 x6 x10 0 0 0) else (if x3 = true then (some ((x4.length : Int) == 0)) else (some false))
def stanchionlaw15_AlarmSorts.l3 : Nat → List (S27) → Bool → List (S27) → List (S27) → Int → Int → Int → Int → Option (Bool)
  | 0, _, _, _, _, _, _, _, _ => none
  | k + 1, x0, x3, x4, x6, x10, x11, x12, x13 => if x13 < (x0.length : Int) then (if 0 ≤ x13 then (if 0 ≤ x10 then (if x10 < (x0.length : Int) then (if (((rd_T27 x0 x13).f0) == ((rd_T27 x0 x10).f0) && (((rd_T27 x0 x13).f1) == ((rd_T27 x0 x10).f1))) = true then (if x13 < (x6.length : Int) then (if (((rd_T27 x6 x13).f0) == ((rd_T27 x0 x10).f0) && (((rd_T27 x6 x13).f1) == ((rd_T27 x0 x10).f1))) = true then (stanchionlaw15_AlarmSorts.l3 k x0 x3 x4 x6 x10 (wrap64 (x11 + 1)) (wrap64 (x12 + 1)) (wrap64 (x13 + 1))) else (stanchionlaw15_AlarmSorts.l3 k x0 x3 x4 x6 x10 (wrap64 (x11 + 1)) x12 (wrap64 (x13 + 1)))) else (none)) else (if x13 < (x6.length : Int) then (if (((rd_T27 x6 x13).f0) == ((rd_T27 x0 x10).f0) && (((rd_T27 x6 x13).f1) == ((rd_T27 x0 x10).f1))) = true then (stanchionlaw15_AlarmSorts.l3 k x0 x3 x4 x6 x10 x11 (wrap64 (x12 + 1)) (wrap64 (x13 + 1))) else (stanchionlaw15_AlarmSorts.l3 k x0 x3 x4 x6 x10 x11 x12 (wrap64 (x13 + 1)))) else (none))) else (none)) else (none)) else (none)) else (if x11 = x12 then (stanchionlaw15_AlarmSorts.l2 k x0 x3 x4 x6 (wrap64 (x10 + 1))) else (some false))
end
def stanchionlaw15_AlarmSorts.f (k : Nat) (l0 : List (S27)) : Option (Bool) := (stanchionlaw15_shown.f k).bind fun t176 => (if (l0.length : Int) > 200 then (some t176) else (stanchionlaw15_AlarmSorts.l0 k l0 t176 ([] : List (S27)) 0))
theorem stanchionlaw15_AlarmSorts.mono_l : ∀ k, (∀ y0 y1 y2 y3, LeO (stanchionlaw15_AlarmSorts.l0 k y0 y1 y2 y3) (stanchionlaw15_AlarmSorts.l0 (k + 1) y0 y1 y2 y3)) ∧ (∀ y0 y1 y2 y3, LeO (stanchionlaw15_AlarmSorts.l1 k y0 y1 y2 y3) (stanchionlaw15_AlarmSorts.l1 (k + 1) y0 y1 y2 y3)) ∧ (∀ y0 y1 y2 y3 y4, LeO (stanchionlaw15_AlarmSorts.l2 k y0 y1 y2 y3 y4) (stanchionlaw15_AlarmSorts.l2 (k + 1) y0 y1 y2 y3 y4)) ∧ (∀ y0 y1 y2 y3 y4 y5 y6 y7, LeO (stanchionlaw15_AlarmSorts.l3 k y0 y1 y2 y3 y4 y5 y6 y7) (stanchionlaw15_AlarmSorts.l3 (k + 1) y0 y1 y2 y3 y4 y5 y6 y7))
  | 0 => ⟨fun _ _ _ _ r h => by simp [stanchionlaw15_AlarmSorts.l0] at h, fun _ _ _ _ r h => by simp [stanchionlaw15_AlarmSorts.l1] at h, fun _ _ _ _ _ r h => by simp [stanchionlaw15_AlarmSorts.l2] at h, fun _ _ _ _ _ _ _ _ r h => by simp [stanchionlaw15_AlarmSorts.l3] at h⟩
  | k + 1 => by
    obtain ⟨ih0, ih1, ih2, ih3⟩ := stanchionlaw15_AlarmSorts.mono_l k
    refine ⟨?_, ?_, ?_, ?_⟩
    · intro y0 y1 y2 y3
      unfold stanchionlaw15_AlarmSorts.l0
      repeat' first
      | (with_reducible exact ih0 _ _ _ _)
      | (with_reducible exact ih1 _ _ _ _)
      | (with_reducible exact ih2 _ _ _ _ _)
      | (with_reducible exact ih3 _ _ _ _ _ _ _ _)
      | (with_reducible exact alarm_Pop.mono _ _)
      | (with_reducible exact alarm_Put.mono _ _ _ _)
      | (with_reducible exact stanchionlaw15_shown.mono _)
      | (with_reducible exact LeO.refl _)
      | (with_reducible exact LeO.none _)
      | (with_reducible refine LeO.ite ?_ ?_)
      | (with_reducible refine LeO.bind ?_ (fun _ => ?_))
      | exact ih0 _ _ _ _
      | exact ih1 _ _ _ _
      | exact ih2 _ _ _ _ _
      | exact ih3 _ _ _ _ _ _ _ _
      | exact alarm_Pop.mono _ _
      | exact alarm_Put.mono _ _ _ _
      | exact stanchionlaw15_shown.mono _
      | exact LeO.none _
      | refine LeO.ite ?_ ?_
      | refine LeO.bind ?_ (fun _ => ?_)
    · intro y0 y1 y2 y3
      unfold stanchionlaw15_AlarmSorts.l1
      repeat' first
      | (with_reducible exact ih0 _ _ _ _)
      | (with_reducible exact ih1 _ _ _ _)
      | (with_reducible exact ih2 _ _ _ _ _)
      | (with_reducible exact ih3 _ _ _ _ _ _ _ _)
      | (with_reducible exact alarm_Pop.mono _ _)
      | (with_reducible exact alarm_Put.mono _ _ _ _)
      | (with_reducible exact stanchionlaw15_shown.mono _)
      | (with_reducible exact LeO.refl _)
      | (with_reducible exact LeO.none _)
      | (with_reducible refine LeO.ite ?_ ?_)
      | (with_reducible refine LeO.bind ?_ (fun _ => ?_))
      | exact ih0 _ _ _ _
      | exact ih1 _ _ _ _
      | exact ih2 _ _ _ _ _
      | exact ih3 _ _ _ _ _ _ _ _
      | exact alarm_Pop.mono _ _
      | exact alarm_Put.mono _ _ _ _
      | exact stanchionlaw15_shown.mono _
      | exact LeO.none _
      | refine LeO.ite ?_ ?_
      | refine LeO.bind ?_ (fun _ => ?_)
    · intro y0 y1 y2 y3 y4
      unfold stanchionlaw15_AlarmSorts.l2
      repeat' first
      | (with_reducible exact ih0 _ _ _ _)
      | (with_reducible exact ih1 _ _ _ _)
      | (with_reducible exact ih2 _ _ _ _ _)
      | (with_reducible exact ih3 _ _ _ _ _ _ _ _)
      | (with_reducible exact alarm_Pop.mono _ _)
      | (with_reducible exact alarm_Put.mono _ _ _ _)
      | (with_reducible exact stanchionlaw15_shown.mono _)
      | (with_reducible exact LeO.refl _)
      | (with_reducible exact LeO.none _)
      | (with_reducible refine LeO.ite ?_ ?_)
      | (with_reducible refine LeO.bind ?_ (fun _ => ?_))
      | exact ih0 _ _ _ _
      | exact ih1 _ _ _ _
      | exact ih2 _ _ _ _ _
      | exact ih3 _ _ _ _ _ _ _ _
      | exact alarm_Pop.mono _ _
      | exact alarm_Put.mono _ _ _ _
      | exact stanchionlaw15_shown.mono _
      | exact LeO.none _
      | refine LeO.ite ?_ ?_
      | refine LeO.bind ?_ (fun _ => ?_)
    · intro y0 y1 y2 y3 y4 y5 y6 y7
      unfold stanchionlaw15_AlarmSorts.l3
      repeat' first
      | (with_reducible exact ih0 _ _ _ _)
      | (with_reducible exact ih1 _ _ _ _)
      | (with_reducible exact ih2 _ _ _ _ _)
      | (with_reducible exact ih3 _ _ _ _ _ _ _ _)
      | (with_reducible exact alarm_Pop.mono _ _)
      | (with_reducible exact alarm_Put.mono _ _ _ _)
      | (with_reducible exact stanchionlaw15_shown.mono _)
      | (with_reducible exact LeO.refl _)
      | (with_reducible exact LeO.none _)
      | (with_reducible refine LeO.ite ?_ ?_)
      | (with_reducible refine LeO.bind ?_ (fun _ => ?_))
      | exact ih0 _ _ _ _
      | exact ih1 _ _ _ _
      | exact ih2 _ _ _ _ _
      | exact ih3 _ _ _ _ _ _ _ _
      | exact alarm_Pop.mono _ _
      | exact alarm_Put.mono _ _ _ _
      | exact stanchionlaw15_shown.mono _
      | exact LeO.none _
      | refine LeO.ite ?_ ?_
      | refine LeO.bind ?_ (fun _ => ?_)
theorem stanchionlaw15_AlarmSorts.mono : ∀ a0 k, LeO (stanchionlaw15_AlarmSorts.f k a0) (stanchionlaw15_AlarmSorts.f (k + 1) a0) := by
  intro a0 k
  obtain ⟨ih0, ih1, ih2, ih3⟩ := stanchionlaw15_AlarmSorts.mono_l k
  unfold stanchionlaw15_AlarmSorts.f
  repeat' first
      | (with_reducible exact ih0 _ _ _ _)
      | (with_reducible exact ih1 _ _ _ _)
      | (with_reducible exact ih2 _ _ _ _ _)
      | (with_reducible exact ih3 _ _ _ _ _ _ _ _)
      | (with_reducible exact alarm_Pop.mono _ _)
      | (with_reducible exact alarm_Put.mono _ _ _ _)
      | (with_reducible exact stanchionlaw15_shown.mono _)
      | (with_reducible exact LeO.refl _)
      | (with_reducible exact LeO.none _)
      | (with_reducible refine LeO.ite ?_ ?_)
      | (with_reducible refine LeO.bind ?_ (fun _ => ?_))
      | exact ih0 _ _ _ _
      | exact ih1 _ _ _ _
      | exact ih2 _ _ _ _ _
      | exact ih3 _ _ _ _ _ _ _ _
      | exact alarm_Pop.mono _ _
      | exact alarm_Put.mono _ _ _ _
      | exact stanchionlaw15_shown.mono _
      | exact LeO.none _
      | refine LeO.ite ?_ ?_
      | refine LeO.bind ?_ (fun _ => ?_)

/-! ### stanchionref15_Less (function 22): what it is -/
def stanchionref15_Less.f (a0_0 : Int) (a0_1 : Int) (a1_0 : Int) (a1_1 : Int) : Option (Bool) := if a0_0 = a1_0 then (some (decide (a0_1 < a1_1))) else (some (decide (a0_0 < a1_0)))

/-! ### stanchionref15_Heap (function 12): what it is -/
mutual
def stanchionref15_Heap.l0 : Nat → List (S27) → Int → Option (Bool)
  | 0, _, _ => none
  | k + 1, x0, x3 => if x3 < (x0.length : Int) then (stanchionref15_Heap.l1 k x0 x3 (wrap64 ((wrap64 (2 * x3)) + 1))) else (some true)
def stanchionref15_Heap.l1 : Nat → List (S27) → Int → Int → Option (Bool)
  | 0, _, _, _ => none
  | k + 1, x0, x3, x4 => if x4 ≤ (wrap64 ((wrap64 (2 * x3)) + 2)) then (stanchionref15_Heap.j2 k x0 x3 x4 (decide (x4 < (x0.length : Int)))) else (stanchionref15_Heap.j2 k x0 x3 x4 false)
def stanchionref15_Heap.j2 : Nat → List (S27) → Int → Int → Bool → Option (Bool)
  | 0, _, _, _, _ => none
  | k + 1, x0, x3, x4, x25 => if x25 = true then (if 0 ≤ x4 then (if x4 < (x0.length : Int) then (if 0 ≤ x3 then (if x3 < (x0.length : Int) then ((stanchionref15_Less.f ((rd_T27 x0 x4).f0) ((rd_T27 x0 x4).f1) ((rd_T27 x0 x3).f0) ((rd_T27 x0 x3).f1)).bind fun t206 => (if t206 = true then (some false) else (stanchionref15_Heap.l1 k x0 x3 (wrap64 (x4 + 1))))) else (none)) else (none)) else (none)) else (none)) else (stanchionref15_Heap.l0 k x0 (wrap64 (x3 + 1)))
end
def stanchionref15_Heap.f (k : Nat) (l0 : List (S27)) : Option (Bool) := stanchionref15_Heap.l0 k l0 0
theorem stanchionref15_Heap.mono_l : ∀ k, (∀ y0 y1, LeO (stanchionref15_Heap.l0 k y0 y1) (stanchionref15_Heap.l0 (k + 1) y0 y1)) ∧ (∀ y0 y1 y2, LeO (stanchionref15_Heap.l1 k y0 y1 y2) (stanchionref15_Heap.l1 (k + 1) y0 y1 y2)) ∧ (∀ y0 y1 y2 y3, LeO (stanchionref15_Heap.j2 k y0 y1 y2 y3) (stanchionref15_Heap.j2 (k + 1) y0 y1 y2 y3))
  | 0 => ⟨fun _ _ r h => by simp [stanchionref15_Heap.l0] at h, fun _ _ _ r h => by simp [stanchionref15_Heap.l1] at h, fun _ _ _ _ r h => by simp [stanchionref15_Heap.j2] at h⟩
  | k + 1 => by
    obtain ⟨ih0, ih1, ih2⟩ := stanchionref15_Heap.mono_l k
    refine ⟨?_, ?_, ?_⟩
    · intro y0 y1
      unfold stanchionref15_Heap.l0
      repeat' first
      | (with_reducible exact ih0 _ _)
      | (with_reducible exact ih1 _ _ _)
      | (with_reducible exact ih2 _ _ _ _)
      | (with_reducible exact LeO.refl _)
      | (with_reducible exact LeO.none _)
      | (with_reducible refine LeO.ite ?_ ?_)
      | (with_reducible refine LeO.bind ?_ (fun _ => ?_))
      | exact ih0 _ _
      | exact ih1 _ _ _
      | exact ih2 _ _ _ _
      | exact LeO.none _
      | refine LeO.ite ?_ ?_
      | refine LeO.bind ?_ (fun _ => ?_)
    · intro y0 y1 y2
      unfold stanchionref15_Heap.l1
      repeat' first
      | (with_reducible exact ih0 _ _)
      | (with_reducible exact ih1 _ _ _)
      | (with_reducible exact ih2 _ _ _ _)
      | (with_reducible exact LeO.refl _)
      | (with_reducible exact LeO.none _)
      | (with_reducible refine LeO.ite ?_ ?_)
      | (with_reducible refine LeO.bind ?_ (fun _ => ?_))
      | exact ih0 _ _
      | exact ih1 _ _ _
      | exact ih2 _ _ _ _
      | exact LeO.none _
      | refine LeO.ite ?_ ?_
      | refine LeO.bind ?_ (fun _ => ?_)
    · intro y0 y1 y2 y3
      unfold stanchionref15_Heap.j2
      repeat' first
      | (with_reducible exact ih0 _ _)
      | (with_reducible exact ih1 _ _ _)
      | (with_reducible exact ih2 _ _ _ _)
      | (with_reducible exact LeO.refl _)
      | (with_reducible exact LeO.none _)
      | (with_reducible refine LeO.ite ?_ ?_)
      | (with_reducible refine LeO.bind ?_ (fun _ => ?_))
      | exact ih0 _ _
      | exact ih1 _ _ _
      | exact ih2 _ _ _ _
      | exact LeO.none _
      | refine LeO.ite ?_ ?_
      | refine LeO.bind ?_ (fun _ => ?_)
theorem stanchionref15_Heap.mono : ∀ a0 k, LeO (stanchionref15_Heap.f k a0) (stanchionref15_Heap.f (k + 1) a0) := by
  intro a0 k
  obtain ⟨ih0, ih1, ih2⟩ := stanchionref15_Heap.mono_l k
  unfold stanchionref15_Heap.f
  repeat' first
      | (with_reducible exact ih0 _ _)
      | (with_reducible exact ih1 _ _ _)
      | (with_reducible exact ih2 _ _ _ _)
      | (with_reducible exact LeO.refl _)
      | (with_reducible exact LeO.none _)
      | (with_reducible refine LeO.ite ?_ ?_)
      | (with_reducible refine LeO.bind ?_ (fun _ => ?_))
      | exact ih0 _ _
      | exact ih1 _ _ _
      | exact ih2 _ _ _ _
      | exact LeO.none _
      | refine LeO.ite ?_ ?_
      | refine LeO.bind ?_ (fun _ => ?_)

/-! ### stanchionlaw15_AlarmFirst (function 4): what it is -/
mutual
def stanchionlaw15_AlarmFirst.j0 : Nat → List (S27) → Bool → Bool → Option (Bool)
  | 0, _, _, _ => none
  | k + 1, x0, x3, x18 => if x18 = true then (some x3) else ((alarm_Pop.f k x0).bind fun bt209 => (if (bt209.2.2.2 != (decide ((x0.length : Int) > 0))) = true then (some false) else (stanchionlaw15_AlarmFirst.l0 k x0 x3 bt209.1 bt209.2.2.2 0 bt209.2.1 bt209.2.2.1)))
def stanchionlaw15_AlarmFirst.l0 : Nat → List (S27) → Bool → List (S27) → Bool → Int → Int → Int → Option (Bool)
  | 0, _, _, _, _, _, _, _ => none
  | k + 1, x0, x3, x5, x7, x8, x216000, x216001 => if x8 < (x0.length : Int) then (if 0 ≤ x8 then ((alarm_Less.f ((rd_T27 x0 x8).f0) ((rd_T27 x0 x8).f1) x216000 x216001).bind fun t217 => (if t217 = true then (some false) else (stanchionlaw15_AlarmFirst.l0 k x0 x3 x5 x7 (wrap64 (x8 + 1)) x216000 x216001))) else (none)) else (if x3 = true then (if x7 = true then (some ((x5.length : Int) == (wrap64 ((x0.length : Int) - 1)))) else (some true)) else (some false))
end
def stanchionlaw15_AlarmFirst.f (k : Nat) (l0 : List (S27)) : Option (Bool) := (stanchionlaw15_shown.f k).bind fun t207 => ((stanchionref15_Heap.f k l0).bind fun t208 => (if (l0.length : Int) > 300 then (stanchionlaw15_AlarmFirst.j0 k l0 t207 true) else (stanchionlaw15_AlarmFirst.j0 k l0 t207 (!t208))))
theorem stanchionlaw15_AlarmFirst.mono_l : ∀ k, (∀ y0 y1 y2, LeO (stanchionlaw15_AlarmFirst.j0 k y0 y1 y2) (stanchionlaw15_AlarmFirst.j0 (k + 1) y0 y1 y2)) ∧ (∀ y0 y1 y2 y3 y4 y5 y6, LeO (stanchionlaw15_AlarmFirst.l0 k y0 y1 y2 y3 y4 y5 y6) (stanchionlaw15_AlarmFirst.l0 (k + 1) y0 y1 y2 y3 y4 y5 y6))
  | 0 => ⟨fun _ _ _ r h => by simp [stanchionlaw15_AlarmFirst.j0] at h, fun _ _ _ _ _ _ _ r h => by simp [stanchionlaw15_AlarmFirst.l0] at h⟩
  | k + 1 => by
    obtain ⟨ih0, ih1⟩ := stanchionlaw15_AlarmFirst.mono_l k
    refine ⟨?_, ?_⟩
    · intro y0 y1 y2
      unfold stanchionlaw15_AlarmFirst.j0
      repeat' first
      | (with_reducible exact ih0 _ _ _)
      | (with_reducible exact ih1 _ _ _ _ _ _ _)
      | (with_reducible exact alarm_Pop.mono _ _)
      | (with_reducible exact stanchionlaw15_shown.mono _)
      | (with_reducible exact stanchionref15_Heap.mono _ _)
      | (with_reducible exact LeO.refl _)
      | (with_reducible exact LeO.none _)
      | (with_reducible refine LeO.ite ?_ ?_)
      | (with_reducible refine LeO.bind ?_ (fun _ => ?_))
      | exact ih0 _ _ _
      | exact ih1 _ _ _ _ _ _ _
      | exact alarm_Pop.mono _ _
      | exact stanchionlaw15_shown.mono _
      | exact stanchionref15_Heap.mono _ _
      | exact LeO.none _
      | refine LeO.ite ?_ ?_
      | refine LeO.bind ?_ (fun _ => ?_)
    · intro y0 y1 y2 y3 y4 y5 y6
      unfold stanchionlaw15_AlarmFirst.l0
      repeat' first
      | (with_reducible exact ih0 _ _ _)
      | (with_reducible exact ih1 _ _ _ _ _ _ _)
      | (with_reducible exact alarm_Pop.mono _ _)
      | (with_reducible exact stanchionlaw15_shown.mono _)
      | (with_reducible exact stanchionref15_Heap.mono _ _)
      | (with_reducible exact LeO.refl _)
      | (with_reducible exact LeO.none _)
      | (with_reducible refine LeO.ite ?_ ?_)
      | (with_reducible refine LeO.bind ?_ (fun _ => ?_))
      | exact ih0 _ _ _
      | exact ih1 _ _ _ _ _ _ _
      | exact alarm_Pop.mono _ _
      | exact stanchionlaw15_shown.mono _
      | exact stanchionref15_Heap.mono _ _
      | exact LeO.none _
      | refine LeO.ite ?_ ?_
      | refine LeO.bind ?_ (fun _ => ?_)
theorem stanchionlaw15_AlarmFirst.mono : ∀ a0 k, LeO (stanchionlaw15_AlarmFirst.f k a0) (stanchionlaw15_AlarmFirst.f (k + 1) a0) := by
  intro a0 k
  obtain ⟨ih0, ih1⟩ := stanchionlaw15_AlarmFirst.mono_l k
  unfold stanchionlaw15_AlarmFirst.f
  repeat' first
      | (with_reducible exact ih0 _ _ _)
      | (with_reducible exact ih1 _ _ _ _ _ _ _)
      | (with_reducible exact alarm_Pop.mono _ _)
      | (with_reducible exact stanchionlaw15_shown.mono _)
      | (with_reducible exact stanchionref15_Heap.mono _ _)
      | (with_reducible exact LeO.refl _)
      | (with_reducible exact LeO.none _)
      | (with_reducible refine LeO.ite ?_ ?_)
      | (with_reducible refine LeO.bind ?_ (fun _ => ?_))
      | exact ih0 _ _ _
      | exact ih1 _ _ _ _ _ _ _
      | exact alarm_Pop.mono _ _
      | exact stanchionlaw15_shown.mono _
      | exact stanchionref15_Heap.mono _ _
      | exact LeO.none _
      | refine LeO.ite ?_ ?_
      | refine LeO.bind ?_ (fun _ => ?_)

/-! ### alarm_Drop (function 14): what it is -/
def alarm_Drop.l0 : Nat → Int → List (S27) → List (S27) → Int → Int → Option ((List (S27)))
  | 0, _, _, _, _, _ => none
  | k + 1, x1, x5, x8, x9, x10 => if x10 < x9 then (if 0 ≤ x10 then (if x10 < (x8.length : Int) then (if ((rd_T27 x8 x10).f1) = x1 then (alarm_Drop.l0 k x1 x5 x8 x9 (wrap64 (x10 + 1))) else ((alarm_Put.f k x5 ((rd_T27 x8 x10).f0) ((rd_T27 x8 x10).f1)).bind fun t220 => (alarm_Drop.l0 k x1 t220 x8 x9 (wrap64 (x10 + 1))))) else (none)) else (none)) else (some x5)
def alarm_Drop.f (k : Nat) (l0 : List (S27)) (a1 : Int) : Option ((List (S27))) := alarm_Drop.l0 k a1 ([] : List (S27)) l0 (l0.length : Int) 0
theorem alarm_Drop.mono_l : ∀ k, (∀ y0 y1 y2 y3 y4, LeO (alarm_Drop.l0 k y0 y1 y2 y3 y4) (alarm_Drop.l0 (k + 1) y0 y1 y2 y3 y4))
  | 0 => fun _ _ _ _ _ r h => by simp [alarm_Drop.l0] at h
  | k + 1 => by
    have ih0 := alarm_Drop.mono_l k
    · intro y0 y1 y2 y3 y4
      unfold alarm_Drop.l0
      repeat' first
      | (with_reducible exact ih0 _ _ _ _ _)
      | (with_reducible exact alarm_Put.mono _ _ _ _)
      | (with_reducible exact LeO.refl _)
      | (with_reducible exact LeO.none _)
      | (with_reducible refine LeO.ite ?_ ?_)
      | (with_reducible refine LeO.bind ?_ (fun _ => ?_))
      | exact ih0 _ _ _ _ _
      | exact alarm_Put.mono _ _ _ _
      | exact LeO.none _
      | refine LeO.ite ?_ ?_
      | refine LeO.bind ?_ (fun _ => ?_)
theorem alarm_Drop.mono : ∀ a0 a1 k, LeO (alarm_Drop.f k a0 a1) (alarm_Drop.f (k + 1) a0 a1) := by
  intro a0 a1 k
  have ih0 := alarm_Drop.mono_l k
  unfold alarm_Drop.f
  repeat' first
      | (with_reducible exact ih0 _ _ _ _ _)
      | (with_reducible exact alarm_Put.mono _ _ _ _)
      | (with_reducible exact LeO.refl _)
      | (with_reducible exact LeO.none _)
      | (with_reducible refine LeO.ite ?_ ?_)
      | (with_reducible refine LeO.bind ?_ (fun _ => ?_))
      | exact ih0 _ _ _ _ _
      | exact alarm_Put.mono _ _ _ _
      | exact LeO.none _
      | refine LeO.ite ?_ ?_
      | refine LeO.bind ?_ (fun _ => ?_)

/-! ### stanchionlaw15_AlarmStays (function 5): what it is -/
def stanchionlaw15_AlarmStays.j0 : Nat → List (S27) → Int → Int → Bool → Bool → Int → Int → Option (Bool)
  | 0, _, _, _, _, _, _, _ => none
  | k + 1, x3, x5, x6, x7, x32, x225000, x225001 => if x32 = true then (some x7) else ((alarm_Pop.f k x3).bind fun bt227 => ((alarm_Due.f k x3 x5).bind fun bt234 => ((alarm_Put.f k x3 x225000 x225001).bind fun t240 => ((stanchionref15_Heap.f k t240).bind fun t243 => (if t243 = true then ((stanchionref15_Heap.f k bt227.1).bind fun t244 => (if x7 = true then (if t244 = true then ((stanchionref15_Heap.f k bt234.1).bind fun t245 => (if t245 = true then ((alarm_Drop.f k x3 x6).bind fun t246 => ((stanchionref15_Heap.f k t246).bind fun t249 => (some t249))) else (some false))) else (some false)) else (some false))) else (if x7 = true then (some false) else (some false)))))))
def stanchionlaw15_AlarmStays.f (k : Nat) (l0_0 : List (S27)) (a0_1 : Int) (a0_2 : Int) (a0_3 : Int) (a0_4 : Int) : Option (Bool) := (stanchionlaw15_shown.f k).bind fun t225 => ((stanchionref15_Heap.f k l0_0).bind fun t226 => (if (l0_0.length : Int) > 300 then (stanchionlaw15_AlarmStays.j0 k l0_0 a0_3 a0_4 t225 true a0_1 a0_2) else (stanchionlaw15_AlarmStays.j0 k l0_0 a0_3 a0_4 t225 (!t226) a0_1 a0_2)))
theorem stanchionlaw15_AlarmStays.mono_l : ∀ k, (∀ y0 y1 y2 y3 y4 y5 y6, LeO (stanchionlaw15_AlarmStays.j0 k y0 y1 y2 y3 y4 y5 y6) (stanchionlaw15_AlarmStays.j0 (k + 1) y0 y1 y2 y3 y4 y5 y6))
  | 0 => fun _ _ _ _ _ _ _ r h => by simp [stanchionlaw15_AlarmStays.j0] at h
  | k + 1 => by
    have ih0 := stanchionlaw15_AlarmStays.mono_l k
    · intro y0 y1 y2 y3 y4 y5 y6
      unfold stanchionlaw15_AlarmStays.j0
      repeat' first
      | (with_reducible exact ih0 _ _ _ _ _ _ _)
      | (with_reducible exact alarm_Drop.mono _ _ _)
      | (with_reducible exact alarm_Due.mono _ _ _)
      | (with_reducible exact alarm_Pop.mono _ _)
      | (with_reducible exact alarm_Put.mono _ _ _ _)
      | (with_reducible exact stanchionlaw15_shown.mono _)
      | (with_reducible exact stanchionref15_Heap.mono _ _)
      | (with_reducible exact LeO.refl _)
      | (with_reducible exact LeO.none _)
      | (with_reducible refine LeO.ite ?_ ?_)
      | (with_reducible refine LeO.bind ?_ (fun _ => ?_))
      | exact ih0 _ _ _ _ _ _ _
      | exact alarm_Drop.mono _ _ _
      | exact alarm_Due.mono _ _ _
      | exact alarm_Pop.mono _ _
      | exact alarm_Put.mono _ _ _ _
      | exact stanchionlaw15_shown.mono _
      | exact stanchionref15_Heap.mono _ _
      | exact LeO.none _
      | refine LeO.ite ?_ ?_
      | refine LeO.bind ?_ (fun _ => ?_)
theorem stanchionlaw15_AlarmStays.mono : ∀ a0 a1 a2 a3 a4 k, LeO (stanchionlaw15_AlarmStays.f k a0 a1 a2 a3 a4) (stanchionlaw15_AlarmStays.f (k + 1) a0 a1 a2 a3 a4) := by
  intro a0 a1 a2 a3 a4 k
  have ih0 := stanchionlaw15_AlarmStays.mono_l k
  unfold stanchionlaw15_AlarmStays.f
  repeat' first
      | (with_reducible exact ih0 _ _ _ _ _ _ _)
      | (with_reducible exact alarm_Drop.mono _ _ _)
      | (with_reducible exact alarm_Due.mono _ _ _)
      | (with_reducible exact alarm_Pop.mono _ _)
      | (with_reducible exact alarm_Put.mono _ _ _ _)
      | (with_reducible exact stanchionlaw15_shown.mono _)
      | (with_reducible exact stanchionref15_Heap.mono _ _)
      | (with_reducible exact LeO.refl _)
      | (with_reducible exact LeO.none _)
      | (with_reducible refine LeO.ite ?_ ?_)
      | (with_reducible refine LeO.bind ?_ (fun _ => ?_))
      | exact ih0 _ _ _ _ _ _ _
      | exact alarm_Drop.mono _ _ _
      | exact alarm_Due.mono _ _ _
      | exact alarm_Pop.mono _ _
      | exact alarm_Put.mono _ _ _ _
      | exact stanchionlaw15_shown.mono _
      | exact stanchionref15_Heap.mono _ _
      | exact LeO.none _
      | refine LeO.ite ?_ ?_
      | refine LeO.bind ?_ (fun _ => ?_)

/-! ### stanchionlaw15_AlarmDues (function 6): what it is -/
mutual
def stanchionlaw15_AlarmDues.j0 : Nat → List (S27) → Int → Int → Bool → Bool → Option (Bool)
  | 0, _, _, _, _, _ => none
  | k + 1, x0, x1, x2, x7, x25 => if x25 = true then (some x7) else ((alarm_Due.f k x0 x1).bind fun bt252 => (stanchionlaw15_AlarmDues.l0 k x0 x1 x2 x7 bt252.1 bt252.2 0 0))
def stanchionlaw15_AlarmDues.l0 : Nat → List (S27) → Int → Int → Bool → List (S27) → List Int → Int → Int → Option (Bool)
  | 0, _, _, _, _, _, _, _, _ => none
  | k + 1, x0, x1, x2, x7, x9, x10, x11, x12 => if x12 < (x0.length : Int) then (if 0 ≤ x12 then (if ((rd_T27 x0 x12).f0) ≤ x1 then (stanchionlaw15_AlarmDues.l0 k x0 x1 x2 x7 x9 x10 (wrap64 (x11 + 1)) (wrap64 (x12 + 1))) else (stanchionlaw15_AlarmDues.l0 k x0 x1 x2 x7 x9 x10 x11 (wrap64 (x12 + 1)))) else (none)) else (stanchionlaw15_AlarmDues.l1 k x0 x1 x2 x7 x9 x10 x11 0)
def stanchionlaw15_AlarmDues.l1 : Nat → List (S27) → Int → Int → Bool → List (S27) → List Int → Int → Int → Option (Bool)
  | 0, _, _, _, _, _, _, _, _ => none
  | k + 1, x0, x1, x2, x7, x9, x10, x11, x13 => if x13 < (x9.length : Int) then (if 0 ≤ x13 then (if ((rd_T27 x9 x13).f0) ≤ x1 then (some false) else (stanchionlaw15_AlarmDues.l1 k x0 x1 x2 x7 x9 x10 x11 (wrap64 (x13 + 1)))) else (none)) else ((alarm_Drop.f k x0 x2).bind fun t260 => (stanchionlaw15_AlarmDues.l2 k x0 x2 x7 x9 x10 x11 t260 0))
def stanchionlaw15_AlarmDues.l2 : Nat → List (S27) → Int → Bool → List (S27) → List Int → Int → List (S27) → Int → Option (Bool)
  | 0, _, _, _, _, _, _, _, _ => none
  | k + 1, x0, x2, x7, x9, x10, x11, x14, x15 => if x15 < (x14.length : Int) then (if 0 ≤ x15 then (if ((rd_T27 x14 x15).f1) = x2 then (some false) else (stanchionlaw15_AlarmDues.l2 k x0 x2 x7 x9 x10 x11 x14 (wrap64 (x15 + 1)))) else (none)) else (if x7 = true then (if (x10.length : Int) = x11 then (some ((x9.length : Int) == (wrap64 ((x0.length : Int) - x11)))) else (some false)) else (some false))
end
def stanchionlaw15_AlarmDues.f (k : Nat) (l0 : List (S27)) (a1 : Int) (a2 : Int) : Option (Bool) := (stanchionlaw15_shown.f k).bind fun t250 => ((stanchionref15_Heap.f k l0).bind fun t251 => (if (l0.length : Int) > 200 then (stanchionlaw15_AlarmDues.j0 k l0 a1 a2 t250 true) else (stanchionlaw15_AlarmDues.j0 k l0 a1 a2 t250 (!t251))))
theorem stanchionlaw15_AlarmDues.mono_l : ∀ k, (∀ y0 y1 y2 y3 y4, LeO (stanchionlaw15_AlarmDues.j0 k y0 y1 y2 y3 y4) (stanchionlaw15_AlarmDues.j0 (k + 1) y0 y1 y2 y3 y4)) ∧ (∀ y0 y1 y2 y3 y4 y5 y6 y7, LeO (stanchionlaw15_AlarmDues.l0 k y0 y1 y2 y3 y4 y5 y6 y7) (stanchionlaw15_AlarmDues.l0 (k + 1) y0 y1 y2 y3 y4 y5 y6 y7)) ∧ (∀ y0 y1 y2 y3 y4 y5 y6 y7, LeO (stanchionlaw15_AlarmDues.l1 k y0 y1 y2 y3 y4 y5 y6 y7) (stanchionlaw15_AlarmDues.l1 (k + 1) y0 y1 y2 y3 y4 y5 y6 y7)) ∧ (∀ y0 y1 y2 y3 y4 y5 y6 y7, LeO (stanchionlaw15_AlarmDues.l2 k y0 y1 y2 y3 y4 y5 y6 y7) (stanchionlaw15_AlarmDues.l2 (k + 1) y0 y1 y2 y3 y4 y5 y6 y7))
  | 0 => ⟨fun _ _ _ _ _ r h => by simp [stanchionlaw15_AlarmDues.j0] at h, fun _ _ _ _ _ _ _ _ r h => by simp [stanchionlaw15_AlarmDues.l0] at h, fun _ _ _ _ _ _ _ _ r h => by simp [stanchionlaw15_AlarmDues.l1] at h, fun _ _ _ _ _ _ _ _ r h => by simp [stanchionlaw15_AlarmDues.l2] at h⟩
  | k + 1 => by
    obtain ⟨ih0, ih1, ih2, ih3⟩ := stanchionlaw15_AlarmDues.mono_l k
    refine ⟨?_, ?_, ?_, ?_⟩
    · intro y0 y1 y2 y3 y4
      unfold stanchionlaw15_AlarmDues.j0
      repeat' first
      | (with_reducible exact ih0 _ _ _ _ _)
      | (with_reducible exact ih1 _ _ _ _ _ _ _ _)
      | (with_reducible exact ih2 _ _ _ _ _ _ _ _)
      | (with_reducible exact ih3 _ _ _ _ _ _ _ _)
      | (with_reducible exact alarm_Drop.mono _ _ _)
      | (with_reducible exact alarm_Due.mono _ _ _)
      | (with_reducible exact stanchionlaw15_shown.mono _)
      | (with_reducible exact stanchionref15_Heap.mono _ _)
      | (with_reducible exact LeO.refl _)
      | (with_reducible exact LeO.none _)
      | (with_reducible refine LeO.ite ?_ ?_)
      | (with_reducible refine LeO.bind ?_ (fun _ => ?_))
      | exact ih0 _ _ _ _ _
      | exact ih1 _ _ _ _ _ _ _ _
      | exact ih2 _ _ _ _ _ _ _ _
      | exact ih3 _ _ _ _ _ _ _ _
      | exact alarm_Drop.mono _ _ _
      | exact alarm_Due.mono _ _ _
      | exact stanchionlaw15_shown.mono _
      | exact stanchionref15_Heap.mono _ _
      | exact LeO.none _
      | refine LeO.ite ?_ ?_
      | refine LeO.bind ?_ (fun _ => ?_)
    · intro y0 y1 y2 y3 y4 y5 y6 y7
      unfold stanchionlaw15_AlarmDues.l0
      repeat' first
      | (with_reducible exact ih0 _ _ _ _ _)
      | (with_reducible exact ih1 _ _ _ _ _ _ _ _)
      | (with_reducible exact ih2 _ _ _ _ _ _ _ _)
      | (with_reducible exact ih3 _ _ _ _ _ _ _ _)
      | (with_reducible exact alarm_Drop.mono _ _ _)
      | (with_reducible exact alarm_Due.mono _ _ _)
      | (with_reducible exact stanchionlaw15_shown.mono _)
      | (with_reducible exact stanchionref15_Heap.mono _ _)
      | (with_reducible exact LeO.refl _)
      | (with_reducible exact LeO.none _)
      | (with_reducible refine LeO.ite ?_ ?_)
      | (with_reducible refine LeO.bind ?_ (fun _ => ?_))
      | exact ih0 _ _ _ _ _
      | exact ih1 _ _ _ _ _ _ _ _
      | exact ih2 _ _ _ _ _ _ _ _
      | exact ih3 _ _ _ _ _ _ _ _
      | exact alarm_Drop.mono _ _ _
      | exact alarm_Due.mono _ _ _
      | exact stanchionlaw15_shown.mono _
      | exact stanchionref15_Heap.mono _ _
      | exact LeO.none _
      | refine LeO.ite ?_ ?_
      | refine LeO.bind ?_ (fun _ => ?_)
    · intro y0 y1 y2 y3 y4 y5 y6 y7
      unfold stanchionlaw15_AlarmDues.l1
      repeat' first
      | (with_reducible exact ih0 _ _ _ _ _)
      | (with_reducible exact ih1 _ _ _ _ _ _ _ _)
      | (with_reducible exact ih2 _ _ _ _ _ _ _ _)
      | (with_reducible exact ih3 _ _ _ _ _ _ _ _)
      | (with_reducible exact alarm_Drop.mono _ _ _)
      | (with_reducible exact alarm_Due.mono _ _ _)
      | (with_reducible exact stanchionlaw15_shown.mono _)
      | (with_reducible exact stanchionref15_Heap.mono _ _)
      | (with_reducible exact LeO.refl _)
      | (with_reducible exact LeO.none _)
      | (with_reducible refine LeO.ite ?_ ?_)
      | (with_reducible refine LeO.bind ?_ (fun _ => ?_))
      | exact ih0 _ _ _ _ _
      | exact ih1 _ _ _ _ _ _ _ _
      | exact ih2 _ _ _ _ _ _ _ _
      | exact ih3 _ _ _ _ _ _ _ _
      | exact alarm_Drop.mono _ _ _
      | exact alarm_Due.mono _ _ _
      | exact stanchionlaw15_shown.mono _
      | exact stanchionref15_Heap.mono _ _
      | exact LeO.none _
      | refine LeO.ite ?_ ?_
      | refine LeO.bind ?_ (fun _ => ?_)
    · intro y0 y1 y2 y3 y4 y5 y6 y7
      unfold stanchionlaw15_AlarmDues.l2
      repeat' first
      | (with_reducible exact ih0 _ _ _ _ _)
      | (with_reducible exact ih1 _ _ _ _ _ _ _ _)
      | (with_reducible exact ih2 _ _ _ _ _ _ _ _)
      | (with_reducible exact ih3 _ _ _ _ _ _ _ _)
      | (with_reducible exact alarm_Drop.mono _ _ _)
      | (with_reducible exact alarm_Due.mono _ _ _)
      | (with_reducible exact stanchionlaw15_shown.mono _)
      | (with_reducible exact stanchionref15_Heap.mono _ _)
      | (with_reducible exact LeO.refl _)
      | (with_reducible exact LeO.none _)
      | (with_reducible refine LeO.ite ?_ ?_)
      | (with_reducible refine LeO.bind ?_ (fun _ => ?_))
      | exact ih0 _ _ _ _ _
      | exact ih1 _ _ _ _ _ _ _ _
      | exact ih2 _ _ _ _ _ _ _ _
      | exact ih3 _ _ _ _ _ _ _ _
      | exact alarm_Drop.mono _ _ _
      | exact alarm_Due.mono _ _ _
      | exact stanchionlaw15_shown.mono _
      | exact stanchionref15_Heap.mono _ _
      | exact LeO.none _
      | refine LeO.ite ?_ ?_
      | refine LeO.bind ?_ (fun _ => ?_)
theorem stanchionlaw15_AlarmDues.mono : ∀ a0 a1 a2 k, LeO (stanchionlaw15_AlarmDues.f k a0 a1 a2) (stanchionlaw15_AlarmDues.f (k + 1) a0 a1 a2) := by
  intro a0 a1 a2 k
  obtain ⟨ih0, ih1, ih2, ih3⟩ := stanchionlaw15_AlarmDues.mono_l k
  unfold stanchionlaw15_AlarmDues.f
  repeat' first
      | (with_reducible exact ih0 _ _ _ _ _)
      | (with_reducible exact ih1 _ _ _ _ _ _ _ _)
      | (with_reducible exact ih2 _ _ _ _ _ _ _ _)
      | (with_reducible exact ih3 _ _ _ _ _ _ _ _)
      | (with_reducible exact alarm_Drop.mono _ _ _)
      | (with_reducible exact alarm_Due.mono _ _ _)
      | (with_reducible exact stanchionlaw15_shown.mono _)
      | (with_reducible exact stanchionref15_Heap.mono _ _)
      | (with_reducible exact LeO.refl _)
      | (with_reducible exact LeO.none _)
      | (with_reducible refine LeO.ite ?_ ?_)
      | (with_reducible refine LeO.bind ?_ (fun _ => ?_))
      | exact ih0 _ _ _ _ _
      | exact ih1 _ _ _ _ _ _ _ _
      | exact ih2 _ _ _ _ _ _ _ _
      | exact ih3 _ _ _ _ _ _ _ _
      | exact alarm_Drop.mono _ _ _
      | exact alarm_Due.mono _ _ _
      | exact stanchionlaw15_shown.mono _
      | exact stanchionref15_Heap.mono _ _
      | exact LeO.none _
      | refine LeO.ite ?_ ?_
      | refine LeO.bind ?_ (fun _ => ?_)

/-! ### stanchionref15_Same (function 15): what it is -/
def stanchionref15_Same.l0 : Nat → List (S27) → List (S27) → Int → Option (Bool)
  | 0, _, _, _ => none
  | k + 1, x0, x1, x5 => if x5 < (x0.length : Int) then (if 0 ≤ x5 then (if x5 < (x1.length : Int) then (if (!(((rd_T27 x0 x5).f0) == ((rd_T27 x1 x5).f0)) || (!(((rd_T27 x0 x5).f1) == ((rd_T27 x1 x5).f1)))) = true then (some false) else (stanchionref15_Same.l0 k x0 x1 (wrap64 (x5 + 1)))) else (none)) else (none)) else (some true)
def stanchionref15_Same.f (k : Nat) (l0 : List (S27)) (l1 : List (S27)) : Option (Bool) := if (l0.length : Int) = (l1.length : Int) then (stanchionref15_Same.l0 k l0 l1 0) else (some false)
theorem stanchionref15_Same.mono_l : ∀ k, (∀ y0 y1 y2, LeO (stanchionref15_Same.l0 k y0 y1 y2) (stanchionref15_Same.l0 (k + 1) y0 y1 y2))
  | 0 => fun _ _ _ r h => by simp [stanchionref15_Same.l0] at h
  | k + 1 => by
    have ih0 := stanchionref15_Same.mono_l k
    · intro y0 y1 y2
      unfold stanchionref15_Same.l0
      repeat' first
      | (with_reducible exact ih0 _ _ _)
      | (with_reducible exact LeO.refl _)
      | (with_reducible exact LeO.none _)
      | (with_reducible refine LeO.ite ?_ ?_)
      | (with_reducible refine LeO.bind ?_ (fun _ => ?_))
      | exact ih0 _ _ _
      | exact LeO.none _
      | refine LeO.ite ?_ ?_
      | refine LeO.bind ?_ (fun _ => ?_)
theorem stanchionref15_Same.mono : ∀ a0 a1 k, LeO (stanchionref15_Same.f k a0 a1) (stanchionref15_Same.f (k + 1) a0 a1) := by
  intro a0 a1 k
  have ih0 := stanchionref15_Same.mono_l k
  unfold stanchionref15_Same.f
  repeat' first
      | (with_reducible exact ih0 _ _ _)
      | (with_reducible exact LeO.refl _)
      | (with_reducible exact LeO.none _)
      | (with_reducible refine LeO.ite ?_ ?_)
      | (with_reducible refine LeO.bind ?_ (fun _ => ?_))
      | exact ih0 _ _ _
      | exact LeO.none _
      | refine LeO.ite ?_ ?_
      | refine LeO.bind ?_ (fun _ => ?_)

/-! ### stanchionref15_swap (function 25): what it is -/
def stanchionref15_swap.f (l0 : List (S27)) (a1 : Int) (a2 : Int) : Option ((List (S27))) := (some (([] : List (S27)) : List (S27))).bind fun y266 => (if y266.length + l0.length < 8796093022208 then ((some (y266 ++ l0 : List (S27))).bind fun y269 => (if 0 ≤ a2 then (if a2 < (l0.length : Int) then (if 0 ≤ a1 then (if a1 < (y269.length : Int) then (if a1 < (l0.length : Int) then (if a2 < (y269.length : Int) then (some ((y269.set (a1 : Int).toNat (⟨(rd_T27 l0 a2).f0, (rd_T27 l0 a2).f1⟩ : S27)).set (a2 : Int).toNat (⟨(rd_T27 l0 a1).f0, (rd_T27 l0 a1).f1⟩ : S27))) else (none)) else (none)) else (none)) else (none)) else (none)) else (none))) else (none))

/-! ### stanchionref15_Put (function 16): what it is -/
def stanchionref15_Put.l0 : Nat → List (S27) → Int → Option ((List (S27)))
  | 0, _, _ => none
  | k + 1, x5, x6 => if x6 > 0 then (if 0 ≤ x6 then (if x6 < (x5.length : Int) then (if 0 ≤ (wrap64 (Int.tdiv (wrap64 (x6 - 1)) 2)) then (if (wrap64 (Int.tdiv (wrap64 (x6 - 1)) 2)) < (x5.length : Int) then ((stanchionref15_Less.f ((rd_T27 x5 x6).f0) ((rd_T27 x5 x6).f1) ((rd_T27 x5 (wrap64 (Int.tdiv (wrap64 (x6 - 1)) 2))).f0) ((rd_T27 x5 (wrap64 (Int.tdiv (wrap64 (x6 - 1)) 2))).f1)).bind fun t288 => (if t288 = true then ((stanchionref15_swap.f x5 x6 (wrap64 (Int.tdiv (wrap64 (x6 - 1)) 2))).bind fun t289 => (stanchionref15_Put.l0 k t289 (wrap64 (Int.tdiv (wrap64 (x6 - 1)) 2)))) else (some x5))) else (none)) else (none)) else (none)) else (none)) else (some x5)
def stanchionref15_Put.f (k : Nat) (l0 : List (S27)) (a1_0 : Int) (a1_1 : Int) : Option ((List (S27))) := (some (([] : List (S27)) : List (S27))).bind fun y277 => (if y277.length + l0.length < 8796093022208 then ((some (y277 ++ l0 : List (S27))).bind fun y280 => (if y280.length < 8796093022208 then ((some (y280 ++ [(⟨a1_0, a1_1⟩ : S27)] : List (S27))).bind fun y283 => (stanchionref15_Put.l0 k y283 (wrap64 ((y283.length : Int) - 1)))) else (none))) else (none))
theorem stanchionref15_Put.mono_l : ∀ k, (∀ y0 y1, LeO (stanchionref15_Put.l0 k y0 y1) (stanchionref15_Put.l0 (k + 1) y0 y1))
  | 0 => fun _ _ r h => by simp [stanchionref15_Put.l0] at h
  | k + 1 => by
    have ih0 := stanchionref15_Put.mono_l k
    · intro y0 y1
      unfold stanchionref15_Put.l0
      repeat' first
      | (with_reducible exact ih0 _ _)
      | (with_reducible exact LeO.refl _)
      | (with_reducible exact LeO.none _)
      | (with_reducible refine LeO.ite ?_ ?_)
      | (with_reducible refine LeO.bind ?_ (fun _ => ?_))
      | exact ih0 _ _
      | exact LeO.none _
      | refine LeO.ite ?_ ?_
      | refine LeO.bind ?_ (fun _ => ?_)
theorem stanchionref15_Put.mono : ∀ a0 a1 a2 k, LeO (stanchionref15_Put.f k a0 a1 a2) (stanchionref15_Put.f (k + 1) a0 a1 a2) := by
  intro a0 a1 a2 k
  have ih0 := stanchionref15_Put.mono_l k
  unfold stanchionref15_Put.f
  repeat' first
      | (with_reducible exact ih0 _ _)
      | (with_reducible exact LeO.refl _)
      | (with_reducible exact LeO.none _)
      | (with_reducible refine LeO.ite ?_ ?_)
      | (with_reducible refine LeO.bind ?_ (fun _ => ?_))
      | exact ih0 _ _
      | exact LeO.none _
      | refine LeO.ite ?_ ?_
      | refine LeO.bind ?_ (fun _ => ?_)

end Go.Proofs.Ytgcbggcddnkldaa.PB
