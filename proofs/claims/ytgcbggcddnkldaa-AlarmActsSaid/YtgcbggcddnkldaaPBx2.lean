-- Made by a program of this workplace out of the translation (wip/tools in the repo). Not trusted: Lean checks it.
import Derived.Test.YtgcbggcddnkldaaPBx0
namespace Go.Proofs.Ytgcbggcddnkldaa.PB
open Go.RowKit Go.Proofs.YtgcbggcddnkldaaW.PrintWords Go.Proofs.YtgcbggcddnkldaaW.PrintLast Go.Proofs.YtgcbggcddnkldaaW.PrintMore
attribute [local go_sem] max2_int min2_int max_two min_two max_three min_three max_four min_four   -- for this text's walks alone
set_option linter.unusedVariables false
set_option linter.unusedSimpArgs false

/-! ### alarm_Less (function 11): what it is -/
def alarm_Less.f (a0_0 : Int) (a0_1 : Int) (a1_0 : Int) (a1_1 : Int) : Option (Bool) := if a0_0 < a1_0 then (some true) else (if a0_0 = a1_0 then (some (decide (a0_1 < a1_1))) else (some false))

/-! ### api_Alarm (function 23): what it is -/
def api_Alarm.f (l0 : List (S27)) : Option ((List (S27))) := (some (([] : List (S27)) : List (S27))).bind fun y103 => (if y103.length + l0.length < 8796093022208 then (some (y103 ++ l0)) else (none))

/-! ### alarm_Put (function 9): what it is -/
def alarm_Put.l0 : Nat → List (S27) → Int → Option ((List (S27)))
  | 0, _, _ => none
  | k + 1, x0, x5 => if x5 > 0 then (if 0 ≤ x5 then (if x5 < (x0.length : Int) then (if 0 ≤ (wrap64 (Int.tdiv (wrap64 (x5 - 1)) 2)) then (if (wrap64 (Int.tdiv (wrap64 (x5 - 1)) 2)) < (x0.length : Int) then ((alarm_Less.f ((rd_T27 x0 x5).f0) ((rd_T27 x0 x5).f1) ((rd_T27 x0 (wrap64 (Int.tdiv (wrap64 (x5 - 1)) 2))).f0) ((rd_T27 x0 (wrap64 (Int.tdiv (wrap64 (x5 - 1)) 2))).f1)).bind fun t121 => (if t121 = true then (alarm_Put.l0 k ((x0.set (x5 : Int).toNat (⟨(rd_T27 x0 (wrap64 (Int.tdiv (wrap64 (x5 - 1)) 2))).f0, (rd_T27 x0 (wrap64 (Int.tdiv (wrap64 (x5 - 1)) 2))).f1⟩ : S27)).set ((wrap64 (Int.tdiv (wrap64 (x5 - 1)) 2)) : Int).toNat (⟨(rd_T27 x0 x5).f0, (rd_T27 x0 x5).f1⟩ : S27)) (wrap64 (Int.tdiv (wrap64 (x5 - 1)) 2))) else (some x0))) else (none)) else (none)) else (none)) else (none)) else (some x0)
def alarm_Put.f (k : Nat) (l0 : List (S27)) (a1_0 : Int) (a1_1 : Int) : Option ((List (S27))) := (api_Alarm.f l0).bind fun t110 => ((some (([(⟨a1_0, a1_1⟩ : S27)] : List (S27)) : List (S27))).bind fun y113 => (if t110.length + y113.length < 8796093022208 then ((some (t110 ++ y113 : List (S27))).bind fun y116 => (alarm_Put.l0 k y116 (wrap64 ((y116.length : Int) - 1)))) else (none)))
theorem alarm_Put.mono_l : ∀ k, (∀ y0 y1, LeO (alarm_Put.l0 k y0 y1) (alarm_Put.l0 (k + 1) y0 y1))
  | 0 => fun _ _ r h => by simp [alarm_Put.l0] at h
  | k + 1 => by
    have ih0 := alarm_Put.mono_l k
    · intro y0 y1
      unfold alarm_Put.l0
      repeat' first
      | (with_reducible exact ih0 _ _)
      | (with_reducible exact LeO.refl _)
      | (with_reducible exact LeO.none _)
      | (with_reducible refine LeO.ite ?_ ?_)
      | (with_reducible refine LeO.bind ?_ (fun _ => ?_))
      | exact ih0 _ _
      | exact LeO.none _
      | refine LeO.ite ?_ ?_
      | refine LeO.bind ?_ (fun _ => ?_)
theorem alarm_Put.mono : ∀ a0 a1 a2 k, LeO (alarm_Put.f k a0 a1 a2) (alarm_Put.f (k + 1) a0 a1 a2) := by
  intro a0 a1 a2 k
  have ih0 := alarm_Put.mono_l k
  unfold alarm_Put.f
  repeat' first
      | (with_reducible exact ih0 _ _)
      | (with_reducible exact LeO.refl _)
      | (with_reducible exact LeO.none _)
      | (with_reducible refine LeO.ite ?_ ?_)
      | (with_reducible refine LeO.bind ?_ (fun _ => ?_))
      | exact ih0 _ _
      | exact LeO.none _
      | refine LeO.ite ?_ ?_
      | refine LeO.bind ?_ (fun _ => ?_)

/-! ### alarm_sink (function 24): what it is -/
mutual
def alarm_sink.l0 : Nat → List (S27) → Int → Option ((List (S27)))
  | 0, _, _ => none
  | k + 1, x0, x2 => if (wrap64 ((wrap64 (2 * x2)) + 1)) < (x0.length : Int) then (if 0 ≤ (wrap64 ((wrap64 (2 * x2)) + 1)) then (if 0 ≤ x2 then (if x2 < (x0.length : Int) then ((alarm_Less.f ((rd_T27 x0 (wrap64 ((wrap64 (2 * x2)) + 1))).f0) ((rd_T27 x0 (wrap64 ((wrap64 (2 * x2)) + 1))).f1) ((rd_T27 x0 x2).f0) ((rd_T27 x0 x2).f1)).bind fun t128 => (if t128 = true then (alarm_sink.j1 k x0 x2 (wrap64 ((wrap64 (2 * x2)) + 1))) else (alarm_sink.j1 k x0 x2 x2))) else (none)) else (none)) else (none)) else (alarm_sink.j1 k x0 x2 x2)
def alarm_sink.j1 : Nat → List (S27) → Int → Int → Option ((List (S27)))
  | 0, _, _, _ => none
  | k + 1, x0, x2, x3 => if (wrap64 ((wrap64 ((wrap64 (2 * x2)) + 1)) + 1)) < (x0.length : Int) then (if 0 ≤ (wrap64 ((wrap64 ((wrap64 (2 * x2)) + 1)) + 1)) then (if 0 ≤ x3 then (if x3 < (x0.length : Int) then ((alarm_Less.f ((rd_T27 x0 (wrap64 ((wrap64 ((wrap64 (2 * x2)) + 1)) + 1))).f0) ((rd_T27 x0 (wrap64 ((wrap64 ((wrap64 (2 * x2)) + 1)) + 1))).f1) ((rd_T27 x0 x3).f0) ((rd_T27 x0 x3).f1)).bind fun t131 => (if t131 = true then (alarm_sink.j2 k x0 x2 (wrap64 ((wrap64 ((wrap64 (2 * x2)) + 1)) + 1))) else (alarm_sink.j2 k x0 x2 x3))) else (none)) else (none)) else (none)) else (alarm_sink.j2 k x0 x2 x3)
def alarm_sink.j2 : Nat → List (S27) → Int → Int → Option ((List (S27)))
  | 0, _, _, _ => none
  | k + 1, x0, x2, x3 => if x3 = x2 then (some x0) else (if 0 ≤ x3 then (if x3 < (x0.length : Int) then (if 0 ≤ x2 then (if x2 < (x0.length : Int) then (alarm_sink.l0 k ((x0.set (x2 : Int).toNat (⟨(rd_T27 x0 x3).f0, (rd_T27 x0 x3).f1⟩ : S27)).set (x3 : Int).toNat (⟨(rd_T27 x0 x2).f0, (rd_T27 x0 x2).f1⟩ : S27)) x3) else (none)) else (none)) else (none)) else (none))
end
def alarm_sink.f (k : Nat) (l0 : List (S27)) : Option ((List (S27))) := alarm_sink.l0 k l0 0
theorem alarm_sink.mono_l : ∀ k, (∀ y0 y1, LeO (alarm_sink.l0 k y0 y1) (alarm_sink.l0 (k + 1) y0 y1)) ∧ (∀ y0 y1 y2, LeO (alarm_sink.j1 k y0 y1 y2) (alarm_sink.j1 (k + 1) y0 y1 y2)) ∧ (∀ y0 y1 y2, LeO (alarm_sink.j2 k y0 y1 y2) (alarm_sink.j2 (k + 1) y0 y1 y2))
  | 0 => ⟨fun _ _ r h => by simp [alarm_sink.l0] at h, fun _ _ _ r h => by simp [alarm_sink.j1] at h, fun _ _ _ r h => by simp [alarm_sink.j2] at h⟩
  | k + 1 => by
    obtain ⟨ih0, ih1, ih2⟩ := alarm_sink.mono_l k
    refine ⟨?_, ?_, ?_⟩
    · intro y0 y1
      unfold alarm_sink.l0
      repeat' first
      | (with_reducible exact ih0 _ _)
      | (with_reducible exact ih1 _ _ _)
      | (with_reducible exact ih2 _ _ _)
      | (with_reducible exact LeO.refl _)
      | (with_reducible exact LeO.none _)
      | (with_reducible refine LeO.ite ?_ ?_)
      | (with_reducible refine LeO.bind ?_ (fun _ => ?_))
      | exact ih0 _ _
      | exact ih1 _ _ _
      | exact ih2 _ _ _
      | exact LeO.none _
      | refine LeO.ite ?_ ?_
      | refine LeO.bind ?_ (fun _ => ?_)
    · intro y0 y1 y2
      unfold alarm_sink.j1
      repeat' first
      | (with_reducible exact ih0 _ _)
      | (with_reducible exact ih1 _ _ _)
      | (with_reducible exact ih2 _ _ _)
      | (with_reducible exact LeO.refl _)
      | (with_reducible exact LeO.none _)
      | (with_reducible refine LeO.ite ?_ ?_)
      | (with_reducible refine LeO.bind ?_ (fun _ => ?_))
      | exact ih0 _ _
      | exact ih1 _ _ _
      | exact ih2 _ _ _
      | exact LeO.none _
      | refine LeO.ite ?_ ?_
      | refine LeO.bind ?_ (fun _ => ?_)
    · intro y0 y1 y2
      unfold alarm_sink.j2
      repeat' first
      | (with_reducible exact ih0 _ _)
      | (with_reducible exact ih1 _ _ _)
      | (with_reducible exact ih2 _ _ _)
      | (with_reducible exact LeO.refl _)
      | (with_reducible exact LeO.none _)
      | (with_reducible refine LeO.ite ?_ ?_)
      | (with_reducible refine LeO.bind ?_ (fun _ => ?_))
      | exact ih0 _ _
      | exact ih1 _ _ _
      | exact ih2 _ _ _
      | exact LeO.none _
      | refine LeO.ite ?_ ?_
      | refine LeO.bind ?_ (fun _ => ?_)
theorem alarm_sink.mono : ∀ a0 k, LeO (alarm_sink.f k a0) (alarm_sink.f (k + 1) a0) := by
  intro a0 k
  obtain ⟨ih0, ih1, ih2⟩ := alarm_sink.mono_l k
  unfold alarm_sink.f
  repeat' first
      | (with_reducible exact ih0 _ _)
      | (with_reducible exact ih1 _ _ _)
      | (with_reducible exact ih2 _ _ _)
      | (with_reducible exact LeO.refl _)
      | (with_reducible exact LeO.none _)
      | (with_reducible refine LeO.ite ?_ ?_)
      | (with_reducible refine LeO.bind ?_ (fun _ => ?_))
      | exact ih0 _ _
      | exact ih1 _ _ _
      | exact ih2 _ _ _
      | exact LeO.none _
      | refine LeO.ite ?_ ?_
      | refine LeO.bind ?_ (fun _ => ?_)

/-! ### alarm_Pop (function 10): what it is -/
def alarm_Pop.f (k : Nat) (l0 : List (S27)) : Option ((List (S27)) × Int × Int × Bool) := if (l0.length : Int) = 0 then (some (l0, 0, 0, false)) else (if 0 < (l0.length : Int) then ((api_Alarm.f l0).bind fun t139 => (if 0 ≤ (wrap64 ((l0.length : Int) - 1)) then (if (wrap64 ((l0.length : Int) - 1)) < (t139.length : Int) then (if 0 < (t139.length : Int) then (if (wrap64 ((l0.length : Int) - 1)) ≤ (t139.length : Int) then ((alarm_sink.f k ((t139.set (0 : Int).toNat (⟨(rd_T27 t139 (wrap64 ((l0.length : Int) - 1))).f0, (rd_T27 t139 (wrap64 ((l0.length : Int) - 1))).f1⟩ : S27)).take ((wrap64 ((l0.length : Int) - 1)) : Int).toNat)).bind fun t147 => (some (t147, (rd_T27 l0 0).f0, (rd_T27 l0 0).f1, true))) else (none)) else (none)) else (none)) else (none))) else (none))
theorem alarm_Pop.mono : ∀ a0 k, LeO (alarm_Pop.f k a0) (alarm_Pop.f (k + 1) a0) := by
  intro a0 k
  unfold alarm_Pop.f
  repeat' first
      | (with_reducible exact alarm_sink.mono _ _)
      | (with_reducible exact LeO.refl _)
      | (with_reducible exact LeO.none _)
      | (with_reducible refine LeO.ite ?_ ?_)
      | (with_reducible refine LeO.bind ?_ (fun _ => ?_))
      | exact alarm_sink.mono _ _
      | exact LeO.none _
      | refine LeO.ite ?_ ?_
      | refine LeO.bind ?_ (fun _ => ?_)

/-! ### alarm_Due (function 13): what it is -/
def alarm_Due.l0 : Nat → List (S27) → Int → List Int → Option ((List (S27)) × List Int)
  | 0, _, _, _ => none
  | k + 1, x0, x1, x6 => if (x0.length : Int) > 0 then (if 0 < (x0.length : Int) then (if ((rd_T27 x0 0).f0) ≤ x1 then ((alarm_Pop.f k x0).bind fun bt149 => (if x6.length < 17592186044416 then (alarm_Due.l0 k bt149.1 x1 (x6 ++ [bt149.2.2.1])) else (none))) else (some (x0, x6))) else (none)) else (some (x0, x6))
def alarm_Due.f (k : Nat) (l0 : List (S27)) (a1 : Int) : Option ((List (S27)) × List Int) := alarm_Due.l0 k l0 a1 ([] : List Int)
theorem alarm_Due.mono_l : ∀ k, (∀ y0 y1 y2, LeO (alarm_Due.l0 k y0 y1 y2) (alarm_Due.l0 (k + 1) y0 y1 y2))
  | 0 => fun _ _ _ r h => by simp [alarm_Due.l0] at h
  | k + 1 => by
    have ih0 := alarm_Due.mono_l k
    · intro y0 y1 y2
      unfold alarm_Due.l0
      repeat' first
      | (with_reducible exact ih0 _ _ _)
      | (with_reducible exact alarm_Pop.mono _ _)
      | (with_reducible exact LeO.refl _)
      | (with_reducible exact LeO.none _)
      | (with_reducible refine LeO.ite ?_ ?_)
      | (with_reducible refine LeO.bind ?_ (fun _ => ?_))
      | exact ih0 _ _ _
      | exact alarm_Pop.mono _ _
      | exact LeO.none _
      | refine LeO.ite ?_ ?_
      | refine LeO.bind ?_ (fun _ => ?_)
theorem alarm_Due.mono : ∀ a0 a1 k, LeO (alarm_Due.f k a0 a1) (alarm_Due.f (k + 1) a0 a1) := by
  intro a0 a1 k
  have ih0 := alarm_Due.mono_l k
  unfold alarm_Due.f
  repeat' first
      | (with_reducible exact ih0 _ _ _)
      | (with_reducible exact alarm_Pop.mono _ _)
      | (with_reducible exact LeO.refl _)
      | (with_reducible exact LeO.none _)
      | (with_reducible refine LeO.ite ?_ ?_)
      | (with_reducible refine LeO.bind ?_ (fun _ => ?_))
      | exact ih0 _ _ _
      | exact alarm_Pop.mono _ _
      | exact LeO.none _
      | refine LeO.ite ?_ ?_
      | refine LeO.bind ?_ (fun _ => ?_)

/-! ### stanchionlaw15_shown (function 8): what it is -/
def stanchionlaw15_shown.f (k : Nat)  : Option (Bool) := (alarm_Put.f k ([] : List (S27)) 5 1).bind fun t159 => ((alarm_Put.f k t159 3 2).bind fun t162 => ((alarm_Put.f k t162 4 3).bind fun t165 => ((alarm_Due.f k t165 4).bind fun bt168 => (if (bt168.2.length : Int) = 2 then (if 0 < (bt168.2.length : Int) then (if (rd bt168.2 0) = 2 then (if 1 < (bt168.2.length : Int) then (if (rd bt168.2 1) = 3 then (some ((bt168.1.length : Int) == 1)) else (some false)) else (none)) else (some false)) else (none)) else (some false)))))
theorem stanchionlaw15_shown.mono : ∀ k, LeO (stanchionlaw15_shown.f k ) (stanchionlaw15_shown.f (k + 1) ) := by
  intro  k
  unfold stanchionlaw15_shown.f
  repeat' first
      | (with_reducible exact alarm_Due.mono _ _ _)
      | (with_reducible exact alarm_Put.mono _ _ _ _)
      | (with_reducible exact LeO.refl _)
      | (with_reducible exact LeO.none _)
      | (with_reducible refine LeO.ite ?_ ?_)
      | (with_reducible refine LeO.bind ?_ (fun _ => ?_))
      | exact alarm_Due.mono _ _ _
      | exact alarm_Put.mono _ _ _ _
      | exact LeO.none _
      | refine LeO.ite ?_ ?_
      | refine LeO.bind ?_ (fun _ => ?_)

/-! ### stanchionref15_Less (function 22): what it is -/
def stanchionref15_Less.f (a0_0 : Int) (a0_1 : Int) (a1_0 : Int) (a1_1 : Int) : Option (Bool) := if a0_0 = a1_0 then (some (decide (a0_1 < a1_1))) else (some (decide (a0_0 < a1_0)))

/-! ### stanchionref15_Heap (function 12): what it is -/
mutual
def stanchionref15_Heap.l0 : Nat → List (S27) → Int → Option (Bool)
  | 0, _, _ => none
  | k + 1, x0, x3 => if x3 < (x0.length : Int) then (stanchionref15_Heap.l1 k x0 x3 (wrap64 ((wrap64 (2 * x3)) + 1))) else (some true)
def stanchionref15_Heap.l1 : Nat → List (S27) → Int → Int → Option (Bool)
  | 0, _, _, _ => none
  | k + 1, x0, x3, x4 => if x4 ≤ (wrap64 ((wrap64 (2 * x3)) + 2)) then (stanchionref15_Heap.j2 k x0 x3 x4 (decide (x4 < (x0.length : Int)))) else (stanchionref15_Heap.j2 k x0 x3 x4 false)
def stanchionref15_Heap.j2 : Nat → List (S27) → Int → Int → Bool → Option (Bool)
  | 0, _, _, _, _ => none
  | k + 1, x0, x3, x4, x25 => if x25 = true then (if 0 ≤ x4 then (if x4 < (x0.length : Int) then (if 0 ≤ x3 then (if x3 < (x0.length : Int) then ((stanchionref15_Less.f ((rd_T27 x0 x4).f0) ((rd_T27 x0 x4).f1) ((rd_T27 x0 x3).f0) ((rd_T27 x0 x3).f1)).bind fun t180 => (if t180 = true then (some false) else (stanchionref15_Heap.l1 k x0 x3 (wrap64 (x4 + 1))))) else (none)) else (none)) else (none)) else (none)) else (stanchionref15_Heap.l0 k x0 (wrap64 (x3 + 1)))
end
def stanchionref15_Heap.f (k : Nat) (l0 : List (S27)) : Option (Bool) := stanchionref15_Heap.l0 k l0 0
theorem stanchionref15_Heap.mono_l : ∀ k, (∀ y0 y1, LeO (stanchionref15_Heap.l0 k y0 y1) (stanchionref15_Heap.l0 (k + 1) y0 y1)) ∧ (∀ y0 y1 y2, LeO (stanchionref15_Heap.l1 k y0 y1 y2) (stanchionref15_Heap.l1 (k + 1) y0 y1 y2)) ∧ (∀ y0 y1 y2 y3, LeO (stanchionref15_Heap.j2 k y0 y1 y2 y3) (stanchionref15_Heap.j2 (k + 1) y0 y1 y2 y3))
  | 0 => ⟨fun _ _ r h => by simp [stanchionref15_Heap.l0] at h, fun _ _ _ r h => by simp [stanchionref15_Heap.l1] at h, fun _ _ _ _ r h => by simp [stanchionref15_Heap.j2] at h⟩
  | k + 1 => by
    obtain ⟨ih0, ih1, ih2⟩ := stanchionref15_Heap.mono_l k
    refine ⟨?_, ?_, ?_⟩
    · intro y0 y1
      unfold stanchionref15_Heap.l0
      repeat' first
      | (with_reducible exact ih0 _ _)
      | (with_reducible exact ih1 _ _ _)
      | (with_reducible exact ih2 _ _ _ _)
      | (with_reducible exact LeO.refl _)
      | (with_reducible exact LeO.none _)
      | (with_reducible refine LeO.ite ?_ ?_)
      | (with_reducible refine LeO.bind ?_ (fun _ => ?_))
      | exact ih0 _ _
      | exact ih1 _ _ _
      | exact ih2 _ _ _ _
      | exact LeO.none _
      | refine LeO.ite ?_ ?_
      | refine LeO.bind ?_ (fun _ => ?_)
    · intro y0 y1 y2
      unfold stanchionref15_Heap.l1
      repeat' first
      | (with_reducible exact ih0 _ _)
      | (with_reducible exact ih1 _ _ _)
      | (with_reducible exact ih2 _ _ _ _)
      | (with_reducible exact LeO.refl _)
      | (with_reducible exact LeO.none _)
      | (with_reducible refine LeO.ite ?_ ?_)
      | (with_reducible refine LeO.bind ?_ (fun _ => ?_))
      | exact ih0 _ _
      | exact ih1 _ _ _
      | exact ih2 _ _ _ _
      | exact LeO.none _
      | refine LeO.ite ?_ ?_
      | refine LeO.bind ?_ (fun _ => ?_)
    · intro y0 y1 y2 y3
      unfold stanchionref15_Heap.j2
      repeat' first
      | (with_reducible exact ih0 _ _)
      | (with_reducible exact ih1 _ _ _)
      | (with_reducible exact ih2 _ _ _ _)
      | (with_reducible exact LeO.refl _)
      | (with_reducible exact LeO.none _)
      | (with_reducible refine LeO.ite ?_ ?_)
      | (with_reducible refine LeO.bind ?_ (fun _ => ?_))
      | exact ih0 _ _
      | exact ih1 _ _ _
      | exact ih2 _ _ _ _
      | exact LeO.none _
      | refine LeO.ite ?_ ?_
      | refine LeO.bind ?_ (fun _ => ?_)
theorem stanchionref15_Heap.mono : ∀ a0 k, LeO (stanchionref15_Heap.f k a0) (stanchionref15_Heap.f (k + 1) a0) := by
  intro a0 k
  obtain ⟨ih0, ih1, ih2⟩ := stanchionref15_Heap.mono_l k
  unfold stanchionref15_Heap.f
  repeat' first
      | (with_reducible exact ih0 _ _)
      | (with_reducible exact ih1 _ _ _)
      | (with_reducible exact ih2 _ _ _ _)
      | (with_reducible exact LeO.refl _)
      | (with_reducible exact LeO.none _)
      | (with_reducible refine LeO.ite ?_ ?_)
      | (with_reducible refine LeO.bind ?_ (fun _ => ?_))
      | exact ih0 _ _
      | exact ih1 _ _ _
      | exact ih2 _ _ _ _
      | exact LeO.none _
      | refine LeO.ite ?_ ?_
      | refine LeO.bind ?_ (fun _ => ?_)

/-! ### alarm_Drop (function 14): what it is -/
def alarm_Drop.l0 : Nat → Int → List (S27) → List (S27) → Int → Int → Option ((List (S27)))
  | 0, _, _, _, _, _ => none
  | k + 1, x1, x5, x8, x9, x10 => if x10 < x9 then (if 0 ≤ x10 then (if x10 < (x8.length : Int) then (if ((rd_T27 x8 x10).f1) = x1 then (alarm_Drop.l0 k x1 x5 x8 x9 (wrap64 (x10 + 1))) else ((alarm_Put.f k x5 ((rd_T27 x8 x10).f0) ((rd_T27 x8 x10).f1)).bind fun t183 => (alarm_Drop.l0 k x1 t183 x8 x9 (wrap64 (x10 + 1))))) else (none)) else (none)) else (some x5)
def alarm_Drop.f (k : Nat) (l0 : List (S27)) (a1 : Int) : Option ((List (S27))) := alarm_Drop.l0 k a1 ([] : List (S27)) l0 (l0.length : Int) 0
theorem alarm_Drop.mono_l : ∀ k, (∀ y0 y1 y2 y3 y4, LeO (alarm_Drop.l0 k y0 y1 y2 y3 y4) (alarm_Drop.l0 (k + 1) y0 y1 y2 y3 y4))
  | 0 => fun _ _ _ _ _ r h => by simp [alarm_Drop.l0] at h
  | k + 1 => by
    have ih0 := alarm_Drop.mono_l k
    · intro y0 y1 y2 y3 y4
      unfold alarm_Drop.l0
      repeat' first
      | (with_reducible exact ih0 _ _ _ _ _)
      | (with_reducible exact alarm_Put.mono _ _ _ _)
      | (with_reducible exact LeO.refl _)
      | (with_reducible exact LeO.none _)
      | (with_reducible refine LeO.ite ?_ ?_)
      | (with_reducible refine LeO.bind ?_ (fun _ => ?_))
      | exact ih0 _ _ _ _ _
      | exact alarm_Put.mono _ _ _ _
      | exact LeO.none _
      | refine LeO.ite ?_ ?_
      | refine LeO.bind ?_ (fun _ => ?_)
theorem alarm_Drop.mono : ∀ a0 a1 k, LeO (alarm_Drop.f k a0 a1) (alarm_Drop.f (k + 1) a0 a1) := by
  intro a0 a1 k
  have ih0 := alarm_Drop.mono_l k
  unfold alarm_Drop.f
  repeat' first
      | (with_reducible exact ih0 _ _ _ _ _)
      | (with_reducible exact alarm_Put.mono _ _ _ _)
      | (with_reducible exact LeO.refl _)
      | (with_reducible exact LeO.none _)
      | (with_reducible refine LeO.ite ?_ ?_)
      | (with_reducible refine LeO.bind ?_ (fun _ => ?_))
      | exact ih0 _ _ _ _ _
      | exact alarm_Put.mono _ _ _ _
      | exact LeO.none _
      | refine LeO.ite ?_ ?_
      | refine LeO.bind ?_ (fun _ => ?_)

/-! ### stanchionref15_Same (function 15): what it is -/
def stanchionref15_Same.l0 : Nat → List (S27) → List (S27) → Int → Option (Bool)
  | 0, _, _, _ => none
  | k + 1, x0, x1, x5 => if x5 < (x0.length : Int) then (if 0 ≤ x5 then (if x5 < (x1.length : Int) then (if (!(((rd_T27 x0 x5).f0) == ((rd_T27 x1 x5).f0)) || (!(((rd_T27 x0 x5).f1) == ((rd_T27 x1 x5).f1)))) = true then (some false) else (stanchionref15_Same.l0 k x0 x1 (wrap64 (x5 + 1)))) else (none)) else (none)) else (some true)
def stanchionref15_Same.f (k : Nat) (l0 : List (S27)) (l1 : List (S27)) : Option (Bool) := if (l0.length : Int) = (l1.length : Int) then (stanchionref15_Same.l0 k l0 l1 0) else (some false)
theorem stanchionref15_Same.mono_l : ∀ k, (∀ y0 y1 y2, LeO (stanchionref15_Same.l0 k y0 y1 y2) (stanchionref15_Same.l0 (k + 1) y0 y1 y2))
  | 0 => fun _ _ _ r h => by simp [stanchionref15_Same.l0] at h
  | k + 1 => by
    have ih0 := stanchionref15_Same.mono_l k
    · intro y0 y1 y2
      unfold stanchionref15_Same.l0
      repeat' first
      | (with_reducible exact ih0 _ _ _)
      | (with_reducible exact LeO.refl _)
      | (with_reducible exact LeO.none _)
      | (with_reducible refine LeO.ite ?_ ?_)
      | (with_reducible refine LeO.bind ?_ (fun _ => ?_))
      | exact ih0 _ _ _
      | exact LeO.none _
      | refine LeO.ite ?_ ?_
      | refine LeO.bind ?_ (fun _ => ?_)
theorem stanchionref15_Same.mono : ∀ a0 a1 k, LeO (stanchionref15_Same.f k a0 a1) (stanchionref15_Same.f (k + 1) a0 a1) := by
  intro a0 a1 k
  have ih0 := stanchionref15_Same.mono_l k
  unfold stanchionref15_Same.f
  repeat' first
      | (with_reducible exact ih0 _ _ _)
      | (with_reducible exact LeO.refl _)
      | (with_reducible exact LeO.none _)
      | (with_reducible refine LeO.ite ?_ ?_)
      | (with_reducible refine LeO.bind ?_ (fun _ => ?_))
      | exact ih0 _ _ _
      | exact LeO.none _
      | refine LeO.ite ?_ ?_
      | refine LeO.bind ?_ (fun _ => ?_)

/-! ### stanchionref15_swap (function 25): what it is -/
def stanchionref15_swap.f (l0 : List (S27)) (a1 : Int) (a2 : Int) : Option ((List (S27))) := (some (([] : List (S27)) : List (S27))).bind fun y188 => (if y188.length + l0.length < 8796093022208 then ((some (y188 ++ l0 : List (S27))).bind fun y191 => (if 0 ≤ a2 then (if a2 < (l0.length : Int) then (if 0 ≤ a1 then (if a1 < (y191.length : Int) then (if a1 < (l0.length : Int) then (if a2 < (y191.length : Int) then (some ((y191.set (a1 : Int).toNat (⟨(rd_T27 l0 a2).f0, (rd_T27 l0 a2).f1⟩ : S27)).set (a2 : Int).toNat (⟨(rd_T27 l0 a1).f0, (rd_T27 l0 a1).f1⟩ : S27))) else (none)) else (none)) else (none)) else (none)) else (none)) else (none))) else (none))

/-! ### stanchionref15_Put (function 16): what it is -/
def stanchionref15_Put.l0 : Nat → List (S27) → Int → Option ((List (S27)))
  | 0, _, _ => none
  | k + 1, x5, x6 => if x6 > 0 then (if 0 ≤ x6 then (if x6 < (x5.length : Int) then (if 0 ≤ (wrap64 (Int.tdiv (wrap64 (x6 - 1)) 2)) then (if (wrap64 (Int.tdiv (wrap64 (x6 - 1)) 2)) < (x5.length : Int) then ((stanchionref15_Less.f ((rd_T27 x5 x6).f0) ((rd_T27 x5 x6).f1) ((rd_T27 x5 (wrap64 (Int.tdiv (wrap64 (x6 - 1)) 2))).f0) ((rd_T27 x5 (wrap64 (Int.tdiv (wrap64 (x6 - 1)) 2))).f1)).bind fun t210 => (if t210 = true then ((stanchionref15_swap.f x5 x6 (wrap64 (Int.tdiv (wrap64 (x6 - 1)) 2))).bind fun t211 => (stanchionref15_Put.l0 k t211 (wrap64 (Int.tdiv (wrap64 (x6 - 1)) 2)))) else (some x5))) else (none)) else (none)) else (none)) else (none)) else (some x5)
def stanchionref15_Put.f (k : Nat) (l0 : List (S27)) (a1_0 : Int) (a1_1 : Int) : Option ((List (S27))) := (some (([] : List (S27)) : List (S27))).bind fun y199 => (if y199.length + l0.length < 8796093022208 then ((some (y199 ++ l0 : List (S27))).bind fun y202 => (if y202.length < 8796093022208 then ((some (y202 ++ [(⟨a1_0, a1_1⟩ : S27)] : List (S27))).bind fun y205 => (stanchionref15_Put.l0 k y205 (wrap64 ((y205.length : Int) - 1)))) else (none))) else (none))
theorem stanchionref15_Put.mono_l : ∀ k, (∀ y0 y1, LeO (stanchionref15_Put.l0 k y0 y1) (stanchionref15_Put.l0 (k + 1) y0 y1))
  | 0 => fun _ _ r h => by simp [stanchionref15_Put.l0] at h
  | k + 1 => by
    have ih0 := stanchionref15_Put.mono_l k
    · intro y0 y1
      unfold stanchionref15_Put.l0
      repeat' first
      | (with_reducible exact ih0 _ _)
      | (with_reducible exact LeO.refl _)
      | (with_reducible exact LeO.none _)
      | (with_reducible refine LeO.ite ?_ ?_)
      | (with_reducible refine LeO.bind ?_ (fun _ => ?_))
      | exact ih0 _ _
      | exact LeO.none _
      | refine LeO.ite ?_ ?_
      | refine LeO.bind ?_ (fun _ => ?_)
theorem stanchionref15_Put.mono : ∀ a0 a1 a2 k, LeO (stanchionref15_Put.f k a0 a1 a2) (stanchionref15_Put.f (k + 1) a0 a1 a2) := by
  intro a0 a1 a2 k
  have ih0 := stanchionref15_Put.mono_l k
  unfold stanchionref15_Put.f
  repeat' first
      | (with_reducible exact ih0 _ _)
      | (with_reducible exact LeO.refl _)
      | (with_reducible exact LeO.none _)
      | (with_reducible refine LeO.ite ?_ ?_)
      | (with_reducible refine LeO.bind ?_ (fun _ => ?_))
      | exact ih0 _ _
      | exact LeO.none _
      | refine LeO.ite ?_ ?_
      | refine LeO.bind ?_ (fun _ => ?_)

/-! ### stanchionref15_Pop (function 17): what it is -/
mutual
def stanchionref15_Pop.l0 : Nat → List (S27) → Int → Int → Int → Option ((List (S27)) × Int × Int × Bool)
  | 0, _, _, _, _ => none
  | k + 1, x6, x7, x217000, x217001 => if (wrap64 ((wrap64 (2 * x7)) + 1)) < (x6.length : Int) then (if 0 ≤ (wrap64 ((wrap64 (2 * x7)) + 1)) then (if 0 ≤ x7 then (if x7 < (x6.length : Int) then ((stanchionref15_Less.f ((rd_T27 x6 (wrap64 ((wrap64 (2 * x7)) + 1))).f0) ((rd_T27 x6 (wrap64 ((wrap64 (2 * x7)) + 1))).f1) ((rd_T27 x6 x7).f0) ((rd_T27 x6 x7).f1)).bind fun t232 => (stanchionref15_Pop.j1 k x6 x7 x7 t232 x217000 x217001)) else (none)) else (none)) else (none)) else (stanchionref15_Pop.j1 k x6 x7 x7 false x217000 x217001)
def stanchionref15_Pop.j1 : Nat → List (S27) → Int → Int → Bool → Int → Int → Option ((List (S27)) × Int × Int × Bool)
  | 0, _, _, _, _, _, _ => none
  | k + 1, x6, x7, x8, x56, x217000, x217001 => if x56 = true then (stanchionref15_Pop.j2 k x6 x7 (wrap64 ((wrap64 (2 * x7)) + 1)) x217000 x217001) else (stanchionref15_Pop.j2 k x6 x7 x8 x217000 x217001)
def stanchionref15_Pop.j2 : Nat → List (S27) → Int → Int → Int → Int → Option ((List (S27)) × Int × Int × Bool)
  | 0, _, _, _, _, _ => none
  | k + 1, x6, x7, x8, x217000, x217001 => if (wrap64 ((wrap64 (2 * x7)) + 2)) < (x6.length : Int) then (if 0 ≤ (wrap64 ((wrap64 (2 * x7)) + 2)) then (if 0 ≤ x8 then (if x8 < (x6.length : Int) then ((stanchionref15_Less.f ((rd_T27 x6 (wrap64 ((wrap64 (2 * x7)) + 2))).f0) ((rd_T27 x6 (wrap64 ((wrap64 (2 * x7)) + 2))).f1) ((rd_T27 x6 x8).f0) ((rd_T27 x6 x8).f1)).bind fun t235 => (stanchionref15_Pop.j3 k x6 x7 x8 t235 x217000 x217001)) else (none)) else (none)) else (none)) else (stanchionref15_Pop.j3 k x6 x7 x8 false x217000 x217001)
def stanchionref15_Pop.j3 : Nat → List (S27) → Int → Int → Bool → Int → Int → Option ((List (S27)) × Int × Int × Bool)
  | 0, _, _, _, _, _, _ => none
  | k + 1, x6, x7, x8, x78, x217000, x217001 => if x78 = true then (if (wrap64 ((wrap64 (2 * x7)) + 2)) = x7 then (some (x6, x217000, x217001, true)) else ((stanchionref15_swap.f x6 x7 (wrap64 ((wrap64 (2 * x7)) + 2))).bind fun t236 => (stanchionref15_Pop.l0 k t236 (wrap64 ((wrap64 (2 * x7)) + 2)) x217000 x217001))) else (if x8 = x7 then (some (x6, x217000, x217001, true)) else ((stanchionref15_swap.f x6 x7 x8).bind fun t239 => (stanchionref15_Pop.l0 k t239 x8 x217000 x217001)))
end
def stanchionref15_Pop.f (k : Nat) (l0 : List (S27)) : Option ((List (S27)) × Int × Int × Bool) := if (l0.length : Int) = 0 then (some (l0, 0, 0, false)) else (if 0 < (l0.length : Int) then ((some (([] : List (S27)) : List (S27))).bind fun y217 => (if 0 ≤ (wrap64 ((l0.length : Int) - 1)) then (if (wrap64 ((l0.length : Int) - 1)) ≤ (l0.length : Int) then ((some (l0.take ((wrap64 ((l0.length : Int) - 1)) : Int).toNat : List (S27))).bind fun y220 => (if y217.length + y220.length < 8796093022208 then ((some (y217 ++ y220 : List (S27))).bind fun y225 => (if (y225.length : Int) = 0 then (some (y225, (rd_T27 l0 0).f0, (rd_T27 l0 0).f1, true)) else (if (wrap64 ((l0.length : Int) - 1)) < (l0.length : Int) then (if 0 < (y225.length : Int) then (stanchionref15_Pop.l0 k (y225.set (0 : Int).toNat (⟨(rd_T27 l0 (wrap64 ((l0.length : Int) - 1))).f0, (rd_T27 l0 (wrap64 ((l0.length : Int) - 1))).f1⟩ : S27)) 0 ((rd_T27 l0 0).f0) ((rd_T27 l0 0).f1)) else (none)) else (none)))) else (none))) else (none)) else (none))) else (none))
theorem stanchionref15_Pop.mono_l : ∀ k, (∀ y0 y1 y2 y3, LeO (stanchionref15_Pop.l0 k y0 y1 y2 y3) (stanchionref15_Pop.l0 (k + 1) y0 y1 y2 y3)) ∧ (∀ y0 y1 y2 y3 y4 y5, LeO (stanchionref15_Pop.j1 k y0 y1 y2 y3 y4 y5) (stanchionref15_Pop.j1 (k + 1) y0 y1 y2 y3 y4 y5)) ∧ (∀ y0 y1 y2 y3 y4, LeO (stanchionref15_Pop.j2 k y0 y1 y2 y3 y4) (stanchionref15_Pop.j2 (k + 1) y0 y1 y2 y3 y4)) ∧ (∀ y0 y1 y2 y3 y4 y5, LeO (stanchionref15_Pop.j3 k y0 y1 y2 y3 y4 y5) (stanchionref15_Pop.j3 (k + 1) y0 y1 y2 y3 y4 y5))
  | 0 => ⟨fun _ _ _ _ r h => by simp [stanchionref15_Pop.l0] at h, fun _ _ _ _ _ _ r h => by simp [stanchionref15_Pop.j1] at h, fun _ _ _ _ _ r h => by simp [stanchionref15_Pop.j2] at h, fun _ _ _ _ _ _ r h => by simp [stanchionref15_Pop.j3] at h⟩
  | k + 1 => by
    obtain ⟨ih0, ih1, ih2, ih3⟩ := stanchionref15_Pop.mono_l k
    refine ⟨?_, ?_, ?_, ?_⟩
    · intro y0 y1 y2 y3
      unfold stanchionref15_Pop.l0
      repeat' first
      | (with_reducible exact ih0 _ _ _ _)
      | (with_reducible exact ih1 _ _ _ _ _ _)
      | (with_reducible exact ih2 _ _ _ _ _)
      | (with_reducible exact ih3 _ _ _ _ _ _)
      | (with_reducible exact LeO.refl _)
      | (with_reducible exact LeO.none _)
      | (with_reducible refine LeO.ite ?_ ?_)
      | (with_reducible refine LeO.bind ?_ (fun _ => ?_))
      | exact ih0 _ _ _ _
      | exact ih1 _ _ _ _ _ _
      | exact ih2 _ _ _ _ _
      | exact ih3 _ _ _ _ _ _
      | exact LeO.none _
      | refine LeO.ite ?_ ?_
      | refine LeO.bind ?_ (fun _ => ?_)
    · intro y0 y1 y2 y3 y4 y5
      unfold stanchionref15_Pop.j1
      repeat' first
      | (with_reducible exact ih0 _ _ _ _)
      | (with_reducible exact ih1 _ _ _ _ _ _)
      | (with_reducible exact ih2 _ _ _ _ _)
      | (with_reducible exact ih3 _ _ _ _ _ _)
      | (with_reducible exact LeO.refl _)
      | (with_reducible exact LeO.none _)
      | (with_reducible refine LeO.ite ?_ ?_)
      | (with_reducible refine LeO.bind ?_ (fun _ => ?_))
      | exact ih0 _ _ _ _
      | exact ih1 _ _ _ _ _ _
      | exact ih2 _ _ _ _ _
      | exact ih3 _ _ _ _ _ _
      | exact LeO.none _
      | refine LeO.ite ?_ ?_
      | refine LeO.bind ?_ (fun _ => ?_)
    · intro y0 y1 y2 y3 y4
      unfold stanchionref15_Pop.j2
      repeat' first
      | (with_reducible exact ih0 _ _ _ _)
      | (with_reducible exact ih1 _ _ _ _ _ _)
      | (with_reducible exact ih2 _ _ _ _ _)
      | (with_reducible exact ih3 _ _ _ _ _ _)
      | (with_reducible exact LeO.refl _)
      | (with_reducible exact LeO.none _)
      | (with_reducible refine LeO.ite ?_ ?_)
      | (with_reducible refine LeO.bind ?_ (fun _ => ?_))
      | exact ih0 _ _ _ _
      | exact ih1 _ _ _ _ _ _
      | exact ih2 _ _ _ _ _
      | exact ih3 _ _ _ _ _ _
      | exact LeO.none _
      | refine LeO.ite ?_ ?_
      | refine LeO.bind ?_ (fun _ => ?_)
    · intro y0 y1 y2 y3 y4 y5
      unfold stanchionref15_Pop.j3
      repeat' first
      | (with_reducible exact ih0 _ _ _ _)
      | (with_reducible exact ih1 _ _ _ _ _ _)
      | (with_reducible exact ih2 _ _ _ _ _)
      | (with_reducible exact ih3 _ _ _ _ _ _)
      | (with_reducible exact LeO.refl _)
      | (with_reducible exact LeO.none _)
      | (with_reducible refine LeO.ite ?_ ?_)
      | (with_reducible refine LeO.bind ?_ (fun _ => ?_))
      | exact ih0 _ _ _ _
      | exact ih1 _ _ _ _ _ _
      | exact ih2 _ _ _ _ _
      | exact ih3 _ _ _ _ _ _
      | exact LeO.none _
      | refine LeO.ite ?_ ?_
      | refine LeO.bind ?_ (fun _ => ?_)
theorem stanchionref15_Pop.mono : ∀ a0 k, LeO (stanchionref15_Pop.f k a0) (stanchionref15_Pop.f (k + 1) a0) := by
  intro a0 k
  obtain ⟨ih0, ih1, ih2, ih3⟩ := stanchionref15_Pop.mono_l k
  unfold stanchionref15_Pop.f
  repeat' first
      | (with_reducible exact ih0 _ _ _ _)
      | (with_reducible exact ih1 _ _ _ _ _ _)
      | (with_reducible exact ih2 _ _ _ _ _)
      | (with_reducible exact ih3 _ _ _ _ _ _)
      | (with_reducible exact LeO.refl _)
      | (with_reducible exact LeO.none _)
      | (with_reducible refine LeO.ite ?_ ?_)
      | (with_reducible refine LeO.bind ?_ (fun _ => ?_))
      | exact ih0 _ _ _ _
      | exact ih1 _ _ _ _ _ _
      | exact ih2 _ _ _ _ _
      | exact ih3 _ _ _ _ _ _
      | exact LeO.none _
      | refine LeO.ite ?_ ?_
      | refine LeO.bind ?_ (fun _ => ?_)

/-! ### stanchionref15_Due (function 18): what it is -/
def stanchionref15_Due.l0 : Nat → List (S27) → Int → List Int → Option ((List (S27)) × List Int)
  | 0, _, _, _ => none
  | k + 1, x0, x1, x6 => if (x0.length : Int) > 0 then (if 0 < (x0.length : Int) then (if ((rd_T27 x0 0).f0) ≤ x1 then ((stanchionref15_Pop.f k x0).bind fun bt243 => (if x6.length < 17592186044416 then (stanchionref15_Due.l0 k bt243.1 x1 (x6 ++ [bt243.2.2.1])) else (none))) else (some (x0, x6))) else (none)) else (some (x0, x6))
def stanchionref15_Due.f (k : Nat) (l0 : List (S27)) (a1 : Int) : Option ((List (S27)) × List Int) := stanchionref15_Due.l0 k l0 a1 ([] : List Int)
theorem stanchionref15_Due.mono_l : ∀ k, (∀ y0 y1 y2, LeO (stanchionref15_Due.l0 k y0 y1 y2) (stanchionref15_Due.l0 (k + 1) y0 y1 y2))
  | 0 => fun _ _ _ r h => by simp [stanchionref15_Due.l0] at h
  | k + 1 => by
    have ih0 := stanchionref15_Due.mono_l k
    · intro y0 y1 y2
      unfold stanchionref15_Due.l0
      repeat' first
      | (with_reducible exact ih0 _ _ _)
      | (with_reducible exact stanchionref15_Pop.mono _ _)
      | (with_reducible exact LeO.refl _)
      | (with_reducible exact LeO.none _)
      | (with_reducible refine LeO.ite ?_ ?_)
      | (with_reducible refine LeO.bind ?_ (fun _ => ?_))
      | exact ih0 _ _ _
      | exact stanchionref15_Pop.mono _ _
      | exact LeO.none _
      | refine LeO.ite ?_ ?_
      | refine LeO.bind ?_ (fun _ => ?_)
theorem stanchionref15_Due.mono : ∀ a0 a1 k, LeO (stanchionref15_Due.f k a0 a1) (stanchionref15_Due.f (k + 1) a0 a1) := by
  intro a0 a1 k
  have ih0 := stanchionref15_Due.mono_l k
  unfold stanchionref15_Due.f
  repeat' first
      | (with_reducible exact ih0 _ _ _)
      | (with_reducible exact stanchionref15_Pop.mono _ _)
      | (with_reducible exact LeO.refl _)
      | (with_reducible exact LeO.none _)
      | (with_reducible refine LeO.ite ?_ ?_)
      | (with_reducible refine LeO.bind ?_ (fun _ => ?_))
      | exact ih0 _ _ _
      | exact stanchionref15_Pop.mono _ _
      | exact LeO.none _
      | refine LeO.ite ?_ ?_
      | refine LeO.bind ?_ (fun _ => ?_)

/-! ### stanchionref10_Ints (function 19): what it is -/
def stanchionref10_Ints.l0 : Nat → List Int → List Int → Int → Option (Bool)
  | 0, _, _, _ => none
  | k + 1, x0, x1, x5 => if x5 < (x0.length : Int) then (if 0 ≤ x5 then (if x5 < (x1.length : Int) then (if (rd x0 x5) = (rd x1 x5) then (stanchionref10_Ints.l0 k x0 x1 (wrap64 (x5 + 1))) else (some false)) else (none)) else (none)) else (some true)
def stanchionref10_Ints.f (k : Nat) (l0 : List Int) (l1 : List Int) : Option (Bool) := if (l0.length : Int) = (l1.length : Int) then (stanchionref10_Ints.l0 k l0 l1 0) else (some false)
theorem stanchionref10_Ints.mono_l : ∀ k, (∀ y0 y1 y2, LeO (stanchionref10_Ints.l0 k y0 y1 y2) (stanchionref10_Ints.l0 (k + 1) y0 y1 y2))
  | 0 => fun _ _ _ r h => by simp [stanchionref10_Ints.l0] at h
  | k + 1 => by
    have ih0 := stanchionref10_Ints.mono_l k
    · intro y0 y1 y2
      unfold stanchionref10_Ints.l0
      repeat' first
      | (with_reducible exact ih0 _ _ _)
      | (with_reducible exact LeO.refl _)
      | (with_reducible exact LeO.none _)
      | (with_reducible refine LeO.ite ?_ ?_)
      | (with_reducible refine LeO.bind ?_ (fun _ => ?_))
      | exact ih0 _ _ _
      | exact LeO.none _
      | refine LeO.ite ?_ ?_
      | refine LeO.bind ?_ (fun _ => ?_)
theorem stanchionref10_Ints.mono : ∀ a0 a1 k, LeO (stanchionref10_Ints.f k a0 a1) (stanchionref10_Ints.f (k + 1) a0 a1) := by
  intro a0 a1 k
  have ih0 := stanchionref10_Ints.mono_l k
  unfold stanchionref10_Ints.f
  repeat' first
      | (with_reducible exact ih0 _ _ _)
      | (with_reducible exact LeO.refl _)
      | (with_reducible exact LeO.none _)
      | (with_reducible refine LeO.ite ?_ ?_)
      | (with_reducible refine LeO.bind ?_ (fun _ => ?_))
      | exact ih0 _ _ _
      | exact LeO.none _
      | refine LeO.ite ?_ ?_
      | refine LeO.bind ?_ (fun _ => ?_)

/-! ### stanchionref15_Drop (function 20): what it is -/
def stanchionref15_Drop.l0 : Nat → List (S27) → Int → List (S27) → Int → Option ((List (S27)))
  | 0, _, _, _, _ => none
  | k + 1, x0, x1, x5, x6 => if x6 < (x0.length : Int) then (if 0 ≤ x6 then (if ((rd_T27 x0 x6).f1) = x1 then (stanchionref15_Drop.l0 k x0 x1 x5 (wrap64 (x6 + 1))) else ((stanchionref15_Put.f k x5 ((rd_T27 x0 x6).f0) ((rd_T27 x0 x6).f1)).bind fun t257 => (stanchionref15_Drop.l0 k x0 x1 t257 (wrap64 (x6 + 1))))) else (none)) else (some x5)
def stanchionref15_Drop.f (k : Nat) (l0 : List (S27)) (a1 : Int) : Option ((List (S27))) := stanchionref15_Drop.l0 k l0 a1 ([] : List (S27)) 0
theorem stanchionref15_Drop.mono_l : ∀ k, (∀ y0 y1 y2 y3, LeO (stanchionref15_Drop.l0 k y0 y1 y2 y3) (stanchionref15_Drop.l0 (k + 1) y0 y1 y2 y3))
  | 0 => fun _ _ _ _ r h => by simp [stanchionref15_Drop.l0] at h
  | k + 1 => by
    have ih0 := stanchionref15_Drop.mono_l k
    · intro y0 y1 y2 y3
      unfold stanchionref15_Drop.l0
      repeat' first
      | (with_reducible exact ih0 _ _ _ _)
      | (with_reducible exact stanchionref15_Put.mono _ _ _ _)
      | (with_reducible exact LeO.refl _)
      | (with_reducible exact LeO.none _)
      | (with_reducible refine LeO.ite ?_ ?_)
      | (with_reducible refine LeO.bind ?_ (fun _ => ?_))
      | exact ih0 _ _ _ _
      | exact stanchionref15_Put.mono _ _ _ _
      | exact LeO.none _
      | refine LeO.ite ?_ ?_
      | refine LeO.bind ?_ (fun _ => ?_)
theorem stanchionref15_Drop.mono : ∀ a0 a1 k, LeO (stanchionref15_Drop.f k a0 a1) (stanchionref15_Drop.f (k + 1) a0 a1) := by
  intro a0 a1 k
  have ih0 := stanchionref15_Drop.mono_l k
  unfold stanchionref15_Drop.f
  repeat' first
      | (with_reducible exact ih0 _ _ _ _)
      | (with_reducible exact stanchionref15_Put.mono _ _ _ _)
      | (with_reducible exact LeO.refl _)
      | (with_reducible exact LeO.none _)
      | (with_reducible refine LeO.ite ?_ ?_)
      | (with_reducible refine LeO.bind ?_ (fun _ => ?_))
      | exact ih0 _ _ _ _
      | exact stanchionref15_Put.mono _ _ _ _
      | exact LeO.none _
      | refine LeO.ite ?_ ?_
      | refine LeO.bind ?_ (fun _ => ?_)

/-! ### alarm_Heap (function 21): what it is -/
def alarm_Heap.l0 : Nat → List (S27) → Int → Option (Bool)
  | 0, _, _ => none
  | k + 1, x0, x3 => if x3 < (x0.length : Int) then (if 0 ≤ x3 then (if 0 ≤ (wrap64 (Int.tdiv (wrap64 (x3 - 1)) 2)) then (if (wrap64 (Int.tdiv (wrap64 (x3 - 1)) 2)) < (x0.length : Int) then ((alarm_Less.f ((rd_T27 x0 x3).f0) ((rd_T27 x0 x3).f1) ((rd_T27 x0 (wrap64 (Int.tdiv (wrap64 (x3 - 1)) 2))).f0) ((rd_T27 x0 (wrap64 (Int.tdiv (wrap64 (x3 - 1)) 2))).f1)).bind fun t262 => (if t262 = true then (some false) else (alarm_Heap.l0 k x0 (wrap64 (x3 + 1))))) else (none)) else (none)) else (none)) else (some true)
def alarm_Heap.f (k : Nat) (l0 : List (S27)) : Option (Bool) := alarm_Heap.l0 k l0 1
theorem alarm_Heap.mono_l : ∀ k, (∀ y0 y1, LeO (alarm_Heap.l0 k y0 y1) (alarm_Heap.l0 (k + 1) y0 y1))
  | 0 => fun _ _ r h => by simp [alarm_Heap.l0] at h
  | k + 1 => by
    have ih0 := alarm_Heap.mono_l k
    · intro y0 y1
      unfold alarm_Heap.l0
      repeat' first
      | (with_reducible exact ih0 _ _)
      | (with_reducible exact LeO.refl _)
      | (with_reducible exact LeO.none _)
      | (with_reducible refine LeO.ite ?_ ?_)
      | (with_reducible refine LeO.bind ?_ (fun _ => ?_))
      | exact ih0 _ _
      | exact LeO.none _
      | refine LeO.ite ?_ ?_
      | refine LeO.bind ?_ (fun _ => ?_)
theorem alarm_Heap.mono : ∀ a0 k, LeO (alarm_Heap.f k a0) (alarm_Heap.f (k + 1) a0) := by
  intro a0 k
  have ih0 := alarm_Heap.mono_l k
  unfold alarm_Heap.f
  repeat' first
      | (with_reducible exact ih0 _ _)
      | (with_reducible exact LeO.refl _)
      | (with_reducible exact LeO.none _)
      | (with_reducible refine LeO.ite ?_ ?_)
      | (with_reducible refine LeO.bind ?_ (fun _ => ?_))
      | exact ih0 _ _
      | exact LeO.none _
      | refine LeO.ite ?_ ?_
      | refine LeO.bind ?_ (fun _ => ?_)

/-! ### stanchionlaw15_AlarmActs (function 7): what it is -/
mutual
def stanchionlaw15_AlarmActs.j0 : Nat → List (S27) → Int → Bool → Bool → List (S27) → List Int → List (S27) → List Int → Bool → Int → Int → Option (Bool)
  | 0, _, _, _, _, _, _, _, _, _, _, _ => none
  | k + 1, x3, x6, x7, x8, x15, x16, x17, x18, x19, x265000, x265001 => (stanchionref15_Same.f k x15 x17).bind fun t300 => (if t300 = true then ((stanchionref10_Ints.f k x16 x18).bind fun t301 => (stanchionlaw15_AlarmActs.j1 k x3 x6 x7 x8 x19 t301 x265000 x265001)) else (stanchionlaw15_AlarmActs.j1 k x3 x6 x7 x8 x19 false x265000 x265001))
def stanchionlaw15_AlarmActs.j1 : Nat → List (S27) → Int → Bool → Bool → Bool → Bool → Int → Int → Option (Bool)
  | 0, _, _, _, _, _, _, _, _ => none
  | k + 1, x3, x6, x7, x8, x19, x20, x265000, x265001 => (alarm_Drop.f k x3 x6).bind fun t302 => ((stanchionref15_Drop.f k x3 x6).bind fun t305 => ((stanchionref15_Same.f k t302 t305).bind fun t308 => (if x7 = true then (if x8 = true then (if x19 = true then (if x20 = true then (if t308 = true then ((alarm_Heap.f k x3).bind fun t309 => ((stanchionref15_Heap.f k x3).bind fun t310 => (if (t309 == t310) = true then (if (x3.length : Int) = 0 then (some true) else (if 0 < (x3.length : Int) then ((alarm_Less.f ((rd_T27 x3 0).f0) ((rd_T27 x3 0).f1) x265000 x265001).bind fun t312 => ((stanchionref15_Less.f ((rd_T27 x3 0).f0) ((rd_T27 x3 0).f1) x265000 x265001).bind fun t314 => (some (t312 == t314)))) else (none))) else (some false)))) else (some false)) else (some false)) else (some false)) else (some false)) else (some false))))
end
def stanchionlaw15_AlarmActs.f (k : Nat) (l0_0 : List (S27)) (a0_1 : Int) (a0_2 : Int) (a0_3 : Int) (a0_4 : Int) : Option (Bool) := (stanchionlaw15_shown.f k).bind fun t265 => (if (l0_0.length : Int) > 300 then (some t265) else ((alarm_Put.f k l0_0 a0_1 a0_2).bind fun t266 => ((stanchionref15_Put.f k l0_0 a0_1 a0_2).bind fun t269 => ((stanchionref15_Same.f k t266 t269).bind fun t272 => ((alarm_Pop.f k l0_0).bind fun bt273 => ((stanchionref15_Pop.f k l0_0).bind fun bt280 => ((alarm_Due.f k l0_0 a0_3).bind fun bt287 => ((stanchionref15_Due.f k l0_0 a0_3).bind fun bt293 => ((stanchionref15_Same.f k bt273.1 bt280.1).bind fun t299 => (if t299 = true then (if (bt273.2.1 == bt280.2.1 && (bt273.2.2.1 == bt280.2.2.1)) = true then (stanchionlaw15_AlarmActs.j0 k l0_0 a0_4 t265 t272 bt287.1 bt287.2 bt293.1 bt293.2 (bt273.2.2.2 == bt280.2.2.2) a0_1 a0_2) else (stanchionlaw15_AlarmActs.j0 k l0_0 a0_4 t265 t272 bt287.1 bt287.2 bt293.1 bt293.2 false a0_1 a0_2)) else (stanchionlaw15_AlarmActs.j0 k l0_0 a0_4 t265 t272 bt287.1 bt287.2 bt293.1 bt293.2 false a0_1 a0_2)))))))))))
theorem stanchionlaw15_AlarmActs.mono_l : ∀ k, (∀ y0 y1 y2 y3 y4 y5 y6 y7 y8 y9 y10, LeO (stanchionlaw15_AlarmActs.j0 k y0 y1 y2 y3 y4 y5 y6 y7 y8 y9 y10) (stanchionlaw15_AlarmActs.j0 (k + 1) y0 y1 y2 y3 y4 y5 y6 y7 y8 y9 y10)) ∧ (∀ y0 y1 y2 y3 y4 y5 y6 y7, LeO (stanchionlaw15_AlarmActs.j1 k y0 y1 y2 y3 y4 y5 y6 y7) (stanchionlaw15_AlarmActs.j1 (k + 1) y0 y1 y2 y3 y4 y5 y6 y7))
  | 0 => ⟨fun _ _ _ _ _ _ _ _ _ _ _ r h => by simp [stanchionlaw15_AlarmActs.j0] at h, fun _ _ _ _ _ _ _ _ r h => by simp [stanchionlaw15_AlarmActs.j1] at h⟩
  | k + 1 => by
    obtain ⟨ih0, ih1⟩ := stanchionlaw15_AlarmActs.mono_l k
    refine ⟨?_, ?_⟩
    · intro y0 y1 y2 y3 y4 y5 y6 y7 y8 y9 y10
      unfold stanchionlaw15_AlarmActs.j0
      repeat' first
      | (with_reducible exact ih0 _ _ _ _ _ _ _ _ _ _ _)
      | (with_reducible exact ih1 _ _ _ _ _ _ _ _)
      | (with_reducible exact alarm_Drop.mono _ _ _)
      | (with_reducible exact alarm_Due.mono _ _ _)
      | (with_reducible exact alarm_Heap.mono _ _)
      | (with_reducible exact alarm_Pop.mono _ _)
      | (with_reducible exact alarm_Put.mono _ _ _ _)
      | (with_reducible exact stanchionlaw15_shown.mono _)
      | (with_reducible exact stanchionref10_Ints.mono _ _ _)
      | (with_reducible exact stanchionref15_Drop.mono _ _ _)
      | (with_reducible exact stanchionref15_Due.mono _ _ _)
      | (with_reducible exact stanchionref15_Heap.mono _ _)
      | (with_reducible exact stanchionref15_Pop.mono _ _)
      | (with_reducible exact stanchionref15_Put.mono _ _ _ _)
      | (with_reducible exact stanchionref15_Same.mono _ _ _)
      | (with_reducible exact LeO.refl _)
      | (with_reducible exact LeO.none _)
      | (with_reducible refine LeO.ite ?_ ?_)
      | (with_reducible refine LeO.bind ?_ (fun _ => ?_))
      | exact ih0 _ _ _ _ _ _ _ _ _ _ _
      | exact ih1 _ _ _ _ _ _ _ _
      | exact alarm_Drop.mono _ _ _
      | exact alarm_Due.mono _ _ _
      | exact alarm_Heap.mono _ _
      | exact alarm_Pop.mono _ _
      | exact alarm_Put.mono _ _ _ _
      | exact stanchionlaw15_shown.mono _
      | exact stanchionref10_Ints.mono _ _ _
      | exact stanchionref15_Drop.mono _ _ _
      | exact stanchionref15_Due.mono _ _ _
      | exact stanchionref15_Heap.mono _ _
      | exact stanchionref15_Pop.mono _ _
      | exact stanchionref15_Put.mono _ _ _ _
      | exact stanchionref15_Same.mono _ _ _
      | exact LeO.none _
      | refine LeO.ite ?_ ?_
      | refine LeO.bind ?_ (fun _ => ?_)
    · intro y0 y1 y2 y3 y4 y5 y6 y7
      unfold stanchionlaw15_AlarmActs.j1
      repeat' first
      | (with_reducible exact ih0 _ _ _ _ _ _ _ _ _ _ _)
      | (with_reducible exact ih1 _ _ _ _ _ _ _ _)
      | (with_reducible exact alarm_Drop.mono _ _ _)
      | (with_reducible exact alarm_Due.mono _ _ _)
      | (with_reducible exact alarm_Heap.mono _ _)
      | (with_reducible exact alarm_Pop.mono _ _)
      | (with_reducible exact alarm_Put.mono _ _ _ _)
      | (with_reducible exact stanchionlaw15_shown.mono _)
      | (with_reducible exact stanchionref10_Ints.mono _ _ _)
      | (with_reducible exact stanchionref15_Drop.mono _ _ _)
      | (with_reducible exact stanchionref15_Due.mono _ _ _)
      | (with_reducible exact stanchionref15_Heap.mono _ _)
      | (with_reducible exact stanchionref15_Pop.mono _ _)
      | (with_reducible exact stanchionref15_Put.mono _ _ _ _)
      | (with_reducible exact stanchionref15_Same.mono _ _ _)
      | (with_reducible exact LeO.refl _)
      | (with_reducible exact LeO.none _)
      | (with_reducible refine LeO.ite ?_ ?_)
      | (with_reducible refine LeO.bind ?_ (fun _ => ?_))
      | exact ih0 _ _ _ _ _ _ _ _ _ _ _
      | exact ih1 _ _ _ _ _ _ _ _
      | exact alarm_Drop.mono _ _ _
      | exact alarm_Due.mono _ _ _
      | exact alarm_Heap.mono _ _
      | exact alarm_Pop.mono _ _
      | exact alarm_Put.mono _ _ _ _
      | exact stanchionlaw15_shown.mono _
      | exact stanchionref10_Ints.mono _ _ _
      | exact stanchionref15_Drop.mono _ _ _
      | exact stanchionref15_Due.mono _ _ _
      | exact stanchionref15_Heap.mono _ _
      | exact stanchionref15_Pop.mono _ _
      | exact stanchionref15_Put.mono _ _ _ _
      | exact stanchionref15_Same.mono _ _ _
      | exact LeO.none _
      | refine LeO.ite ?_ ?_
      | refine LeO.bind ?_ (fun _ => ?_)
theorem stanchionlaw15_AlarmActs.mono : ∀ a0 a1 a2 a3 a4 k, LeO (stanchionlaw15_AlarmActs.f k a0 a1 a2 a3 a4) (stanchionlaw15_AlarmActs.f (k + 1) a0 a1 a2 a3 a4) := by
  intro a0 a1 a2 a3 a4 k
  obtain ⟨ih0, ih1⟩ := stanchionlaw15_AlarmActs.mono_l k
  unfold stanchionlaw15_AlarmActs.f
  repeat' first
      | (with_reducible exact ih0 _ _ _ _ _ _ _ _ _ _ _)
      | (with_reducible exact ih1 _ _ _ _ _ _ _ _)
      | (with_reducible exact alarm_Drop.mono _ _ _)
      | (with_reducible exact alarm_Due.mono _ _ _)
      | (with_reducible exact alarm_Heap.mono _ _)
      | (with_reducible exact alarm_Pop.mono _ _)
      | (with_reducible exact alarm_Put.mono _ _ _ _)
      | (with_reducible exact stanchionlaw15_shown.mono _)
      | (with_reducible exact stanchionref10_Ints.mono _ _ _)
      | (with_reducible exact stanchionref15_Drop.mono _ _ _)
      | (with_reducible exact stanchionref15_Due.mono _ _ _)
      | (with_reducible exact stanchionref15_Heap.mono _ _)
      | (with_reducible exact stanchionref15_Pop.mono _ _)
      | (with_reducible exact stanchionref15_Put.mono _ _ _ _)
      | (with_reducible exact stanchionref15_Same.mono _ _ _)
      | (with_reducible exact LeO.refl _)
      | (with_reducible exact LeO.none _)
      | (with_reducible refine LeO.ite ?_ ?_)
      | (with_reducible refine LeO.bind ?_ (fun _ => ?_))
      | exact ih0 _ _ _ _ _ _ _ _ _ _ _
      | exact ih1 _ _ _ _ _ _ _ _
      | exact alarm_Drop.mono _ _ _
      | exact alarm_Due.mono _ _ _
      | exact alarm_Heap.mono _ _
      | exact alarm_Pop.mono _ _
      | exact alarm_Put.mono _ _ _ _
      | exact stanchionlaw15_shown.mono _
      | exact stanchionref10_Ints.mono _ _ _
      | exact stanchionref15_Drop.mono _ _ _
      | exact stanchionref15_Due.mono _ _ _
      | exact stanchionref15_Heap.mono _ _
      | exact stanchionref15_Pop.mono _ _
      | exact stanchionref15_Put.mono _ _ _ _
      | exact stanchionref15_Same.mono _ _ _
      | exact LeO.none _
      | refine LeO.ite ?_ ?_
      | refine LeO.bind ?_ (fun _ => ?_)

/-! ### alarm_Less: function 11 -/
set_option maxHeartbeats 8000000 in
set_option maxRecDepth 100000 in
theorem alarm_Less.calls (a0_0 : Int) (a0_1 : Int) (a1_0 : Int) (a1_1 : Int) (r : Bool) (w : World) (h : alarm_Less.f a0_0 a0_1 a1_0 a1_1 = some r) :
    Calls Try.prog 11 #[.agg #[.int .u64 a0_0, .int .i64 a0_1], .agg #[.int .u64 a1_0, .int .i64 a1_1]] w fun e w' => e = .returned (.bool r) ∧ Below w.heap.size w w' := by
  have hu27 := Try.underlying27
  have HB := Aside0.mk (Below.refl w.heap.size w)
  have H : (if a0_0 < a1_0 then (some true) else (if a0_0 = a1_0 then (some (decide (a0_1 < a1_1))) else (some false))) = some r := h
  clear h
  by_cases c3 : a0_0 < a1_0
  · rw [if_pos c3] at H
    have c3b0 : decide (a0_0 < a1_0) = true := decide_eq_true c3
    clear c3
    obtain rfl := Option.some.inj H
    go_enter Try.func11, Try.ntmps11
    go_wp2_with (first | ((with_reducible refine gate_dst (N := 2) rfl ?_); refine box_event ?hg (N := 2) ?hd (cs := #[.int .u64 a0_0, .int .i64 a0_1]) (t := 27) ?hr ?_; (case hd => rfl); (case hg => rfl); (case hr => first | (go_simp; done) | (go_simp; rfl)); intro gb101 hg w4 hbox hb; have n0_ := Aside0.mk (below_step (by repeat (first | (with_reducible first | exact HB.out | apply below_alloc | apply pw_below_drewN | apply below_drew1) | exact HB.out)) hb); have n1_ := Aside0.mk (hbox); have n2_ := Aside0.mk ((by rw [hg]; exact (below_size (by repeat (first | (with_reducible first | exact HB.out | apply below_alloc | apply pw_below_drewN | apply below_drew1) | exact HB.out))) : w.heap.size ≤ gb101)); have n3_ := Aside0.mk ((by rw [hg]; exact (below_size (by repeat (first | (with_reducible first | exact HB.out | apply below_alloc | apply pw_below_drewN | apply below_drew1) | exact HB.out))) : w.heap.size ≤ gb101)); clear HB; have HB := n0_; have BK101 := n1_; have GW101 := n2_; have GE101 := n3_; clear n0_ n1_ n2_ n3_; clear hb hbox hg) | ((with_reducible refine gate_dst (N := 3) rfl ?_); refine box_event ?hg (N := 3) ?hd (cs := #[.int .u64 a1_0, .int .i64 a1_1]) (t := 27) ?hr ?_; (case hd => rfl); (case hg => rfl); (case hr => first | (go_simp; done) | (go_simp; rfl)); intro gb102 hg w5 hbox hb; have n0_ := Aside0.mk (blk_below (g := gb101) (o := .cells #[.int .u64 a0_0, .int .i64 a0_1] 27 (0, 0)) (by (with_reducible repeat (first | refine blk_drewN ?_ _ | refine blk_drew ?_ | refine blk_alloc ?_ _)); exact BK101.out) hb); have n1_ := Aside0.mk (below_step (by repeat (first | (with_reducible first | exact HB.out | apply below_alloc | apply pw_below_drewN | apply below_drew1 | refine below_set ?_ GE101.out) | exact HB.out)) hb); have n2_ := Aside0.mk (hbox); have n3_ := Aside0.mk ((by rw [hg]; exact (below_size (by repeat (first | (with_reducible first | exact HB.out | apply below_alloc | apply pw_below_drewN | apply below_drew1 | refine below_set ?_ GE101.out) | exact HB.out))) : w.heap.size ≤ gb102)); have n4_ := Aside0.mk ((by rw [hg]; exact (below_size (by repeat (first | (with_reducible first | exact HB.out | apply below_alloc | apply pw_below_drewN | apply below_drew1 | refine below_set ?_ GE101.out) | exact HB.out))) : w.heap.size ≤ gb102)); have n5_ := Aside0.mk ((by rw [hg]; exact Nat.ne_of_lt (blk_lt (g := gb101) (o := .cells #[.int .u64 a0_0, .int .i64 a0_1] 27 (0, 0)) (by (with_reducible repeat (first | refine blk_drewN ?_ _ | refine blk_drew ?_ | refine blk_alloc ?_ _)); exact BK101.out)) : gb101 ≠ gb102)); have n6_ := Aside0.mk ((by rw [hg]; exact Nat.ne_of_gt (blk_lt (g := gb101) (o := .cells #[.int .u64 a0_0, .int .i64 a0_1] 27 (0, 0)) (by (with_reducible repeat (first | refine blk_drewN ?_ _ | refine blk_drew ?_ | refine blk_alloc ?_ _)); exact BK101.out)) : gb102 ≠ gb101)); clear BK101; clear HB; have BK101 := n0_; have HB := n1_; have BK102 := n2_; have GW102 := n3_; have GE102 := n4_; have NB101_102 := n5_; have NB102_101 := n6_; clear n0_ n1_ n2_ n3_ n4_ n5_ n6_; clear hb hbox hg; have hnb6 := NB101_102.out; have hnc6 := NB102_101.out; have hcz7_0 : w5.cell? ⟨gb101, 0, none⟩ = some (.int .u64 a0_0) := (blk_cell BK101.out 0).trans rfl; have hcz7_1 : w5.cell? ⟨gb101, 1, none⟩ = some (.int .i64 a0_1) := (blk_cell BK101.out 1).trans rfl; have hfz7_0 := blk_frozen BK101.out 0; have hfz7_1 := blk_frozen BK101.out 1; have hcz8_0 : w5.cell? ⟨gb102, 0, none⟩ = some (.int .u64 a1_0) := (blk_cell BK102.out 0).trans rfl; have hcz8_1 : w5.cell? ⟨gb102, 1, none⟩ = some (.int .i64 a1_1) := (blk_cell BK102.out 1).trans rfl; have hfz8_0 := blk_frozen BK102.out 0; have hfz8_1 := blk_frozen BK102.out 1))
    go_ret
    exact ⟨by first | rfl | (simp [errW_none, errW_some] <;> rfl) | (simp [*, errW_none, errW_some] <;> rfl), by repeat (first | (with_reducible first | exact HB.out | apply below_alloc | apply pw_below_drewN | apply below_drew1 | refine below_set ?_ GE101.out | refine below_set ?_ GE102.out) | exact HB.out)⟩
  · rw [if_neg c3] at H
    have c3b0 : decide (a0_0 < a1_0) = false := decide_eq_false c3
    clear c3
    by_cases c9 : a0_0 = a1_0
    · rw [if_pos c9] at H
      have c9b0 : (a0_0 == a1_0) = true := beq_iff_eq.mpr c9
      have c9b1 : (a0_0 != a1_0) = false := bne_eq_false_iff_eq.mpr c9
      clear c9
      obtain rfl := Option.some.inj H
      go_enter Try.func11, Try.ntmps11
      go_wp2_with (first | ((with_reducible refine gate_dst (N := 2) rfl ?_); refine box_event ?hg (N := 2) ?hd (cs := #[.int .u64 a0_0, .int .i64 a0_1]) (t := 27) ?hr ?_; (case hd => rfl); (case hg => rfl); (case hr => first | (go_simp; done) | (go_simp; rfl)); intro gb101 hg w10 hbox hb; have n0_ := Aside0.mk (below_step (by repeat (first | (with_reducible first | exact HB.out | apply below_alloc | apply pw_below_drewN | apply below_drew1) | exact HB.out)) hb); have n1_ := Aside0.mk (hbox); have n2_ := Aside0.mk ((by rw [hg]; exact (below_size (by repeat (first | (with_reducible first | exact HB.out | apply below_alloc | apply pw_below_drewN | apply below_drew1) | exact HB.out))) : w.heap.size ≤ gb101)); have n3_ := Aside0.mk ((by rw [hg]; exact (below_size (by repeat (first | (with_reducible first | exact HB.out | apply below_alloc | apply pw_below_drewN | apply below_drew1) | exact HB.out))) : w.heap.size ≤ gb101)); clear HB; have HB := n0_; have BK101 := n1_; have GW101 := n2_; have GE101 := n3_; clear n0_ n1_ n2_ n3_; clear hb hbox hg) | ((with_reducible refine gate_dst (N := 3) rfl ?_); refine box_event ?hg (N := 3) ?hd (cs := #[.int .u64 a1_0, .int .i64 a1_1]) (t := 27) ?hr ?_; (case hd => rfl); (case hg => rfl); (case hr => first | (go_simp; done) | (go_simp; rfl)); intro gb102 hg w11 hbox hb; have n0_ := Aside0.mk (blk_below (g := gb101) (o := .cells #[.int .u64 a0_0, .int .i64 a0_1] 27 (0, 0)) (by (with_reducible repeat (first | refine blk_drewN ?_ _ | refine blk_drew ?_ | refine blk_alloc ?_ _)); exact BK101.out) hb); have n1_ := Aside0.mk (below_step (by repeat (first | (with_reducible first | exact HB.out | apply below_alloc | apply pw_below_drewN | apply below_drew1 | refine below_set ?_ GE101.out) | exact HB.out)) hb); have n2_ := Aside0.mk (hbox); have n3_ := Aside0.mk ((by rw [hg]; exact (below_size (by repeat (first | (with_reducible first | exact HB.out | apply below_alloc | apply pw_below_drewN | apply below_drew1 | refine below_set ?_ GE101.out) | exact HB.out))) : w.heap.size ≤ gb102)); have n4_ := Aside0.mk ((by rw [hg]; exact (below_size (by repeat (first | (with_reducible first | exact HB.out | apply below_alloc | apply pw_below_drewN | apply below_drew1 | refine below_set ?_ GE101.out) | exact HB.out))) : w.heap.size ≤ gb102)); have n5_ := Aside0.mk ((by rw [hg]; exact Nat.ne_of_lt (blk_lt (g := gb101) (o := .cells #[.int .u64 a0_0, .int .i64 a0_1] 27 (0, 0)) (by (with_reducible repeat (first | refine blk_drewN ?_ _ | refine blk_drew ?_ | refine blk_alloc ?_ _)); exact BK101.out)) : gb101 ≠ gb102)); have n6_ := Aside0.mk ((by rw [hg]; exact Nat.ne_of_gt (blk_lt (g := gb101) (o := .cells #[.int .u64 a0_0, .int .i64 a0_1] 27 (0, 0)) (by (with_reducible repeat (first | refine blk_drewN ?_ _ | refine blk_drew ?_ | refine blk_alloc ?_ _)); exact BK101.out)) : gb102 ≠ gb101)); clear BK101; clear HB; have BK101 := n0_; have HB := n1_; have BK102 := n2_; have GW102 := n3_; have GE102 := n4_; have NB101_102 := n5_; have NB102_101 := n6_; clear n0_ n1_ n2_ n3_ n4_ n5_ n6_; clear hb hbox hg; have hnb12 := NB101_102.out; have hnc12 := NB102_101.out; have hcz13_0 : w11.cell? ⟨gb101, 0, none⟩ = some (.int .u64 a0_0) := (blk_cell BK101.out 0).trans rfl; have hcz13_1 : w11.cell? ⟨gb101, 1, none⟩ = some (.int .i64 a0_1) := (blk_cell BK101.out 1).trans rfl; have hfz13_0 := blk_frozen BK101.out 0; have hfz13_1 := blk_frozen BK101.out 1; have hcz14_0 : w11.cell? ⟨gb102, 0, none⟩ = some (.int .u64 a1_0) := (blk_cell BK102.out 0).trans rfl; have hcz14_1 : w11.cell? ⟨gb102, 1, none⟩ = some (.int .i64 a1_1) := (blk_cell BK102.out 1).trans rfl; have hfz14_0 := blk_frozen BK102.out 0; have hfz14_1 := blk_frozen BK102.out 1))
      go_ret
      exact ⟨by first | rfl | (simp [errW_none, errW_some] <;> rfl) | (simp [*, errW_none, errW_some] <;> rfl), by repeat (first | (with_reducible first | exact HB.out | apply below_alloc | apply pw_below_drewN | apply below_drew1 | refine below_set ?_ GE101.out | refine below_set ?_ GE102.out) | exact HB.out)⟩
    · rw [if_neg c9] at H
      have c9b0 : (a0_0 == a1_0) = false := beq_eq_false_iff_ne.mpr c9
      have c9b1 : (a0_0 != a1_0) = true := bne_iff_ne.mpr c9
      obtain rfl := Option.some.inj H
      go_enter Try.func11, Try.ntmps11
      go_wp2_with (first | ((with_reducible refine gate_dst (N := 2) rfl ?_); refine box_event ?hg (N := 2) ?hd (cs := #[.int .u64 a0_0, .int .i64 a0_1]) (t := 27) ?hr ?_; (case hd => rfl); (case hg => rfl); (case hr => first | (go_simp; done) | (go_simp; rfl)); intro gb101 hg w15 hbox hb; have n0_ := Aside0.mk (below_step (by repeat (first | (with_reducible first | exact HB.out | apply below_alloc | apply pw_below_drewN | apply below_drew1) | exact HB.out)) hb); have n1_ := Aside0.mk (hbox); have n2_ := Aside0.mk ((by rw [hg]; exact (below_size (by repeat (first | (with_reducible first | exact HB.out | apply below_alloc | apply pw_below_drewN | apply below_drew1) | exact HB.out))) : w.heap.size ≤ gb101)); have n3_ := Aside0.mk ((by rw [hg]; exact (below_size (by repeat (first | (with_reducible first | exact HB.out | apply below_alloc | apply pw_below_drewN | apply below_drew1) | exact HB.out))) : w.heap.size ≤ gb101)); clear HB; have HB := n0_; have BK101 := n1_; have GW101 := n2_; have GE101 := n3_; clear n0_ n1_ n2_ n3_; clear hb hbox hg) | ((with_reducible refine gate_dst (N := 3) rfl ?_); refine box_event ?hg (N := 3) ?hd (cs := #[.int .u64 a1_0, .int .i64 a1_1]) (t := 27) ?hr ?_; (case hd => rfl); (case hg => rfl); (case hr => first | (go_simp; done) | (go_simp; rfl)); intro gb102 hg w16 hbox hb; have n0_ := Aside0.mk (blk_below (g := gb101) (o := .cells #[.int .u64 a0_0, .int .i64 a0_1] 27 (0, 0)) (by (with_reducible repeat (first | refine blk_drewN ?_ _ | refine blk_drew ?_ | refine blk_alloc ?_ _)); exact BK101.out) hb); have n1_ := Aside0.mk (below_step (by repeat (first | (with_reducible first | exact HB.out | apply below_alloc | apply pw_below_drewN | apply below_drew1 | refine below_set ?_ GE101.out) | exact HB.out)) hb); have n2_ := Aside0.mk (hbox); have n3_ := Aside0.mk ((by rw [hg]; exact (below_size (by repeat (first | (with_reducible first | exact HB.out | apply below_alloc | apply pw_below_drewN | apply below_drew1 | refine below_set ?_ GE101.out) | exact HB.out))) : w.heap.size ≤ gb102)); have n4_ := Aside0.mk ((by rw [hg]; exact (below_size (by repeat (first | (with_reducible first | exact HB.out | apply below_alloc | apply pw_below_drewN | apply below_drew1 | refine below_set ?_ GE101.out) | exact HB.out))) : w.heap.size ≤ gb102)); have n5_ := Aside0.mk ((by rw [hg]; exact Nat.ne_of_lt (blk_lt (g := gb101) (o := .cells #[.int .u64 a0_0, .int .i64 a0_1] 27 (0, 0)) (by (with_reducible repeat (first | refine blk_drewN ?_ _ | refine blk_drew ?_ | refine blk_alloc ?_ _)); exact BK101.out)) : gb101 ≠ gb102)); have n6_ := Aside0.mk ((by rw [hg]; exact Nat.ne_of_gt (blk_lt (g := gb101) (o := .cells #[.int .u64 a0_0, .int .i64 a0_1] 27 (0, 0)) (by (with_reducible repeat (first | refine blk_drewN ?_ _ | refine blk_drew ?_ | refine blk_alloc ?_ _)); exact BK101.out)) : gb102 ≠ gb101)); clear BK101; clear HB; have BK101 := n0_; have HB := n1_; have BK102 := n2_; have GW102 := n3_; have GE102 := n4_; have NB101_102 := n5_; have NB102_101 := n6_; clear n0_ n1_ n2_ n3_ n4_ n5_ n6_; clear hb hbox hg; have hnb17 := NB101_102.out; have hnc17 := NB102_101.out; have hcz18_0 : w16.cell? ⟨gb101, 0, none⟩ = some (.int .u64 a0_0) := (blk_cell BK101.out 0).trans rfl; have hcz18_1 : w16.cell? ⟨gb101, 1, none⟩ = some (.int .i64 a0_1) := (blk_cell BK101.out 1).trans rfl; have hfz18_0 := blk_frozen BK101.out 0; have hfz18_1 := blk_frozen BK101.out 1; have hcz19_0 : w16.cell? ⟨gb102, 0, none⟩ = some (.int .u64 a1_0) := (blk_cell BK102.out 0).trans rfl; have hcz19_1 : w16.cell? ⟨gb102, 1, none⟩ = some (.int .i64 a1_1) := (blk_cell BK102.out 1).trans rfl; have hfz19_0 := blk_frozen BK102.out 0; have hfz19_1 := blk_frozen BK102.out 1))
      go_ret
      exact ⟨by first | rfl | (simp [errW_none, errW_some] <;> rfl) | (simp [*, errW_none, errW_some] <;> rfl), by repeat (first | (with_reducible first | exact HB.out | apply below_alloc | apply pw_below_drewN | apply below_drew1 | refine below_set ?_ GE101.out | refine below_set ?_ GE102.out) | exact HB.out)⟩

/-! ### api_Alarm: function 23 -/
set_option maxHeartbeats 8000000 in
set_option maxRecDepth 100000 in
theorem api_Alarm.calls (A0 : Option Addr) (c0 : Nat) (l0 : List (S27)) (r : List (S27)) (w : World) (hr0 : Kd.C k27 w A0 l0.length l0) (hc0 : l0.length ≤ c0) (h : api_Alarm.f l0 = some r) :
    Calls Try.prog 23 #[.slice A0 l0.length c0] w fun e w' => ∃ v0_ : Value, e = .returned (v0_) ∧ Kd.R k27 27 w' w.heap.size (fun _ => True) v0_ r ∧ Below w.heap.size w w' := by
  have HR0 := Aside0.mk hr0
  have HC0 := Aside0.mk hc0
  clear hr0 hc0
  have HB := Aside0.mk (Below.refl w.heap.size w)
  have H : ((some (([] : List (S27)) : List (S27))).bind fun y103 => (if y103.length + l0.length < 8796093022208 then (some (y103 ++ l0)) else (none))) = some r := h
  clear h
  obtain ⟨y103, hy103⟩ : ∃ y_ : List (S27), y_ = (([] : List (S27))) := ⟨_, rfl⟩
  replace H : (if y103.length + l0.length < 8796093022208 then (some (y103 ++ l0)) else (none)) = some r := by first | (rw [hy103]; with_reducible exact H) | (have H2_ := (Option.bind_some _ _).symm.trans H; rw [hy103]; with_reducible exact H2_) | (have H2_ := (Option.bind_some _ _).symm.trans H; with_reducible exact H2_) | with_reducible exact H | (rw [hy103]; exact H) | exact H
  have Ny103 := Aside0.mk hy103
  clear hy103
  by_cases c2 : y103.length + l0.length < 8796093022208
  · rw [if_pos c2] at H
    have LMc2 := Aside0.mk c2
    clear c2
    obtain ⟨y106, hy106⟩ : ∃ y_ : List (S27), y_ = (y103 ++ l0) := ⟨_, rfl⟩
    replace H : (some y106) = some r := by first | (rw [hy106]; with_reducible exact H) | (have H2_ := (Option.bind_some _ _).symm.trans H; rw [hy106]; with_reducible exact H2_) | (have H2_ := (Option.bind_some _ _).symm.trans H; with_reducible exact H2_) | with_reducible exact H | (rw [hy106]; exact H) | exact H
    have Ny106 := Aside0.mk hy106
    clear hy106
    obtain rfl := Option.some.inj H
    have qT := fun (w : World) (a : Option Addr) (l c : Nat) => Lib.run_eql_slice_nil (P := Try.prog) w 22 27 a l c 0 0 Try.underlying22
    rcases A0 with _ | ad0
    · have hl : l0 = [] := by
        rcases l0 with _ | ⟨x_, l_⟩
        · rfl
        · obtain ⟨_, h_, _⟩ := HR0.out.2.2 (by simp)
          cases h_
      have hy := Aside0.mk (show y106 = [] by rw [Ny106.out, Ny103.out, hl]; rfl)
      clear hl
      go_enter Try.func23, Try.ntmps23
      go_wp2
      go_ret
      exact ⟨_, rfl, by rw [hy.out]; exact Kd.R_nil _ _ _ _ _, HB.out⟩
    · go_enter Try.func23, Try.ntmps23
      go_wp2_with (first | ((with_reducible refine gate_dst (N := 5) rfl ?_); refine Kd.R_lit k27 _ 27 ?hg (N := 5) ?hd (xs := ([] : List (S27))) (inner := []) (ok := fun _ => True) (okp := fun _ => True) ?hr ?hp (fun _ hk => hk) trivial (Below.refl _ _) (Nat.le_refl _) (by simp) ?_; (case hd => rfl); (case hg => rfl); (case hr => first | (go_simp; done) | (go_simp; rfl)); (case hp => exact (Reps.none _ _)); intro v104 w3 ho4 hb hg_ hnew_; clear hg_ hnew_; (first | rw [← Ny103.out] at ho4 | (simp only [Int.reduceToNat] at ho4; rw [← Ny103.out] at ho4)); have n0_ := Aside0.mk (Kd.R_lower ho4 (below_size (by repeat (first | (with_reducible first | exact HB.out | apply below_alloc | apply pw_below_drewN | apply below_drew1) | exact HB.out)))); have n1_ := Aside0.mk (below_step (by repeat (first | (with_reducible first | exact HB.out | apply below_alloc | apply pw_below_drewN | apply below_drew1) | exact HB.out)) hb); clear HB; have HO105 := n0_; have HB := n1_; clear n0_ n1_; clear hb ho4) | ((with_reducible refine gate_builtin (b := .append) (xs := #[.tmp 5, .tmp 6]) rfl ?_); at_builtin; refine Kd.R_append_rows k27 (w0 := w) w.heap.size rfl (.tmp 5) (.tmp 6) 22 27 (.agg #[(.int .u64 0), (.int .i64 0)]) 16 rfl Try.underlying22 info27 rfl (by decide) (by omega) v104 y103 l0 _ _ _ (fun _ => True) (fun _ => False) rfl rfl ?aO ?aR (fun _ _ h => h) (fun _ h => h.elim) ?aF ?aB ?aS ?aL ?_; (case aR => repeat (first | exact (Kd.C_below HR0.out HB.out) | (with_reducible refine Kd.C_alloc ?_ _) | (with_reducible refine Kd.C_drewN ?_ _) | (with_reducible refine Kd.C_drew ?_))); (case aB => exact (by repeat (first | (with_reducible first | exact HB.out | apply below_alloc | apply pw_below_drewN | apply below_drew1) | exact HB.out))); (case aF => exact (fun _ _ => trivial)); (case aO => exact (by (with_reducible repeat (first | apply Kd.R_alloc | apply Kd.R_drewN | apply Kd.R_drew)); exact HO105.out)); (case aS => exact (below_size (by repeat (first | (with_reducible first | exact HB.out | apply below_alloc | apply pw_below_drewN | apply below_drew1) | exact HB.out)))); (case aL => have := LMc2.out; omega); intro v107 w5 ho hb hg hat; rw [← Ny106.out] at ho; have n0_ := Aside0.mk (hb); have n1_ := Aside0.mk (ho); clear HB; clear HO105; have HB := n0_; have HO108 := n1_; clear n0_ n1_; clear ho hb hg hat))
      go_ret
      exact ⟨_, by first | rfl | (simp [errW_none, errW_some] <;> rfl) | (simp [*, errW_none, errW_some] <;> rfl), by (with_reducible repeat (first | apply Kd.R_alloc | apply Kd.R_drewN | apply Kd.R_drew)); exact HO108.out, by repeat (first | (with_reducible first | exact HB.out | apply below_alloc | apply pw_below_drewN | apply below_drew1) | exact HB.out)⟩
  · rw [if_neg c2] at H
    exact absurd H (by simp)

end Go.Proofs.Ytgcbggcddnkldaa.PB
