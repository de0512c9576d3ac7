-- Made by a program of this workplace out of the translation (wip/tools in the repo). Not trusted: Lean checks it.
import Derived.Test.YtnpmjboofmdflaaPBx0
import Derived.Test.YtnpmjboofmdflaaPBx3
namespace Go.Proofs.Ytnpmjboofmdflaa.PB
open Go.RowKit Go.Proofs.YtnpmjboofmdflaaW.PrintWords Go.Proofs.YtnpmjboofmdflaaW.PrintLast Go.Proofs.YtnpmjboofmdflaaW.PrintMore
attribute [local go_sem] max2_int min2_int max_two min_two max_three min_three max_four min_four   -- for this text's walks alone
set_option linter.unusedVariables false
set_option linter.unusedSimpArgs false

/-! ### stanchionref15_Heap (function 25): what it is -/
mutual
def stanchionref15_Heap.l0 : Nat → List (S85) → Int → Option (Bool)
  | 0, _, _ => none
  | k + 1, x0, x3 => if x3 < (x0.length : Int) then (stanchionref15_Heap.l1 k x0 x3 (wrap64 ((wrap64 (2 * x3)) + 1))) else (some true)
def stanchionref15_Heap.l1 : Nat → List (S85) → Int → Int → Option (Bool)
  | 0, _, _, _ => none
  | k + 1, x0, x3, x4 => if x4 ≤ (wrap64 ((wrap64 (2 * x3)) + 2)) then (stanchionref15_Heap.j2 k x0 x3 x4 (decide (x4 < (x0.length : Int)))) else (stanchionref15_Heap.j2 k x0 x3 x4 false)
def stanchionref15_Heap.j2 : Nat → List (S85) → Int → Int → Bool → Option (Bool)
  | 0, _, _, _, _ => none
  | k + 1, x0, x3, x4, x25 => if x25 = true then (if 0 ≤ x4 then (if x4 < (x0.length : Int) then (if 0 ≤ x3 then (if x3 < (x0.length : Int) then ((stanchionref15_Less.f ((rd_T85 x0 x4).f0) ((rd_T85 x0 x4).f1) ((rd_T85 x0 x3).f0) ((rd_T85 x0 x3).f1)).bind fun t738 => (if t738 = true then (some false) else (stanchionref15_Heap.l1 k x0 x3 (wrap64 (x4 + 1))))) else (none)) else (none)) else (none)) else (none)) else (stanchionref15_Heap.l0 k x0 (wrap64 (x3 + 1)))
end
def stanchionref15_Heap.f (k : Nat) (l0 : List (S85)) : Option (Bool) := stanchionref15_Heap.l0 k l0 0
theorem stanchionref15_Heap.mono_l : ∀ k, (∀ y0 y1, LeO (stanchionref15_Heap.l0 k y0 y1) (stanchionref15_Heap.l0 (k + 1) y0 y1)) ∧ (∀ y0 y1 y2, LeO (stanchionref15_Heap.l1 k y0 y1 y2) (stanchionref15_Heap.l1 (k + 1) y0 y1 y2)) ∧ (∀ y0 y1 y2 y3, LeO (stanchionref15_Heap.j2 k y0 y1 y2 y3) (stanchionref15_Heap.j2 (k + 1) y0 y1 y2 y3))
  | 0 => ⟨fun _ _ r h => by simp [stanchionref15_Heap.l0] at h, fun _ _ _ r h => by simp [stanchionref15_Heap.l1] at h, fun _ _ _ _ r h => by simp [stanchionref15_Heap.j2] at h⟩
  | k + 1 => by
    obtain ⟨ih0, ih1, ih2⟩ := stanchionref15_Heap.mono_l k
    refine ⟨?_, ?_, ?_⟩
    · intro y0 y1
      unfold stanchionref15_Heap.l0
      repeat' first
      | (with_reducible exact ih0 _ _)
      | (with_reducible exact ih1 _ _ _)
      | (with_reducible exact ih2 _ _ _ _)
      | (with_reducible exact LeO.refl _)
      | (with_reducible exact LeO.none _)
      | (with_reducible refine LeO.ite ?_ ?_)
      | (with_reducible refine LeO.bind ?_ (fun _ => ?_))
      | exact ih0 _ _
      | exact ih1 _ _ _
      | exact ih2 _ _ _ _
      | exact LeO.none _
      | refine LeO.ite ?_ ?_
      | refine LeO.bind ?_ (fun _ => ?_)
    · intro y0 y1 y2
      unfold stanchionref15_Heap.l1
      repeat' first
      | (with_reducible exact ih0 _ _)
      | (with_reducible exact ih1 _ _ _)
      | (with_reducible exact ih2 _ _ _ _)
      | (with_reducible exact LeO.refl _)
      | (with_reducible exact LeO.none _)
      | (with_reducible refine LeO.ite ?_ ?_)
      | (with_reducible refine LeO.bind ?_ (fun _ => ?_))
      | exact ih0 _ _
      | exact ih1 _ _ _
      | exact ih2 _ _ _ _
      | exact LeO.none _
      | refine LeO.ite ?_ ?_
      | refine LeO.bind ?_ (fun _ => ?_)
    · intro y0 y1 y2 y3
      unfold stanchionref15_Heap.j2
      repeat' first
      | (with_reducible exact ih0 _ _)
      | (with_reducible exact ih1 _ _ _)
      | (with_reducible exact ih2 _ _ _ _)
      | (with_reducible exact LeO.refl _)
      | (with_reducible exact LeO.none _)
      | (with_reducible refine LeO.ite ?_ ?_)
      | (with_reducible refine LeO.bind ?_ (fun _ => ?_))
      | exact ih0 _ _
      | exact ih1 _ _ _
      | exact ih2 _ _ _ _
      | exact LeO.none _
      | refine LeO.ite ?_ ?_
      | refine LeO.bind ?_ (fun _ => ?_)
theorem stanchionref15_Heap.mono : ∀ a0 k, LeO (stanchionref15_Heap.f k a0) (stanchionref15_Heap.f (k + 1) a0) := by
  intro a0 k
  obtain ⟨ih0, ih1, ih2⟩ := stanchionref15_Heap.mono_l k
  unfold stanchionref15_Heap.f
  repeat' first
      | (with_reducible exact ih0 _ _)
      | (with_reducible exact ih1 _ _ _)
      | (with_reducible exact ih2 _ _ _ _)
      | (with_reducible exact LeO.refl _)
      | (with_reducible exact LeO.none _)
      | (with_reducible refine LeO.ite ?_ ?_)
      | (with_reducible refine LeO.bind ?_ (fun _ => ?_))
      | exact ih0 _ _
      | exact ih1 _ _ _
      | exact ih2 _ _ _ _
      | exact LeO.none _
      | refine LeO.ite ?_ ?_
      | refine LeO.bind ?_ (fun _ => ?_)

/-! ### session_Renew (function 26): what it is -/
def session_Renew.f (k : Nat) (a0_0 : Int) (l0_1 : List (S42)) (l0_2 : List (S85)) (a0_3 : Int) (a0_4 : Int) (a1 : Int) : Option (Int × (List (S42)) × (List (S85)) × Int × Int × Int) := (session_at.f a0_0 l0_1 l0_2 a0_3 a0_4 a1).bind fun t741 => (if t741 < 0 then (some (a0_0, l0_1, l0_2, a0_3, a0_4, 7)) else ((session_renewed.f k a0_0 l0_1 l0_2 a0_3 a0_4 a1).bind fun bt742 => (some (bt742.1, bt742.2.1, bt742.2.2.1, bt742.2.2.2.1, bt742.2.2.2.2, 0))))
theorem session_Renew.mono : ∀ a0 a1 a2 a3 a4 a5 k, LeO (session_Renew.f k a0 a1 a2 a3 a4 a5) (session_Renew.f (k + 1) a0 a1 a2 a3 a4 a5) := by
  intro a0 a1 a2 a3 a4 a5 k
  unfold session_Renew.f
  repeat' first
      | (with_reducible exact session_renewed.mono _ _ _ _ _ _ _)
      | (with_reducible exact LeO.refl _)
      | (with_reducible exact LeO.none _)
      | (with_reducible refine LeO.ite ?_ ?_)
      | (with_reducible refine LeO.bind ?_ (fun _ => ?_))
      | exact session_renewed.mono _ _ _ _ _ _ _
      | exact LeO.none _
      | refine LeO.ite ?_ ?_
      | refine LeO.bind ?_ (fun _ => ?_)

/-! ### alarm_sink (function 71): what it is -/
mutual
def alarm_sink.l0 : Nat → List (S85) → Int → Option ((List (S85)))
  | 0, _, _ => none
  | k + 1, x0, x2 => if (wrap64 ((wrap64 (2 * x2)) + 1)) < (x0.length : Int) then (if 0 ≤ (wrap64 ((wrap64 (2 * x2)) + 1)) then (if 0 ≤ x2 then (if x2 < (x0.length : Int) then ((alarm_Less.f ((rd_T85 x0 (wrap64 ((wrap64 (2 * x2)) + 1))).f0) ((rd_T85 x0 (wrap64 ((wrap64 (2 * x2)) + 1))).f1) ((rd_T85 x0 x2).f0) ((rd_T85 x0 x2).f1)).bind fun t753 => (if t753 = true then (alarm_sink.j1 k x0 x2 (wrap64 ((wrap64 (2 * x2)) + 1))) else (alarm_sink.j1 k x0 x2 x2))) else (none)) else (none)) else (none)) else (alarm_sink.j1 k x0 x2 x2)
def alarm_sink.j1 : Nat → List (S85) → Int → Int → Option ((List (S85)))
  | 0, _, _, _ => none
  | k + 1, x0, x2, x3 => if (wrap64 ((wrap64 ((wrap64 (2 * x2)) + 1)) + 1)) < (x0.length : Int) then (if 0 ≤ (wrap64 ((wrap64 ((wrap64 (2 * x2)) + 1)) + 1)) then (if 0 ≤ x3 then (if x3 < (x0.length : Int) then ((alarm_Less.f ((rd_T85 x0 (wrap64 ((wrap64 ((wrap64 (2 * x2)) + 1)) + 1))).f0) ((rd_T85 x0 (wrap64 ((wrap64 ((wrap64 (2 * x2)) + 1)) + 1))).f1) ((rd_T85 x0 x3).f0) ((rd_T85 x0 x3).f1)).bind fun t756 => (if t756 = true then (alarm_sink.j2 k x0 x2 (wrap64 ((wrap64 ((wrap64 (2 * x2)) + 1)) + 1))) else (alarm_sink.j2 k x0 x2 x3))) else (none)) else (none)) else (none)) else (alarm_sink.j2 k x0 x2 x3)
def alarm_sink.j2 : Nat → List (S85) → Int → Int → Option ((List (S85)))
  | 0, _, _, _ => none
  | k + 1, x0, x2, x3 => if x3 = x2 then (some x0) else (if 0 ≤ x3 then (if x3 < (x0.length : Int) then (if 0 ≤ x2 then (if x2 < (x0.length : Int) then (alarm_sink.l0 k ((x0.set (x2 : Int).toNat (⟨(rd_T85 x0 x3).f0, (rd_T85 x0 x3).f1⟩ : S85)).set (x3 : Int).toNat (⟨(rd_T85 x0 x2).f0, (rd_T85 x0 x2).f1⟩ : S85)) x3) else (none)) else (none)) else (none)) else (none))
end
def alarm_sink.f (k : Nat) (l0 : List (S85)) : Option ((List (S85))) := alarm_sink.l0 k l0 0
theorem alarm_sink.mono_l : ∀ k, (∀ y0 y1, LeO (alarm_sink.l0 k y0 y1) (alarm_sink.l0 (k + 1) y0 y1)) ∧ (∀ y0 y1 y2, LeO (alarm_sink.j1 k y0 y1 y2) (alarm_sink.j1 (k + 1) y0 y1 y2)) ∧ (∀ y0 y1 y2, LeO (alarm_sink.j2 k y0 y1 y2) (alarm_sink.j2 (k + 1) y0 y1 y2))
  | 0 => ⟨fun _ _ r h => by simp [alarm_sink.l0] at h, fun _ _ _ r h => by simp [alarm_sink.j1] at h, fun _ _ _ r h => by simp [alarm_sink.j2] at h⟩
  | k + 1 => by
    obtain ⟨ih0, ih1, ih2⟩ := alarm_sink.mono_l k
    refine ⟨?_, ?_, ?_⟩
    · intro y0 y1
      unfold alarm_sink.l0
      repeat' first
      | (with_reducible exact ih0 _ _)
      | (with_reducible exact ih1 _ _ _)
      | (with_reducible exact ih2 _ _ _)
      | (with_reducible exact LeO.refl _)
      | (with_reducible exact LeO.none _)
      | (with_reducible refine LeO.ite ?_ ?_)
      | (with_reducible refine LeO.bind ?_ (fun _ => ?_))
      | exact ih0 _ _
      | exact ih1 _ _ _
      | exact ih2 _ _ _
      | exact LeO.none _
      | refine LeO.ite ?_ ?_
      | refine LeO.bind ?_ (fun _ => ?_)
    · intro y0 y1 y2
      unfold alarm_sink.j1
      repeat' first
      | (with_reducible exact ih0 _ _)
      | (with_reducible exact ih1 _ _ _)
      | (with_reducible exact ih2 _ _ _)
      | (with_reducible exact LeO.refl _)
      | (with_reducible exact LeO.none _)
      | (with_reducible refine LeO.ite ?_ ?_)
      | (with_reducible refine LeO.bind ?_ (fun _ => ?_))
      | exact ih0 _ _
      | exact ih1 _ _ _
      | exact ih2 _ _ _
      | exact LeO.none _
      | refine LeO.ite ?_ ?_
      | refine LeO.bind ?_ (fun _ => ?_)
    · intro y0 y1 y2
      unfold alarm_sink.j2
      repeat' first
      | (with_reducible exact ih0 _ _)
      | (with_reducible exact ih1 _ _ _)
      | (with_reducible exact ih2 _ _ _)
      | (with_reducible exact LeO.refl _)
      | (with_reducible exact LeO.none _)
      | (with_reducible refine LeO.ite ?_ ?_)
      | (with_reducible refine LeO.bind ?_ (fun _ => ?_))
      | exact ih0 _ _
      | exact ih1 _ _ _
      | exact ih2 _ _ _
      | exact LeO.none _
      | refine LeO.ite ?_ ?_
      | refine LeO.bind ?_ (fun _ => ?_)
theorem alarm_sink.mono : ∀ a0 k, LeO (alarm_sink.f k a0) (alarm_sink.f (k + 1) a0) := by
  intro a0 k
  obtain ⟨ih0, ih1, ih2⟩ := alarm_sink.mono_l k
  unfold alarm_sink.f
  repeat' first
      | (with_reducible exact ih0 _ _)
      | (with_reducible exact ih1 _ _ _)
      | (with_reducible exact ih2 _ _ _)
      | (with_reducible exact LeO.refl _)
      | (with_reducible exact LeO.none _)
      | (with_reducible refine LeO.ite ?_ ?_)
      | (with_reducible refine LeO.bind ?_ (fun _ => ?_))
      | exact ih0 _ _
      | exact ih1 _ _ _
      | exact ih2 _ _ _
      | exact LeO.none _
      | refine LeO.ite ?_ ?_
      | refine LeO.bind ?_ (fun _ => ?_)

/-! ### alarm_Pop (function 66): what it is -/
def alarm_Pop.f (k : Nat) (l0 : List (S85)) : Option ((List (S85)) × Int × Int × Bool) := if (l0.length : Int) = 0 then (some (l0, 0, 0, false)) else (if 0 < (l0.length : Int) then ((api_Alarm_68.f l0).bind fun t764 => (if 0 ≤ (wrap64 ((l0.length : Int) - 1)) then (if (wrap64 ((l0.length : Int) - 1)) < (t764.length : Int) then (if 0 < (t764.length : Int) then (if (wrap64 ((l0.length : Int) - 1)) ≤ (t764.length : Int) then ((alarm_sink.f k ((t764.set (0 : Int).toNat (⟨(rd_T85 t764 (wrap64 ((l0.length : Int) - 1))).f0, (rd_T85 t764 (wrap64 ((l0.length : Int) - 1))).f1⟩ : S85)).take ((wrap64 ((l0.length : Int) - 1)) : Int).toNat)).bind fun t772 => (some (t772, (rd_T85 l0 0).f0, (rd_T85 l0 0).f1, true))) else (none)) else (none)) else (none)) else (none))) else (none))
theorem alarm_Pop.mono : ∀ a0 k, LeO (alarm_Pop.f k a0) (alarm_Pop.f (k + 1) a0) := by
  intro a0 k
  unfold alarm_Pop.f
  repeat' first
      | (with_reducible exact alarm_sink.mono _ _)
      | (with_reducible exact LeO.refl _)
      | (with_reducible exact LeO.none _)
      | (with_reducible refine LeO.ite ?_ ?_)
      | (with_reducible refine LeO.bind ?_ (fun _ => ?_))
      | exact alarm_sink.mono _ _
      | exact LeO.none _
      | refine LeO.ite ?_ ?_
      | refine LeO.bind ?_ (fun _ => ?_)

/-! ### alarm_Due (function 54): what it is -/
def alarm_Due.l0 : Nat → List (S85) → Int → List Int → Option ((List (S85)) × List Int)
  | 0, _, _, _ => none
  | k + 1, x0, x1, x6 => if (x0.length : Int) > 0 then (if 0 < (x0.length : Int) then (if ((rd_T85 x0 0).f0) ≤ x1 then ((alarm_Pop.f k x0).bind fun bt774 => (if x6.length < 17592186044416 then (alarm_Due.l0 k bt774.1 x1 (x6 ++ [bt774.2.2.1])) else (none))) else (some (x0, x6))) else (none)) else (some (x0, x6))
def alarm_Due.f (k : Nat) (l0 : List (S85)) (a1 : Int) : Option ((List (S85)) × List Int) := alarm_Due.l0 k l0 a1 ([] : List Int)
theorem alarm_Due.mono_l : ∀ k, (∀ y0 y1 y2, LeO (alarm_Due.l0 k y0 y1 y2) (alarm_Due.l0 (k + 1) y0 y1 y2))
  | 0 => fun _ _ _ r h => by simp [alarm_Due.l0] at h
  | k + 1 => by
    have ih0 := alarm_Due.mono_l k
    · intro y0 y1 y2
      unfold alarm_Due.l0
      repeat' first
      | (with_reducible exact ih0 _ _ _)
      | (with_reducible exact alarm_Pop.mono _ _)
      | (with_reducible exact LeO.refl _)
      | (with_reducible exact LeO.none _)
      | (with_reducible refine LeO.ite ?_ ?_)
      | (with_reducible refine LeO.bind ?_ (fun _ => ?_))
      | exact ih0 _ _ _
      | exact alarm_Pop.mono _ _
      | exact LeO.none _
      | refine LeO.ite ?_ ?_
      | refine LeO.bind ?_ (fun _ => ?_)
theorem alarm_Due.mono : ∀ a0 a1 k, LeO (alarm_Due.f k a0 a1) (alarm_Due.f (k + 1) a0 a1) := by
  intro a0 a1 k
  have ih0 := alarm_Due.mono_l k
  unfold alarm_Due.f
  repeat' first
      | (with_reducible exact ih0 _ _ _)
      | (with_reducible exact alarm_Pop.mono _ _)
      | (with_reducible exact LeO.refl _)
      | (with_reducible exact LeO.none _)
      | (with_reducible refine LeO.ite ?_ ?_)
      | (with_reducible refine LeO.bind ?_ (fun _ => ?_))
      | exact ih0 _ _ _
      | exact alarm_Pop.mono _ _
      | exact LeO.none _
      | refine LeO.ite ?_ ?_
      | refine LeO.bind ?_ (fun _ => ?_)

/-! ### session_Tick (function 27): what it is -/
def session_Tick.l0 : Nat → List (S42) → List Int → Int → Int → Int → List (S42) → List (S85) → Int → Int → Option (Int × (List (S42)) × (List (S85)) × Int × Int × (List (S42)))
  | 0, _, _, _, _, _, _, _, _, _ => none
  | k + 1, x8, x28, x29, x30, x785000, x785001, x785002, x785003, x785004 => if x30 < x29 then (if 0 ≤ x30 then (if x30 < (x28.length : Int) then ((session_Find.f x785000 x785001 x785002 x785003 x785004 (rd x28 x30)).bind fun bt793 => (if bt793.2.2.2.2.2.2 = true then (if x8.length < 2513169434916 then ((session_without.f x785000 x785001 x785002 x785003 x785004 (rd x28 x30)).bind fun bt804 => (session_Tick.l0 k (x8 ++ [(⟨bt793.1, bt793.2.1, bt793.2.2.1, bt793.2.2.2.1, bt793.2.2.2.2.1, bt793.2.2.2.2.2.1⟩ : S42)]) x28 x29 (wrap64 (x30 + 1)) bt804.1 bt804.2.1 bt804.2.2.1 bt804.2.2.2.1 bt804.2.2.2.2)) else (none)) else (session_Tick.l0 k x8 x28 x29 (wrap64 (x30 + 1)) x785000 x785001 x785002 x785003 x785004))) else (none)) else (none)) else (some (x785000, x785001, x785002, x785003, x785004, x8))
def session_Tick.f (k : Nat) (a0_0 : Int) (l0_1 : List (S42)) (l0_2 : List (S85)) (a0_3 : Int) (a0_4 : Int) (a1 : Int) : Option (Int × (List (S42)) × (List (S85)) × Int × Int × (List (S42))) := (alarm_Due.f k l0_2 (mx a0_4 a1)).bind fun bt786 => (session_Tick.l0 k ([] : List (S42)) bt786.2 (bt786.2.length : Int) 0 a0_0 l0_1 bt786.1 a0_3 (mx a0_4 a1))
theorem session_Tick.mono_l : ∀ k, (∀ y0 y1 y2 y3 y4 y5 y6 y7 y8, LeO (session_Tick.l0 k y0 y1 y2 y3 y4 y5 y6 y7 y8) (session_Tick.l0 (k + 1) y0 y1 y2 y3 y4 y5 y6 y7 y8))
  | 0 => fun _ _ _ _ _ _ _ _ _ r h => by simp [session_Tick.l0] at h
  | k + 1 => by
    have ih0 := session_Tick.mono_l k
    · intro y0 y1 y2 y3 y4 y5 y6 y7 y8
      unfold session_Tick.l0
      repeat' first
      | (with_reducible exact ih0 _ _ _ _ _ _ _ _ _)
      | (with_reducible exact alarm_Due.mono _ _ _)
      | (with_reducible exact LeO.refl _)
      | (with_reducible exact LeO.none _)
      | (with_reducible refine LeO.ite ?_ ?_)
      | (with_reducible refine LeO.bind ?_ (fun _ => ?_))
      | exact ih0 _ _ _ _ _ _ _ _ _
      | exact alarm_Due.mono _ _ _
      | exact LeO.none _
      | refine LeO.ite ?_ ?_
      | refine LeO.bind ?_ (fun _ => ?_)
theorem session_Tick.mono : ∀ a0 a1 a2 a3 a4 a5 k, LeO (session_Tick.f k a0 a1 a2 a3 a4 a5) (session_Tick.f (k + 1) a0 a1 a2 a3 a4 a5) := by
  intro a0 a1 a2 a3 a4 a5 k
  have ih0 := session_Tick.mono_l k
  unfold session_Tick.f
  repeat' first
      | (with_reducible exact ih0 _ _ _ _ _ _ _ _ _)
      | (with_reducible exact alarm_Due.mono _ _ _)
      | (with_reducible exact LeO.refl _)
      | (with_reducible exact LeO.none _)
      | (with_reducible refine LeO.ite ?_ ?_)
      | (with_reducible refine LeO.bind ?_ (fun _ => ?_))
      | exact ih0 _ _ _ _ _ _ _ _ _
      | exact alarm_Due.mono _ _ _
      | exact LeO.none _
      | refine LeO.ite ?_ ?_
      | refine LeO.bind ?_ (fun _ => ?_)

/-! ### stanchionlaw17_SessionLease (function 8): what it is -/
mutual
def stanchionlaw17_SessionLease.j0 : Nat → Int → Int → Bool → Bool → Int → List (S42) → List (S85) → Int → Int → Option (Bool)
  | 0, _, _, _, _, _, _, _, _, _ => none
  | k + 1, x1, x2, x7, x42, x814000, x814001, x814002, x814003, x814004 => if x42 = true then (some x7) else ((session_Renew.f k x814000 x814001 x814002 x814003 x814004 x1).bind fun bt817 => (if bt817.2.2.2.2.2 = 0 then ((session_Tick.f k bt817.1 bt817.2.1 bt817.2.2.1 bt817.2.2.2.1 bt817.2.2.2.2.1 (IntKind.u64.wrap (bt817.2.2.2.2.1 + x2))).bind fun bt828 => ((session_Find.f bt828.1 bt828.2.1 bt828.2.2.1 bt828.2.2.2.1 bt828.2.2.2.2.1 x1).bind fun bt841 => (stanchionlaw17_SessionLease.l0 k x1 x2 bt828.2.2.2.2.2 bt841.2.2.2.2.2.2 false 0))) else (some x7)))
def stanchionlaw17_SessionLease.l0 : Nat → Int → Int → List (S42) → Bool → Bool → Int → Option (Bool)
  | 0, _, _, _, _, _, _ => none
  | k + 1, x1, x2, x13, x15, x16, x17 => if x17 < (x13.length : Int) then (if x16 = true then (stanchionlaw17_SessionLease.l0 k x1 x2 x13 x15 true (wrap64 (x17 + 1))) else (if 0 ≤ x17 then (stanchionlaw17_SessionLease.l0 k x1 x2 x13 x15 (((rd_T42 x13 x17).f0) == x1) (wrap64 (x17 + 1))) else (none))) else (if (x15 == (decide (x2 < 20))) = true then (some (x16 == (decide (x2 ≥ 20)))) else (some false))
end
def stanchionlaw17_SessionLease.f (k : Nat) (a0_0 : Int) (l0_1 : List (S42)) (l0_2 : List (S85)) (a0_3 : Int) (a0_4 : Int) (a1 : Int) (a2 : Int) : Option (Bool) := (stanchionlaw17_shown.f k).bind fun t814 => ((stanchionlaw17_few.f a0_0 l0_1 l0_2 a0_3 a0_4).bind fun t815 => ((stanchionref15_Heap.f k l0_2).bind fun t816 => (if t814 = true then (if t815 = true then (if t816 = true then (if a0_4 > 4611686018427387904 then (stanchionlaw17_SessionLease.j0 k a1 a2 t814 true a0_0 l0_1 l0_2 a0_3 a0_4) else (stanchionlaw17_SessionLease.j0 k a1 a2 t814 (decide (a2 > 4611686018427387904)) a0_0 l0_1 l0_2 a0_3 a0_4)) else (stanchionlaw17_SessionLease.j0 k a1 a2 t814 true a0_0 l0_1 l0_2 a0_3 a0_4)) else (stanchionlaw17_SessionLease.j0 k a1 a2 t814 true a0_0 l0_1 l0_2 a0_3 a0_4)) else (stanchionlaw17_SessionLease.j0 k a1 a2 t814 true a0_0 l0_1 l0_2 a0_3 a0_4))))
theorem stanchionlaw17_SessionLease.mono_l : ∀ k, (∀ y0 y1 y2 y3 y4 y5 y6 y7 y8, LeO (stanchionlaw17_SessionLease.j0 k y0 y1 y2 y3 y4 y5 y6 y7 y8) (stanchionlaw17_SessionLease.j0 (k + 1) y0 y1 y2 y3 y4 y5 y6 y7 y8)) ∧ (∀ y0 y1 y2 y3 y4 y5, LeO (stanchionlaw17_SessionLease.l0 k y0 y1 y2 y3 y4 y5) (stanchionlaw17_SessionLease.l0 (k + 1) y0 y1 y2 y3 y4 y5))
  | 0 => ⟨fun _ _ _ _ _ _ _ _ _ r h => by simp [stanchionlaw17_SessionLease.j0] at h, fun _ _ _ _ _ _ r h => by simp [stanchionlaw17_SessionLease.l0] at h⟩
  | k + 1 => by
    obtain ⟨ih0, ih1⟩ := stanchionlaw17_SessionLease.mono_l k
    refine ⟨?_, ?_⟩
    · intro y0 y1 y2 y3 y4 y5 y6 y7 y8
      unfold stanchionlaw17_SessionLease.j0
      repeat' first
      | (with_reducible exact ih0 _ _ _ _ _ _ _ _ _)
      | (with_reducible exact ih1 _ _ _ _ _ _)
      | (with_reducible exact session_Renew.mono _ _ _ _ _ _ _)
      | (with_reducible exact session_Tick.mono _ _ _ _ _ _ _)
      | (with_reducible exact stanchionlaw17_shown.mono _)
      | (with_reducible exact stanchionref15_Heap.mono _ _)
      | (with_reducible exact LeO.refl _)
      | (with_reducible exact LeO.none _)
      | (with_reducible refine LeO.ite ?_ ?_)
      | (with_reducible refine LeO.bind ?_ (fun _ => ?_))
      | exact ih0 _ _ _ _ _ _ _ _ _
      | exact ih1 _ _ _ _ _ _
      | exact session_Renew.mono _ _ _ _ _ _ _
      | exact session_Tick.mono _ _ _ _ _ _ _
      | exact stanchionlaw17_shown.mono _
      | exact stanchionref15_Heap.mono _ _
      | exact LeO.none _
      | refine LeO.ite ?_ ?_
      | refine LeO.bind ?_ (fun _ => ?_)
    · intro y0 y1 y2 y3 y4 y5
      unfold stanchionlaw17_SessionLease.l0
      repeat' first
      | (with_reducible exact ih0 _ _ _ _ _ _ _ _ _)
      | (with_reducible exact ih1 _ _ _ _ _ _)
      | (with_reducible exact session_Renew.mono _ _ _ _ _ _ _)
      | (with_reducible exact session_Tick.mono _ _ _ _ _ _ _)
      | (with_reducible exact stanchionlaw17_shown.mono _)
      | (with_reducible exact stanchionref15_Heap.mono _ _)
      | (with_reducible exact LeO.refl _)
      | (with_reducible exact LeO.none _)
      | (with_reducible refine LeO.ite ?_ ?_)
      | (with_reducible refine LeO.bind ?_ (fun _ => ?_))
      | exact ih0 _ _ _ _ _ _ _ _ _
      | exact ih1 _ _ _ _ _ _
      | exact session_Renew.mono _ _ _ _ _ _ _
      | exact session_Tick.mono _ _ _ _ _ _ _
      | exact stanchionlaw17_shown.mono _
      | exact stanchionref15_Heap.mono _ _
      | exact LeO.none _
      | refine LeO.ite ?_ ?_
      | refine LeO.bind ?_ (fun _ => ?_)
theorem stanchionlaw17_SessionLease.mono : ∀ a0 a1 a2 a3 a4 a5 a6 k, LeO (stanchionlaw17_SessionLease.f k a0 a1 a2 a3 a4 a5 a6) (stanchionlaw17_SessionLease.f (k + 1) a0 a1 a2 a3 a4 a5 a6) := by
  intro a0 a1 a2 a3 a4 a5 a6 k
  obtain ⟨ih0, ih1⟩ := stanchionlaw17_SessionLease.mono_l k
  unfold stanchionlaw17_SessionLease.f
  repeat' first
      | (with_reducible exact ih0 _ _ _ _ _ _ _ _ _)
      | (with_reducible exact ih1 _ _ _ _ _ _)
      | (with_reducible exact session_Renew.mono _ _ _ _ _ _ _)
      | (with_reducible exact session_Tick.mono _ _ _ _ _ _ _)
      | (with_reducible exact stanchionlaw17_shown.mono _)
      | (with_reducible exact stanchionref15_Heap.mono _ _)
      | (with_reducible exact LeO.refl _)
      | (with_reducible exact LeO.none _)
      | (with_reducible refine LeO.ite ?_ ?_)
      | (with_reducible refine LeO.bind ?_ (fun _ => ?_))
      | exact ih0 _ _ _ _ _ _ _ _ _
      | exact ih1 _ _ _ _ _ _
      | exact session_Renew.mono _ _ _ _ _ _ _
      | exact session_Tick.mono _ _ _ _ _ _ _
      | exact stanchionlaw17_shown.mono _
      | exact stanchionref15_Heap.mono _ _
      | exact LeO.none _
      | refine LeO.ite ?_ ?_
      | refine LeO.bind ?_ (fun _ => ?_)

/-! ### stanchionref17_Open (function 28): what it is -/
def stanchionref17_Open.f (k : Nat) (a0_0 : Int) (l0_1 : List (S42)) (l0_2 : List (S85)) (a0_3 : Int) (a0_4 : Int) (a1 : Int) : Option (Int × (List (S42)) × (List (S85)) × Int × Int × Int × Int) := if (l0_1.length : Int) ≥ 6 then (some (a0_0, l0_1, l0_2, a0_3, a0_4, 0, 11)) else (if a0_3 > 1073741824 then (some (a0_0, l0_1, l0_2, a0_3, a0_4, 0, 4)) else ((some (([] : List (S42)) : List (S42))).bind fun y852 => (if y852.length + l0_1.length < 2513169434916 then ((some (y852 ++ l0_1 : List (S42))).bind fun y855 => (if y855.length < 2513169434916 then ((stanchionref17_renewed.f k a0_0 (y855 ++ [(⟨a0_3, 0, false, (⟨#[]⟩ : ByteArray), 0, a1⟩ : S42)]) l0_2 (wrap64 (a0_3 + 1)) a0_4 a0_3).bind fun bt861 => (some (bt861.1, bt861.2.1, bt861.2.2.1, bt861.2.2.2.1, bt861.2.2.2.2, a0_3, 0))) else (none))) else (none))))
theorem stanchionref17_Open.mono : ∀ a0 a1 a2 a3 a4 a5 k, LeO (stanchionref17_Open.f k a0 a1 a2 a3 a4 a5) (stanchionref17_Open.f (k + 1) a0 a1 a2 a3 a4 a5) := by
  intro a0 a1 a2 a3 a4 a5 k
  unfold stanchionref17_Open.f
  repeat' first
      | (with_reducible exact stanchionref17_renewed.mono _ _ _ _ _ _ _)
      | (with_reducible exact LeO.refl _)
      | (with_reducible exact LeO.none _)
      | (with_reducible refine LeO.ite ?_ ?_)
      | (with_reducible refine LeO.bind ?_ (fun _ => ?_))
      | exact stanchionref17_renewed.mono _ _ _ _ _ _ _
      | exact LeO.none _
      | refine LeO.ite ?_ ?_
      | refine LeO.bind ?_ (fun _ => ?_)

/-! ### stanchionref17_Renew (function 29): what it is -/
def stanchionref17_Renew.f (k : Nat) (a0_0 : Int) (l0_1 : List (S42)) (l0_2 : List (S85)) (a0_3 : Int) (a0_4 : Int) (a1 : Int) : Option (Int × (List (S42)) × (List (S85)) × Int × Int × Int) := (stanchionref17_at.f k a0_0 l0_1 l0_2 a0_3 a0_4 a1).bind fun t872 => (if t872 < 0 then (some (a0_0, l0_1, l0_2, a0_3, a0_4, 7)) else ((stanchionref17_renewed.f k a0_0 l0_1 l0_2 a0_3 a0_4 a1).bind fun bt873 => (some (bt873.1, bt873.2.1, bt873.2.2.1, bt873.2.2.2.1, bt873.2.2.2.2, 0))))
theorem stanchionref17_Renew.mono : ∀ a0 a1 a2 a3 a4 a5 k, LeO (stanchionref17_Renew.f k a0 a1 a2 a3 a4 a5) (stanchionref17_Renew.f (k + 1) a0 a1 a2 a3 a4 a5) := by
  intro a0 a1 a2 a3 a4 a5 k
  unfold stanchionref17_Renew.f
  repeat' first
      | (with_reducible exact stanchionref17_at.mono _ _ _ _ _ _ _)
      | (with_reducible exact stanchionref17_renewed.mono _ _ _ _ _ _ _)
      | (with_reducible exact LeO.refl _)
      | (with_reducible exact LeO.none _)
      | (with_reducible refine LeO.ite ?_ ?_)
      | (with_reducible refine LeO.bind ?_ (fun _ => ?_))
      | exact stanchionref17_at.mono _ _ _ _ _ _ _
      | exact stanchionref17_renewed.mono _ _ _ _ _ _ _
      | exact LeO.none _
      | refine LeO.ite ?_ ?_
      | refine LeO.bind ?_ (fun _ => ?_)

/-! ### stanchionref17_less (function 56): what it is -/
def stanchionref17_less.l0 : Nat → Int → List (S42) → Int → Int → List (S42) → List (S85) → Int → Int → Option (Int × (List (S42)) × (List (S85)) × Int × Int)
  | 0, _, _, _, _, _, _, _, _ => none
  | k + 1, x1, x5, x6, x883000, x883001, x883002, x883003, x883004 => if x6 < (x883001.length : Int) then (if 0 ≤ x6 then (if ((rd_T42 x883001 x6).f0) = x1 then (stanchionref17_less.l0 k x1 x5 (wrap64 (x6 + 1)) x883000 x883001 x883002 x883003 x883004) else (if x5.length < 2513169434916 then (stanchionref17_less.l0 k x1 (x5 ++ [(⟨(rd_T42 x883001 x6).f0, (rd_T42 x883001 x6).f1, (rd_T42 x883001 x6).f2, (rd_T42 x883001 x6).f3, (rd_T42 x883001 x6).f4, (rd_T42 x883001 x6).f5⟩ : S42)]) (wrap64 (x6 + 1)) x883000 x883001 x883002 x883003 x883004) else (none))) else (none)) else (some (x883000, x5, x883002, x883003, x883004))
def stanchionref17_less.f (k : Nat) (a0_0 : Int) (l0_1 : List (S42)) (l0_2 : List (S85)) (a0_3 : Int) (a0_4 : Int) (a1 : Int) : Option (Int × (List (S42)) × (List (S85)) × Int × Int) := stanchionref17_less.l0 k a1 ([] : List (S42)) 0 a0_0 l0_1 l0_2 a0_3 a0_4
theorem stanchionref17_less.mono_l : ∀ k, (∀ y0 y1 y2 y3 y4 y5 y6 y7, LeO (stanchionref17_less.l0 k y0 y1 y2 y3 y4 y5 y6 y7) (stanchionref17_less.l0 (k + 1) y0 y1 y2 y3 y4 y5 y6 y7))
  | 0 => fun _ _ _ _ _ _ _ _ r h => by simp [stanchionref17_less.l0] at h
  | k + 1 => by
    have ih0 := stanchionref17_less.mono_l k
    · intro y0 y1 y2 y3 y4 y5 y6 y7
      unfold stanchionref17_less.l0
      repeat' first
      | (with_reducible exact ih0 _ _ _ _ _ _ _ _)
      | (with_reducible exact LeO.refl _)
      | (with_reducible exact LeO.none _)
      | (with_reducible refine LeO.ite ?_ ?_)
      | (with_reducible refine LeO.bind ?_ (fun _ => ?_))
      | exact ih0 _ _ _ _ _ _ _ _
      | exact LeO.none _
      | refine LeO.ite ?_ ?_
      | refine LeO.bind ?_ (fun _ => ?_)
theorem stanchionref17_less.mono : ∀ a0 a1 a2 a3 a4 a5 k, LeO (stanchionref17_less.f k a0 a1 a2 a3 a4 a5) (stanchionref17_less.f (k + 1) a0 a1 a2 a3 a4 a5) := by
  intro a0 a1 a2 a3 a4 a5 k
  have ih0 := stanchionref17_less.mono_l k
  unfold stanchionref17_less.f
  repeat' first
      | (with_reducible exact ih0 _ _ _ _ _ _ _ _)
      | (with_reducible exact LeO.refl _)
      | (with_reducible exact LeO.none _)
      | (with_reducible refine LeO.ite ?_ ?_)
      | (with_reducible refine LeO.bind ?_ (fun _ => ?_))
      | exact ih0 _ _ _ _ _ _ _ _
      | exact LeO.none _
      | refine LeO.ite ?_ ?_
      | refine LeO.bind ?_ (fun _ => ?_)

/-! ### stanchionref17_Close (function 30): what it is -/
def stanchionref17_Close.f (k : Nat) (a0_0 : Int) (l0_1 : List (S42)) (l0_2 : List (S85)) (a0_3 : Int) (a0_4 : Int) (a1 : Int) : Option (Int × (List (S42)) × (List (S85)) × Int × Int × Int) := (stanchionref17_at.f k a0_0 l0_1 l0_2 a0_3 a0_4 a1).bind fun t891 => (if t891 < 0 then (some (a0_0, l0_1, l0_2, a0_3, a0_4, 7)) else ((stanchionref17_less.f k a0_0 l0_1 l0_2 a0_3 a0_4 a1).bind fun bt892 => ((stanchionref15_Drop.f k bt892.2.2.1 a1).bind fun t901 => (some (bt892.1, bt892.2.1, t901, bt892.2.2.2.1, bt892.2.2.2.2, 0)))))
theorem stanchionref17_Close.mono : ∀ a0 a1 a2 a3 a4 a5 k, LeO (stanchionref17_Close.f k a0 a1 a2 a3 a4 a5) (stanchionref17_Close.f (k + 1) a0 a1 a2 a3 a4 a5) := by
  intro a0 a1 a2 a3 a4 a5 k
  unfold stanchionref17_Close.f
  repeat' first
      | (with_reducible exact stanchionref15_Drop.mono _ _ _)
      | (with_reducible exact stanchionref17_at.mono _ _ _ _ _ _ _)
      | (with_reducible exact stanchionref17_less.mono _ _ _ _ _ _ _)
      | (with_reducible exact LeO.refl _)
      | (with_reducible exact LeO.none _)
      | (with_reducible refine LeO.ite ?_ ?_)
      | (with_reducible refine LeO.bind ?_ (fun _ => ?_))
      | exact stanchionref15_Drop.mono _ _ _
      | exact stanchionref17_at.mono _ _ _ _ _ _ _
      | exact stanchionref17_less.mono _ _ _ _ _ _ _
      | exact LeO.none _
      | refine LeO.ite ?_ ?_
      | refine LeO.bind ?_ (fun _ => ?_)

/-! ### stanchionref15_Pop (function 67): what it is -/
mutual
def stanchionref15_Pop.l0 : Nat → List (S85) → Int → Int → Int → Option ((List (S85)) × Int × Int × Bool)
  | 0, _, _, _, _ => none
  | k + 1, x6, x7, x907000, x907001 => if (wrap64 ((wrap64 (2 * x7)) + 1)) < (x6.length : Int) then (if 0 ≤ (wrap64 ((wrap64 (2 * x7)) + 1)) then (if 0 ≤ x7 then (if x7 < (x6.length : Int) then ((stanchionref15_Less.f ((rd_T85 x6 (wrap64 ((wrap64 (2 * x7)) + 1))).f0) ((rd_T85 x6 (wrap64 ((wrap64 (2 * x7)) + 1))).f1) ((rd_T85 x6 x7).f0) ((rd_T85 x6 x7).f1)).bind fun t922 => (stanchionref15_Pop.j1 k x6 x7 x7 t922 x907000 x907001)) else (none)) else (none)) else (none)) else (stanchionref15_Pop.j1 k x6 x7 x7 false x907000 x907001)
def stanchionref15_Pop.j1 : Nat → List (S85) → Int → Int → Bool → Int → Int → Option ((List (S85)) × Int × Int × Bool)
  | 0, _, _, _, _, _, _ => none
  | k + 1, x6, x7, x8, x56, x907000, x907001 => if x56 = true then (stanchionref15_Pop.j2 k x6 x7 (wrap64 ((wrap64 (2 * x7)) + 1)) x907000 x907001) else (stanchionref15_Pop.j2 k x6 x7 x8 x907000 x907001)
def stanchionref15_Pop.j2 : Nat → List (S85) → Int → Int → Int → Int → Option ((List (S85)) × Int × Int × Bool)
  | 0, _, _, _, _, _ => none
  | k + 1, x6, x7, x8, x907000, x907001 => if (wrap64 ((wrap64 (2 * x7)) + 2)) < (x6.length : Int) then (if 0 ≤ (wrap64 ((wrap64 (2 * x7)) + 2)) then (if 0 ≤ x8 then (if x8 < (x6.length : Int) then ((stanchionref15_Less.f ((rd_T85 x6 (wrap64 ((wrap64 (2 * x7)) + 2))).f0) ((rd_T85 x6 (wrap64 ((wrap64 (2 * x7)) + 2))).f1) ((rd_T85 x6 x8).f0) ((rd_T85 x6 x8).f1)).bind fun t925 => (stanchionref15_Pop.j3 k x6 x7 x8 t925 x907000 x907001)) else (none)) else (none)) else (none)) else (stanchionref15_Pop.j3 k x6 x7 x8 false x907000 x907001)
def stanchionref15_Pop.j3 : Nat → List (S85) → Int → Int → Bool → Int → Int → Option ((List (S85)) × Int × Int × Bool)
  | 0, _, _, _, _, _, _ => none
  | k + 1, x6, x7, x8, x78, x907000, x907001 => if x78 = true then (if (wrap64 ((wrap64 (2 * x7)) + 2)) = x7 then (some (x6, x907000, x907001, true)) else ((stanchionref15_swap.f x6 x7 (wrap64 ((wrap64 (2 * x7)) + 2))).bind fun t926 => (stanchionref15_Pop.l0 k t926 (wrap64 ((wrap64 (2 * x7)) + 2)) x907000 x907001))) else (if x8 = x7 then (some (x6, x907000, x907001, true)) else ((stanchionref15_swap.f x6 x7 x8).bind fun t929 => (stanchionref15_Pop.l0 k t929 x8 x907000 x907001)))
end
def stanchionref15_Pop.f (k : Nat) (l0 : List (S85)) : Option ((List (S85)) × Int × Int × Bool) := if (l0.length : Int) = 0 then (some (l0, 0, 0, false)) else (if 0 < (l0.length : Int) then ((some (([] : List (S85)) : List (S85))).bind fun y907 => (if 0 ≤ (wrap64 ((l0.length : Int) - 1)) then (if (wrap64 ((l0.length : Int) - 1)) ≤ (l0.length : Int) then ((some (l0.take ((wrap64 ((l0.length : Int) - 1)) : Int).toNat : List (S85))).bind fun y910 => (if y907.length + y910.length < 8796093022208 then ((some (y907 ++ y910 : List (S85))).bind fun y915 => (if (y915.length : Int) = 0 then (some (y915, (rd_T85 l0 0).f0, (rd_T85 l0 0).f1, true)) else (if (wrap64 ((l0.length : Int) - 1)) < (l0.length : Int) then (if 0 < (y915.length : Int) then (stanchionref15_Pop.l0 k (y915.set (0 : Int).toNat (⟨(rd_T85 l0 (wrap64 ((l0.length : Int) - 1))).f0, (rd_T85 l0 (wrap64 ((l0.length : Int) - 1))).f1⟩ : S85)) 0 ((rd_T85 l0 0).f0) ((rd_T85 l0 0).f1)) else (none)) else (none)))) else (none))) else (none)) else (none))) else (none))
theorem stanchionref15_Pop.mono_l : ∀ k, (∀ y0 y1 y2 y3, LeO (stanchionref15_Pop.l0 k y0 y1 y2 y3) (stanchionref15_Pop.l0 (k + 1) y0 y1 y2 y3)) ∧ (∀ y0 y1 y2 y3 y4 y5, LeO (stanchionref15_Pop.j1 k y0 y1 y2 y3 y4 y5) (stanchionref15_Pop.j1 (k + 1) y0 y1 y2 y3 y4 y5)) ∧ (∀ y0 y1 y2 y3 y4, LeO (stanchionref15_Pop.j2 k y0 y1 y2 y3 y4) (stanchionref15_Pop.j2 (k + 1) y0 y1 y2 y3 y4)) ∧ (∀ y0 y1 y2 y3 y4 y5, LeO (stanchionref15_Pop.j3 k y0 y1 y2 y3 y4 y5) (stanchionref15_Pop.j3 (k + 1) y0 y1 y2 y3 y4 y5))
  | 0 => ⟨fun _ _ _ _ r h => by simp [stanchionref15_Pop.l0] at h, fun _ _ _ _ _ _ r h => by simp [stanchionref15_Pop.j1] at h, fun _ _ _ _ _ r h => by simp [stanchionref15_Pop.j2] at h, fun _ _ _ _ _ _ r h => by simp [stanchionref15_Pop.j3] at h⟩
  | k + 1 => by
    obtain ⟨ih0, ih1, ih2, ih3⟩ := stanchionref15_Pop.mono_l k
    refine ⟨?_, ?_, ?_, ?_⟩
    · intro y0 y1 y2 y3
      unfold stanchionref15_Pop.l0
      repeat' first
      | (with_reducible exact ih0 _ _ _ _)
      | (with_reducible exact ih1 _ _ _ _ _ _)
      | (with_reducible exact ih2 _ _ _ _ _)
      | (with_reducible exact ih3 _ _ _ _ _ _)
      | (with_reducible exact LeO.refl _)
      | (with_reducible exact LeO.none _)
      | (with_reducible refine LeO.ite ?_ ?_)
      | (with_reducible refine LeO.bind ?_ (fun _ => ?_))
      | exact ih0 _ _ _ _
      | exact ih1 _ _ _ _ _ _
      | exact ih2 _ _ _ _ _
      | exact ih3 _ _ _ _ _ _
      | exact LeO.none _
      | refine LeO.ite ?_ ?_
      | refine LeO.bind ?_ (fun _ => ?_)
    · intro y0 y1 y2 y3 y4 y5
      unfold stanchionref15_Pop.j1
      repeat' first
      | (with_reducible exact ih0 _ _ _ _)
      | (with_reducible exact ih1 _ _ _ _ _ _)
      | (with_reducible exact ih2 _ _ _ _ _)
      | (with_reducible exact ih3 _ _ _ _ _ _)
      | (with_reducible exact LeO.refl _)
      | (with_reducible exact LeO.none _)
      | (with_reducible refine LeO.ite ?_ ?_)
      | (with_reducible refine LeO.bind ?_ (fun _ => ?_))
      | exact ih0 _ _ _ _
      | exact ih1 _ _ _ _ _ _
      | exact ih2 _ _ _ _ _
      | exact ih3 _ _ _ _ _ _
      | exact LeO.none _
      | refine LeO.ite ?_ ?_
      | refine LeO.bind ?_ (fun _ => ?_)
    · intro y0 y1 y2 y3 y4
      unfold stanchionref15_Pop.j2
      repeat' first
      | (with_reducible exact ih0 _ _ _ _)
      | (with_reducible exact ih1 _ _ _ _ _ _)
      | (with_reducible exact ih2 _ _ _ _ _)
      | (with_reducible exact ih3 _ _ _ _ _ _)
      | (with_reducible exact LeO.refl _)
      | (with_reducible exact LeO.none _)
      | (with_reducible refine LeO.ite ?_ ?_)
      | (with_reducible refine LeO.bind ?_ (fun _ => ?_))
      | exact ih0 _ _ _ _
      | exact ih1 _ _ _ _ _ _
      | exact ih2 _ _ _ _ _
      | exact ih3 _ _ _ _ _ _
      | exact LeO.none _
      | refine LeO.ite ?_ ?_
      | refine LeO.bind ?_ (fun _ => ?_)
    · intro y0 y1 y2 y3 y4 y5
      unfold stanchionref15_Pop.j3
      repeat' first
      | (with_reducible exact ih0 _ _ _ _)
      | (with_reducible exact ih1 _ _ _ _ _ _)
      | (with_reducible exact ih2 _ _ _ _ _)
      | (with_reducible exact ih3 _ _ _ _ _ _)
      | (with_reducible exact LeO.refl _)
      | (with_reducible exact LeO.none _)
      | (with_reducible refine LeO.ite ?_ ?_)
      | (with_reducible refine LeO.bind ?_ (fun _ => ?_))
      | exact ih0 _ _ _ _
      | exact ih1 _ _ _ _ _ _
      | exact ih2 _ _ _ _ _
      | exact ih3 _ _ _ _ _ _
      | exact LeO.none _
      | refine LeO.ite ?_ ?_
      | refine LeO.bind ?_ (fun _ => ?_)
theorem stanchionref15_Pop.mono : ∀ a0 k, LeO (stanchionref15_Pop.f k a0) (stanchionref15_Pop.f (k + 1) a0) := by
  intro a0 k
  obtain ⟨ih0, ih1, ih2, ih3⟩ := stanchionref15_Pop.mono_l k
  unfold stanchionref15_Pop.f
  repeat' first
      | (with_reducible exact ih0 _ _ _ _)
      | (with_reducible exact ih1 _ _ _ _ _ _)
      | (with_reducible exact ih2 _ _ _ _ _)
      | (with_reducible exact ih3 _ _ _ _ _ _)
      | (with_reducible exact LeO.refl _)
      | (with_reducible exact LeO.none _)
      | (with_reducible refine LeO.ite ?_ ?_)
      | (with_reducible refine LeO.bind ?_ (fun _ => ?_))
      | exact ih0 _ _ _ _
      | exact ih1 _ _ _ _ _ _
      | exact ih2 _ _ _ _ _
      | exact ih3 _ _ _ _ _ _
      | exact LeO.none _
      | refine LeO.ite ?_ ?_
      | refine LeO.bind ?_ (fun _ => ?_)

/-! ### stanchionref15_Due (function 58): what it is -/
def stanchionref15_Due.l0 : Nat → List (S85) → Int → List Int → Option ((List (S85)) × List Int)
  | 0, _, _, _ => none
  | k + 1, x0, x1, x6 => if (x0.length : Int) > 0 then (if 0 < (x0.length : Int) then (if ((rd_T85 x0 0).f0) ≤ x1 then ((stanchionref15_Pop.f k x0).bind fun bt933 => (if x6.length < 17592186044416 then (stanchionref15_Due.l0 k bt933.1 x1 (x6 ++ [bt933.2.2.1])) else (none))) else (some (x0, x6))) else (none)) else (some (x0, x6))
def stanchionref15_Due.f (k : Nat) (l0 : List (S85)) (a1 : Int) : Option ((List (S85)) × List Int) := stanchionref15_Due.l0 k l0 a1 ([] : List Int)
theorem stanchionref15_Due.mono_l : ∀ k, (∀ y0 y1 y2, LeO (stanchionref15_Due.l0 k y0 y1 y2) (stanchionref15_Due.l0 (k + 1) y0 y1 y2))
  | 0 => fun _ _ _ r h => by simp [stanchionref15_Due.l0] at h
  | k + 1 => by
    have ih0 := stanchionref15_Due.mono_l k
    · intro y0 y1 y2
      unfold stanchionref15_Due.l0
      repeat' first
      | (with_reducible exact ih0 _ _ _)
      | (with_reducible exact stanchionref15_Pop.mono _ _)
      | (with_reducible exact LeO.refl _)
      | (with_reducible exact LeO.none _)
      | (with_reducible refine LeO.ite ?_ ?_)
      | (with_reducible refine LeO.bind ?_ (fun _ => ?_))
      | exact ih0 _ _ _
      | exact stanchionref15_Pop.mono _ _
      | exact LeO.none _
      | refine LeO.ite ?_ ?_
      | refine LeO.bind ?_ (fun _ => ?_)
theorem stanchionref15_Due.mono : ∀ a0 a1 k, LeO (stanchionref15_Due.f k a0 a1) (stanchionref15_Due.f (k + 1) a0 a1) := by
  intro a0 a1 k
  have ih0 := stanchionref15_Due.mono_l k
  unfold stanchionref15_Due.f
  repeat' first
      | (with_reducible exact ih0 _ _ _)
      | (with_reducible exact stanchionref15_Pop.mono _ _)
      | (with_reducible exact LeO.refl _)
      | (with_reducible exact LeO.none _)
      | (with_reducible refine LeO.ite ?_ ?_)
      | (with_reducible refine LeO.bind ?_ (fun _ => ?_))
      | exact ih0 _ _ _
      | exact stanchionref15_Pop.mono _ _
      | exact LeO.none _
      | refine LeO.ite ?_ ?_
      | refine LeO.bind ?_ (fun _ => ?_)

/-! ### stanchionref17_Tick (function 31): what it is -/
mutual
def stanchionref17_Tick.j0 : Nat → Int → List (S42) → List (S85) → Int → Int → Option (Int × (List (S42)) × (List (S85)) × Int × Int × (List (S42)))
  | 0, _, _, _, _, _ => none
  | k + 1, x944000, x944001, x944002, x944003, x944004 => (stanchionref15_Due.f k x944002 x944004).bind fun bt945 => (stanchionref17_Tick.l0 k bt945.2 ([] : List (S42)) 0 x944000 x944001 bt945.1 x944003 x944004)
def stanchionref17_Tick.l0 : Nat → List Int → List (S42) → Int → Int → List (S42) → List (S85) → Int → Int → Option (Int × (List (S42)) × (List (S85)) × Int × Int × (List (S42)))
  | 0, _, _, _, _, _, _, _, _ => none
  | k + 1, x7, x8, x9, x944000, x944001, x944002, x944003, x944004 => if x9 < (x7.length : Int) then (if 0 ≤ x9 then ((stanchionref17_Find.f k x944000 x944001 x944002 x944003 x944004 (rd x7 x9)).bind fun bt952 => (if bt952.2.2.2.2.2.2 = true then (if x8.length < 2513169434916 then ((stanchionref17_less.f k x944000 x944001 x944002 x944003 x944004 (rd x7 x9)).bind fun bt964 => (stanchionref17_Tick.l0 k x7 (x8 ++ [(⟨bt952.1, bt952.2.1, bt952.2.2.1, bt952.2.2.2.1, bt952.2.2.2.2.1, bt952.2.2.2.2.2.1⟩ : S42)]) (wrap64 (x9 + 1)) bt964.1 bt964.2.1 bt964.2.2.1 bt964.2.2.2.1 bt964.2.2.2.2)) else (none)) else (stanchionref17_Tick.l0 k x7 x8 (wrap64 (x9 + 1)) x944000 x944001 x944002 x944003 x944004))) else (none)) else (some (x944000, x944001, x944002, x944003, x944004, x8))
end
def stanchionref17_Tick.f (k : Nat) (a0_0 : Int) (l0_1 : List (S42)) (l0_2 : List (S85)) (a0_3 : Int) (a0_4 : Int) (a1 : Int) : Option (Int × (List (S42)) × (List (S85)) × Int × Int × (List (S42))) := if a1 > a0_4 then (stanchionref17_Tick.j0 k a0_0 l0_1 l0_2 a0_3 a1) else (stanchionref17_Tick.j0 k a0_0 l0_1 l0_2 a0_3 a0_4)
theorem stanchionref17_Tick.mono_l : ∀ k, (∀ y0 y1 y2 y3 y4, LeO (stanchionref17_Tick.j0 k y0 y1 y2 y3 y4) (stanchionref17_Tick.j0 (k + 1) y0 y1 y2 y3 y4)) ∧ (∀ y0 y1 y2 y3 y4 y5 y6 y7, LeO (stanchionref17_Tick.l0 k y0 y1 y2 y3 y4 y5 y6 y7) (stanchionref17_Tick.l0 (k + 1) y0 y1 y2 y3 y4 y5 y6 y7))
  | 0 => ⟨fun _ _ _ _ _ r h => by simp [stanchionref17_Tick.j0] at h, fun _ _ _ _ _ _ _ _ r h => by simp [stanchionref17_Tick.l0] at h⟩
  | k + 1 => by
    obtain ⟨ih0, ih1⟩ := stanchionref17_Tick.mono_l k
    refine ⟨?_, ?_⟩
    · intro y0 y1 y2 y3 y4
      unfold stanchionref17_Tick.j0
      repeat' first
      | (with_reducible exact ih0 _ _ _ _ _)
      | (with_reducible exact ih1 _ _ _ _ _ _ _ _)
      | (with_reducible exact stanchionref15_Due.mono _ _ _)
      | (with_reducible exact stanchionref17_Find.mono _ _ _ _ _ _ _)
      | (with_reducible exact stanchionref17_less.mono _ _ _ _ _ _ _)
      | (with_reducible exact LeO.refl _)
      | (with_reducible exact LeO.none _)
      | (with_reducible refine LeO.ite ?_ ?_)
      | (with_reducible refine LeO.bind ?_ (fun _ => ?_))
      | exact ih0 _ _ _ _ _
      | exact ih1 _ _ _ _ _ _ _ _
      | exact stanchionref15_Due.mono _ _ _
      | exact stanchionref17_Find.mono _ _ _ _ _ _ _
      | exact stanchionref17_less.mono _ _ _ _ _ _ _
      | exact LeO.none _
      | refine LeO.ite ?_ ?_
      | refine LeO.bind ?_ (fun _ => ?_)
    · intro y0 y1 y2 y3 y4 y5 y6 y7
      unfold stanchionref17_Tick.l0
      repeat' first
      | (with_reducible exact ih0 _ _ _ _ _)
      | (with_reducible exact ih1 _ _ _ _ _ _ _ _)
      | (with_reducible exact stanchionref15_Due.mono _ _ _)
      | (with_reducible exact stanchionref17_Find.mono _ _ _ _ _ _ _)
      | (with_reducible exact stanchionref17_less.mono _ _ _ _ _ _ _)
      | (with_reducible exact LeO.refl _)
      | (with_reducible exact LeO.none _)
      | (with_reducible refine LeO.ite ?_ ?_)
      | (with_reducible refine LeO.bind ?_ (fun _ => ?_))
      | exact ih0 _ _ _ _ _
      | exact ih1 _ _ _ _ _ _ _ _
      | exact stanchionref15_Due.mono _ _ _
      | exact stanchionref17_Find.mono _ _ _ _ _ _ _
      | exact stanchionref17_less.mono _ _ _ _ _ _ _
      | exact LeO.none _
      | refine LeO.ite ?_ ?_
      | refine LeO.bind ?_ (fun _ => ?_)
theorem stanchionref17_Tick.mono : ∀ a0 a1 a2 a3 a4 a5 k, LeO (stanchionref17_Tick.f k a0 a1 a2 a3 a4 a5) (stanchionref17_Tick.f (k + 1) a0 a1 a2 a3 a4 a5) := by
  intro a0 a1 a2 a3 a4 a5 k
  obtain ⟨ih0, ih1⟩ := stanchionref17_Tick.mono_l k
  unfold stanchionref17_Tick.f
  repeat' first
      | (with_reducible exact ih0 _ _ _ _ _)
      | (with_reducible exact ih1 _ _ _ _ _ _ _ _)
      | (with_reducible exact stanchionref15_Due.mono _ _ _)
      | (with_reducible exact stanchionref17_Find.mono _ _ _ _ _ _ _)
      | (with_reducible exact stanchionref17_less.mono _ _ _ _ _ _ _)
      | (with_reducible exact LeO.refl _)
      | (with_reducible exact LeO.none _)
      | (with_reducible refine LeO.ite ?_ ?_)
      | (with_reducible refine LeO.bind ?_ (fun _ => ?_))
      | exact ih0 _ _ _ _ _
      | exact ih1 _ _ _ _ _ _ _ _
      | exact stanchionref15_Due.mono _ _ _
      | exact stanchionref17_Find.mono _ _ _ _ _ _ _
      | exact stanchionref17_less.mono _ _ _ _ _ _ _
      | exact LeO.none _
      | refine LeO.ite ?_ ?_
      | refine LeO.bind ?_ (fun _ => ?_)

/-! ### session_Of: function 33 -/
def session_Of_ix.f (l0 : List (S42)) (a1 : Int) : Option (Int) := some (ixOf (fun x => (!(a1 == 0)) && (x.f4 == a1)) l0)
def session_Of.f (a0_0 : Int) (l0_1 : List (S42)) (l0_2 : List (S85)) (a0_3 : Int) (a0_4 : Int) (a1 : Int) : Option (Int × Int × Bool × ByteArray × Int × Int × Bool) := (session_Of_ix.f l0_1 a1).bind fun t976 => ((api_Session_42.f l0_1 t976).bind fun bt977 => (some (bt977.1, bt977.2.1, bt977.2.2.1, bt977.2.2.2.1, bt977.2.2.2.2.1, bt977.2.2.2.2.2.1, bt977.2.2.2.2.2.2)))

/-! ### stanchionref17_Of (function 34): what it is -/
mutual
def stanchionref17_Of.l0 : Nat → Int → Int → Int → List (S42) → List (S85) → Int → Int → Option (Int × Int × Bool × ByteArray × Int × Int × Bool)
  | 0, _, _, _, _, _, _, _ => none
  | k + 1, x1, x6, x985000, x985001, x985002, x985003, x985004 => if x6 < (x985001.length : Int) then (stanchionref17_Of.j1 k x1 x6 (x1 != 0) x985000 x985001 x985002 x985003 x985004) else (stanchionref17_Of.j1 k x1 x6 false x985000 x985001 x985002 x985003 x985004)
def stanchionref17_Of.j1 : Nat → Int → Int → Bool → Int → List (S42) → List (S85) → Int → Int → Option (Int × Int × Bool × ByteArray × Int × Int × Bool)
  | 0, _, _, _, _, _, _, _, _ => none
  | k + 1, x1, x6, x15, x985000, x985001, x985002, x985003, x985004 => if x15 = true then (if 0 ≤ x6 then (if x6 < (x985001.length : Int) then (if ((rd_T42 x985001 x6).f4) = x1 then (some ((rd_T42 x985001 x6).f0, (rd_T42 x985001 x6).f1, (rd_T42 x985001 x6).f2, (rd_T42 x985001 x6).f3, (rd_T42 x985001 x6).f4, (rd_T42 x985001 x6).f5, true)) else (stanchionref17_Of.l0 k x1 (wrap64 (x6 + 1)) x985000 x985001 x985002 x985003 x985004)) else (none)) else (none)) else (some (0, 0, false, (⟨#[]⟩ : ByteArray), 0, 0, false))
end
def stanchionref17_Of.f (k : Nat) (a0_0 : Int) (l0_1 : List (S42)) (l0_2 : List (S85)) (a0_3 : Int) (a0_4 : Int) (a1 : Int) : Option (Int × Int × Bool × ByteArray × Int × Int × Bool) := stanchionref17_Of.l0 k a1 0 a0_0 l0_1 l0_2 a0_3 a0_4
theorem stanchionref17_Of.mono_l : ∀ k, (∀ y0 y1 y2 y3 y4 y5 y6, LeO (stanchionref17_Of.l0 k y0 y1 y2 y3 y4 y5 y6) (stanchionref17_Of.l0 (k + 1) y0 y1 y2 y3 y4 y5 y6)) ∧ (∀ y0 y1 y2 y3 y4 y5 y6 y7, LeO (stanchionref17_Of.j1 k y0 y1 y2 y3 y4 y5 y6 y7) (stanchionref17_Of.j1 (k + 1) y0 y1 y2 y3 y4 y5 y6 y7))
  | 0 => ⟨fun _ _ _ _ _ _ _ r h => by simp [stanchionref17_Of.l0] at h, fun _ _ _ _ _ _ _ _ r h => by simp [stanchionref17_Of.j1] at h⟩
  | k + 1 => by
    obtain ⟨ih0, ih1⟩ := stanchionref17_Of.mono_l k
    refine ⟨?_, ?_⟩
    · intro y0 y1 y2 y3 y4 y5 y6
      unfold stanchionref17_Of.l0
      repeat' first
      | (with_reducible exact ih0 _ _ _ _ _ _ _)
      | (with_reducible exact ih1 _ _ _ _ _ _ _ _)
      | (with_reducible exact LeO.refl _)
      | (with_reducible exact LeO.none _)
      | (with_reducible refine LeO.ite ?_ ?_)
      | (with_reducible refine LeO.bind ?_ (fun _ => ?_))
      | exact ih0 _ _ _ _ _ _ _
      | exact ih1 _ _ _ _ _ _ _ _
      | exact LeO.none _
      | refine LeO.ite ?_ ?_
      | refine LeO.bind ?_ (fun _ => ?_)
    · intro y0 y1 y2 y3 y4 y5 y6 y7
      unfold stanchionref17_Of.j1
      repeat' first
      | (with_reducible exact ih0 _ _ _ _ _ _ _)
      | (with_reducible exact ih1 _ _ _ _ _ _ _ _)
      | (with_reducible exact LeO.refl _)
      | (with_reducible exact LeO.none _)
      | (with_reducible refine LeO.ite ?_ ?_)
      | (with_reducible refine LeO.bind ?_ (fun _ => ?_))
      | exact ih0 _ _ _ _ _ _ _
      | exact ih1 _ _ _ _ _ _ _ _
      | exact LeO.none _
      | refine LeO.ite ?_ ?_
      | refine LeO.bind ?_ (fun _ => ?_)
theorem stanchionref17_Of.mono : ∀ a0 a1 a2 a3 a4 a5 k, LeO (stanchionref17_Of.f k a0 a1 a2 a3 a4 a5) (stanchionref17_Of.f (k + 1) a0 a1 a2 a3 a4 a5) := by
  intro a0 a1 a2 a3 a4 a5 k
  obtain ⟨ih0, ih1⟩ := stanchionref17_Of.mono_l k
  unfold stanchionref17_Of.f
  repeat' first
      | (with_reducible exact ih0 _ _ _ _ _ _ _)
      | (with_reducible exact ih1 _ _ _ _ _ _ _ _)
      | (with_reducible exact LeO.refl _)
      | (with_reducible exact LeO.none _)
      | (with_reducible refine LeO.ite ?_ ?_)
      | (with_reducible refine LeO.bind ?_ (fun _ => ?_))
      | exact ih0 _ _ _ _ _ _ _
      | exact ih1 _ _ _ _ _ _ _ _
      | exact LeO.none _
      | refine LeO.ite ?_ ?_
      | refine LeO.bind ?_ (fun _ => ?_)

/-! ### stanchionref17_New (function 37): what it is -/
def stanchionref17_New.f (a0 : Int) : Option (Int × (List (S42)) × (List (S85)) × Int × Int) := some (a0, ([] : List (S42)), ([] : List (S85)), 1, 0)

end Go.Proofs.Ytnpmjboofmdflaa.PB
