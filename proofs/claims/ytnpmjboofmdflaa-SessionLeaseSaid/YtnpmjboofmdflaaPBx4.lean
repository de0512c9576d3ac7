-- Made by a program of this workplace out of the translation (wip/tools in the repo). Not trusted: Lean checks it.
import Derived.Test.YtnpmjboofmdflaaPBx0
import Derived.Test.YtnpmjboofmdflaaPBx3
namespace Go.Proofs.Ytnpmjboofmdflaa.PB
open Go.RowKit Go.Proofs.YtnpmjboofmdflaaW.PrintWords Go.Proofs.YtnpmjboofmdflaaW.PrintLast Go.Proofs.YtnpmjboofmdflaaW.PrintMore
attribute [local go_sem] max2_int min2_int max_two min_two max_three min_three max_four min_four   -- for this text's walks alone
set_option linter.unusedVariables false
set_option linter.unusedSimpArgs false

/-! ### stanchionref15_Heap (function 25): what it is -/
mutual
def stanchionref15_Heap.l0 : Nat → List (S85) → Int → Option (Bool)
  | 0, _, _ => none
  | k + 1, x0, x3 => if x3 < (x0.length : Int) then (stanchionref15_Heap.l1 k x0 x3 (wrap64 ((wrap64 (2 * x3)) + 1))) else (some true)
def stanchionref15_Heap.l1 : Nat → List (S85) → Int → Int → Option (Bool)
  | 0, _, _, _ => none
  | k + 1, x0, x3, x4 => if x4 ≤ (wrap64 ((wrap64 (2 * x3)) + 2)) then (stanchionref15_Heap.j2 k x0 x3 x4 (decide (x4 < (x0.length : Int)))) else (stanchionref15_Heap.j2 k x0 x3 x4 false)
def stanchionref15_Heap.j2 : Nat → List (S85) → Int → Int → Bool → Option (Bool)
  | 0, _, _, _, _ => none
  | k + 1, x0, x3, x4, x25 => if x25 = true then (if 0 ≤ x4 then (if x4 < (x0.length : Int) then (if 0 ≤ x3 then (if x3 < (x0.length : Int) then ((stanchionref15_Less.f ((rd_T85 x0 x4).f0) ((rd_T85 x0 x4).f1) ((rd_T85 x0 x3).f0) ((rd_T85 x0 x3).f1)).bind fun t738 => (if t738 = true then (some false) else (stanchionref15_Heap.l1 k x0 x3 (wrap64 (x4 + 1))))) else (none)) else (none)) else (none)) else (none)) else (stanchionref15_Heap.l0 k x0 (wrap64 (x3 + 1)))
end
def stanchionref15_Heap.f (k : Nat) (l0 : List (S85)) : Option (Bool) := stanchionref15_Heap.l0 k l0 0
/-! ### session_Renew (function 26): what it is -/
def session_Renew.f (k : Nat) (a0_0 : Int) (l0_1 : List (S42)) (l0_2 : List (S85)) (a0_3 : Int) (a0_4 : Int) (a1 : Int) : Option (Int × (List (S42)) × (List (S85)) × Int × Int × Int) := (session_at.f a0_0 l0_1 l0_2 a0_3 a0_4 a1).bind fun t741 => (if t741 < 0 then (some (a0_0, l0_1, l0_2, a0_3, a0_4, 7)) else ((session_renewed.f k a0_0 l0_1 l0_2 a0_3 a0_4 a1).bind fun bt742 => (some (bt742.1, bt742.2.1, bt742.2.2.1, bt742.2.2.2.1, bt742.2.2.2.2, 0))))
/-! ### alarm_sink (function 71): what it is -/
mutual
def alarm_sink.l0 : Nat → List (S85) → Int → Option ((List (S85)))
  | 0, _, _ => none
  | k + 1, x0, x2 => if (wrap64 ((wrap64 (2 * x2)) + 1)) < (x0.length : Int) then (if 0 ≤ (wrap64 ((wrap64 (2 * x2)) + 1)) then (if 0 ≤ x2 then (if x2 < (x0.length : Int) then ((alarm_Less.f ((rd_T85 x0 (wrap64 ((wrap64 (2 * x2)) + 1))).f0) ((rd_T85 x0 (wrap64 ((wrap64 (2 * x2)) + 1))).f1) ((rd_T85 x0 x2).f0) ((rd_T85 x0 x2).f1)).bind fun t753 => (if t753 = true then (alarm_sink.j1 k x0 x2 (wrap64 ((wrap64 (2 * x2)) + 1))) else (alarm_sink.j1 k x0 x2 x2))) else (none)) else (none)) else (none)) else (alarm_sink.j1 k x0 x2 x2)
def alarm_sink.j1 : Nat → List (S85) → Int → Int → Option ((List (S85)))
  | 0, _, _, _ => none
  | k + 1, x0, x2, x3 => if (wrap64 ((wrap64 ((wrap64 (2 * x2)) + 1)) + 1)) < (x0.length : Int) then (if 0 ≤ (wrap64 ((wrap64 ((wrap64 (2 * x2)) + 1)) + 1)) then (if 0 ≤ x3 then (if x3 < (x0.length : Int) then ((alarm_Less.f ((rd_T85 x0 (wrap64 ((wrap64 ((wrap64 (2 * x2)) + 1)) + 1))).f0) ((rd_T85 x0 (wrap64 ((wrap64 ((wrap64 (2 * x2)) + 1)) + 1))).f1) ((rd_T85 x0 x3).f0) ((rd_T85 x0 x3).f1)).bind fun t756 => (if t756 = true then (alarm_sink.j2 k x0 x2 (wrap64 ((wrap64 ((wrap64 (2 * x2)) + 1)) + 1))) else (alarm_sink.j2 k x0 x2 x3))) else (none)) else (none)) else (none)) else (alarm_sink.j2 k x0 x2 x3)
def alarm_sink.j2 : Nat → List (S85) → Int → Int → Option ((List (S85)))
  | 0, _, _, _ => none
  | k + 1, x0, x2, x3 => if x3 = x2 then (some x0) else (if 0 ≤ x3 then (if x3 < (x0.length : Int) then (if 0 ≤ x2 then (if x2 < (x0.length : Int) then (alarm_sink.l0 k ((x0.set (x2 : Int).toNat (⟨(rd_T85 x0 x3).f0, (rd_T85 x0 x3).f1⟩ : S85)).set (x3 : Int).toNat (⟨(rd_T85 x0 x2).f0, (rd_T85 x0 x2).f1⟩ : S85)) x3) else (none)) else (none)) else (none)) else (none))
end
def alarm_sink.f (k : Nat) (l0 : List (S85)) : Option ((List (S85))) := alarm_sink.l0 k l0 0
theorem alarm_sink.mono_l : ∀ k, (∀ y0 y1, LeO (alarm_sink.l0 k y0 y1) (alarm_sink.l0 (k + 1) y0 y1)) ∧ (∀ y0 y1 y2, LeO (alarm_sink.j1 k y0 y1 y2) (alarm_sink.j1 (k + 1) y0 y1 y2)) ∧ (∀ y0 y1 y2, LeO (alarm_sink.j2 k y0 y1 y2) (alarm_sink.j2 (k + 1) y0 y1 y2))
  | 0 => ⟨fun _ _ r h => by simp [alarm_sink.l0] at h, fun _ _ _ r h => by simp [alarm_sink.j1] at h, fun _ _ _ r h => by simp [alarm_sink.j2] at h⟩
  | k + 1 => by
    obtain ⟨ih0, ih1, ih2⟩ := alarm_sink.mono_l k
    refine ⟨?_, ?_, ?_⟩
    · intro y0 y1
      unfold alarm_sink.l0
      repeat' first
      | (with_reducible exact ih0 _ _)
      | (with_reducible exact ih1 _ _ _)
      | (with_reducible exact ih2 _ _ _)
      | (with_reducible exact LeO.refl _)
      | (with_reducible exact LeO.none _)
      | (with_reducible refine LeO.ite ?_ ?_)
      | (with_reducible refine LeO.bind ?_ (fun _ => ?_))
      | exact ih0 _ _
      | exact ih1 _ _ _
      | exact ih2 _ _ _
      | exact LeO.none _
      | refine LeO.ite ?_ ?_
      | refine LeO.bind ?_ (fun _ => ?_)
    · intro y0 y1 y2
      unfold alarm_sink.j1
      repeat' first
      | (with_reducible exact ih0 _ _)
      | (with_reducible exact ih1 _ _ _)
      | (with_reducible exact ih2 _ _ _)
      | (with_reducible exact LeO.refl _)
      | (with_reducible exact LeO.none _)
      | (with_reducible refine LeO.ite ?_ ?_)
      | (with_reducible refine LeO.bind ?_ (fun _ => ?_))
      | exact ih0 _ _
      | exact ih1 _ _ _
      | exact ih2 _ _ _
      | exact LeO.none _
      | refine LeO.ite ?_ ?_
      | refine LeO.bind ?_ (fun _ => ?_)
    · intro y0 y1 y2
      unfold alarm_sink.j2
      repeat' first
      | (with_reducible exact ih0 _ _)
      | (with_reducible exact ih1 _ _ _)
      | (with_reducible exact ih2 _ _ _)
      | (with_reducible exact LeO.refl _)
      | (with_reducible exact LeO.none _)
      | (with_reducible refine LeO.ite ?_ ?_)
      | (with_reducible refine LeO.bind ?_ (fun _ => ?_))
      | exact ih0 _ _
      | exact ih1 _ _ _
      | exact ih2 _ _ _
      | exact LeO.none _
      | refine LeO.ite ?_ ?_
      | refine LeO.bind ?_ (fun _ => ?_)
/-! ### alarm_Pop (function 66): what it is -/
def alarm_Pop.f (k : Nat) (l0 : List (S85)) : Option ((List (S85)) × Int × Int × Bool) := if (l0.length : Int) = 0 then (some (l0, 0, 0, false)) else (if 0 < (l0.length : Int) then ((api_Alarm_68.f l0).bind fun t764 => (if 0 ≤ (wrap64 ((l0.length : Int) - 1)) then (if (wrap64 ((l0.length : Int) - 1)) < (t764.length : Int) then (if 0 < (t764.length : Int) then (if (wrap64 ((l0.length : Int) - 1)) ≤ (t764.length : Int) then ((alarm_sink.f k ((t764.set (0 : Int).toNat (⟨(rd_T85 t764 (wrap64 ((l0.length : Int) - 1))).f0, (rd_T85 t764 (wrap64 ((l0.length : Int) - 1))).f1⟩ : S85)).take ((wrap64 ((l0.length : Int) - 1)) : Int).toNat)).bind fun t772 => (some (t772, (rd_T85 l0 0).f0, (rd_T85 l0 0).f1, true))) else (none)) else (none)) else (none)) else (none))) else (none))
/-! ### alarm_Due (function 54): what it is -/
def alarm_Due.l0 : Nat → List (S85) → Int → List Int → Option ((List (S85)) × List Int)
  | 0, _, _, _ => none
  | k + 1, x0, x1, x6 => if (x0.length : Int) > 0 then (if 0 < (x0.length : Int) then (if ((rd_T85 x0 0).f0) ≤ x1 then ((alarm_Pop.f k x0).bind fun bt774 => (if x6.length < 17592186044416 then (alarm_Due.l0 k bt774.1 x1 (x6 ++ [bt774.2.2.1])) else (none))) else (some (x0, x6))) else (none)) else (some (x0, x6))
def alarm_Due.f (k : Nat) (l0 : List (S85)) (a1 : Int) : Option ((List (S85)) × List Int) := alarm_Due.l0 k l0 a1 ([] : List Int)
/-! ### session_Tick (function 27): what it is -/
def session_Tick.l0 : Nat → List (S42) → List Int → Int → Int → Int → List (S42) → List (S85) → Int → Int → Option (Int × (List (S42)) × (List (S85)) × Int × Int × (List (S42)))
  | 0, _, _, _, _, _, _, _, _, _ => none
  | k + 1, x8, x28, x29, x30, x785000, x785001, x785002, x785003, x785004 => if x30 < x29 then (if 0 ≤ x30 then (if x30 < (x28.length : Int) then ((session_Find.f x785000 x785001 x785002 x785003 x785004 (rd x28 x30)).bind fun bt793 => (if bt793.2.2.2.2.2.2 = true then (if x8.length < 2513169434916 then ((session_without.f x785000 x785001 x785002 x785003 x785004 (rd x28 x30)).bind fun bt804 => (session_Tick.l0 k (x8 ++ [(⟨bt793.1, bt793.2.1, bt793.2.2.1, bt793.2.2.2.1, bt793.2.2.2.2.1, bt793.2.2.2.2.2.1⟩ : S42)]) x28 x29 (wrap64 (x30 + 1)) bt804.1 bt804.2.1 bt804.2.2.1 bt804.2.2.2.1 bt804.2.2.2.2)) else (none)) else (session_Tick.l0 k x8 x28 x29 (wrap64 (x30 + 1)) x785000 x785001 x785002 x785003 x785004))) else (none)) else (none)) else (some (x785000, x785001, x785002, x785003, x785004, x8))
def session_Tick.f (k : Nat) (a0_0 : Int) (l0_1 : List (S42)) (l0_2 : List (S85)) (a0_3 : Int) (a0_4 : Int) (a1 : Int) : Option (Int × (List (S42)) × (List (S85)) × Int × Int × (List (S42))) := (alarm_Due.f k l0_2 (mx a0_4 a1)).bind fun bt786 => (session_Tick.l0 k ([] : List (S42)) bt786.2 (bt786.2.length : Int) 0 a0_0 l0_1 bt786.1 a0_3 (mx a0_4 a1))
/-! ### stanchionlaw17_SessionLease (function 8): what it is -/
mutual
def stanchionlaw17_SessionLease.j0 : Nat → Int → Int → Bool → Bool → Int → List (S42) → List (S85) → Int → Int → Option (Bool)
  | 0, _, _, _, _, _, _, _, _, _ => none
  | k + 1, x1, x2, x7, x42, x814000, x814001, x814002, x814003, x814004 => if x42 = true then (some x7) else ((session_Renew.f k x814000 x814001 x814002 x814003 x814004 x1).bind fun bt817 => (if bt817.2.2.2.2.2 = 0 then ((session_Tick.f k bt817.1 bt817.2.1 bt817.2.2.1 bt817.2.2.2.1 bt817.2.2.2.2.1 (IntKind.u64.wrap (bt817.2.2.2.2.1 + x2))).bind fun bt828 => ((session_Find.f bt828.1 bt828.2.1 bt828.2.2.1 bt828.2.2.2.1 bt828.2.2.2.2.1 x1).bind fun bt841 => (stanchionlaw17_SessionLease.l0 k x1 x2 bt828.2.2.2.2.2 bt841.2.2.2.2.2.2 false 0))) else (some x7)))
def stanchionlaw17_SessionLease.l0 : Nat → Int → Int → List (S42) → Bool → Bool → Int → Option (Bool)
  | 0, _, _, _, _, _, _ => none
  | k + 1, x1, x2, x13, x15, x16, x17 => if x17 < (x13.length : Int) then (if x16 = true then (stanchionlaw17_SessionLease.l0 k x1 x2 x13 x15 true (wrap64 (x17 + 1))) else (if 0 ≤ x17 then (stanchionlaw17_SessionLease.l0 k x1 x2 x13 x15 (((rd_T42 x13 x17).f0) == x1) (wrap64 (x17 + 1))) else (none))) else (if (x15 == (decide (x2 < 20))) = true then (some (x16 == (decide (x2 ≥ 20)))) else (some false))
end
def stanchionlaw17_SessionLease.f (k : Nat) (a0_0 : Int) (l0_1 : List (S42)) (l0_2 : List (S85)) (a0_3 : Int) (a0_4 : Int) (a1 : Int) (a2 : Int) : Option (Bool) := (stanchionlaw17_shown.f k).bind fun t814 => ((stanchionlaw17_few.f a0_0 l0_1 l0_2 a0_3 a0_4).bind fun t815 => ((stanchionref15_Heap.f k l0_2).bind fun t816 => (if t814 = true then (if t815 = true then (if t816 = true then (if a0_4 > 4611686018427387904 then (stanchionlaw17_SessionLease.j0 k a1 a2 t814 true a0_0 l0_1 l0_2 a0_3 a0_4) else (stanchionlaw17_SessionLease.j0 k a1 a2 t814 (decide (a2 > 4611686018427387904)) a0_0 l0_1 l0_2 a0_3 a0_4)) else (stanchionlaw17_SessionLease.j0 k a1 a2 t814 true a0_0 l0_1 l0_2 a0_3 a0_4)) else (stanchionlaw17_SessionLease.j0 k a1 a2 t814 true a0_0 l0_1 l0_2 a0_3 a0_4)) else (stanchionlaw17_SessionLease.j0 k a1 a2 t814 true a0_0 l0_1 l0_2 a0_3 a0_4))))
/-! ### stanchionref17_Open (function 28): what it is -/
/-! ### stanchionref17_Renew (function 29): what it is -/
/-! ### stanchionref17_less (function 56): what it is -/
/-! ### stanchionref17_Close (function 30): what it is -/
/-! ### stanchionref15_Pop (function 67): what it is -/
/-! ### stanchionref15_Due (function 58): what it is -/
/-! ### stanchionref17_Tick (function 31): what it is -/
/-! ### session_Of: function 33 -/
/-! ### stanchionref17_Of (function 34): what it is -/
/-! ### stanchionref17_New (function 37): what it is -/
end Go.Proofs.Ytnpmjboofmdflaa.PB
