-- Made by a program of this workplace out of the translation (wip/tools in the repo). Not trusted: Lean checks it.
import Derived.Test.YtnpmjboofmdflaaPBx0
namespace Go.Proofs.Ytnpmjboofmdflaa.PB
open Go.RowKit Go.Proofs.YtnpmjboofmdflaaW.PrintWords Go.Proofs.YtnpmjboofmdflaaW.PrintLast Go.Proofs.YtnpmjboofmdflaaW.PrintMore
attribute [local go_sem] max2_int min2_int max_two min_two max_three min_three max_four min_four   -- for this text's walks alone
set_option linter.unusedVariables false
set_option linter.unusedSimpArgs false

/-! ### api_Session_42 (function 42): what it is -/
def api_Session_42.f (l0 : List (S42)) (a1 : Int) : Option (Int × Int × Bool × ByteArray × Int × Int × Bool) := if a1 < 0 then (some (0, 0, false, (⟨#[]⟩ : ByteArray), 0, 0, false)) else (if 0 ≤ a1 then (if a1 < (l0.length : Int) then (some ((rd_T42 l0 a1).f0, (rd_T42 l0 a1).f1, (rd_T42 l0 a1).f2, (rd_T42 l0 a1).f3, (rd_T42 l0 a1).f4, (rd_T42 l0 a1).f5, true)) else (none)) else (none))

/-! ### api_Session_59: function 59 -/
def ixOf {α : Type} (p : α → Bool) (l : List α) : Int := if l.findIdx p < l.length then ((l.findIdx p : Nat) : Int) else -1
theorem ixOf_hit {α : Type} (p : α → Bool) (l : List α) (d : α) (k : Nat) (h : k < l.length) (hk : p (l.getD k d) = true) (hn : ∀ j, j < k → p (l.getD j d) = false) : ixOf p l = (k : Int) := by
  have e : l.findIdx p = k := by
    rw [List.findIdx_eq h]
    refine ⟨by rw [List.getD_eq_getElem?_getD, List.getElem?_eq_getElem h] at hk; exact hk, fun j hj => ?_⟩
    have := hn j hj
    rw [List.getD_eq_getElem?_getD, List.getElem?_eq_getElem (by omega)] at this
    exact this
  unfold ixOf
  rw [e, if_pos h]
theorem ixOf_miss {α : Type} (p : α → Bool) (l : List α) (d : α) (hn : ∀ j, j < l.length → p (l.getD j d) = false) : ixOf p l = -1 := by
  unfold ixOf
  rw [if_neg]
  intro h
  have h1 := List.findIdx_getElem (w := h) (p := p) (xs := l)
  have h2 := hn _ h
  rw [List.getD_eq_getElem?_getD, List.getElem?_eq_getElem h] at h2
  have h3 : p l[l.findIdx p] = false := h2
  rw [h3] at h1
  cases h1
/-! ### session_at: function 43 -/
def session_at_ix.f (l0 : List (S42)) (a1 : Int) : Option (Int) := some (ixOf (fun x => x.f0 == a1) l0)
def session_at.f (a0_0 : Int) (l0_1 : List (S42)) (l0_2 : List (S85)) (a0_3 : Int) (a0_4 : Int) (a1 : Int) : Option (Int) := (session_at_ix.f l0_1 a1).bind fun t106 => (some t106)

/-! ### session_Find (function 14): what it is -/
def session_Find.f (a0_0 : Int) (l0_1 : List (S42)) (l0_2 : List (S85)) (a0_3 : Int) (a0_4 : Int) (a1 : Int) : Option (Int × Int × Bool × ByteArray × Int × Int × Bool) := (session_at.f a0_0 l0_1 l0_2 a0_3 a0_4 a1).bind fun t109 => ((api_Session_42.f l0_1 t109).bind fun bt110 => (some (bt110.1, bt110.2.1, bt110.2.2.1, bt110.2.2.2.1, bt110.2.2.2.2.1, bt110.2.2.2.2.2.1, bt110.2.2.2.2.2.2)))

/-! ### session_Judge (function 11): what it is -/
mutual
def session_Judge.j0 : Nat → Bool → Int → Int → Int → Int → ByteArray → Int → ByteArray → ByteArray → ByteArray → ByteArray → Int → Int → Int → Bool → ByteArray → Int → Int → Option (ByteArray × Int)
  | 0, _, _, _, _, _, _, _, _, _, _, _, _, _, _, _, _, _, _ => none
  | k + 1, x28, x119000, x119001, x119002, x119003, x119004, x119005, x119006, x119007, x119008, x119009, x119010, x127000, x127001, x127002, x127003, x127004, x127005 => if x28 = true then (some ((⟨#[]⟩ : ByteArray), 12)) else (if x119003 = x127001 then (some (x127003, 8)) else (if x119003 = (wrap64 (x127001 + 1)) then (session_Judge.j1 k x127002 x119000 x119001 x119002 x119003 x119004 x119005 x119006 x119007 x119008 x119009 x119010 x127000 x127001 x127002 x127003 x127004 x127005) else (session_Judge.j1 k false x119000 x119001 x119002 x119003 x119004 x119005 x119006 x119007 x119008 x119009 x119010 x127000 x127001 x127002 x127003 x127004 x127005)))
def session_Judge.j1 : Nat → Bool → Int → Int → Int → Int → ByteArray → Int → ByteArray → ByteArray → ByteArray → ByteArray → Int → Int → Int → Bool → ByteArray → Int → Int → Option (ByteArray × Int)
  | 0, _, _, _, _, _, _, _, _, _, _, _, _, _, _, _, _, _, _ => none
  | k + 1, x44, x119000, x119001, x119002, x119003, x119004, x119005, x119006, x119007, x119008, x119009, x119010, x127000, x127001, x127002, x127003, x127004, x127005 => if x44 = true then (some ((⟨#[]⟩ : ByteArray), 11)) else (if x119003 < x127001 then (some ((⟨#[]⟩ : ByteArray), 15)) else (if x119003 = (wrap64 (x127001 + 1)) then (some ((⟨#[]⟩ : ByteArray), 0)) else (some ((⟨#[]⟩ : ByteArray), 15))))
end
def session_Judge.f (k : Nat) (a0_0 : Int) (l0_1 : List (S42)) (l0_2 : List (S85)) (a0_3 : Int) (a0_4 : Int) (a1_0 : Int) (a1_1 : Int) (a1_2 : Int) (a1_3 : Int) (a1_4 : ByteArray) (a1_5 : Int) (a1_6 : ByteArray) (a1_7 : ByteArray) (a1_8 : ByteArray) (a1_9 : ByteArray) (a1_10 : Int) : Option (ByteArray × Int) := (session_Find.f a0_0 l0_1 l0_2 a0_3 a0_4 a1_2).bind fun bt119 => (if a1_1 = a0_0 then (if bt119.2.2.2.2.2.2 = true then (if a1_3 < 1 then (some ((⟨#[]⟩ : ByteArray), 15)) else (if a1_3 = bt119.2.1 then (session_Judge.j0 k bt119.2.2.1 a1_0 a1_1 a1_2 a1_3 a1_4 a1_5 a1_6 a1_7 a1_8 a1_9 a1_10 bt119.1 bt119.2.1 bt119.2.2.1 bt119.2.2.2.1 bt119.2.2.2.2.1 bt119.2.2.2.2.2.1) else (session_Judge.j0 k false a1_0 a1_1 a1_2 a1_3 a1_4 a1_5 a1_6 a1_7 a1_8 a1_9 a1_10 bt119.1 bt119.2.1 bt119.2.2.1 bt119.2.2.2.1 bt119.2.2.2.2.1 bt119.2.2.2.2.2.1))) else (some ((⟨#[]⟩ : ByteArray), 7))) else (some ((⟨#[]⟩ : ByteArray), 14)))
theorem session_Judge.mono_l : ∀ k, (∀ y0 y1 y2 y3 y4 y5 y6 y7 y8 y9 y10 y11 y12 y13 y14 y15 y16 y17, LeO (session_Judge.j0 k y0 y1 y2 y3 y4 y5 y6 y7 y8 y9 y10 y11 y12 y13 y14 y15 y16 y17) (session_Judge.j0 (k + 1) y0 y1 y2 y3 y4 y5 y6 y7 y8 y9 y10 y11 y12 y13 y14 y15 y16 y17)) ∧ (∀ y0 y1 y2 y3 y4 y5 y6 y7 y8 y9 y10 y11 y12 y13 y14 y15 y16 y17, LeO (session_Judge.j1 k y0 y1 y2 y3 y4 y5 y6 y7 y8 y9 y10 y11 y12 y13 y14 y15 y16 y17) (session_Judge.j1 (k + 1) y0 y1 y2 y3 y4 y5 y6 y7 y8 y9 y10 y11 y12 y13 y14 y15 y16 y17))
  | 0 => ⟨fun _ _ _ _ _ _ _ _ _ _ _ _ _ _ _ _ _ _ r h => by simp [session_Judge.j0] at h, fun _ _ _ _ _ _ _ _ _ _ _ _ _ _ _ _ _ _ r h => by simp [session_Judge.j1] at h⟩
  | k + 1 => by
    obtain ⟨ih0, ih1⟩ := session_Judge.mono_l k
    refine ⟨?_, ?_⟩
    · intro y0 y1 y2 y3 y4 y5 y6 y7 y8 y9 y10 y11 y12 y13 y14 y15 y16 y17
      unfold session_Judge.j0
      repeat' first
      | (with_reducible exact ih0 _ _ _ _ _ _ _ _ _ _ _ _ _ _ _ _ _ _)
      | (with_reducible exact ih1 _ _ _ _ _ _ _ _ _ _ _ _ _ _ _ _ _ _)
      | (with_reducible exact LeO.refl _)
      | (with_reducible exact LeO.none _)
      | (with_reducible refine LeO.ite ?_ ?_)
      | (with_reducible refine LeO.bind ?_ (fun _ => ?_))
      | exact ih0 _ _ _ _ _ _ _ _ _ _ _ _ _ _ _ _ _ _
      | exact ih1 _ _ _ _ _ _ _ _ _ _ _ _ _ _ _ _ _ _
      | exact LeO.none _
      | refine LeO.ite ?_ ?_
      | refine LeO.bind ?_ (fun _ => ?_)
    · intro y0 y1 y2 y3 y4 y5 y6 y7 y8 y9 y10 y11 y12 y13 y14 y15 y16 y17
      unfold session_Judge.j1
      repeat' first
      | (with_reducible exact ih0 _ _ _ _ _ _ _ _ _ _ _ _ _ _ _ _ _ _)
      | (with_reducible exact ih1 _ _ _ _ _ _ _ _ _ _ _ _ _ _ _ _ _ _)
      | (with_reducible exact LeO.refl _)
      | (with_reducible exact LeO.none _)
      | (with_reducible refine LeO.ite ?_ ?_)
      | (with_reducible refine LeO.bind ?_ (fun _ => ?_))
      | exact ih0 _ _ _ _ _ _ _ _ _ _ _ _ _ _ _ _ _ _
      | exact ih1 _ _ _ _ _ _ _ _ _ _ _ _ _ _ _ _ _ _
      | exact LeO.none _
      | refine LeO.ite ?_ ?_
      | refine LeO.bind ?_ (fun _ => ?_)
theorem session_Judge.mono : ∀ a0 a1 a2 a3 a4 a5 a6 a7 a8 a9 a10 a11 a12 a13 a14 a15 k, LeO (session_Judge.f k a0 a1 a2 a3 a4 a5 a6 a7 a8 a9 a10 a11 a12 a13 a14 a15) (session_Judge.f (k + 1) a0 a1 a2 a3 a4 a5 a6 a7 a8 a9 a10 a11 a12 a13 a14 a15) := by
  intro a0 a1 a2 a3 a4 a5 a6 a7 a8 a9 a10 a11 a12 a13 a14 a15 k
  obtain ⟨ih0, ih1⟩ := session_Judge.mono_l k
  unfold session_Judge.f
  repeat' first
      | (with_reducible exact ih0 _ _ _ _ _ _ _ _ _ _ _ _ _ _ _ _ _ _)
      | (with_reducible exact ih1 _ _ _ _ _ _ _ _ _ _ _ _ _ _ _ _ _ _)
      | (with_reducible exact LeO.refl _)
      | (with_reducible exact LeO.none _)
      | (with_reducible refine LeO.ite ?_ ?_)
      | (with_reducible refine LeO.bind ?_ (fun _ => ?_))
      | exact ih0 _ _ _ _ _ _ _ _ _ _ _ _ _ _ _ _ _ _
      | exact ih1 _ _ _ _ _ _ _ _ _ _ _ _ _ _ _ _ _ _
      | exact LeO.none _
      | refine LeO.ite ?_ ?_
      | refine LeO.bind ?_ (fun _ => ?_)

/-! ### api_Session_48 (function 48): what it is -/
def api_Session_48.f (l0 : List (S42)) : Option ((List (S42))) := (some (([] : List (S42)) : List (S42))).bind fun y127 => (if y127.length + l0.length < 2513169434916 then (some (y127 ++ l0)) else (none))

/-! ### session_with_Take: function 38 -/
def session_with_Take_at.f (l0 : List S42) (a1 : Int) (a2 : Int) : Option (List S42) := if 0 ≤ a1 then (if a1 < (l0.length : Int) then some (l0.set a1.toNat ((fun x : S42 => (⟨x.f0, wrap64 (x.f1 + 1), true, (⟨#[]⟩ : ByteArray), x.f4, a2⟩ : S42)) (rd_T42 l0 a1))) else none) else none
def session_with_Take.f (a0_0 : Int) (l0_1 : List (S42)) (l0_2 : List (S85)) (a0_3 : Int) (a0_4 : Int) (a1 : Int) (a2 : Int) : Option (Int × (List (S42)) × (List (S85)) × Int × Int × Int) := (session_at.f a0_0 l0_1 l0_2 a0_3 a0_4 a1).bind fun t135 => (if t135 < 0 then (some (a0_0, l0_1, l0_2, a0_3, a0_4, 7)) else ((api_Session_48.f l0_1).bind fun t136 => (if 0 ≤ t135 then (if t135 < (t136.length : Int) then ((session_with_Take_at.f t136 t135 a2).bind fun t140 => (some (a0_0, t140, l0_2, a0_3, a0_4, 0))) else (none)) else (none))))
/-! ### session_with_Answer: function 38 -/
def session_with_Answer_at.f (l0 : List S42) (a1 : Int) (a2 : ByteArray) : Option (List S42) := if 0 ≤ a1 then (if a1 < (l0.length : Int) then some (l0.set a1.toNat ((fun x : S42 => (⟨x.f0, x.f1, false, a2, x.f4, x.f5⟩ : S42)) (rd_T42 l0 a1))) else none) else none
def session_with_Answer.f (a0_0 : Int) (l0_1 : List (S42)) (l0_2 : List (S85)) (a0_3 : Int) (a0_4 : Int) (a1 : Int) (a2 : ByteArray) : Option (Int × (List (S42)) × (List (S85)) × Int × Int × Int) := (session_at.f a0_0 l0_1 l0_2 a0_3 a0_4 a1).bind fun t143 => (if t143 < 0 then (some (a0_0, l0_1, l0_2, a0_3, a0_4, 7)) else ((api_Session_48.f l0_1).bind fun t144 => (if 0 ≤ t143 then (if t143 < (t144.length : Int) then ((session_with_Answer_at.f t144 t143 a2).bind fun t148 => (some (a0_0, t148, l0_2, a0_3, a0_4, 0))) else (none)) else (none))))
/-! ### session_with_Bind: function 38 -/
def session_with_Bind_at.f (l0 : List S42) (a1 : Int) (a2 : Int) : Option (List S42) := if 0 ≤ a1 then (if a1 < (l0.length : Int) then some (l0.set a1.toNat ((fun x : S42 => (⟨x.f0, x.f1, x.f2, x.f3, a2, x.f5⟩ : S42)) (rd_T42 l0 a1))) else none) else none
def session_with_Bind.f (a0_0 : Int) (l0_1 : List (S42)) (l0_2 : List (S85)) (a0_3 : Int) (a0_4 : Int) (a1 : Int) (a2 : Int) : Option (Int × (List (S42)) × (List (S85)) × Int × Int × Int) := (session_at.f a0_0 l0_1 l0_2 a0_3 a0_4 a1).bind fun t151 => (if t151 < 0 then (some (a0_0, l0_1, l0_2, a0_3, a0_4, 7)) else ((api_Session_48.f l0_1).bind fun t152 => (if 0 ≤ t151 then (if t151 < (t152.length : Int) then ((session_with_Bind_at.f t152 t151 a2).bind fun t156 => (some (a0_0, t156, l0_2, a0_3, a0_4, 0))) else (none)) else (none))))

/-! ### api_Alarm_68 (function 68): what it is -/
def api_Alarm_68.f (l0 : List (S85)) : Option ((List (S85))) := (some (([] : List (S85)) : List (S85))).bind fun y157 => (if y157.length + l0.length < 8796093022208 then (some (y157 ++ l0)) else (none))

/-! ### alarm_Less (function 69): what it is -/
def alarm_Less.f (a0_0 : Int) (a0_1 : Int) (a1_0 : Int) (a1_1 : Int) : Option (Bool) := if a0_0 < a1_0 then (some true) else (if a0_0 = a1_0 then (some (decide (a0_1 < a1_1))) else (some false))

/-! ### alarm_Put (function 61): what it is -/
def alarm_Put.l0 : Nat → List (S85) → Int → Option ((List (S85)))
  | 0, _, _ => none
  | k + 1, x0, x5 => if x5 > 0 then (if 0 ≤ x5 then (if x5 < (x0.length : Int) then (if 0 ≤ (wrap64 (Int.tdiv (wrap64 (x5 - 1)) 2)) then (if (wrap64 (Int.tdiv (wrap64 (x5 - 1)) 2)) < (x0.length : Int) then ((alarm_Less.f ((rd_T85 x0 x5).f0) ((rd_T85 x0 x5).f1) ((rd_T85 x0 (wrap64 (Int.tdiv (wrap64 (x5 - 1)) 2))).f0) ((rd_T85 x0 (wrap64 (Int.tdiv (wrap64 (x5 - 1)) 2))).f1)).bind fun t177 => (if t177 = true then (alarm_Put.l0 k ((x0.set (x5 : Int).toNat (⟨(rd_T85 x0 (wrap64 (Int.tdiv (wrap64 (x5 - 1)) 2))).f0, (rd_T85 x0 (wrap64 (Int.tdiv (wrap64 (x5 - 1)) 2))).f1⟩ : S85)).set ((wrap64 (Int.tdiv (wrap64 (x5 - 1)) 2)) : Int).toNat (⟨(rd_T85 x0 x5).f0, (rd_T85 x0 x5).f1⟩ : S85)) (wrap64 (Int.tdiv (wrap64 (x5 - 1)) 2))) else (some x0))) else (none)) else (none)) else (none)) else (none)) else (some x0)
def alarm_Put.f (k : Nat) (l0 : List (S85)) (a1_0 : Int) (a1_1 : Int) : Option ((List (S85))) := (api_Alarm_68.f l0).bind fun t166 => ((some (([(⟨a1_0, a1_1⟩ : S85)] : List (S85)) : List (S85))).bind fun y169 => (if t166.length + y169.length < 8796093022208 then ((some (t166 ++ y169 : List (S85))).bind fun y172 => (alarm_Put.l0 k y172 (wrap64 ((y172.length : Int) - 1)))) else (none)))
theorem alarm_Put.mono_l : ∀ k, (∀ y0 y1, LeO (alarm_Put.l0 k y0 y1) (alarm_Put.l0 (k + 1) y0 y1))
  | 0 => fun _ _ r h => by simp [alarm_Put.l0] at h
  | k + 1 => by
    have ih0 := alarm_Put.mono_l k
    · intro y0 y1
      unfold alarm_Put.l0
      repeat' first
      | (with_reducible exact ih0 _ _)
      | (with_reducible exact LeO.refl _)
      | (with_reducible exact LeO.none _)
      | (with_reducible refine LeO.ite ?_ ?_)
      | (with_reducible refine LeO.bind ?_ (fun _ => ?_))
      | exact ih0 _ _
      | exact LeO.none _
      | refine LeO.ite ?_ ?_
      | refine LeO.bind ?_ (fun _ => ?_)
theorem alarm_Put.mono : ∀ a0 a1 a2 k, LeO (alarm_Put.f k a0 a1 a2) (alarm_Put.f (k + 1) a0 a1 a2) := by
  intro a0 a1 a2 k
  have ih0 := alarm_Put.mono_l k
  unfold alarm_Put.f
  repeat' first
      | (with_reducible exact ih0 _ _)
      | (with_reducible exact LeO.refl _)
      | (with_reducible exact LeO.none _)
      | (with_reducible refine LeO.ite ?_ ?_)
      | (with_reducible refine LeO.bind ?_ (fun _ => ?_))
      | exact ih0 _ _
      | exact LeO.none _
      | refine LeO.ite ?_ ?_
      | refine LeO.bind ?_ (fun _ => ?_)

/-! ### alarm_Drop (function 52): what it is -/
def alarm_Drop.l0 : Nat → Int → List (S85) → List (S85) → Int → Int → Option ((List (S85)))
  | 0, _, _, _, _, _ => none
  | k + 1, x1, x5, x8, x9, x10 => if x10 < x9 then (if 0 ≤ x10 then (if x10 < (x8.length : Int) then (if ((rd_T85 x8 x10).f1) = x1 then (alarm_Drop.l0 k x1 x5 x8 x9 (wrap64 (x10 + 1))) else ((alarm_Put.f k x5 ((rd_T85 x8 x10).f0) ((rd_T85 x8 x10).f1)).bind fun t184 => (alarm_Drop.l0 k x1 t184 x8 x9 (wrap64 (x10 + 1))))) else (none)) else (none)) else (some x5)
def alarm_Drop.f (k : Nat) (l0 : List (S85)) (a1 : Int) : Option ((List (S85))) := alarm_Drop.l0 k a1 ([] : List (S85)) l0 (l0.length : Int) 0
theorem alarm_Drop.mono_l : ∀ k, (∀ y0 y1 y2 y3 y4, LeO (alarm_Drop.l0 k y0 y1 y2 y3 y4) (alarm_Drop.l0 (k + 1) y0 y1 y2 y3 y4))
  | 0 => fun _ _ _ _ _ r h => by simp [alarm_Drop.l0] at h
  | k + 1 => by
    have ih0 := alarm_Drop.mono_l k
    · intro y0 y1 y2 y3 y4
      unfold alarm_Drop.l0
      repeat' first
      | (with_reducible exact ih0 _ _ _ _ _)
      | (with_reducible exact alarm_Put.mono _ _ _ _)
      | (with_reducible exact LeO.refl _)
      | (with_reducible exact LeO.none _)
      | (with_reducible refine LeO.ite ?_ ?_)
      | (with_reducible refine LeO.bind ?_ (fun _ => ?_))
      | exact ih0 _ _ _ _ _
      | exact alarm_Put.mono _ _ _ _
      | exact LeO.none _
      | refine LeO.ite ?_ ?_
      | refine LeO.bind ?_ (fun _ => ?_)
theorem alarm_Drop.mono : ∀ a0 a1 k, LeO (alarm_Drop.f k a0 a1) (alarm_Drop.f (k + 1) a0 a1) := by
  intro a0 a1 k
  have ih0 := alarm_Drop.mono_l k
  unfold alarm_Drop.f
  repeat' first
      | (with_reducible exact ih0 _ _ _ _ _)
      | (with_reducible exact alarm_Put.mono _ _ _ _)
      | (with_reducible exact LeO.refl _)
      | (with_reducible exact LeO.none _)
      | (with_reducible refine LeO.ite ?_ ?_)
      | (with_reducible refine LeO.bind ?_ (fun _ => ?_))
      | exact ih0 _ _ _ _ _
      | exact alarm_Put.mono _ _ _ _
      | exact LeO.none _
      | refine LeO.ite ?_ ?_
      | refine LeO.bind ?_ (fun _ => ?_)

/-! ### session_renewed (function 40): what it is -/
def session_renewed.f (k : Nat) (a0_0 : Int) (l0_1 : List (S42)) (l0_2 : List (S85)) (a0_3 : Int) (a0_4 : Int) (a1 : Int) : Option (Int × (List (S42)) × (List (S85)) × Int × Int) := (alarm_Drop.f k l0_2 a1).bind fun t189 => ((alarm_Put.f k t189 (IntKind.u64.wrap (a0_4 + (mn 20 (Go.bits .xor .u64 18446744073709551615 a0_4)))) a1).bind fun t192 => (some (a0_0, l0_1, t192, a0_3, a0_4)))
theorem session_renewed.mono : ∀ a0 a1 a2 a3 a4 a5 k, LeO (session_renewed.f k a0 a1 a2 a3 a4 a5) (session_renewed.f (k + 1) a0 a1 a2 a3 a4 a5) := by
  intro a0 a1 a2 a3 a4 a5 k
  unfold session_renewed.f
  repeat' first
      | (with_reducible exact alarm_Drop.mono _ _ _)
      | (with_reducible exact alarm_Put.mono _ _ _ _)
      | (with_reducible exact LeO.refl _)
      | (with_reducible exact LeO.none _)
      | (with_reducible refine LeO.ite ?_ ?_)
      | (with_reducible refine LeO.bind ?_ (fun _ => ?_))
      | exact alarm_Drop.mono _ _ _
      | exact alarm_Put.mono _ _ _ _
      | exact LeO.none _
      | refine LeO.ite ?_ ?_
      | refine LeO.bind ?_ (fun _ => ?_)

/-! ### session_Take (function 12): what it is -/
def session_Take.j0 : Nat → Int → Bool → Int → List (S42) → List (S85) → Int → Int → Int → Option (Int × (List (S42)) × (List (S85)) × Int × Int × Int)
  | 0, _, _, _, _, _, _, _, _ => none
  | k + 1, x1, x22, x196000, x196001, x196002, x196003, x196004, x197000 => if x22 = true then (some (x196000, x196001, x196002, x196003, x196004, 4)) else ((session_with_Take.f x196000 x196001 x196002 x196003 x196004 x1 x197000).bind fun bt206 => (if bt206.2.2.2.2.2 = 0 then ((session_renewed.f k bt206.1 bt206.2.1 bt206.2.2.1 bt206.2.2.2.1 bt206.2.2.2.2.1 x1).bind fun bt216 => (some (bt216.1, bt216.2.1, bt216.2.2.1, bt216.2.2.2.1, bt216.2.2.2.2, 0))) else (some (bt206.1, bt206.2.1, bt206.2.2.1, bt206.2.2.2.1, bt206.2.2.2.2.1, bt206.2.2.2.2.2))))
def session_Take.f (k : Nat) (a0_0 : Int) (l0_1 : List (S42)) (l0_2 : List (S85)) (a0_3 : Int) (a0_4 : Int) (a1 : Int) (a2 : Int) : Option (Int × (List (S42)) × (List (S85)) × Int × Int × Int) := (session_Find.f a0_0 l0_1 l0_2 a0_3 a0_4 a1).bind fun bt198 => (if bt198.2.2.2.2.2.2 = true then (session_Take.j0 k a1 (decide (bt198.2.1 ≥ 1073741824)) a0_0 l0_1 l0_2 a0_3 a0_4 a2) else (session_Take.j0 k a1 false a0_0 l0_1 l0_2 a0_3 a0_4 a2))
theorem session_Take.mono_l : ∀ k, (∀ y0 y1 y2 y3 y4 y5 y6 y7, LeO (session_Take.j0 k y0 y1 y2 y3 y4 y5 y6 y7) (session_Take.j0 (k + 1) y0 y1 y2 y3 y4 y5 y6 y7))
  | 0 => fun _ _ _ _ _ _ _ _ r h => by simp [session_Take.j0] at h
  | k + 1 => by
    have ih0 := session_Take.mono_l k
    · intro y0 y1 y2 y3 y4 y5 y6 y7
      unfold session_Take.j0
      repeat' first
      | (with_reducible exact ih0 _ _ _ _ _ _ _ _)
      | (with_reducible exact session_renewed.mono _ _ _ _ _ _ _)
      | (with_reducible exact LeO.refl _)
      | (with_reducible exact LeO.none _)
      | (with_reducible refine LeO.ite ?_ ?_)
      | (with_reducible refine LeO.bind ?_ (fun _ => ?_))
      | exact ih0 _ _ _ _ _ _ _ _
      | exact session_renewed.mono _ _ _ _ _ _ _
      | exact LeO.none _
      | refine LeO.ite ?_ ?_
      | refine LeO.bind ?_ (fun _ => ?_)
theorem session_Take.mono : ∀ a0 a1 a2 a3 a4 a5 a6 k, LeO (session_Take.f k a0 a1 a2 a3 a4 a5 a6) (session_Take.f (k + 1) a0 a1 a2 a3 a4 a5 a6) := by
  intro a0 a1 a2 a3 a4 a5 a6 k
  have ih0 := session_Take.mono_l k
  unfold session_Take.f
  repeat' first
      | (with_reducible exact ih0 _ _ _ _ _ _ _ _)
      | (with_reducible exact session_renewed.mono _ _ _ _ _ _ _)
      | (with_reducible exact LeO.refl _)
      | (with_reducible exact LeO.none _)
      | (with_reducible refine LeO.ite ?_ ?_)
      | (with_reducible refine LeO.bind ?_ (fun _ => ?_))
      | exact ih0 _ _ _ _ _ _ _ _
      | exact session_renewed.mono _ _ _ _ _ _ _
      | exact LeO.none _
      | refine LeO.ite ?_ ?_
      | refine LeO.bind ?_ (fun _ => ?_)

/-! ### session_Answer (function 13): what it is -/
def session_Answer.f (a0_0 : Int) (l0_1 : List (S42)) (l0_2 : List (S85)) (a0_3 : Int) (a0_4 : Int) (a1 : Int) (a2 : ByteArray) : Option (Int × (List (S42)) × (List (S85)) × Int × Int × Int) := (session_with_Answer.f a0_0 l0_1 l0_2 a0_3 a0_4 a1 a2).bind fun bt228 => (some (bt228.1, bt228.2.1, bt228.2.2.1, bt228.2.2.2.1, bt228.2.2.2.2.1, bt228.2.2.2.2.2))

/-! ### session_Open (function 22): what it is -/
def session_Open.f (k : Nat) (a0_0 : Int) (l0_1 : List (S42)) (l0_2 : List (S85)) (a0_3 : Int) (a0_4 : Int) (a1 : Int) : Option (Int × (List (S42)) × (List (S85)) × Int × Int × Int × Int) := if (l0_1.length : Int) ≥ 6 then (some (a0_0, l0_1, l0_2, a0_3, a0_4, 0, 11)) else (if a0_3 > 1073741824 then (some (a0_0, l0_1, l0_2, a0_3, a0_4, 0, 4)) else ((api_Session_48.f l0_1).bind fun t240 => (if t240.length < 2513169434916 then ((session_renewed.f k a0_0 (t240 ++ [(⟨a0_3, 0, false, (⟨#[]⟩ : ByteArray), 0, a1⟩ : S42)]) l0_2 (wrap64 (a0_3 + 1)) a0_4 a0_3).bind fun bt246 => (some (bt246.1, bt246.2.1, bt246.2.2.1, bt246.2.2.2.1, bt246.2.2.2.2, a0_3, 0))) else (none))))
theorem session_Open.mono : ∀ a0 a1 a2 a3 a4 a5 k, LeO (session_Open.f k a0 a1 a2 a3 a4 a5) (session_Open.f (k + 1) a0 a1 a2 a3 a4 a5) := by
  intro a0 a1 a2 a3 a4 a5 k
  unfold session_Open.f
  repeat' first
      | (with_reducible exact session_renewed.mono _ _ _ _ _ _ _)
      | (with_reducible exact LeO.refl _)
      | (with_reducible exact LeO.none _)
      | (with_reducible refine LeO.ite ?_ ?_)
      | (with_reducible refine LeO.bind ?_ (fun _ => ?_))
      | exact session_renewed.mono _ _ _ _ _ _ _
      | exact LeO.none _
      | refine LeO.ite ?_ ?_
      | refine LeO.bind ?_ (fun _ => ?_)

/-! ### session_New (function 36): what it is -/
def session_New.f (a0 : Int) : Option (Int × (List (S42)) × (List (S85)) × Int × Int) := some (a0, ([] : List (S42)), ([] : List (S85)), 1, 0)

/-! ### stanchionlaw17_shown (function 10): what it is -/
def stanchionlaw17_shown.f (k : Nat)  : Option (Bool) := (session_New.f 7).bind fun bt256 => ((session_Open.f k bt256.1 bt256.2.1 bt256.2.2.1 bt256.2.2.2.1 bt256.2.2.2.2 0).bind fun bt265 => ((session_Judge.f k bt265.1 bt265.2.1 bt265.2.2.1 bt265.2.2.2.1 bt265.2.2.2.2.1 0 7 1 1 (⟨#[]⟩ : ByteArray) 0 (⟨#[]⟩ : ByteArray) (⟨#[]⟩ : ByteArray) (⟨#[]⟩ : ByteArray) (⟨#[]⟩ : ByteArray) 0).bind fun bt277 => ((session_Take.f k bt265.1 bt265.2.1 bt265.2.2.1 bt265.2.2.2.1 bt265.2.2.2.2.1 1 0).bind fun bt279 => ((session_Answer.f bt279.1 bt279.2.1 bt279.2.2.1 bt279.2.2.2.1 bt279.2.2.2.2.1 1 (⟨#[120]⟩ : ByteArray)).bind fun bt289 => ((session_Judge.f k bt289.1 bt289.2.1 bt289.2.2.1 bt289.2.2.2.1 bt289.2.2.2.2.1 0 7 1 1 (⟨#[]⟩ : ByteArray) 0 (⟨#[]⟩ : ByteArray) (⟨#[]⟩ : ByteArray) (⟨#[]⟩ : ByteArray) (⟨#[]⟩ : ByteArray) 0).bind fun bt299 => ((session_Judge.f k bt289.1 bt289.2.1 bt289.2.2.1 bt289.2.2.2.1 bt289.2.2.2.2.1 0 7 1 3 (⟨#[]⟩ : ByteArray) 0 (⟨#[]⟩ : ByteArray) (⟨#[]⟩ : ByteArray) (⟨#[]⟩ : ByteArray) (⟨#[]⟩ : ByteArray) 0).bind fun bt301 => (if bt265.2.2.2.2.2.1 = 1 then (if bt265.2.2.2.2.2.2 = 0 then (if bt277.2 = 0 then (if bt279.2.2.2.2.2 = 0 then (if bt289.2.2.2.2.2 = 0 then (if bt299.1.toList = ([120] : List UInt8) then (if bt299.2 = 8 then (some (bt301.2 == 15)) else (some false)) else (some false)) else (some false)) else (some false)) else (some false)) else (some false)) else (some false))))))))
theorem stanchionlaw17_shown.mono : ∀ k, LeO (stanchionlaw17_shown.f k ) (stanchionlaw17_shown.f (k + 1) ) := by
  intro  k
  unfold stanchionlaw17_shown.f
  repeat' first
      | (with_reducible exact session_Judge.mono _ _ _ _ _ _ _ _ _ _ _ _ _ _ _ _ _)
      | (with_reducible exact session_Open.mono _ _ _ _ _ _ _)
      | (with_reducible exact session_Take.mono _ _ _ _ _ _ _ _)
      | (with_reducible exact LeO.refl _)
      | (with_reducible exact LeO.none _)
      | (with_reducible refine LeO.ite ?_ ?_)
      | (with_reducible refine LeO.bind ?_ (fun _ => ?_))
      | exact session_Judge.mono _ _ _ _ _ _ _ _ _ _ _ _ _ _ _ _ _
      | exact session_Open.mono _ _ _ _ _ _ _
      | exact session_Take.mono _ _ _ _ _ _ _ _
      | exact LeO.none _
      | refine LeO.ite ?_ ?_
      | refine LeO.bind ?_ (fun _ => ?_)

/-! ### stanchionlaw17_SessionOnce (function 3): what it is -/
/-! ### stanchionlaw17_SessionStale (function 4): what it is -/
/-! ### stanchionlaw17_few (function 15): what it is -/
def stanchionlaw17_few.f (a0_0 : Int) (l0_1 : List (S42)) (l0_2 : List (S85)) (a0_3 : Int) (a0_4 : Int) : Option (Bool) := if (l0_1.length : Int) ≤ 100 then (some (decide ((l0_2.length : Int) ≤ 100))) else (some false)

/-! ### stanchionref17_at (function 55): what it is -/
def stanchionref17_at.l0 : Nat → Int → Int → Int → List (S42) → List (S85) → Int → Int → Option (Int)
  | 0, _, _, _, _, _, _, _ => none
  | k + 1, x1, x5, x363000, x363001, x363002, x363003, x363004 => if x5 < (x363001.length : Int) then (if 0 ≤ x5 then (if ((rd_T42 x363001 x5).f0) = x1 then (some x5) else (stanchionref17_at.l0 k x1 (wrap64 (x5 + 1)) x363000 x363001 x363002 x363003 x363004)) else (none)) else (some (-1))
def stanchionref17_at.f (k : Nat) (a0_0 : Int) (l0_1 : List (S42)) (l0_2 : List (S85)) (a0_3 : Int) (a0_4 : Int) (a1 : Int) : Option (Int) := stanchionref17_at.l0 k a1 0 a0_0 l0_1 l0_2 a0_3 a0_4
/-! ### stanchionref17_Find (function 32): what it is -/
def stanchionref17_Find.f (k : Nat) (a0_0 : Int) (l0_1 : List (S42)) (l0_2 : List (S85)) (a0_3 : Int) (a0_4 : Int) (a1 : Int) : Option (Int × Int × Bool × ByteArray × Int × Int × Bool) := (stanchionref17_at.f k a0_0 l0_1 l0_2 a0_3 a0_4 a1).bind fun t366 => (if t366 < 0 then (some (0, 0, false, (⟨#[]⟩ : ByteArray), 0, 0, false)) else (if 0 ≤ t366 then (if t366 < (l0_1.length : Int) then (some ((rd_T42 l0_1 t366).f0, (rd_T42 l0_1 t366).f1, (rd_T42 l0_1 t366).f2, (rd_T42 l0_1 t366).f3, (rd_T42 l0_1 t366).f4, (rd_T42 l0_1 t366).f5, true)) else (none)) else (none)))
/-! ### stanchionref17_Judge (function 16): what it is -/
def stanchionref17_Judge.f (k : Nat) (a0_0 : Int) (l0_1 : List (S42)) (l0_2 : List (S85)) (a0_3 : Int) (a0_4 : Int) (a1_0 : Int) (a1_1 : Int) (a1_2 : Int) (a1_3 : Int) (a1_4 : ByteArray) (a1_5 : Int) (a1_6 : ByteArray) (a1_7 : ByteArray) (a1_8 : ByteArray) (a1_9 : ByteArray) (a1_10 : Int) : Option (ByteArray × Int) := if a1_1 = a0_0 then ((stanchionref17_Find.f k a0_0 l0_1 l0_2 a0_3 a0_4 a1_2).bind fun bt370 => (if bt370.2.2.2.2.2.2 = true then (if a1_3 < 1 then (some ((⟨#[]⟩ : ByteArray), 15)) else (if a1_3 = bt370.2.1 then (if bt370.2.2.1 = true then (some ((⟨#[]⟩ : ByteArray), 12)) else (some (bt370.2.2.2.1, 8))) else (if a1_3 = (wrap64 (bt370.2.1 + 1)) then (if bt370.2.2.1 = true then (some ((⟨#[]⟩ : ByteArray), 11)) else (some ((⟨#[]⟩ : ByteArray), 0))) else (some ((⟨#[]⟩ : ByteArray), 15))))) else (some ((⟨#[]⟩ : ByteArray), 7)))) else (some ((⟨#[]⟩ : ByteArray), 14))
/-! ### stanchionref15_Less (function 53): what it is -/
def stanchionref15_Less.f (a0_0 : Int) (a0_1 : Int) (a1_0 : Int) (a1_1 : Int) : Option (Bool) := if a0_0 = a1_0 then (some (decide (a0_1 < a1_1))) else (some (decide (a0_0 < a1_0)))

/-! ### stanchionref15_swap (function 70): what it is -/
def stanchionref15_swap.f (l0 : List (S85)) (a1 : Int) (a2 : Int) : Option ((List (S85))) := (some (([] : List (S85)) : List (S85))).bind fun y380 => (if y380.length + l0.length < 8796093022208 then ((some (y380 ++ l0 : List (S85))).bind fun y383 => (if 0 ≤ a2 then (if a2 < (l0.length : Int) then (if 0 ≤ a1 then (if a1 < (y383.length : Int) then (if a1 < (l0.length : Int) then (if a2 < (y383.length : Int) then (some ((y383.set (a1 : Int).toNat (⟨(rd_T85 l0 a2).f0, (rd_T85 l0 a2).f1⟩ : S85)).set (a2 : Int).toNat (⟨(rd_T85 l0 a1).f0, (rd_T85 l0 a1).f1⟩ : S85))) else (none)) else (none)) else (none)) else (none)) else (none)) else (none))) else (none))

/-! ### stanchionref15_Put (function 63): what it is -/
def stanchionref15_Put.l0 : Nat → List (S85) → Int → Option ((List (S85)))
  | 0, _, _ => none
  | k + 1, x5, x6 => if x6 > 0 then (if 0 ≤ x6 then (if x6 < (x5.length : Int) then (if 0 ≤ (wrap64 (Int.tdiv (wrap64 (x6 - 1)) 2)) then (if (wrap64 (Int.tdiv (wrap64 (x6 - 1)) 2)) < (x5.length : Int) then ((stanchionref15_Less.f ((rd_T85 x5 x6).f0) ((rd_T85 x5 x6).f1) ((rd_T85 x5 (wrap64 (Int.tdiv (wrap64 (x6 - 1)) 2))).f0) ((rd_T85 x5 (wrap64 (Int.tdiv (wrap64 (x6 - 1)) 2))).f1)).bind fun t402 => (if t402 = true then ((stanchionref15_swap.f x5 x6 (wrap64 (Int.tdiv (wrap64 (x6 - 1)) 2))).bind fun t403 => (stanchionref15_Put.l0 k t403 (wrap64 (Int.tdiv (wrap64 (x6 - 1)) 2)))) else (some x5))) else (none)) else (none)) else (none)) else (none)) else (some x5)
def stanchionref15_Put.f (k : Nat) (l0 : List (S85)) (a1_0 : Int) (a1_1 : Int) : Option ((List (S85))) := (some (([] : List (S85)) : List (S85))).bind fun y391 => (if y391.length + l0.length < 8796093022208 then ((some (y391 ++ l0 : List (S85))).bind fun y394 => (if y394.length < 8796093022208 then ((some (y394 ++ [(⟨a1_0, a1_1⟩ : S85)] : List (S85))).bind fun y397 => (stanchionref15_Put.l0 k y397 (wrap64 ((y397.length : Int) - 1)))) else (none))) else (none))
/-! ### stanchionref15_Drop (function 57): what it is -/
def stanchionref15_Drop.l0 : Nat → List (S85) → Int → List (S85) → Int → Option ((List (S85)))
  | 0, _, _, _, _ => none
  | k + 1, x0, x1, x5, x6 => if x6 < (x0.length : Int) then (if 0 ≤ x6 then (if ((rd_T85 x0 x6).f1) = x1 then (stanchionref15_Drop.l0 k x0 x1 x5 (wrap64 (x6 + 1))) else ((stanchionref15_Put.f k x5 ((rd_T85 x0 x6).f0) ((rd_T85 x0 x6).f1)).bind fun t408 => (stanchionref15_Drop.l0 k x0 x1 t408 (wrap64 (x6 + 1))))) else (none)) else (some x5)
def stanchionref15_Drop.f (k : Nat) (l0 : List (S85)) (a1 : Int) : Option ((List (S85))) := stanchionref15_Drop.l0 k l0 a1 ([] : List (S85)) 0
/-! ### stanchionref17_renewed (function 44): what it is -/
def stanchionref17_renewed.f (k : Nat) (a0_0 : Int) (l0_1 : List (S42)) (l0_2 : List (S85)) (a0_3 : Int) (a0_4 : Int) (a1 : Int) : Option (Int × (List (S42)) × (List (S85)) × Int × Int) := if (IntKind.u64.wrap (a0_4 + 20)) < a0_4 then ((stanchionref15_Drop.f k l0_2 a1).bind fun t413 => ((stanchionref15_Put.f k t413 18446744073709551615 a1).bind fun t416 => (some (a0_0, l0_1, t416, a0_3, a0_4)))) else ((stanchionref15_Drop.f k l0_2 a1).bind fun t419 => ((stanchionref15_Put.f k t419 (IntKind.u64.wrap (a0_4 + 20)) a1).bind fun t422 => (some (a0_0, l0_1, t422, a0_3, a0_4))))
/-! ### stanchionref17_put (function 45): what it is -/
def stanchionref17_put.f (k : Nat) (a0_0 : Int) (l0_1 : List (S42)) (l0_2 : List (S85)) (a0_3 : Int) (a0_4 : Int) (a1_0 : Int) (a1_1 : Int) (a1_2 : Bool) (a1_3 : ByteArray) (a1_4 : Int) (a1_5 : Int) : Option (Int × (List (S42)) × (List (S85)) × Int × Int) := (stanchionref17_at.f k a0_0 l0_1 l0_2 a0_3 a0_4 a1_0).bind fun t428 => ((some (([] : List (S42)) : List (S42))).bind fun y429 => (if y429.length + l0_1.length < 2513169434916 then ((some (y429 ++ l0_1 : List (S42))).bind fun y432 => (if 0 ≤ t428 then (if t428 < (y432.length : Int) then (some (a0_0, (y432.set (t428 : Int).toNat (⟨a1_0, a1_1, a1_2, a1_3, a1_4, a1_5⟩ : S42)), l0_2, a0_3, a0_4)) else (none)) else (none))) else (none)))
/-! ### stanchionref17_Take (function 17): what it is -/
def stanchionref17_Take.f (k : Nat) (a0_0 : Int) (l0_1 : List (S42)) (l0_2 : List (S85)) (a0_3 : Int) (a0_4 : Int) (a1 : Int) (a2 : Int) : Option (Int × (List (S42)) × (List (S85)) × Int × Int × Int) := (stanchionref17_Find.f k a0_0 l0_1 l0_2 a0_3 a0_4 a1).bind fun bt438 => (if bt438.2.2.2.2.2.2 = true then (if bt438.2.1 ≥ 1073741824 then (some (a0_0, l0_1, l0_2, a0_3, a0_4, 4)) else ((stanchionref17_put.f k a0_0 l0_1 l0_2 a0_3 a0_4 bt438.1 (wrap64 (bt438.2.1 + 1)) true (⟨#[]⟩ : ByteArray) bt438.2.2.2.2.1 a2).bind fun bt446 => ((stanchionref17_renewed.f k bt446.1 bt446.2.1 bt446.2.2.1 bt446.2.2.2.1 bt446.2.2.2.2 a1).bind fun bt455 => (some (bt455.1, bt455.2.1, bt455.2.2.1, bt455.2.2.2.1, bt455.2.2.2.2, 0))))) else (some (a0_0, l0_1, l0_2, a0_3, a0_4, 7)))
/-! ### stanchionref17_Answer (function 18): what it is -/
def stanchionref17_Answer.f (k : Nat) (a0_0 : Int) (l0_1 : List (S42)) (l0_2 : List (S85)) (a0_3 : Int) (a0_4 : Int) (a1 : Int) (a2 : ByteArray) : Option (Int × (List (S42)) × (List (S85)) × Int × Int × Int) := (stanchionref17_Find.f k a0_0 l0_1 l0_2 a0_3 a0_4 a1).bind fun bt466 => (if bt466.2.2.2.2.2.2 = true then ((stanchionref17_put.f k a0_0 l0_1 l0_2 a0_3 a0_4 bt466.1 bt466.2.1 false a2 bt466.2.2.2.2.1 bt466.2.2.2.2.2.1).bind fun bt474 => (some (bt474.1, bt474.2.1, bt474.2.2.1, bt474.2.2.2.1, bt474.2.2.2.2, 0))) else (some (a0_0, l0_1, l0_2, a0_3, a0_4, 7)))
/-! ### session_Bind (function 19): what it is -/
def session_Bind.f (a0_0 : Int) (l0_1 : List (S42)) (l0_2 : List (S85)) (a0_3 : Int) (a0_4 : Int) (a1 : Int) (a2 : Int) : Option (Int × (List (S42)) × (List (S85)) × Int × Int × Int) := (session_with_Bind.f a0_0 l0_1 l0_2 a0_3 a0_4 a1 a2).bind fun bt486 => (some (bt486.1, bt486.2.1, bt486.2.2.1, bt486.2.2.2.1, bt486.2.2.2.2.1, bt486.2.2.2.2.2))

/-! ### stanchionref17_Bind (function 20): what it is -/
def stanchionref17_Bind.f (k : Nat) (a0_0 : Int) (l0_1 : List (S42)) (l0_2 : List (S85)) (a0_3 : Int) (a0_4 : Int) (a1 : Int) (a2 : Int) : Option (Int × (List (S42)) × (List (S85)) × Int × Int × Int) := (stanchionref17_Find.f k a0_0 l0_1 l0_2 a0_3 a0_4 a1).bind fun bt498 => (if bt498.2.2.2.2.2.2 = true then ((stanchionref17_put.f k a0_0 l0_1 l0_2 a0_3 a0_4 bt498.1 bt498.2.1 bt498.2.2.1 bt498.2.2.2.1 a2 bt498.2.2.2.2.2.1).bind fun bt506 => (some (bt506.1, bt506.2.1, bt506.2.2.1, bt506.2.2.2.1, bt506.2.2.2.2, 0))) else (some (a0_0, l0_1, l0_2, a0_3, a0_4, 7)))
/-! ### stanchionref17_Sessions (function 35): what it is -/
def stanchionref17_Sessions.l0 : Nat → List (S42) → List (S42) → Int → Option (Bool)
  | 0, _, _, _ => none
  | k + 1, x0, x1, x5 => if x5 < (x0.length : Int) then (if 0 ≤ x5 then (if x5 < (x1.length : Int) then (if (!(((rd_T42 x0 x5).f0) == ((rd_T42 x1 x5).f0)) || (!(((rd_T42 x0 x5).f1) == ((rd_T42 x1 x5).f1)) || (!(((rd_T42 x0 x5).f2) == ((rd_T42 x1 x5).f2)) || (!((((rd_T42 x0 x5).f3).toList) == (((rd_T42 x1 x5).f3).toList)) || (!(((rd_T42 x0 x5).f4) == ((rd_T42 x1 x5).f4)) || (!(((rd_T42 x0 x5).f5) == ((rd_T42 x1 x5).f5)))))))) = true then (some false) else (stanchionref17_Sessions.l0 k x0 x1 (wrap64 (x5 + 1)))) else (none)) else (none)) else (some true)
def stanchionref17_Sessions.f (k : Nat) (l0 : List (S42)) (l1 : List (S42)) : Option (Bool) := if (l0.length : Int) = (l1.length : Int) then (stanchionref17_Sessions.l0 k l0 l1 0) else (some false)
/-! ### stanchionref15_Same (function 47): what it is -/
def stanchionref15_Same.l0 : Nat → List (S85) → List (S85) → Int → Option (Bool)
  | 0, _, _, _ => none
  | k + 1, x0, x1, x5 => if x5 < (x0.length : Int) then (if 0 ≤ x5 then (if x5 < (x1.length : Int) then (if (!(((rd_T85 x0 x5).f0) == ((rd_T85 x1 x5).f0)) || (!(((rd_T85 x0 x5).f1) == ((rd_T85 x1 x5).f1)))) = true then (some false) else (stanchionref15_Same.l0 k x0 x1 (wrap64 (x5 + 1)))) else (none)) else (none)) else (some true)
def stanchionref15_Same.f (k : Nat) (l0 : List (S85)) (l1 : List (S85)) : Option (Bool) := if (l0.length : Int) = (l1.length : Int) then (stanchionref15_Same.l0 k l0 l1 0) else (some false)
/-! ### stanchionref17_Same (function 21): what it is -/
def stanchionref17_Same.f (k : Nat) (a0_0 : Int) (l0_1 : List (S42)) (l0_2 : List (S85)) (a0_3 : Int) (a0_4 : Int) (a1_0 : Int) (l1_1 : List (S42)) (l1_2 : List (S85)) (a1_3 : Int) (a1_4 : Int) : Option (Bool) := (stanchionref17_Sessions.f k l0_1 l1_1).bind fun t521 => ((stanchionref15_Same.f k l0_2 l1_2).bind fun t522 => (if t521 = true then (if t522 = true then (if a0_0 = a1_0 then (if a0_3 = a1_3 then (some (a0_4 == a1_4)) else (some false)) else (some false)) else (some false)) else (some false)))
/-! ### stanchionlaw17_SessionTurns (function 5): what it is -/
def stanchionlaw17_SessionTurns.j0 : Nat → Int → Int → ByteArray → Int → Bool → Bool → Int → List (S42) → List (S85) → Int → Int → Int → Int → Int → Int → ByteArray → Int → ByteArray → ByteArray → ByteArray → ByteArray → Int → Option (Bool)
  | 0, _, _, _, _, _, _, _, _, _, _, _, _, _, _, _, _, _, _, _, _, _, _ => none
  | k + 1, x5, x6, x7, x8, x9, x48, x525000, x525001, x525002, x525003, x525004, x526000, x526001, x526002, x526003, x526004, x526005, x526006, x526007, x526008, x526009, x526010 => if x48 = true then (some x9) else ((session_Judge.f k x525000 x525001 x525002 x525003 x525004 x526000 x526001 x526002 x526003 x526004 x526005 x526006 x526007 x526008 x526009 x526010).bind fun bt528 => ((stanchionref17_Judge.f k x525000 x525001 x525002 x525003 x525004 x526000 x526001 x526002 x526003 x526004 x526005 x526006 x526007 x526008 x526009 x526010).bind fun bt530 => ((session_Take.f k x525000 x525001 x525002 x525003 x525004 x5 x6).bind fun bt532 => ((stanchionref17_Take.f k x525000 x525001 x525002 x525003 x525004 x5 x6).bind fun bt543 => ((session_Answer.f x525000 x525001 x525002 x525003 x525004 x5 x7).bind fun bt554 => ((stanchionref17_Answer.f k x525000 x525001 x525002 x525003 x525004 x5 x7).bind fun bt565 => ((session_Bind.f x525000 x525001 x525002 x525003 x525004 x5 x8).bind fun bt576 => ((stanchionref17_Bind.f k x525000 x525001 x525002 x525003 x525004 x5 x8).bind fun bt587 => ((stanchionref17_Same.f k bt532.1 bt532.2.1 bt532.2.2.1 bt532.2.2.2.1 bt532.2.2.2.2.1 bt543.1 bt543.2.1 bt543.2.2.1 bt543.2.2.2.1 bt543.2.2.2.2.1).bind fun t598 => (if t598 = true then ((stanchionref17_Same.f k bt554.1 bt554.2.1 bt554.2.2.1 bt554.2.2.2.1 bt554.2.2.2.2.1 bt565.1 bt565.2.1 bt565.2.2.1 bt565.2.2.2.1 bt565.2.2.2.2.1).bind fun t599 => (if t599 = true then ((stanchionref17_Same.f k bt576.1 bt576.2.1 bt576.2.2.1 bt576.2.2.2.1 bt576.2.2.2.2.1 bt587.1 bt587.2.1 bt587.2.2.1 bt587.2.2.2.1 bt587.2.2.2.2.1).bind fun t600 => (if bt528.1.toList = bt530.1.toList then (if bt528.2 = bt530.2 then (if t600 = true then (if bt532.2.2.2.2.2 = bt543.2.2.2.2.2 then (if bt554.2.2.2.2.2 = bt565.2.2.2.2.2 then (some (bt576.2.2.2.2.2 == bt587.2.2.2.2.2)) else (some false)) else (some false)) else (some false)) else (some false)) else (some false))) else (if bt528.1.toList = bt530.1.toList then (if bt528.2 = bt530.2 then (some false) else (some false)) else (some false)))) else (if bt528.1.toList = bt530.1.toList then (if bt528.2 = bt530.2 then (some false) else (some false)) else (some false))))))))))))
def stanchionlaw17_SessionTurns.f (k : Nat) (a0_0 : Int) (l0_1 : List (S42)) (l0_2 : List (S85)) (a0_3 : Int) (a0_4 : Int) (a0_5 : Int) (a0_6 : Int) (a0_7 : Int) (a0_8 : Int) (a0_9 : ByteArray) (a0_10 : Int) (a0_11 : ByteArray) (a0_12 : ByteArray) (a0_13 : ByteArray) (a0_14 : ByteArray) (a0_15 : Int) (a0_16 : Int) (a0_17 : Int) (a0_18 : ByteArray) (a0_19 : Int) : Option (Bool) := (stanchionlaw17_shown.f k).bind fun t526 => ((stanchionlaw17_few.f a0_0 l0_1 l0_2 a0_3 a0_4).bind fun t527 => (if t526 = true then (stanchionlaw17_SessionTurns.j0 k a0_16 a0_17 a0_18 a0_19 t526 (!t527) a0_0 l0_1 l0_2 a0_3 a0_4 a0_5 a0_6 a0_7 a0_8 a0_9 a0_10 a0_11 a0_12 a0_13 a0_14 a0_15) else (stanchionlaw17_SessionTurns.j0 k a0_16 a0_17 a0_18 a0_19 t526 true a0_0 l0_1 l0_2 a0_3 a0_4 a0_5 a0_6 a0_7 a0_8 a0_9 a0_10 a0_11 a0_12 a0_13 a0_14 a0_15)))
/-! ### api_Session_49 (function 49): what it is -/
/-! ### api_Alarm_50 (function 50): what it is -/
/-! ### session_Same (function 23): what it is -/
/-! ### stanchionlaw17_SessionNew (function 6): what it is -/
/-! ### session_without: function 51 -/
/-! ### session_Close (function 24): what it is -/
/-! ### stanchionlaw17_SessionApart (function 7): what it is -/
end Go.Proofs.Ytnpmjboofmdflaa.PB
