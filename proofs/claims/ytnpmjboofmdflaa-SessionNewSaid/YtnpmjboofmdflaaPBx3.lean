-- Made by a program of this workplace out of the translation (wip/tools in the repo). Not trusted: Lean checks it.
import Derived.Test.YtnpmjboofmdflaaPBx0
namespace Go.Proofs.Ytnpmjboofmdflaa.PB
open Go.RowKit Go.Proofs.YtnpmjboofmdflaaW.PrintWords Go.Proofs.YtnpmjboofmdflaaW.PrintLast Go.Proofs.YtnpmjboofmdflaaW.PrintMore
attribute [local go_sem] max2_int min2_int max_two min_two max_three min_three max_four min_four   -- for this text's walks alone
set_option linter.unusedVariables false
set_option linter.unusedSimpArgs false

/-! ### api_Session_42 (function 42): what it is -/
def api_Session_42.f (l0 : List (S42)) (a1 : Int) : Option (Int × Int × Bool × ByteArray × Int × Int × Bool) := if a1 < 0 then (some (0, 0, false, (⟨#[]⟩ : ByteArray), 0, 0, false)) else (if 0 ≤ a1 then (if a1 < (l0.length : Int) then (some ((rd_T42 l0 a1).f0, (rd_T42 l0 a1).f1, (rd_T42 l0 a1).f2, (rd_T42 l0 a1).f3, (rd_T42 l0 a1).f4, (rd_T42 l0 a1).f5, true)) else (none)) else (none))

/-! ### api_Session_59: function 59 -/
def ixOf {α : Type} (p : α → Bool) (l : List α) : Int := if l.findIdx p < l.length then ((l.findIdx p : Nat) : Int) else -1
theorem ixOf_hit {α : Type} (p : α → Bool) (l : List α) (d : α) (k : Nat) (h : k < l.length) (hk : p (l.getD k d) = true) (hn : ∀ j, j < k → p (l.getD j d) = false) : ixOf p l = (k : Int) := by
  have e : l.findIdx p = k := by
    rw [List.findIdx_eq h]
    refine ⟨by rw [List.getD_eq_getElem?_getD, List.getElem?_eq_getElem h] at hk; exact hk, fun j hj => ?_⟩
    have := hn j hj
    rw [List.getD_eq_getElem?_getD, List.getElem?_eq_getElem (by omega)] at this
    exact this
  unfold ixOf
  rw [e, if_pos h]
theorem ixOf_miss {α : Type} (p : α → Bool) (l : List α) (d : α) (hn : ∀ j, j < l.length → p (l.getD j d) = false) : ixOf p l = -1 := by
  unfold ixOf
  rw [if_neg]
  intro h
  have h1 := List.findIdx_getElem (w := h) (p := p) (xs := l)
  have h2 := hn _ h
  rw [List.getD_eq_getElem?_getD, List.getElem?_eq_getElem h] at h2
  have h3 : p l[l.findIdx p] = false := h2
  rw [h3] at h1
  cases h1
/-! ### session_at: function 43 -/
def session_at_ix.f (l0 : List (S42)) (a1 : Int) : Option (Int) := some (ixOf (fun x => x.f0 == a1) l0)
def session_at.f (a0_0 : Int) (l0_1 : List (S42)) (l0_2 : List (S85)) (a0_3 : Int) (a0_4 : Int) (a1 : Int) : Option (Int) := (session_at_ix.f l0_1 a1).bind fun t106 => (some t106)

/-! ### session_Find (function 14): what it is -/
def session_Find.f (a0_0 : Int) (l0_1 : List (S42)) (l0_2 : List (S85)) (a0_3 : Int) (a0_4 : Int) (a1 : Int) : Option (Int × Int × Bool × ByteArray × Int × Int × Bool) := (session_at.f a0_0 l0_1 l0_2 a0_3 a0_4 a1).bind fun t109 => ((api_Session_42.f l0_1 t109).bind fun bt110 => (some (bt110.1, bt110.2.1, bt110.2.2.1, bt110.2.2.2.1, bt110.2.2.2.2.1, bt110.2.2.2.2.2.1, bt110.2.2.2.2.2.2)))

/-! ### session_Judge (function 11): what it is -/
mutual
def session_Judge.j0 : Nat → Bool → Int → Int → Int → Int → ByteArray → Int → ByteArray → ByteArray → ByteArray → ByteArray → Int → Int → Int → Bool → ByteArray → Int → Int → Option (ByteArray × Int)
  | 0, _, _, _, _, _, _, _, _, _, _, _, _, _, _, _, _, _, _ => none
  | k + 1, x28, x119000, x119001, x119002, x119003, x119004, x119005, x119006, x119007, x119008, x119009, x119010, x127000, x127001, x127002, x127003, x127004, x127005 => if x28 = true then (some ((⟨#[]⟩ : ByteArray), 12)) else (if x119003 = x127001 then (some (x127003, 8)) else (if x119003 = (wrap64 (x127001 + 1)) then (session_Judge.j1 k x127002 x119000 x119001 x119002 x119003 x119004 x119005 x119006 x119007 x119008 x119009 x119010 x127000 x127001 x127002 x127003 x127004 x127005) else (session_Judge.j1 k false x119000 x119001 x119002 x119003 x119004 x119005 x119006 x119007 x119008 x119009 x119010 x127000 x127001 x127002 x127003 x127004 x127005)))
def session_Judge.j1 : Nat → Bool → Int → Int → Int → Int → ByteArray → Int → ByteArray → ByteArray → ByteArray → ByteArray → Int → Int → Int → Bool → ByteArray → Int → Int → Option (ByteArray × Int)
  | 0, _, _, _, _, _, _, _, _, _, _, _, _, _, _, _, _, _, _ => none
  | k + 1, x44, x119000, x119001, x119002, x119003, x119004, x119005, x119006, x119007, x119008, x119009, x119010, x127000, x127001, x127002, x127003, x127004, x127005 => if x44 = true then (some ((⟨#[]⟩ : ByteArray), 11)) else (if x119003 < x127001 then (some ((⟨#[]⟩ : ByteArray), 15)) else (if x119003 = (wrap64 (x127001 + 1)) then (some ((⟨#[]⟩ : ByteArray), 0)) else (some ((⟨#[]⟩ : ByteArray), 15))))
end
def session_Judge.f (k : Nat) (a0_0 : Int) (l0_1 : List (S42)) (l0_2 : List (S85)) (a0_3 : Int) (a0_4 : Int) (a1_0 : Int) (a1_1 : Int) (a1_2 : Int) (a1_3 : Int) (a1_4 : ByteArray) (a1_5 : Int) (a1_6 : ByteArray) (a1_7 : ByteArray) (a1_8 : ByteArray) (a1_9 : ByteArray) (a1_10 : Int) : Option (ByteArray × Int) := (session_Find.f a0_0 l0_1 l0_2 a0_3 a0_4 a1_2).bind fun bt119 => (if a1_1 = a0_0 then (if bt119.2.2.2.2.2.2 = true then (if a1_3 < 1 then (some ((⟨#[]⟩ : ByteArray), 15)) else (if a1_3 = bt119.2.1 then (session_Judge.j0 k bt119.2.2.1 a1_0 a1_1 a1_2 a1_3 a1_4 a1_5 a1_6 a1_7 a1_8 a1_9 a1_10 bt119.1 bt119.2.1 bt119.2.2.1 bt119.2.2.2.1 bt119.2.2.2.2.1 bt119.2.2.2.2.2.1) else (session_Judge.j0 k false a1_0 a1_1 a1_2 a1_3 a1_4 a1_5 a1_6 a1_7 a1_8 a1_9 a1_10 bt119.1 bt119.2.1 bt119.2.2.1 bt119.2.2.2.1 bt119.2.2.2.2.1 bt119.2.2.2.2.2.1))) else (some ((⟨#[]⟩ : ByteArray), 7))) else (some ((⟨#[]⟩ : ByteArray), 14)))
theorem session_Judge.mono_l : ∀ k, (∀ y0 y1 y2 y3 y4 y5 y6 y7 y8 y9 y10 y11 y12 y13 y14 y15 y16 y17, LeO (session_Judge.j0 k y0 y1 y2 y3 y4 y5 y6 y7 y8 y9 y10 y11 y12 y13 y14 y15 y16 y17) (session_Judge.j0 (k + 1) y0 y1 y2 y3 y4 y5 y6 y7 y8 y9 y10 y11 y12 y13 y14 y15 y16 y17)) ∧ (∀ y0 y1 y2 y3 y4 y5 y6 y7 y8 y9 y10 y11 y12 y13 y14 y15 y16 y17, LeO (session_Judge.j1 k y0 y1 y2 y3 y4 y5 y6 y7 y8 y9 y10 y11 y12 y13 y14 y15 y16 y17) (session_Judge.j1 (k + 1) y0 y1 y2 y3 y4 y5 y6 y7 y8 y9 y10 y11 y12 y13 y14 y15 y16 y17))
  | 0 => ⟨fun _ _ _ _ _ _ _ _ _ _ _ _ _ _ _ _ _ _ r h => by simp [session_Judge.j0] at h, fun _ _ _ _ _ _ _ _ _ _ _ _ _ _ _ _ _ _ r h => by simp [session_Judge.j1] at h⟩
  | k + 1 => by
    obtain ⟨ih0, ih1⟩ := session_Judge.mono_l k
    refine ⟨?_, ?_⟩
    · intro y0 y1 y2 y3 y4 y5 y6 y7 y8 y9 y10 y11 y12 y13 y14 y15 y16 y17
      unfold session_Judge.j0
      repeat' first
      | (with_reducible exact ih0 _ _ _ _ _ _ _ _ _ _ _ _ _ _ _ _ _ _)
      | (with_reducible exact ih1 _ _ _ _ _ _ _ _ _ _ _ _ _ _ _ _ _ _)
      | (with_reducible exact LeO.refl _)
      | (with_reducible exact LeO.none _)
      | (with_reducible refine LeO.ite ?_ ?_)
      | (with_reducible refine LeO.bind ?_ (fun _ => ?_))
      | exact ih0 _ _ _ _ _ _ _ _ _ _ _ _ _ _ _ _ _ _
      | exact ih1 _ _ _ _ _ _ _ _ _ _ _ _ _ _ _ _ _ _
      | exact LeO.none _
      | refine LeO.ite ?_ ?_
      | refine LeO.bind ?_ (fun _ => ?_)
    · intro y0 y1 y2 y3 y4 y5 y6 y7 y8 y9 y10 y11 y12 y13 y14 y15 y16 y17
      unfold session_Judge.j1
      repeat' first
      | (with_reducible exact ih0 _ _ _ _ _ _ _ _ _ _ _ _ _ _ _ _ _ _)
      | (with_reducible exact ih1 _ _ _ _ _ _ _ _ _ _ _ _ _ _ _ _ _ _)
      | (with_reducible exact LeO.refl _)
      | (with_reducible exact LeO.none _)
      | (with_reducible refine LeO.ite ?_ ?_)
      | (with_reducible refine LeO.bind ?_ (fun _ => ?_))
      | exact ih0 _ _ _ _ _ _ _ _ _ _ _ _ _ _ _ _ _ _
      | exact ih1 _ _ _ _ _ _ _ _ _ _ _ _ _ _ _ _ _ _
      | exact LeO.none _
      | refine LeO.ite ?_ ?_
      | refine LeO.bind ?_ (fun _ => ?_)
theorem session_Judge.mono : ∀ a0 a1 a2 a3 a4 a5 a6 a7 a8 a9 a10 a11 a12 a13 a14 a15 k, LeO (session_Judge.f k a0 a1 a2 a3 a4 a5 a6 a7 a8 a9 a10 a11 a12 a13 a14 a15) (session_Judge.f (k + 1) a0 a1 a2 a3 a4 a5 a6 a7 a8 a9 a10 a11 a12 a13 a14 a15) := by
  intro a0 a1 a2 a3 a4 a5 a6 a7 a8 a9 a10 a11 a12 a13 a14 a15 k
  obtain ⟨ih0, ih1⟩ := session_Judge.mono_l k
  unfold session_Judge.f
  repeat' first
      | (with_reducible exact ih0 _ _ _ _ _ _ _ _ _ _ _ _ _ _ _ _ _ _)
      | (with_reducible exact ih1 _ _ _ _ _ _ _ _ _ _ _ _ _ _ _ _ _ _)
      | (with_reducible exact LeO.refl _)
      | (with_reducible exact LeO.none _)
      | (with_reducible refine LeO.ite ?_ ?_)
      | (with_reducible refine LeO.bind ?_ (fun _ => ?_))
      | exact ih0 _ _ _ _ _ _ _ _ _ _ _ _ _ _ _ _ _ _
      | exact ih1 _ _ _ _ _ _ _ _ _ _ _ _ _ _ _ _ _ _
      | exact LeO.none _
      | refine LeO.ite ?_ ?_
      | refine LeO.bind ?_ (fun _ => ?_)

/-! ### api_Session_48 (function 48): what it is -/
def api_Session_48.f (l0 : List (S42)) : Option ((List (S42))) := (some (([] : List (S42)) : List (S42))).bind fun y127 => (if y127.length + l0.length < 2513169434916 then (some (y127 ++ l0)) else (none))

/-! ### session_with_Take: function 38 -/
def session_with_Take_at.f (l0 : List S42) (a1 : Int) (a2 : Int) : Option (List S42) := if 0 ≤ a1 then (if a1 < (l0.length : Int) then some (l0.set a1.toNat ((fun x : S42 => (⟨x.f0, wrap64 (x.f1 + 1), true, (⟨#[]⟩ : ByteArray), x.f4, a2⟩ : S42)) (rd_T42 l0 a1))) else none) else none
def session_with_Take.f (a0_0 : Int) (l0_1 : List (S42)) (l0_2 : List (S85)) (a0_3 : Int) (a0_4 : Int) (a1 : Int) (a2 : Int) : Option (Int × (List (S42)) × (List (S85)) × Int × Int × Int) := (session_at.f a0_0 l0_1 l0_2 a0_3 a0_4 a1).bind fun t135 => (if t135 < 0 then (some (a0_0, l0_1, l0_2, a0_3, a0_4, 7)) else ((api_Session_48.f l0_1).bind fun t136 => (if 0 ≤ t135 then (if t135 < (t136.length : Int) then ((session_with_Take_at.f t136 t135 a2).bind fun t140 => (some (a0_0, t140, l0_2, a0_3, a0_4, 0))) else (none)) else (none))))
/-! ### session_with_Answer: function 38 -/
def session_with_Answer_at.f (l0 : List S42) (a1 : Int) (a2 : ByteArray) : Option (List S42) := if 0 ≤ a1 then (if a1 < (l0.length : Int) then some (l0.set a1.toNat ((fun x : S42 => (⟨x.f0, x.f1, false, a2, x.f4, x.f5⟩ : S42)) (rd_T42 l0 a1))) else none) else none
def session_with_Answer.f (a0_0 : Int) (l0_1 : List (S42)) (l0_2 : List (S85)) (a0_3 : Int) (a0_4 : Int) (a1 : Int) (a2 : ByteArray) : Option (Int × (List (S42)) × (List (S85)) × Int × Int × Int) := (session_at.f a0_0 l0_1 l0_2 a0_3 a0_4 a1).bind fun t143 => (if t143 < 0 then (some (a0_0, l0_1, l0_2, a0_3, a0_4, 7)) else ((api_Session_48.f l0_1).bind fun t144 => (if 0 ≤ t143 then (if t143 < (t144.length : Int) then ((session_with_Answer_at.f t144 t143 a2).bind fun t148 => (some (a0_0, t148, l0_2, a0_3, a0_4, 0))) else (none)) else (none))))
/-! ### session_with_Bind: function 38 -/
/-! ### api_Alarm_68 (function 68): what it is -/
def api_Alarm_68.f (l0 : List (S85)) : Option ((List (S85))) := (some (([] : List (S85)) : List (S85))).bind fun y157 => (if y157.length + l0.length < 8796093022208 then (some (y157 ++ l0)) else (none))

/-! ### alarm_Less (function 69): what it is -/
def alarm_Less.f (a0_0 : Int) (a0_1 : Int) (a1_0 : Int) (a1_1 : Int) : Option (Bool) := if a0_0 < a1_0 then (some true) else (if a0_0 = a1_0 then (some (decide (a0_1 < a1_1))) else (some false))

/-! ### alarm_Put (function 61): what it is -/
def alarm_Put.l0 : Nat → List (S85) → Int → Option ((List (S85)))
  | 0, _, _ => none
  | k + 1, x0, x5 => if x5 > 0 then (if 0 ≤ x5 then (if x5 < (x0.length : Int) then (if 0 ≤ (wrap64 (Int.tdiv (wrap64 (x5 - 1)) 2)) then (if (wrap64 (Int.tdiv (wrap64 (x5 - 1)) 2)) < (x0.length : Int) then ((alarm_Less.f ((rd_T85 x0 x5).f0) ((rd_T85 x0 x5).f1) ((rd_T85 x0 (wrap64 (Int.tdiv (wrap64 (x5 - 1)) 2))).f0) ((rd_T85 x0 (wrap64 (Int.tdiv (wrap64 (x5 - 1)) 2))).f1)).bind fun t177 => (if t177 = true then (alarm_Put.l0 k ((x0.set (x5 : Int).toNat (⟨(rd_T85 x0 (wrap64 (Int.tdiv (wrap64 (x5 - 1)) 2))).f0, (rd_T85 x0 (wrap64 (Int.tdiv (wrap64 (x5 - 1)) 2))).f1⟩ : S85)).set ((wrap64 (Int.tdiv (wrap64 (x5 - 1)) 2)) : Int).toNat (⟨(rd_T85 x0 x5).f0, (rd_T85 x0 x5).f1⟩ : S85)) (wrap64 (Int.tdiv (wrap64 (x5 - 1)) 2))) else (some x0))) else (none)) else (none)) else (none)) else (none)) else (some x0)
def alarm_Put.f (k : Nat) (l0 : List (S85)) (a1_0 : Int) (a1_1 : Int) : Option ((List (S85))) := (api_Alarm_68.f l0).bind fun t166 => ((some (([(⟨a1_0, a1_1⟩ : S85)] : List (S85)) : List (S85))).bind fun y169 => (if t166.length + y169.length < 8796093022208 then ((some (t166 ++ y169 : List (S85))).bind fun y172 => (alarm_Put.l0 k y172 (wrap64 ((y172.length : Int) - 1)))) else (none)))
theorem alarm_Put.mono_l : ∀ k, (∀ y0 y1, LeO (alarm_Put.l0 k y0 y1) (alarm_Put.l0 (k + 1) y0 y1))
  | 0 => fun _ _ r h => by simp [alarm_Put.l0] at h
  | k + 1 => by
    have ih0 := alarm_Put.mono_l k
    · intro y0 y1
      unfold alarm_Put.l0
      repeat' first
      | (with_reducible exact ih0 _ _)
      | (with_reducible exact LeO.refl _)
      | (with_reducible exact LeO.none _)
      | (with_reducible refine LeO.ite ?_ ?_)
      | (with_reducible refine LeO.bind ?_ (fun _ => ?_))
      | exact ih0 _ _
      | exact LeO.none _
      | refine LeO.ite ?_ ?_
      | refine LeO.bind ?_ (fun _ => ?_)
theorem alarm_Put.mono : ∀ a0 a1 a2 k, LeO (alarm_Put.f k a0 a1 a2) (alarm_Put.f (k + 1) a0 a1 a2) := by
  intro a0 a1 a2 k
  have ih0 := alarm_Put.mono_l k
  unfold alarm_Put.f
  repeat' first
      | (with_reducible exact ih0 _ _)
      | (with_reducible exact LeO.refl _)
      | (with_reducible exact LeO.none _)
      | (with_reducible refine LeO.ite ?_ ?_)
      | (with_reducible refine LeO.bind ?_ (fun _ => ?_))
      | exact ih0 _ _
      | exact LeO.none _
      | refine LeO.ite ?_ ?_
      | refine LeO.bind ?_ (fun _ => ?_)

/-! ### alarm_Drop (function 52): what it is -/
def alarm_Drop.l0 : Nat → Int → List (S85) → List (S85) → Int → Int → Option ((List (S85)))
  | 0, _, _, _, _, _ => none
  | k + 1, x1, x5, x8, x9, x10 => if x10 < x9 then (if 0 ≤ x10 then (if x10 < (x8.length : Int) then (if ((rd_T85 x8 x10).f1) = x1 then (alarm_Drop.l0 k x1 x5 x8 x9 (wrap64 (x10 + 1))) else ((alarm_Put.f k x5 ((rd_T85 x8 x10).f0) ((rd_T85 x8 x10).f1)).bind fun t184 => (alarm_Drop.l0 k x1 t184 x8 x9 (wrap64 (x10 + 1))))) else (none)) else (none)) else (some x5)
def alarm_Drop.f (k : Nat) (l0 : List (S85)) (a1 : Int) : Option ((List (S85))) := alarm_Drop.l0 k a1 ([] : List (S85)) l0 (l0.length : Int) 0
theorem alarm_Drop.mono_l : ∀ k, (∀ y0 y1 y2 y3 y4, LeO (alarm_Drop.l0 k y0 y1 y2 y3 y4) (alarm_Drop.l0 (k + 1) y0 y1 y2 y3 y4))
  | 0 => fun _ _ _ _ _ r h => by simp [alarm_Drop.l0] at h
  | k + 1 => by
    have ih0 := alarm_Drop.mono_l k
    · intro y0 y1 y2 y3 y4
      unfold alarm_Drop.l0
      repeat' first
      | (with_reducible exact ih0 _ _ _ _ _)
      | (with_reducible exact alarm_Put.mono _ _ _ _)
      | (with_reducible exact LeO.refl _)
      | (with_reducible exact LeO.none _)
      | (with_reducible refine LeO.ite ?_ ?_)
      | (with_reducible refine LeO.bind ?_ (fun _ => ?_))
      | exact ih0 _ _ _ _ _
      | exact alarm_Put.mono _ _ _ _
      | exact LeO.none _
      | refine LeO.ite ?_ ?_
      | refine LeO.bind ?_ (fun _ => ?_)
theorem alarm_Drop.mono : ∀ a0 a1 k, LeO (alarm_Drop.f k a0 a1) (alarm_Drop.f (k + 1) a0 a1) := by
  intro a0 a1 k
  have ih0 := alarm_Drop.mono_l k
  unfold alarm_Drop.f
  repeat' first
      | (with_reducible exact ih0 _ _ _ _ _)
      | (with_reducible exact alarm_Put.mono _ _ _ _)
      | (with_reducible exact LeO.refl _)
      | (with_reducible exact LeO.none _)
      | (with_reducible refine LeO.ite ?_ ?_)
      | (with_reducible refine LeO.bind ?_ (fun _ => ?_))
      | exact ih0 _ _ _ _ _
      | exact alarm_Put.mono _ _ _ _
      | exact LeO.none _
      | refine LeO.ite ?_ ?_
      | refine LeO.bind ?_ (fun _ => ?_)

/-! ### session_renewed (function 40): what it is -/
def session_renewed.f (k : Nat) (a0_0 : Int) (l0_1 : List (S42)) (l0_2 : List (S85)) (a0_3 : Int) (a0_4 : Int) (a1 : Int) : Option (Int × (List (S42)) × (List (S85)) × Int × Int) := (alarm_Drop.f k l0_2 a1).bind fun t189 => ((alarm_Put.f k t189 (IntKind.u64.wrap (a0_4 + (mn 20 (Go.bits .xor .u64 18446744073709551615 a0_4)))) a1).bind fun t192 => (some (a0_0, l0_1, t192, a0_3, a0_4)))
theorem session_renewed.mono : ∀ a0 a1 a2 a3 a4 a5 k, LeO (session_renewed.f k a0 a1 a2 a3 a4 a5) (session_renewed.f (k + 1) a0 a1 a2 a3 a4 a5) := by
  intro a0 a1 a2 a3 a4 a5 k
  unfold session_renewed.f
  repeat' first
      | (with_reducible exact alarm_Drop.mono _ _ _)
      | (with_reducible exact alarm_Put.mono _ _ _ _)
      | (with_reducible exact LeO.refl _)
      | (with_reducible exact LeO.none _)
      | (with_reducible refine LeO.ite ?_ ?_)
      | (with_reducible refine LeO.bind ?_ (fun _ => ?_))
      | exact alarm_Drop.mono _ _ _
      | exact alarm_Put.mono _ _ _ _
      | exact LeO.none _
      | refine LeO.ite ?_ ?_
      | refine LeO.bind ?_ (fun _ => ?_)

/-! ### session_Take (function 12): what it is -/
def session_Take.j0 : Nat → Int → Bool → Int → List (S42) → List (S85) → Int → Int → Int → Option (Int × (List (S42)) × (List (S85)) × Int × Int × Int)
  | 0, _, _, _, _, _, _, _, _ => none
  | k + 1, x1, x22, x196000, x196001, x196002, x196003, x196004, x197000 => if x22 = true then (some (x196000, x196001, x196002, x196003, x196004, 4)) else ((session_with_Take.f x196000 x196001 x196002 x196003 x196004 x1 x197000).bind fun bt206 => (if bt206.2.2.2.2.2 = 0 then ((session_renewed.f k bt206.1 bt206.2.1 bt206.2.2.1 bt206.2.2.2.1 bt206.2.2.2.2.1 x1).bind fun bt216 => (some (bt216.1, bt216.2.1, bt216.2.2.1, bt216.2.2.2.1, bt216.2.2.2.2, 0))) else (some (bt206.1, bt206.2.1, bt206.2.2.1, bt206.2.2.2.1, bt206.2.2.2.2.1, bt206.2.2.2.2.2))))
def session_Take.f (k : Nat) (a0_0 : Int) (l0_1 : List (S42)) (l0_2 : List (S85)) (a0_3 : Int) (a0_4 : Int) (a1 : Int) (a2 : Int) : Option (Int × (List (S42)) × (List (S85)) × Int × Int × Int) := (session_Find.f a0_0 l0_1 l0_2 a0_3 a0_4 a1).bind fun bt198 => (if bt198.2.2.2.2.2.2 = true then (session_Take.j0 k a1 (decide (bt198.2.1 ≥ 1073741824)) a0_0 l0_1 l0_2 a0_3 a0_4 a2) else (session_Take.j0 k a1 false a0_0 l0_1 l0_2 a0_3 a0_4 a2))
theorem session_Take.mono_l : ∀ k, (∀ y0 y1 y2 y3 y4 y5 y6 y7, LeO (session_Take.j0 k y0 y1 y2 y3 y4 y5 y6 y7) (session_Take.j0 (k + 1) y0 y1 y2 y3 y4 y5 y6 y7))
  | 0 => fun _ _ _ _ _ _ _ _ r h => by simp [session_Take.j0] at h
  | k + 1 => by
    have ih0 := session_Take.mono_l k
    · intro y0 y1 y2 y3 y4 y5 y6 y7
      unfold session_Take.j0
      repeat' first
      | (with_reducible exact ih0 _ _ _ _ _ _ _ _)
      | (with_reducible exact session_renewed.mono _ _ _ _ _ _ _)
      | (with_reducible exact LeO.refl _)
      | (with_reducible exact LeO.none _)
      | (with_reducible refine LeO.ite ?_ ?_)
      | (with_reducible refine LeO.bind ?_ (fun _ => ?_))
      | exact ih0 _ _ _ _ _ _ _ _
      | exact session_renewed.mono _ _ _ _ _ _ _
      | exact LeO.none _
      | refine LeO.ite ?_ ?_
      | refine LeO.bind ?_ (fun _ => ?_)
theorem session_Take.mono : ∀ a0 a1 a2 a3 a4 a5 a6 k, LeO (session_Take.f k a0 a1 a2 a3 a4 a5 a6) (session_Take.f (k + 1) a0 a1 a2 a3 a4 a5 a6) := by
  intro a0 a1 a2 a3 a4 a5 a6 k
  have ih0 := session_Take.mono_l k
  unfold session_Take.f
  repeat' first
      | (with_reducible exact ih0 _ _ _ _ _ _ _ _)
      | (with_reducible exact session_renewed.mono _ _ _ _ _ _ _)
      | (with_reducible exact LeO.refl _)
      | (with_reducible exact LeO.none _)
      | (with_reducible refine LeO.ite ?_ ?_)
      | (with_reducible refine LeO.bind ?_ (fun _ => ?_))
      | exact ih0 _ _ _ _ _ _ _ _
      | exact session_renewed.mono _ _ _ _ _ _ _
      | exact LeO.none _
      | refine LeO.ite ?_ ?_
      | refine LeO.bind ?_ (fun _ => ?_)

/-! ### session_Answer (function 13): what it is -/
def session_Answer.f (a0_0 : Int) (l0_1 : List (S42)) (l0_2 : List (S85)) (a0_3 : Int) (a0_4 : Int) (a1 : Int) (a2 : ByteArray) : Option (Int × (List (S42)) × (List (S85)) × Int × Int × Int) := (session_with_Answer.f a0_0 l0_1 l0_2 a0_3 a0_4 a1 a2).bind fun bt228 => (some (bt228.1, bt228.2.1, bt228.2.2.1, bt228.2.2.2.1, bt228.2.2.2.2.1, bt228.2.2.2.2.2))

/-! ### session_Open (function 22): what it is -/
def session_Open.f (k : Nat) (a0_0 : Int) (l0_1 : List (S42)) (l0_2 : List (S85)) (a0_3 : Int) (a0_4 : Int) (a1 : Int) : Option (Int × (List (S42)) × (List (S85)) × Int × Int × Int × Int) := if (l0_1.length : Int) ≥ 6 then (some (a0_0, l0_1, l0_2, a0_3, a0_4, 0, 11)) else (if a0_3 > 1073741824 then (some (a0_0, l0_1, l0_2, a0_3, a0_4, 0, 4)) else ((api_Session_48.f l0_1).bind fun t240 => (if t240.length < 2513169434916 then ((session_renewed.f k a0_0 (t240 ++ [(⟨a0_3, 0, false, (⟨#[]⟩ : ByteArray), 0, a1⟩ : S42)]) l0_2 (wrap64 (a0_3 + 1)) a0_4 a0_3).bind fun bt246 => (some (bt246.1, bt246.2.1, bt246.2.2.1, bt246.2.2.2.1, bt246.2.2.2.2, a0_3, 0))) else (none))))
theorem session_Open.mono : ∀ a0 a1 a2 a3 a4 a5 k, LeO (session_Open.f k a0 a1 a2 a3 a4 a5) (session_Open.f (k + 1) a0 a1 a2 a3 a4 a5) := by
  intro a0 a1 a2 a3 a4 a5 k
  unfold session_Open.f
  repeat' first
      | (with_reducible exact session_renewed.mono _ _ _ _ _ _ _)
      | (with_reducible exact LeO.refl _)
      | (with_reducible exact LeO.none _)
      | (with_reducible refine LeO.ite ?_ ?_)
      | (with_reducible refine LeO.bind ?_ (fun _ => ?_))
      | exact session_renewed.mono _ _ _ _ _ _ _
      | exact LeO.none _
      | refine LeO.ite ?_ ?_
      | refine LeO.bind ?_ (fun _ => ?_)

/-! ### session_New (function 36): what it is -/
def session_New.f (a0 : Int) : Option (Int × (List (S42)) × (List (S85)) × Int × Int) := some (a0, ([] : List (S42)), ([] : List (S85)), 1, 0)

/-! ### stanchionlaw17_shown (function 10): what it is -/
def stanchionlaw17_shown.f (k : Nat)  : Option (Bool) := (session_New.f 7).bind fun bt256 => ((session_Open.f k bt256.1 bt256.2.1 bt256.2.2.1 bt256.2.2.2.1 bt256.2.2.2.2 0).bind fun bt265 => ((session_Judge.f k bt265.1 bt265.2.1 bt265.2.2.1 bt265.2.2.2.1 bt265.2.2.2.2.1 0 7 1 1 (⟨#[]⟩ : ByteArray) 0 (⟨#[]⟩ : ByteArray) (⟨#[]⟩ : ByteArray) (⟨#[]⟩ : ByteArray) (⟨#[]⟩ : ByteArray) 0).bind fun bt277 => ((session_Take.f k bt265.1 bt265.2.1 bt265.2.2.1 bt265.2.2.2.1 bt265.2.2.2.2.1 1 0).bind fun bt279 => ((session_Answer.f bt279.1 bt279.2.1 bt279.2.2.1 bt279.2.2.2.1 bt279.2.2.2.2.1 1 (⟨#[120]⟩ : ByteArray)).bind fun bt289 => ((session_Judge.f k bt289.1 bt289.2.1 bt289.2.2.1 bt289.2.2.2.1 bt289.2.2.2.2.1 0 7 1 1 (⟨#[]⟩ : ByteArray) 0 (⟨#[]⟩ : ByteArray) (⟨#[]⟩ : ByteArray) (⟨#[]⟩ : ByteArray) (⟨#[]⟩ : ByteArray) 0).bind fun bt299 => ((session_Judge.f k bt289.1 bt289.2.1 bt289.2.2.1 bt289.2.2.2.1 bt289.2.2.2.2.1 0 7 1 3 (⟨#[]⟩ : ByteArray) 0 (⟨#[]⟩ : ByteArray) (⟨#[]⟩ : ByteArray) (⟨#[]⟩ : ByteArray) (⟨#[]⟩ : ByteArray) 0).bind fun bt301 => (if bt265.2.2.2.2.2.1 = 1 then (if bt265.2.2.2.2.2.2 = 0 then (if bt277.2 = 0 then (if bt279.2.2.2.2.2 = 0 then (if bt289.2.2.2.2.2 = 0 then (if bt299.1.toList = ([120] : List UInt8) then (if bt299.2 = 8 then (some (bt301.2 == 15)) else (some false)) else (some false)) else (some false)) else (some false)) else (some false)) else (some false)) else (some false))))))))
theorem stanchionlaw17_shown.mono : ∀ k, LeO (stanchionlaw17_shown.f k ) (stanchionlaw17_shown.f (k + 1) ) := by
  intro  k
  unfold stanchionlaw17_shown.f
  repeat' first
      | (with_reducible exact session_Judge.mono _ _ _ _ _ _ _ _ _ _ _ _ _ _ _ _ _)
      | (with_reducible exact session_Open.mono _ _ _ _ _ _ _)
      | (with_reducible exact session_Take.mono _ _ _ _ _ _ _ _)
      | (with_reducible exact LeO.refl _)
      | (with_reducible exact LeO.none _)
      | (with_reducible refine LeO.ite ?_ ?_)
      | (with_reducible refine LeO.bind ?_ (fun _ => ?_))
      | exact session_Judge.mono _ _ _ _ _ _ _ _ _ _ _ _ _ _ _ _ _
      | exact session_Open.mono _ _ _ _ _ _ _
      | exact session_Take.mono _ _ _ _ _ _ _ _
      | exact LeO.none _
      | refine LeO.ite ?_ ?_
      | refine LeO.bind ?_ (fun _ => ?_)

/-! ### stanchionlaw17_SessionOnce (function 3): what it is -/
/-! ### stanchionlaw17_SessionStale (function 4): what it is -/
/-! ### stanchionlaw17_few (function 15): what it is -/
/-! ### stanchionref17_at (function 55): what it is -/
/-! ### stanchionref17_Find (function 32): what it is -/
/-! ### stanchionref17_Judge (function 16): what it is -/
/-! ### stanchionref15_Less (function 53): what it is -/
/-! ### stanchionref15_swap (function 70): what it is -/
/-! ### stanchionref15_Put (function 63): what it is -/
/-! ### stanchionref15_Drop (function 57): what it is -/
/-! ### stanchionref17_renewed (function 44): what it is -/
/-! ### stanchionref17_put (function 45): what it is -/
/-! ### stanchionref17_Take (function 17): what it is -/
/-! ### stanchionref17_Answer (function 18): what it is -/
/-! ### session_Bind (function 19): what it is -/
/-! ### stanchionref17_Bind (function 20): what it is -/
/-! ### stanchionref17_Sessions (function 35): what it is -/
/-! ### stanchionref15_Same (function 47): what it is -/
/-! ### stanchionref17_Same (function 21): what it is -/
/-! ### stanchionlaw17_SessionTurns (function 5): what it is -/
/-! ### api_Session_49 (function 49): what it is -/
def api_Session_49.l0 : Nat → List (S42) → List (S42) → Int → Int → Option (Bool)
  | 0, _, _, _, _ => none
  | k + 1, x0, x1, x12, x13 => if x13 < x12 then (if 0 ≤ x13 then (if x13 < (x0.length : Int) then (if x13 < (x1.length : Int) then (if (!(((rd_T42 x0 x13).f0) == ((rd_T42 x1 x13).f0)) || (!(((rd_T42 x0 x13).f1) == ((rd_T42 x1 x13).f1)) || (!(((rd_T42 x0 x13).f2) == ((rd_T42 x1 x13).f2)) || (!((((rd_T42 x0 x13).f3).toList) == (((rd_T42 x1 x13).f3).toList)) || (!(((rd_T42 x0 x13).f4) == ((rd_T42 x1 x13).f4)) || (!(((rd_T42 x0 x13).f5) == ((rd_T42 x1 x13).f5)))))))) = true then (some false) else (api_Session_49.l0 k x0 x1 x12 (wrap64 (x13 + 1)))) else (none)) else (none)) else (none)) else (some true)
def api_Session_49.f (k : Nat) (l0 : List (S42)) (l1 : List (S42)) : Option (Bool) := if (l0.length : Int) = (l1.length : Int) then (api_Session_49.l0 k l0 l1 (l0.length : Int) 0) else (some false)
/-! ### api_Alarm_50 (function 50): what it is -/
def api_Alarm_50.l0 : Nat → List (S85) → List (S85) → Int → Int → Option (Bool)
  | 0, _, _, _, _ => none
  | k + 1, x0, x1, x12, x13 => if x13 < x12 then (if 0 ≤ x13 then (if x13 < (x0.length : Int) then (if x13 < (x1.length : Int) then (if (!(((rd_T85 x0 x13).f0) == ((rd_T85 x1 x13).f0)) || (!(((rd_T85 x0 x13).f1) == ((rd_T85 x1 x13).f1)))) = true then (some false) else (api_Alarm_50.l0 k x0 x1 x12 (wrap64 (x13 + 1)))) else (none)) else (none)) else (none)) else (some true)
def api_Alarm_50.f (k : Nat) (l0 : List (S85)) (l1 : List (S85)) : Option (Bool) := if (l0.length : Int) = (l1.length : Int) then (api_Alarm_50.l0 k l0 l1 (l0.length : Int) 0) else (some false)
/-! ### session_Same (function 23): what it is -/
def session_Same.f (k : Nat) (a0_0 : Int) (l0_1 : List (S42)) (l0_2 : List (S85)) (a0_3 : Int) (a0_4 : Int) (a1_0 : Int) (l1_1 : List (S42)) (l1_2 : List (S85)) (a1_3 : Int) (a1_4 : Int) : Option (Bool) := if a0_0 = a1_0 then ((api_Session_49.f k l0_1 l1_1).bind fun t607 => (if t607 = true then ((api_Alarm_50.f k l0_2 l1_2).bind fun t608 => (if t608 = true then (if a0_3 = a1_3 then (some (a0_4 == a1_4)) else (some false)) else (some false))) else (some false))) else (some false)
/-! ### stanchionlaw17_SessionNew (function 6): what it is -/
def stanchionlaw17_SessionNew.f (k : Nat) (a0_0 : Int) (l0_1 : List (S42)) (l0_2 : List (S85)) (a0_3 : Int) (a0_4 : Int) (a1 : Int) (a2 : Int) : Option (Bool) := (stanchionlaw17_shown.f k).bind fun t610 => ((session_Open.f k a0_0 l0_1 l0_2 a0_3 a0_4 a1).bind fun bt611 => (if bt611.2.2.2.2.2.2 = 0 then ((session_Find.f a0_0 l0_1 l0_2 a0_3 a0_4 a2).bind fun bt624 => ((session_Find.f bt611.1 bt611.2.1 bt611.2.2.1 bt611.2.2.2.1 bt611.2.2.2.2.1 a2).bind fun bt632 => (if (bt611.2.1.length : Int) = (wrap64 ((l0_1.length : Int) + 1)) then (if 0 ≤ (l0_1.length : Int) then (if (l0_1.length : Int) < (bt611.2.1.length : Int) then (if (!(((rd_T42 bt611.2.1 (l0_1.length : Int)).f0) == bt611.2.2.2.2.2.1) || (!(((rd_T42 bt611.2.1 (l0_1.length : Int)).f1) == 0) || (((rd_T42 bt611.2.1 (l0_1.length : Int)).f2) || (!((((rd_T42 bt611.2.1 (l0_1.length : Int)).f3).toList) == ([] : List UInt8)) || (!(((rd_T42 bt611.2.1 (l0_1.length : Int)).f4) == 0) || (!(((rd_T42 bt611.2.1 (l0_1.length : Int)).f5) == a1))))))) = true then (some false) else (if bt611.2.2.2.1 = (wrap64 (a0_3 + 1)) then (if bt611.2.2.2.2.2.1 = a0_3 then (if t610 = true then (if a2 = bt611.2.2.2.2.2.1 then (some true) else (if (bt624.1 == bt632.1 && (bt624.2.1 == bt632.2.1 && (bt624.2.2.1 == bt632.2.2.1 && (bt624.2.2.2.1.toList == bt632.2.2.2.1.toList && (bt624.2.2.2.2.1 == bt632.2.2.2.2.1 && (bt624.2.2.2.2.2.1 == bt632.2.2.2.2.2.1)))))) = true then (some (bt624.2.2.2.2.2.2 == bt632.2.2.2.2.2.2)) else (some false))) else (some false)) else (some false)) else (some false))) else (none)) else (none)) else (some false)))) else (if t610 = true then (if bt611.2.2.2.2.2.1 = 0 then ((session_Same.f k a0_0 l0_1 l0_2 a0_3 a0_4 bt611.1 bt611.2.1 bt611.2.2.1 bt611.2.2.2.1 bt611.2.2.2.2.1).bind fun t623 => (some t623)) else (some false)) else (some false))))
/-! ### session_without: function 51 -/
/-! ### session_Close (function 24): what it is -/
/-! ### stanchionlaw17_SessionApart (function 7): what it is -/
end Go.Proofs.Ytnpmjboofmdflaa.PB
