-- Made by a program of this workplace out of the translation (wip/tools in the repo). Not trusted: Lean checks it.
import Derived.Test.YtnpmjboofmdflaaPAx0
import Derived.Test.YtnpmjboofmdflaaSq
import Derived.Test.YtnpmjboofmdflaaTq
namespace Go.Proofs.Ytnpmjboofmdflaa.PA
open Go.RowKit Go.Proofs.YtnpmjboofmdflaaW.PrintWords Go.Proofs.YtnpmjboofmdflaaW.PrintLast Go.Proofs.YtnpmjboofmdflaaW.PrintMore
attribute [local go_sem] max2_int min2_int max_two min_two max_three min_three max_four min_four   -- for this text's walks alone
set_option linter.unusedVariables false
set_option linter.unusedSimpArgs false

/-! ### api_Session_42 (function 42): what it is -/
def api_Session_42.f (l0 : List (S42)) (a1 : Int) : Option (Int × Int × Bool × ByteArray × Int × Int × Bool) := if a1 < 0 then (some (0, 0, false, (⟨#[]⟩ : ByteArray), 0, 0, false)) else (if 0 ≤ a1 then (if a1 < (l0.length : Int) then (some ((rd_T42 l0 a1).f0, (rd_T42 l0 a1).f1, (rd_T42 l0 a1).f2, (rd_T42 l0 a1).f3, (rd_T42 l0 a1).f4, (rd_T42 l0 a1).f5, true)) else (none)) else (none))

/-! ### api_Session_59: function 59 -/
def ixOf {α : Type} (p : α → Bool) (l : List α) : Int := if l.findIdx p < l.length then ((l.findIdx p : Nat) : Int) else -1
theorem ixOf_hit {α : Type} (p : α → Bool) (l : List α) (d : α) (k : Nat) (h : k < l.length) (hk : p (l.getD k d) = true) (hn : ∀ j, j < k → p (l.getD j d) = false) : ixOf p l = (k : Int) := by
 have e : l.findIdx p = k := by
  rw [List.findIdx_eq h]
  refine ⟨by rw [List.getD_eq_getElem?_getD, List.getElem?_eq_getElem h] at hk; exact hk, fun j hj => ?_⟩
  have := hn j hj
  rw [List.getD_eq_getElem?_getD, List.getElem?_eq_getElem (by omega)] at this
  exact this
 unfold ixOf
 rw [e, if_pos h]
theorem ixOf_miss {α : Type} (p : α → Bool) (l : List α) (d : α) (hn : ∀ j, j < l.length → p (l.getD j d) = false) : ixOf p l = -1 := by
 unfold ixOf
 rw [if_neg]
 intro h
 have h1 := List.findIdx_getElem (w := h) (p := p) (xs := l)
 have h2 := hn _ h
 rw [List.getD_eq_getElem?_getD, List.getElem?_eq_getElem h] at h2
 have h3 : p l[l.findIdx p] = false := h2
 rw [h3] at h1
 cases h1
theorem ixOf_cases {α : Type} (p : α → Bool) (l : List α) : ixOf p l = -1 ∨ ∃ i : Nat, i < l.length ∧ ixOf p l = (i : Int) := by
 unfold ixOf
 split
 ·exact .inr ⟨_, by assumption, rfl⟩
 ·exact .inl rfl

/-! ### session_at: function 43 -/
def session_at_ix.f (l0 : List (S42)) (a1 : Int) : Option (Int) := some (ixOf (fun x => x.f0 == a1) l0)
def session_at.f (a0_0 : Int) (l0_1 : List (S42)) (l0_2 : List (S85)) (a0_3 : Int) (a0_4 : Int) (a1 : Int) : Option (Int) := (session_at_ix.f l0_1 a1).bind fun t106 => (some t106)

/-! ### session_Find (function 14): what it is -/
def session_Find.f (a0_0 : Int) (l0_1 : List (S42)) (l0_2 : List (S85)) (a0_3 : Int) (a0_4 : Int) (a1 : Int) : Option (Int × Int × Bool × ByteArray × Int × Int × Bool) := (session_at.f a0_0 l0_1 l0_2 a0_3 a0_4 a1).bind fun t109 => ((api_Session_42.f l0_1 t109).bind fun bt110 => (some (bt110.1, bt110.2.1, bt110.2.2.1, bt110.2.2.2.1, bt110.2.2.2.2.1, bt110.2.2.2.2.2.1, bt110.2.2.2.2.2.2)))

/-! ### session_Judge (function 11): what it is -/
mutual
def session_Judge.j0 : Nat → Bool → Int → Int → Int → Int → ByteArray → Int → ByteArray → ByteArray → ByteArray → ByteArray → Int → Int → Int → Bool → ByteArray → Int → Int → Option (ByteArray × Int)
  | 0, _, _, _, _, _, _, _, _, _, _, _, _, _, _, _, _, _, _ => none
  | k + 1, x28, x119000, x119001, x119002, x119003, x119004, x119005, x119006, x119007, x119008, x119009, x119010, x127000, x127001, x127002, x127003, x127004, x127005 => if x28 = true then (some ((⟨#[]⟩ : ByteArray), 12)) else (if x119003 = x127001 then (some (x127003, 8)) else (if x119003 = (wrap64 (x127001 + 1)) then (session_Judge.j1 k x127002 x119000 x119001 x119002 x119003 x119004 x119005 x119006 x119007 x119008 x119009 x119010 x127000 x127001 x127002 x127003 x127004 x127005) else (session_Judge.j1 k false x119000 x119001 x119002 x119003 x119004 x119005 x119006 x119007 x119008 x119009 x119010 x127000 x127001 x127002 x127003 x127004 x127005)))
def session_Judge.j1 : Nat → Bool → Int → Int → Int → Int → ByteArray → Int → ByteArray → ByteArray → ByteArray → ByteArray → Int → Int → Int → Bool → ByteArray → Int → Int → Option (ByteArray × Int)
  | 0, _, _, _, _, _, _, _, _, _, _, _, _, _, _, _, _, _, _ => none
  | k + 1, x44, x119000, x119001, x119002, x119003, x119004, x119005, x119006, x119007, x119008, x119009, x119010, x127000, x127001, x127002, x127003, x127004, x127005 => if x44 = true then (some ((⟨#[]⟩ : ByteArray), 11)) else (if x119003 < x127001 then (some ((⟨#[]⟩ : ByteArray), 15)) else (if x119003 = (wrap64 (x127001 + 1)) then (some ((⟨#[]⟩ : ByteArray), 0)) else (some ((⟨#[]⟩ : ByteArray), 15))))
end
def session_Judge.f (k : Nat) (a0_0 : Int) (l0_1 : List (S42)) (l0_2 : List (S85)) (a0_3 : Int) (a0_4 : Int) (a1_0 : Int) (a1_1 : Int) (a1_2 : Int) (a1_3 : Int) (a1_4 : ByteArray) (a1_5 : Int) (a1_6 : ByteArray) (a1_7 : ByteArray) (a1_8 : ByteArray) (a1_9 : ByteArray) (a1_10 : Int) : Option (ByteArray × Int) := (session_Find.f a0_0 l0_1 l0_2 a0_3 a0_4 a1_2).bind fun bt119 => (if a1_1 = a0_0 then (if bt119.2.2.2.2.2.2 = true then (if a1_3 < 1 then (some ((⟨#[]⟩ : ByteArray), 15)) else (if a1_3 = bt119.2.1 then (session_Judge.j0 k bt119.2.2.1 a1_0 a1_1 a1_2 a1_3 a1_4 a1_5 a1_6 a1_7 a1_8 a1_9 a1_10 bt119.1 bt119.2.1 bt119.2.2.1 bt119.2.2.2.1 bt119.2.2.2.2.1 bt119.2.2.2.2.2.1) else (session_Judge.j0 k false a1_0 a1_1 a1_2 a1_3 a1_4 a1_5 a1_6 a1_7 a1_8 a1_9 a1_10 bt119.1 bt119.2.1 bt119.2.2.1 bt119.2.2.2.1 bt119.2.2.2.2.1 bt119.2.2.2.2.2.1))) else (some ((⟨#[]⟩ : ByteArray), 7))) else (some ((⟨#[]⟩ : ByteArray), 14)))
theorem session_Judge.mono_l : ∀ k, (∀ y0 y1 y2 y3 y4 y5 y6 y7 y8 y9 y10 y11 y12 y13 y14 y15 y16 y17, LeO (session_Judge.j0 k y0 y1 y2 y3 y4 y5 y6 y7 y8 y9 y10 y11 y12 y13 y14 y15 y16 y17) (session_Judge.j0 (k + 1) y0 y1 y2 y3 y4 y5 y6 y7 y8 y9 y10 y11 y12 y13 y14 y15 y16 y17)) ∧ (∀ y0 y1 y2 y3 y4 y5 y6 y7 y8 y9 y10 y11 y12 y13 y14 y15 y16 y17, LeO (session_Judge.j1 k y0 y1 y2 y3 y4 y5 y6 y7 y8 y9 y10 y11 y12 y13 y14 y15 y16 y17) (session_Judge.j1 (k + 1) y0 y1 y2 y3 y4 y5 y6 y7 y8 y9 y10 y11 y12 y13 y14 y15 y16 y17))
 | 0 => ⟨fun _ _ _ _ _ _ _ _ _ _ _ _ _ _ _ _ _ _ r h => by simp [session_Judge.j0] at h, fun _ _ _ _ _ _ _ _ _ _ _ _ _ _ _ _ _ _ r h => by simp [session_Judge.j1] at h⟩
 | k + 1 => by
  obtain ⟨ih0, ih1⟩ := session_Judge.mono_l k
  refine ⟨?_, ?_⟩
  ·intro y0 y1 y2 y3 y4 y5 y6 y7 y8 y9 y10 y11 y12 y13 y14 y15 y16 y17
   unfold session_Judge.j0
   repeat' first
   | (with_reducible exact ih0 _ _ _ _ _ _ _ _ _ _ _ _ _ _ _ _ _ _)
   | (with_reducible exact ih1 _ _ _ _ _ _ _ _ _ _ _ _ _ _ _ _ _ _)
   | (with_reducible exact LeO.refl _)
   | (with_reducible exact LeO.none _)
   | (with_reducible refine LeO.ite ?_ ?_)
   | (with_reducible refine LeO.bind ?_ (fun _ => ?_))
  ·intro y0 y1 y2 y3 y4 y5 y6 y7 y8 y9 y10 y11 y12 y13 y14 y15 y16 y17
   unfold session_Judge.j1
   repeat' first
   | (with_reducible exact ih0 _ _ _ _ _ _ _ _ _ _ _ _ _ _ _ _ _ _)
   | (with_reducible exact ih1 _ _ _ _ _ _ _ _ _ _ _ _ _ _ _ _ _ _)
   | (with_reducible exact LeO.refl _)
   | (with_reducible exact LeO.none _)
   | (with_reducible refine LeO.ite ?_ ?_)
   | (with_reducible refine LeO.bind ?_ (fun _ => ?_))
theorem session_Judge.mono : ∀ a0 a1 a2 a3 a4 a5 a6 a7 a8 a9 a10 a11 a12 a13 a14 a15 k, LeO (session_Judge.f k a0 a1 a2 a3 a4 a5 a6 a7 a8 a9 a10 a11 a12 a13 a14 a15) (session_Judge.f (k + 1) a0 a1 a2 a3 a4 a5 a6 a7 a8 a9 a10 a11 a12 a13 a14 a15) := by
 intro a0 a1 a2 a3 a4 a5 a6 a7 a8 a9 a10 a11 a12 a13 a14 a15 k
 obtain ⟨ih0, ih1⟩ := session_Judge.mono_l k
 unfold session_Judge.f
 repeat' first
   | (with_reducible exact ih0 _ _ _ _ _ _ _ _ _ _ _ _ _ _ _ _ _ _)
   | (with_reducible exact ih1 _ _ _ _ _ _ _ _ _ _ _ _ _ _ _ _ _ _)
   | (with_reducible exact LeO.refl _)
   | (with_reducible exact LeO.none _)
   | (with_reducible refine LeO.ite ?_ ?_)
   | (with_reducible refine LeO.bind ?_ (fun _ => ?_))

/-! ### api_Session_48 (function 48): what it is -/
def api_Session_48.f (l0 : List (S42)) : Option ((List (S42))) := (some (([] : List (S42)) : List (S42))).bind fun y127 => (if y127.length + l0.length < 2513169434916 then (some (y127 ++ l0)) else (none))

/-! ### session_with_Take: function 38 -/
def session_with_Take_at.f (l0 : List S42) (a1 : Int) (a2 : Int) : Option (List S42) := if 0 ≤ a1 then (if a1 < (l0.length : Int) then some (l0.set a1.toNat ((fun x : S42 => (⟨x.f0, wrap64 (x.f1 + 1), true, (⟨#[]⟩ : ByteArray), x.f4, a2⟩ : S42)) (rd_T42 l0 a1))) else none) else none
def session_with_Take.f (a0_0 : Int) (l0_1 : List (S42)) (l0_2 : List (S85)) (a0_3 : Int) (a0_4 : Int) (a1 : Int) (a2 : Int) : Option (Int × (List (S42)) × (List (S85)) × Int × Int × Int) := (session_at.f a0_0 l0_1 l0_2 a0_3 a0_4 a1).bind fun t135 => (if t135 < 0 then (some (a0_0, l0_1, l0_2, a0_3, a0_4, 7)) else ((api_Session_48.f l0_1).bind fun t136 => (if 0 ≤ t135 then (if t135 < (t136.length : Int) then ((session_with_Take_at.f t136 t135 a2).bind fun t140 => (some (a0_0, t140, l0_2, a0_3, a0_4, 0))) else (none)) else (none))))
/-! ### session_with_Answer: function 38 -/
def session_with_Answer_at.f (l0 : List S42) (a1 : Int) (a2 : ByteArray) : Option (List S42) := if 0 ≤ a1 then (if a1 < (l0.length : Int) then some (l0.set a1.toNat ((fun x : S42 => (⟨x.f0, x.f1, false, a2, x.f4, x.f5⟩ : S42)) (rd_T42 l0 a1))) else none) else none
def session_with_Answer.f (a0_0 : Int) (l0_1 : List (S42)) (l0_2 : List (S85)) (a0_3 : Int) (a0_4 : Int) (a1 : Int) (a2 : ByteArray) : Option (Int × (List (S42)) × (List (S85)) × Int × Int × Int) := (session_at.f a0_0 l0_1 l0_2 a0_3 a0_4 a1).bind fun t143 => (if t143 < 0 then (some (a0_0, l0_1, l0_2, a0_3, a0_4, 7)) else ((api_Session_48.f l0_1).bind fun t144 => (if 0 ≤ t143 then (if t143 < (t144.length : Int) then ((session_with_Answer_at.f t144 t143 a2).bind fun t148 => (some (a0_0, t148, l0_2, a0_3, a0_4, 0))) else (none)) else (none))))
/-! ### session_with_Bind: function 38 -/
/-! ### api_Alarm_68 (function 68): what it is -/
def api_Alarm_68.f (l0 : List (S85)) : Option ((List (S85))) := (some (([] : List (S85)) : List (S85))).bind fun y157 => (if y157.length + l0.length < 8796093022208 then (some (y157 ++ l0)) else (none))

/-! ### alarm_Less (function 69): what it is -/
def alarm_Less.f (a0_0 : Int) (a0_1 : Int) (a1_0 : Int) (a1_1 : Int) : Option (Bool) := if a0_0 < a1_0 then (some true) else (if a0_0 = a1_0 then (some (decide (a0_1 < a1_1))) else (some false))

/-! ### alarm_Put (function 61): what it is -/
def alarm_Put.l0 : Nat → List (S85) → Int → Option ((List (S85)))
  | 0, _, _ => none
  | k + 1, x0, x5 => if x5 > 0 then (if 0 ≤ x5 then (if x5 < (x0.length : Int) then (if 0 ≤ (wrap64 (Int.tdiv (wrap64 (x5 - 1)) 2)) then (if (wrap64 (Int.tdiv (wrap64 (x5 - 1)) 2)) < (x0.length : Int) then ((alarm_Less.f ((rd_T85 x0 x5).f0) ((rd_T85 x0 x5).f1) ((rd_T85 x0 (wrap64 (Int.tdiv (wrap64 (x5 - 1)) 2))).f0) ((rd_T85 x0 (wrap64 (Int.tdiv (wrap64 (x5 - 1)) 2))).f1)).bind fun t177 => (if t177 = true then (alarm_Put.l0 k ((x0.set (x5 : Int).toNat (⟨(rd_T85 x0 (wrap64 (Int.tdiv (wrap64 (x5 - 1)) 2))).f0, (rd_T85 x0 (wrap64 (Int.tdiv (wrap64 (x5 - 1)) 2))).f1⟩ : S85)).set ((wrap64 (Int.tdiv (wrap64 (x5 - 1)) 2)) : Int).toNat (⟨(rd_T85 x0 x5).f0, (rd_T85 x0 x5).f1⟩ : S85)) (wrap64 (Int.tdiv (wrap64 (x5 - 1)) 2))) else (some x0))) else (none)) else (none)) else (none)) else (none)) else (some x0)
def alarm_Put.f (k : Nat) (l0 : List (S85)) (a1_0 : Int) (a1_1 : Int) : Option ((List (S85))) := (api_Alarm_68.f l0).bind fun t166 => ((some (([(⟨a1_0, a1_1⟩ : S85)] : List (S85)) : List (S85))).bind fun y169 => (if t166.length + y169.length < 8796093022208 then ((some (t166 ++ y169 : List (S85))).bind fun y172 => (alarm_Put.l0 k y172 (wrap64 ((y172.length : Int) - 1)))) else (none)))
theorem alarm_Put.mono_l : ∀ k, (∀ y0 y1, LeO (alarm_Put.l0 k y0 y1) (alarm_Put.l0 (k + 1) y0 y1))
 | 0 => fun _ _ r h => by simp [alarm_Put.l0] at h
 | k + 1 => by
  have ih0 := alarm_Put.mono_l k
  ·intro y0 y1
   unfold alarm_Put.l0
   repeat' first
   | (with_reducible exact ih0 _ _)
   | (with_reducible exact LeO.refl _)
   | (with_reducible exact LeO.none _)
   | (with_reducible refine LeO.ite ?_ ?_)
   | (with_reducible refine LeO.bind ?_ (fun _ => ?_))
theorem alarm_Put.mono : ∀ a0 a1 a2 k, LeO (alarm_Put.f k a0 a1 a2) (alarm_Put.f (k + 1) a0 a1 a2) := by
 intro a0 a1 a2 k
 have ih0 := alarm_Put.mono_l k
 unfold alarm_Put.f
 repeat' first
   | (with_reducible exact ih0 _ _)
   | (with_reducible exact LeO.refl _)
   | (with_reducible exact LeO.none _)
   | (with_reducible refine LeO.ite ?_ ?_)
   | (with_reducible refine LeO.bind ?_ (fun _ => ?_))

/-! ### alarm_Drop (function 52): what it is -/
def alarm_Drop.l0 : Nat → Int → List (S85) → List (S85) → Int → Int → Option ((List (S85)))
  | 0, _, _, _, _, _ => none
  | k + 1, x1, x5, x8, x9, x10 => if x10 < x9 then (if 0 ≤ x10 then (if x10 < (x8.length : Int) then (if ((rd_T85 x8 x10).f1) = x1 then (alarm_Drop.l0 k x1 x5 x8 x9 (wrap64 (x10 + 1))) else ((alarm_Put.f k x5 ((rd_T85 x8 x10).f0) ((rd_T85 x8 x10).f1)).bind fun t184 => (alarm_Drop.l0 k x1 t184 x8 x9 (wrap64 (x10 + 1))))) else (none)) else (none)) else (some x5)
def alarm_Drop.f (k : Nat) (l0 : List (S85)) (a1 : Int) : Option ((List (S85))) := alarm_Drop.l0 k a1 ([] : List (S85)) l0 (l0.length : Int) 0
theorem alarm_Drop.mono_l : ∀ k, (∀ y0 y1 y2 y3 y4, LeO (alarm_Drop.l0 k y0 y1 y2 y3 y4) (alarm_Drop.l0 (k + 1) y0 y1 y2 y3 y4))
 | 0 => fun _ _ _ _ _ r h => by simp [alarm_Drop.l0] at h
 | k + 1 => by
  have ih0 := alarm_Drop.mono_l k
  ·intro y0 y1 y2 y3 y4
   unfold alarm_Drop.l0
   repeat' first
   | (with_reducible exact ih0 _ _ _ _ _)
   | (with_reducible exact alarm_Put.mono _ _ _ _)
   | (with_reducible exact LeO.refl _)
   | (with_reducible exact LeO.none _)
   | (with_reducible refine LeO.ite ?_ ?_)
   | (with_reducible refine LeO.bind ?_ (fun _ => ?_))
theorem alarm_Drop.mono : ∀ a0 a1 k, LeO (alarm_Drop.f k a0 a1) (alarm_Drop.f (k + 1) a0 a1) := by
 intro a0 a1 k
 have ih0 := alarm_Drop.mono_l k
 unfold alarm_Drop.f
 repeat' first
   | (with_reducible exact ih0 _ _ _ _ _)
   | (with_reducible exact alarm_Put.mono _ _ _ _)
   | (with_reducible exact LeO.refl _)
   | (with_reducible exact LeO.none _)
   | (with_reducible refine LeO.ite ?_ ?_)
   | (with_reducible refine LeO.bind ?_ (fun _ => ?_))

/-! ### session_renewed (function 40): what it is -/
def session_renewed.f (k : Nat) (a0_0 : Int) (l0_1 : List (S42)) (l0_2 : List (S85)) (a0_3 : Int) (a0_4 : Int) (a1 : Int) : Option (Int × (List (S42)) × (List (S85)) × Int × Int) := (alarm_Drop.f k l0_2 a1).bind fun t189 => ((alarm_Put.f k t189 (IntKind.u64.wrap (a0_4 + (mn 20 (Go.bits .xor .u64 18446744073709551615 a0_4)))) a1).bind fun t192 => (some (a0_0, l0_1, t192, a0_3, a0_4)))
theorem session_renewed.mono : ∀ a0 a1 a2 a3 a4 a5 k, LeO (session_renewed.f k a0 a1 a2 a3 a4 a5) (session_renewed.f (k + 1) a0 a1 a2 a3 a4 a5) := by
 intro a0 a1 a2 a3 a4 a5 k
 unfold session_renewed.f
 repeat' first
   | (with_reducible exact alarm_Drop.mono _ _ _)
   | (with_reducible exact alarm_Put.mono _ _ _ _)
   | (with_reducible exact LeO.refl _)
   | (with_reducible exact LeO.none _)
   | (with_reducible refine LeO.ite ?_ ?_)
   | (with_reducible refine LeO.bind ?_ (fun _ => ?_))

/-! ### session_Take (function 12): what it is -/
def session_Take.j0 : Nat → Int → Bool → Int → List (S42) → List (S85) → Int → Int → Int → Option (Int × (List (S42)) × (List (S85)) × Int × Int × Int)
  | 0, _, _, _, _, _, _, _, _ => none
  | k + 1, x1, x22, x196000, x196001, x196002, x196003, x196004, x197000 => if x22 = true then (some (x196000, x196001, x196002, x196003, x196004, 4)) else ((session_with_Take.f x196000 x196001 x196002 x196003 x196004 x1 x197000).bind fun bt206 => (if bt206.2.2.2.2.2 = 0 then ((session_renewed.f k bt206.1 bt206.2.1 bt206.2.2.1 bt206.2.2.2.1 bt206.2.2.2.2.1 x1).bind fun bt216 => (some (bt216.1, bt216.2.1, bt216.2.2.1, bt216.2.2.2.1, bt216.2.2.2.2, 0))) else (some (bt206.1, bt206.2.1, bt206.2.2.1, bt206.2.2.2.1, bt206.2.2.2.2.1, bt206.2.2.2.2.2))))
def session_Take.f (k : Nat) (a0_0 : Int) (l0_1 : List (S42)) (l0_2 : List (S85)) (a0_3 : Int) (a0_4 : Int) (a1 : Int) (a2 : Int) : Option (Int × (List (S42)) × (List (S85)) × Int × Int × Int) := (session_Find.f a0_0 l0_1 l0_2 a0_3 a0_4 a1).bind fun bt198 => (if bt198.2.2.2.2.2.2 = true then (session_Take.j0 k a1 (decide (bt198.2.1 ≥ 1073741824)) a0_0 l0_1 l0_2 a0_3 a0_4 a2) else (session_Take.j0 k a1 false a0_0 l0_1 l0_2 a0_3 a0_4 a2))
theorem session_Take.mono_l : ∀ k, (∀ y0 y1 y2 y3 y4 y5 y6 y7, LeO (session_Take.j0 k y0 y1 y2 y3 y4 y5 y6 y7) (session_Take.j0 (k + 1) y0 y1 y2 y3 y4 y5 y6 y7))
 | 0 => fun _ _ _ _ _ _ _ _ r h => by simp [session_Take.j0] at h
 | k + 1 => by
  have ih0 := session_Take.mono_l k
  ·intro y0 y1 y2 y3 y4 y5 y6 y7
   unfold session_Take.j0
   repeat' first
   | (with_reducible exact ih0 _ _ _ _ _ _ _ _)
   | (with_reducible exact session_renewed.mono _ _ _ _ _ _ _)
   | (with_reducible exact LeO.refl _)
   | (with_reducible exact LeO.none _)
   | (with_reducible refine LeO.ite ?_ ?_)
   | (with_reducible refine LeO.bind ?_ (fun _ => ?_))
theorem session_Take.mono : ∀ a0 a1 a2 a3 a4 a5 a6 k, LeO (session_Take.f k a0 a1 a2 a3 a4 a5 a6) (session_Take.f (k + 1) a0 a1 a2 a3 a4 a5 a6) := by
 intro a0 a1 a2 a3 a4 a5 a6 k
 have ih0 := session_Take.mono_l k
 unfold session_Take.f
 repeat' first
   | (with_reducible exact ih0 _ _ _ _ _ _ _ _)
   | (with_reducible exact session_renewed.mono _ _ _ _ _ _ _)
   | (with_reducible exact LeO.refl _)
   | (with_reducible exact LeO.none _)
   | (with_reducible refine LeO.ite ?_ ?_)
   | (with_reducible refine LeO.bind ?_ (fun _ => ?_))

/-! ### session_Answer (function 13): what it is -/
def session_Answer.f (a0_0 : Int) (l0_1 : List (S42)) (l0_2 : List (S85)) (a0_3 : Int) (a0_4 : Int) (a1 : Int) (a2 : ByteArray) : Option (Int × (List (S42)) × (List (S85)) × Int × Int × Int) := (session_with_Answer.f a0_0 l0_1 l0_2 a0_3 a0_4 a1 a2).bind fun bt228 => (some (bt228.1, bt228.2.1, bt228.2.2.1, bt228.2.2.2.1, bt228.2.2.2.2.1, bt228.2.2.2.2.2))

/-! ### session_Open (function 22): what it is -/
def session_Open.f (k : Nat) (a0_0 : Int) (l0_1 : List (S42)) (l0_2 : List (S85)) (a0_3 : Int) (a0_4 : Int) (a1 : Int) : Option (Int × (List (S42)) × (List (S85)) × Int × Int × Int × Int) := if (l0_1.length : Int) ≥ 6 then (some (a0_0, l0_1, l0_2, a0_3, a0_4, 0, 11)) else (if a0_3 > 1073741824 then (some (a0_0, l0_1, l0_2, a0_3, a0_4, 0, 4)) else ((api_Session_48.f l0_1).bind fun t240 => (if t240.length < 2513169434916 then ((session_renewed.f k a0_0 (t240 ++ [(⟨a0_3, 0, false, (⟨#[]⟩ : ByteArray), 0, a1⟩ : S42)]) l0_2 (wrap64 (a0_3 + 1)) a0_4 a0_3).bind fun bt246 => (some (bt246.1, bt246.2.1, bt246.2.2.1, bt246.2.2.2.1, bt246.2.2.2.2, a0_3, 0))) else (none))))
theorem session_Open.mono : ∀ a0 a1 a2 a3 a4 a5 k, LeO (session_Open.f k a0 a1 a2 a3 a4 a5) (session_Open.f (k + 1) a0 a1 a2 a3 a4 a5) := by
 intro a0 a1 a2 a3 a4 a5 k
 unfold session_Open.f
 repeat' first
   | (with_reducible exact session_renewed.mono _ _ _ _ _ _ _)
   | (with_reducible exact LeO.refl _)
   | (with_reducible exact LeO.none _)
   | (with_reducible refine LeO.ite ?_ ?_)
   | (with_reducible refine LeO.bind ?_ (fun _ => ?_))

/-! ### session_New (function 36): what it is -/
def session_New.f (a0 : Int) : Option (Int × (List (S42)) × (List (S85)) × Int × Int) := some (a0, ([] : List (S42)), ([] : List (S85)), 1, 0)

/-! ### stanchionlaw17_shown (function 10): what it is -/
def stanchionlaw17_shown.f (k : Nat)  : Option (Bool) := (session_New.f 7).bind fun bt256 => ((session_Open.f k bt256.1 bt256.2.1 bt256.2.2.1 bt256.2.2.2.1 bt256.2.2.2.2 0).bind fun bt265 => ((session_Judge.f k bt265.1 bt265.2.1 bt265.2.2.1 bt265.2.2.2.1 bt265.2.2.2.2.1 0 7 1 1 (⟨#[]⟩ : ByteArray) 0 (⟨#[]⟩ : ByteArray) (⟨#[]⟩ : ByteArray) (⟨#[]⟩ : ByteArray) (⟨#[]⟩ : ByteArray) 0).bind fun bt277 => ((session_Take.f k bt265.1 bt265.2.1 bt265.2.2.1 bt265.2.2.2.1 bt265.2.2.2.2.1 1 0).bind fun bt279 => ((session_Answer.f bt279.1 bt279.2.1 bt279.2.2.1 bt279.2.2.2.1 bt279.2.2.2.2.1 1 (⟨#[120]⟩ : ByteArray)).bind fun bt289 => ((session_Judge.f k bt289.1 bt289.2.1 bt289.2.2.1 bt289.2.2.2.1 bt289.2.2.2.2.1 0 7 1 1 (⟨#[]⟩ : ByteArray) 0 (⟨#[]⟩ : ByteArray) (⟨#[]⟩ : ByteArray) (⟨#[]⟩ : ByteArray) (⟨#[]⟩ : ByteArray) 0).bind fun bt299 => ((session_Judge.f k bt289.1 bt289.2.1 bt289.2.2.1 bt289.2.2.2.1 bt289.2.2.2.2.1 0 7 1 3 (⟨#[]⟩ : ByteArray) 0 (⟨#[]⟩ : ByteArray) (⟨#[]⟩ : ByteArray) (⟨#[]⟩ : ByteArray) (⟨#[]⟩ : ByteArray) 0).bind fun bt301 => (if bt265.2.2.2.2.2.1 = 1 then (if bt265.2.2.2.2.2.2 = 0 then (if bt277.2 = 0 then (if bt279.2.2.2.2.2 = 0 then (if bt289.2.2.2.2.2 = 0 then (if bt299.1.toList = ([120] : List UInt8) then (if bt299.2 = 8 then (some (bt301.2 == 15)) else (some false)) else (some false)) else (some false)) else (some false)) else (some false)) else (some false)) else (some false))))))))
theorem stanchionlaw17_shown.mono : ∀ k, LeO (stanchionlaw17_shown.f k ) (stanchionlaw17_shown.f (k + 1) ) := by
 intro  k
 unfold stanchionlaw17_shown.f
 repeat' first
   | (with_reducible exact session_Judge.mono _ _ _ _ _ _ _ _ _ _ _ _ _ _ _ _ _)
   | (with_reducible exact session_Open.mono _ _ _ _ _ _ _)
   | (with_reducible exact session_Take.mono _ _ _ _ _ _ _ _)
   | (with_reducible exact LeO.refl _)
   | (with_reducible exact LeO.none _)
   | (with_reducible refine LeO.ite ?_ ?_)
   | (with_reducible refine LeO.bind ?_ (fun _ => ?_))

/-! ### stanchionlaw17_few (function 15): what it is -/
def stanchionlaw17_few.f (a0_0 : Int) (l0_1 : List (S42)) (l0_2 : List (S85)) (a0_3 : Int) (a0_4 : Int) : Option (Bool) := if (l0_1.length : Int) ≤ 100 then (some (decide ((l0_2.length : Int) ≤ 100))) else (some false)

/-! ### stanchionref17_Sessions (function 35): what it is -/
def stanchionref17_Sessions.l0 : Nat → List (S42) → List (S42) → Int → Option (Bool)
  | 0, _, _, _ => none
  | k + 1, x0, x1, x5 => if x5 < (x0.length : Int) then (if 0 ≤ x5 then (if x5 < (x1.length : Int) then (if (!(((rd_T42 x0 x5).f0) == ((rd_T42 x1 x5).f0)) || (!(((rd_T42 x0 x5).f1) == ((rd_T42 x1 x5).f1)) || (!(((rd_T42 x0 x5).f2) == ((rd_T42 x1 x5).f2)) || (!((((rd_T42 x0 x5).f3).toList) == (((rd_T42 x1 x5).f3).toList)) || (!(((rd_T42 x0 x5).f4) == ((rd_T42 x1 x5).f4)) || (!(((rd_T42 x0 x5).f5) == ((rd_T42 x1 x5).f5)))))))) = true then (some false) else (stanchionref17_Sessions.l0 k x0 x1 (wrap64 (x5 + 1)))) else (none)) else (none)) else (some true)
def stanchionref17_Sessions.f (k : Nat) (l0 : List (S42)) (l1 : List (S42)) : Option (Bool) := if (l0.length : Int) = (l1.length : Int) then (stanchionref17_Sessions.l0 k l0 l1 0) else (some false)
/-! ### stanchionref15_Same (function 47): what it is -/
def stanchionref15_Same.l0 : Nat → List (S85) → List (S85) → Int → Option (Bool)
  | 0, _, _, _ => none
  | k + 1, x0, x1, x5 => if x5 < (x0.length : Int) then (if 0 ≤ x5 then (if x5 < (x1.length : Int) then (if (!(((rd_T85 x0 x5).f0) == ((rd_T85 x1 x5).f0)) || (!(((rd_T85 x0 x5).f1) == ((rd_T85 x1 x5).f1)))) = true then (some false) else (stanchionref15_Same.l0 k x0 x1 (wrap64 (x5 + 1)))) else (none)) else (none)) else (some true)
def stanchionref15_Same.f (k : Nat) (l0 : List (S85)) (l1 : List (S85)) : Option (Bool) := if (l0.length : Int) = (l1.length : Int) then (stanchionref15_Same.l0 k l0 l1 0) else (some false)
/-! ### stanchionref17_Same (function 21): what it is -/
def stanchionref17_Same.f (k : Nat) (a0_0 : Int) (l0_1 : List (S42)) (l0_2 : List (S85)) (a0_3 : Int) (a0_4 : Int) (a1_0 : Int) (l1_1 : List (S42)) (l1_2 : List (S85)) (a1_3 : Int) (a1_4 : Int) : Option (Bool) := (stanchionref17_Sessions.f k l0_1 l1_1).bind fun t310 => ((stanchionref15_Same.f k l0_2 l1_2).bind fun t311 => (if t310 = true then (if t311 = true then (if a0_0 = a1_0 then (if a0_3 = a1_3 then (some (a0_4 == a1_4)) else (some false)) else (some false)) else (some false)) else (some false)))
/-! ### api_Session_49 (function 49): what it is -/
def api_Session_49.l0 : Nat → List (S42) → List (S42) → Int → Int → Option (Bool)
  | 0, _, _, _, _ => none
  | k + 1, x0, x1, x12, x13 => if x13 < x12 then (if 0 ≤ x13 then (if x13 < (x0.length : Int) then (if x13 < (x1.length : Int) then (if (!(((rd_T42 x0 x13).f0) == ((rd_T42 x1 x13).f0)) || (!(((rd_T42 x0 x13).f1) == ((rd_T42 x1 x13).f1)) || (!(((rd_T42 x0 x13).f2) == ((rd_T42 x1 x13).f2)) || (!((((rd_T42 x0 x13).f3).toList) == (((rd_T42 x1 x13).f3).toList)) || (!(((rd_T42 x0 x13).f4) == ((rd_T42 x1 x13).f4)) || (!(((rd_T42 x0 x13).f5) == ((rd_T42 x1 x13).f5)))))))) = true then (some false) else (api_Session_49.l0 k x0 x1 x12 (wrap64 (x13 + 1)))) else (none)) else (none)) else (none)) else (some true)
def api_Session_49.f (k : Nat) (l0 : List (S42)) (l1 : List (S42)) : Option (Bool) := if (l0.length : Int) = (l1.length : Int) then (api_Session_49.l0 k l0 l1 (l0.length : Int) 0) else (some false)
/-! ### api_Alarm_50 (function 50): what it is -/
def api_Alarm_50.l0 : Nat → List (S85) → List (S85) → Int → Int → Option (Bool)
  | 0, _, _, _, _ => none
  | k + 1, x0, x1, x12, x13 => if x13 < x12 then (if 0 ≤ x13 then (if x13 < (x0.length : Int) then (if x13 < (x1.length : Int) then (if (!(((rd_T85 x0 x13).f0) == ((rd_T85 x1 x13).f0)) || (!(((rd_T85 x0 x13).f1) == ((rd_T85 x1 x13).f1)))) = true then (some false) else (api_Alarm_50.l0 k x0 x1 x12 (wrap64 (x13 + 1)))) else (none)) else (none)) else (none)) else (some true)
def api_Alarm_50.f (k : Nat) (l0 : List (S85)) (l1 : List (S85)) : Option (Bool) := if (l0.length : Int) = (l1.length : Int) then (api_Alarm_50.l0 k l0 l1 (l0.length : Int) 0) else (some false)
/-! ### session_Same (function 23): what it is -/
def session_Same.f (k : Nat) (a0_0 : Int) (l0_1 : List (S42)) (l0_2 : List (S85)) (a0_3 : Int) (a0_4 : Int) (a1_0 : Int) (l1_1 : List (S42)) (l1_2 : List (S85)) (a1_3 : Int) (a1_4 : Int) : Option (Bool) := if a0_0 = a1_0 then ((api_Session_49.f k l0_1 l1_1).bind fun t318 => (if t318 = true then ((api_Alarm_50.f k l0_2 l1_2).bind fun t319 => (if t319 = true then (if a0_3 = a1_3 then (some (a0_4 == a1_4)) else (some false)) else (some false))) else (some false))) else (some false)
/-! ### session_without: function 51 -/
def session_without_del.f (l0 : List (S42)) (a1 : Int) : Option (List S42) := some (l0.filter (fun x => !(x.f0 == a1)))
def session_without.f (a0_0 : Int) (l0_1 : List (S42)) (l0_2 : List (S85)) (a0_3 : Int) (a0_4 : Int) (a1 : Int) : Option (Int × (List (S42)) × (List (S85)) × Int × Int) := (api_Session_48.f l0_1).bind fun t323 => ((session_without_del.f t323 a1).bind fun t326 => (some (a0_0, t326, l0_2, a0_3, a0_4)))

/-! ### session_Close (function 24): what it is -/
def session_Close.f (k : Nat) (a0_0 : Int) (l0_1 : List (S42)) (l0_2 : List (S85)) (a0_3 : Int) (a0_4 : Int) (a1 : Int) : Option (Int × (List (S42)) × (List (S85)) × Int × Int × Int) := (session_at.f a0_0 l0_1 l0_2 a0_3 a0_4 a1).bind fun t331 => (if t331 < 0 then (some (a0_0, l0_1, l0_2, a0_3, a0_4, 7)) else ((session_without.f a0_0 l0_1 l0_2 a0_3 a0_4 a1).bind fun bt332 => ((alarm_Drop.f k bt332.2.2.1 a1).bind fun t341 => (some (bt332.1, bt332.2.1, t341, bt332.2.2.2.1, bt332.2.2.2.2, 0)))))
/-! ### session_Renew (function 26): what it is -/
def session_Renew.f (k : Nat) (a0_0 : Int) (l0_1 : List (S42)) (l0_2 : List (S85)) (a0_3 : Int) (a0_4 : Int) (a1 : Int) : Option (Int × (List (S42)) × (List (S85)) × Int × Int × Int) := (session_at.f a0_0 l0_1 l0_2 a0_3 a0_4 a1).bind fun t346 => (if t346 < 0 then (some (a0_0, l0_1, l0_2, a0_3, a0_4, 7)) else ((session_renewed.f k a0_0 l0_1 l0_2 a0_3 a0_4 a1).bind fun bt347 => (some (bt347.1, bt347.2.1, bt347.2.2.1, bt347.2.2.2.1, bt347.2.2.2.2, 0))))
/-! ### alarm_sink (function 71): what it is -/
mutual
def alarm_sink.l0 : Nat → List (S85) → Int → Option ((List (S85)))
  | 0, _, _ => none
  | k + 1, x0, x2 => if (wrap64 ((wrap64 (2 * x2)) + 1)) < (x0.length : Int) then (if 0 ≤ (wrap64 ((wrap64 (2 * x2)) + 1)) then (if 0 ≤ x2 then (if x2 < (x0.length : Int) then ((alarm_Less.f ((rd_T85 x0 (wrap64 ((wrap64 (2 * x2)) + 1))).f0) ((rd_T85 x0 (wrap64 ((wrap64 (2 * x2)) + 1))).f1) ((rd_T85 x0 x2).f0) ((rd_T85 x0 x2).f1)).bind fun t358 => (if t358 = true then (alarm_sink.j1 k x0 x2 (wrap64 ((wrap64 (2 * x2)) + 1))) else (alarm_sink.j1 k x0 x2 x2))) else (none)) else (none)) else (none)) else (alarm_sink.j1 k x0 x2 x2)
def alarm_sink.j1 : Nat → List (S85) → Int → Int → Option ((List (S85)))
  | 0, _, _, _ => none
  | k + 1, x0, x2, x3 => if (wrap64 ((wrap64 ((wrap64 (2 * x2)) + 1)) + 1)) < (x0.length : Int) then (if 0 ≤ (wrap64 ((wrap64 ((wrap64 (2 * x2)) + 1)) + 1)) then (if 0 ≤ x3 then (if x3 < (x0.length : Int) then ((alarm_Less.f ((rd_T85 x0 (wrap64 ((wrap64 ((wrap64 (2 * x2)) + 1)) + 1))).f0) ((rd_T85 x0 (wrap64 ((wrap64 ((wrap64 (2 * x2)) + 1)) + 1))).f1) ((rd_T85 x0 x3).f0) ((rd_T85 x0 x3).f1)).bind fun t361 => (if t361 = true then (alarm_sink.j2 k x0 x2 (wrap64 ((wrap64 ((wrap64 (2 * x2)) + 1)) + 1))) else (alarm_sink.j2 k x0 x2 x3))) else (none)) else (none)) else (none)) else (alarm_sink.j2 k x0 x2 x3)
def alarm_sink.j2 : Nat → List (S85) → Int → Int → Option ((List (S85)))
  | 0, _, _, _ => none
  | k + 1, x0, x2, x3 => if x3 = x2 then (some x0) else (if 0 ≤ x3 then (if x3 < (x0.length : Int) then (if 0 ≤ x2 then (if x2 < (x0.length : Int) then (alarm_sink.l0 k ((x0.set (x2 : Int).toNat (⟨(rd_T85 x0 x3).f0, (rd_T85 x0 x3).f1⟩ : S85)).set (x3 : Int).toNat (⟨(rd_T85 x0 x2).f0, (rd_T85 x0 x2).f1⟩ : S85)) x3) else (none)) else (none)) else (none)) else (none))
end
def alarm_sink.f (k : Nat) (l0 : List (S85)) : Option ((List (S85))) := alarm_sink.l0 k l0 0
theorem alarm_sink.mono_l : ∀ k, (∀ y0 y1, LeO (alarm_sink.l0 k y0 y1) (alarm_sink.l0 (k + 1) y0 y1)) ∧ (∀ y0 y1 y2, LeO (alarm_sink.j1 k y0 y1 y2) (alarm_sink.j1 (k + 1) y0 y1 y2)) ∧ (∀ y0 y1 y2, LeO (alarm_sink.j2 k y0 y1 y2) (alarm_sink.j2 (k + 1) y0 y1 y2))
 | 0 => ⟨fun _ _ r h => by simp [alarm_sink.l0] at h, fun _ _ _ r h => by simp [alarm_sink.j1] at h, fun _ _ _ r h => by simp [alarm_sink.j2] at h⟩
 | k + 1 => by
  obtain ⟨ih0, ih1, ih2⟩ := alarm_sink.mono_l k
  refine ⟨?_, ?_, ?_⟩
  ·intro y0 y1
   unfold alarm_sink.l0
   repeat' first
   | (with_reducible exact ih0 _ _)
   | (with_reducible exact ih1 _ _ _)
   | (with_reducible exact ih2 _ _ _)
   | (with_reducible exact LeO.refl _)
   | (with_reducible exact LeO.none _)
   | (with_reducible refine LeO.ite ?_ ?_)
   | (with_reducible refine LeO.bind ?_ (fun _ => ?_))
  ·intro y0 y1 y2
   unfold alarm_sink.j1
   repeat' first
   | (with_reducible exact ih0 _ _)
   | (with_reducible exact ih1 _ _ _)
   | (with_reducible exact ih2 _ _ _)
   | (with_reducible exact LeO.refl _)
   | (with_reducible exact LeO.none _)
   | (with_reducible refine LeO.ite ?_ ?_)
   | (with_reducible refine LeO.bind ?_ (fun _ => ?_))
  ·intro y0 y1 y2
   unfold alarm_sink.j2
   repeat' first
   | (with_reducible exact ih0 _ _)
   | (with_reducible exact ih1 _ _ _)
   | (with_reducible exact ih2 _ _ _)
   | (with_reducible exact LeO.refl _)
   | (with_reducible exact LeO.none _)
   | (with_reducible refine LeO.ite ?_ ?_)
   | (with_reducible refine LeO.bind ?_ (fun _ => ?_))
/-! ### alarm_Pop (function 66): what it is -/
def alarm_Pop.f (k : Nat) (l0 : List (S85)) : Option ((List (S85)) × Int × Int × Bool) := if (l0.length : Int) = 0 then (some (l0, 0, 0, false)) else (if 0 < (l0.length : Int) then ((api_Alarm_68.f l0).bind fun t369 => (if 0 ≤ (wrap64 ((l0.length : Int) - 1)) then (if (wrap64 ((l0.length : Int) - 1)) < (t369.length : Int) then (if 0 < (t369.length : Int) then (if (wrap64 ((l0.length : Int) - 1)) ≤ (t369.length : Int) then ((alarm_sink.f k ((t369.set (0 : Int).toNat (⟨(rd_T85 t369 (wrap64 ((l0.length : Int) - 1))).f0, (rd_T85 t369 (wrap64 ((l0.length : Int) - 1))).f1⟩ : S85)).take ((wrap64 ((l0.length : Int) - 1)) : Int).toNat)).bind fun t377 => (some (t377, (rd_T85 l0 0).f0, (rd_T85 l0 0).f1, true))) else (none)) else (none)) else (none)) else (none))) else (none))
/-! ### alarm_Due (function 54): what it is -/
def alarm_Due.l0 : Nat → List (S85) → Int → List Int → Option ((List (S85)) × List Int)
  | 0, _, _, _ => none
  | k + 1, x0, x1, x6 => if (x0.length : Int) > 0 then (if 0 < (x0.length : Int) then (if ((rd_T85 x0 0).f0) ≤ x1 then ((alarm_Pop.f k x0).bind fun bt379 => (if x6.length < 17592186044416 then (alarm_Due.l0 k bt379.1 x1 (x6 ++ [bt379.2.2.1])) else (none))) else (some (x0, x6))) else (none)) else (some (x0, x6))
def alarm_Due.f (k : Nat) (l0 : List (S85)) (a1 : Int) : Option ((List (S85)) × List Int) := alarm_Due.l0 k l0 a1 ([] : List Int)
/-! ### session_Tick (function 27): what it is -/
def session_Tick.l0 : Nat → List (S42) → List Int → Int → Int → Int → List (S42) → List (S85) → Int → Int → Option (Int × (List (S42)) × (List (S85)) × Int × Int × (List (S42)))
  | 0, _, _, _, _, _, _, _, _, _ => none
  | k + 1, x8, x28, x29, x30, x390000, x390001, x390002, x390003, x390004 => if x30 < x29 then (if 0 ≤ x30 then (if x30 < (x28.length : Int) then ((session_Find.f x390000 x390001 x390002 x390003 x390004 (rd x28 x30)).bind fun bt398 => (if bt398.2.2.2.2.2.2 = true then (if x8.length < 2513169434916 then ((session_without.f x390000 x390001 x390002 x390003 x390004 (rd x28 x30)).bind fun bt409 => (session_Tick.l0 k (x8 ++ [(⟨bt398.1, bt398.2.1, bt398.2.2.1, bt398.2.2.2.1, bt398.2.2.2.2.1, bt398.2.2.2.2.2.1⟩ : S42)]) x28 x29 (wrap64 (x30 + 1)) bt409.1 bt409.2.1 bt409.2.2.1 bt409.2.2.2.1 bt409.2.2.2.2)) else (none)) else (session_Tick.l0 k x8 x28 x29 (wrap64 (x30 + 1)) x390000 x390001 x390002 x390003 x390004))) else (none)) else (none)) else (some (x390000, x390001, x390002, x390003, x390004, x8))
def session_Tick.f (k : Nat) (a0_0 : Int) (l0_1 : List (S42)) (l0_2 : List (S85)) (a0_3 : Int) (a0_4 : Int) (a1 : Int) : Option (Int × (List (S42)) × (List (S85)) × Int × Int × (List (S42))) := (alarm_Due.f k l0_2 (mx a0_4 a1)).bind fun bt391 => (session_Tick.l0 k ([] : List (S42)) bt391.2 (bt391.2.length : Int) 0 a0_0 l0_1 bt391.1 a0_3 (mx a0_4 a1))
/-! ### stanchionref15_Less (function 53): what it is -/
def stanchionref15_Less.f (a0_0 : Int) (a0_1 : Int) (a1_0 : Int) (a1_1 : Int) : Option (Bool) := if a0_0 = a1_0 then (some (decide (a0_1 < a1_1))) else (some (decide (a0_0 < a1_0)))

/-! ### stanchionref15_swap (function 70): what it is -/
def stanchionref15_swap.f (l0 : List (S85)) (a1 : Int) (a2 : Int) : Option ((List (S85))) := (some (([] : List (S85)) : List (S85))).bind fun y420 => (if y420.length + l0.length < 8796093022208 then ((some (y420 ++ l0 : List (S85))).bind fun y423 => (if 0 ≤ a2 then (if a2 < (l0.length : Int) then (if 0 ≤ a1 then (if a1 < (y423.length : Int) then (if a1 < (l0.length : Int) then (if a2 < (y423.length : Int) then (some ((y423.set (a1 : Int).toNat (⟨(rd_T85 l0 a2).f0, (rd_T85 l0 a2).f1⟩ : S85)).set (a2 : Int).toNat (⟨(rd_T85 l0 a1).f0, (rd_T85 l0 a1).f1⟩ : S85))) else (none)) else (none)) else (none)) else (none)) else (none)) else (none))) else (none))

/-! ### stanchionref15_Put (function 63): what it is -/
def stanchionref15_Put.l0 : Nat → List (S85) → Int → Option ((List (S85)))
  | 0, _, _ => none
  | k + 1, x5, x6 => if x6 > 0 then (if 0 ≤ x6 then (if x6 < (x5.length : Int) then (if 0 ≤ (wrap64 (Int.tdiv (wrap64 (x6 - 1)) 2)) then (if (wrap64 (Int.tdiv (wrap64 (x6 - 1)) 2)) < (x5.length : Int) then ((stanchionref15_Less.f ((rd_T85 x5 x6).f0) ((rd_T85 x5 x6).f1) ((rd_T85 x5 (wrap64 (Int.tdiv (wrap64 (x6 - 1)) 2))).f0) ((rd_T85 x5 (wrap64 (Int.tdiv (wrap64 (x6 - 1)) 2))).f1)).bind fun t442 => (if t442 = true then ((stanchionref15_swap.f x5 x6 (wrap64 (Int.tdiv (wrap64 (x6 - 1)) 2))).bind fun t443 => (stanchionref15_Put.l0 k t443 (wrap64 (Int.tdiv (wrap64 (x6 - 1)) 2)))) else (some x5))) else (none)) else (none)) else (none)) else (none)) else (some x5)
def stanchionref15_Put.f (k : Nat) (l0 : List (S85)) (a1_0 : Int) (a1_1 : Int) : Option ((List (S85))) := (some (([] : List (S85)) : List (S85))).bind fun y431 => (if y431.length + l0.length < 8796093022208 then ((some (y431 ++ l0 : List (S85))).bind fun y434 => (if y434.length < 8796093022208 then ((some (y434 ++ [(⟨a1_0, a1_1⟩ : S85)] : List (S85))).bind fun y437 => (stanchionref15_Put.l0 k y437 (wrap64 ((y437.length : Int) - 1)))) else (none))) else (none))
/-! ### stanchionref15_Drop (function 57): what it is -/
def stanchionref15_Drop.l0 : Nat → List (S85) → Int → List (S85) → Int → Option ((List (S85)))
  | 0, _, _, _, _ => none
  | k + 1, x0, x1, x5, x6 => if x6 < (x0.length : Int) then (if 0 ≤ x6 then (if ((rd_T85 x0 x6).f1) = x1 then (stanchionref15_Drop.l0 k x0 x1 x5 (wrap64 (x6 + 1))) else ((stanchionref15_Put.f k x5 ((rd_T85 x0 x6).f0) ((rd_T85 x0 x6).f1)).bind fun t448 => (stanchionref15_Drop.l0 k x0 x1 t448 (wrap64 (x6 + 1))))) else (none)) else (some x5)
def stanchionref15_Drop.f (k : Nat) (l0 : List (S85)) (a1 : Int) : Option ((List (S85))) := stanchionref15_Drop.l0 k l0 a1 ([] : List (S85)) 0
/-! ### stanchionref17_renewed (function 44): what it is -/
def stanchionref17_renewed.f (k : Nat) (a0_0 : Int) (l0_1 : List (S42)) (l0_2 : List (S85)) (a0_3 : Int) (a0_4 : Int) (a1 : Int) : Option (Int × (List (S42)) × (List (S85)) × Int × Int) := if (IntKind.u64.wrap (a0_4 + 20)) < a0_4 then ((stanchionref15_Drop.f k l0_2 a1).bind fun t453 => ((stanchionref15_Put.f k t453 18446744073709551615 a1).bind fun t456 => (some (a0_0, l0_1, t456, a0_3, a0_4)))) else ((stanchionref15_Drop.f k l0_2 a1).bind fun t459 => ((stanchionref15_Put.f k t459 (IntKind.u64.wrap (a0_4 + 20)) a1).bind fun t462 => (some (a0_0, l0_1, t462, a0_3, a0_4))))
/-! ### stanchionref17_Open (function 28): what it is -/
def stanchionref17_Open.f (k : Nat) (a0_0 : Int) (l0_1 : List (S42)) (l0_2 : List (S85)) (a0_3 : Int) (a0_4 : Int) (a1 : Int) : Option (Int × (List (S42)) × (List (S85)) × Int × Int × Int × Int) := if (l0_1.length : Int) ≥ 6 then (some (a0_0, l0_1, l0_2, a0_3, a0_4, 0, 11)) else (if a0_3 > 1073741824 then (some (a0_0, l0_1, l0_2, a0_3, a0_4, 0, 4)) else ((some (([] : List (S42)) : List (S42))).bind fun y467 => (if y467.length + l0_1.length < 2513169434916 then ((some (y467 ++ l0_1 : List (S42))).bind fun y470 => (if y470.length < 2513169434916 then ((stanchionref17_renewed.f k a0_0 (y470 ++ [(⟨a0_3, 0, false, (⟨#[]⟩ : ByteArray), 0, a1⟩ : S42)]) l0_2 (wrap64 (a0_3 + 1)) a0_4 a0_3).bind fun bt476 => (some (bt476.1, bt476.2.1, bt476.2.2.1, bt476.2.2.2.1, bt476.2.2.2.2, a0_3, 0))) else (none))) else (none))))
/-! ### stanchionref17_at (function 55): what it is -/
def stanchionref17_at.l0 : Nat → Int → Int → Int → List (S42) → List (S85) → Int → Int → Option (Int)
  | 0, _, _, _, _, _, _, _ => none
  | k + 1, x1, x5, x486000, x486001, x486002, x486003, x486004 => if x5 < (x486001.length : Int) then (if 0 ≤ x5 then (if ((rd_T42 x486001 x5).f0) = x1 then (some x5) else (stanchionref17_at.l0 k x1 (wrap64 (x5 + 1)) x486000 x486001 x486002 x486003 x486004)) else (none)) else (some (-1))
def stanchionref17_at.f (k : Nat) (a0_0 : Int) (l0_1 : List (S42)) (l0_2 : List (S85)) (a0_3 : Int) (a0_4 : Int) (a1 : Int) : Option (Int) := stanchionref17_at.l0 k a1 0 a0_0 l0_1 l0_2 a0_3 a0_4
/-! ### stanchionref17_Renew (function 29): what it is -/
def stanchionref17_Renew.f (k : Nat) (a0_0 : Int) (l0_1 : List (S42)) (l0_2 : List (S85)) (a0_3 : Int) (a0_4 : Int) (a1 : Int) : Option (Int × (List (S42)) × (List (S85)) × Int × Int × Int) := (stanchionref17_at.f k a0_0 l0_1 l0_2 a0_3 a0_4 a1).bind fun t489 => (if t489 < 0 then (some (a0_0, l0_1, l0_2, a0_3, a0_4, 7)) else ((stanchionref17_renewed.f k a0_0 l0_1 l0_2 a0_3 a0_4 a1).bind fun bt490 => (some (bt490.1, bt490.2.1, bt490.2.2.1, bt490.2.2.2.1, bt490.2.2.2.2, 0))))
/-! ### stanchionref17_less (function 56): what it is -/
def stanchionref17_less.l0 : Nat → Int → List (S42) → Int → Int → List (S42) → List (S85) → Int → Int → Option (Int × (List (S42)) × (List (S85)) × Int × Int)
  | 0, _, _, _, _, _, _, _, _ => none
  | k + 1, x1, x5, x6, x500000, x500001, x500002, x500003, x500004 => if x6 < (x500001.length : Int) then (if 0 ≤ x6 then (if ((rd_T42 x500001 x6).f0) = x1 then (stanchionref17_less.l0 k x1 x5 (wrap64 (x6 + 1)) x500000 x500001 x500002 x500003 x500004) else (if x5.length < 2513169434916 then (stanchionref17_less.l0 k x1 (x5 ++ [(⟨(rd_T42 x500001 x6).f0, (rd_T42 x500001 x6).f1, (rd_T42 x500001 x6).f2, (rd_T42 x500001 x6).f3, (rd_T42 x500001 x6).f4, (rd_T42 x500001 x6).f5⟩ : S42)]) (wrap64 (x6 + 1)) x500000 x500001 x500002 x500003 x500004) else (none))) else (none)) else (some (x500000, x5, x500002, x500003, x500004))
def stanchionref17_less.f (k : Nat) (a0_0 : Int) (l0_1 : List (S42)) (l0_2 : List (S85)) (a0_3 : Int) (a0_4 : Int) (a1 : Int) : Option (Int × (List (S42)) × (List (S85)) × Int × Int) := stanchionref17_less.l0 k a1 ([] : List (S42)) 0 a0_0 l0_1 l0_2 a0_3 a0_4
/-! ### stanchionref17_Close (function 30): what it is -/
def stanchionref17_Close.f (k : Nat) (a0_0 : Int) (l0_1 : List (S42)) (l0_2 : List (S85)) (a0_3 : Int) (a0_4 : Int) (a1 : Int) : Option (Int × (List (S42)) × (List (S85)) × Int × Int × Int) := (stanchionref17_at.f k a0_0 l0_1 l0_2 a0_3 a0_4 a1).bind fun t508 => (if t508 < 0 then (some (a0_0, l0_1, l0_2, a0_3, a0_4, 7)) else ((stanchionref17_less.f k a0_0 l0_1 l0_2 a0_3 a0_4 a1).bind fun bt509 => ((stanchionref15_Drop.f k bt509.2.2.1 a1).bind fun t518 => (some (bt509.1, bt509.2.1, t518, bt509.2.2.2.1, bt509.2.2.2.2, 0)))))
/-! ### stanchionref17_Find (function 32): what it is -/
def stanchionref17_Find.f (k : Nat) (a0_0 : Int) (l0_1 : List (S42)) (l0_2 : List (S85)) (a0_3 : Int) (a0_4 : Int) (a1 : Int) : Option (Int × Int × Bool × ByteArray × Int × Int × Bool) := (stanchionref17_at.f k a0_0 l0_1 l0_2 a0_3 a0_4 a1).bind fun t523 => (if t523 < 0 then (some (0, 0, false, (⟨#[]⟩ : ByteArray), 0, 0, false)) else (if 0 ≤ t523 then (if t523 < (l0_1.length : Int) then (some ((rd_T42 l0_1 t523).f0, (rd_T42 l0_1 t523).f1, (rd_T42 l0_1 t523).f2, (rd_T42 l0_1 t523).f3, (rd_T42 l0_1 t523).f4, (rd_T42 l0_1 t523).f5, true)) else (none)) else (none)))
end Go.Proofs.Ytnpmjboofmdflaa.PA
