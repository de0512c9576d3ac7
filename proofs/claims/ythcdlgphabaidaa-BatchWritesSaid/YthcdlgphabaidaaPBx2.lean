-- Made by a program of this workplace out of the translation (wip/tools in the repo). Not trusted: Lean checks it.
import Derived.Test.YthcdlgphabaidaaPBx0
namespace Go.Proofs.Ythcdlgphabaidaa.PB
open Go.RowKit Go.Proofs.YthcdlgphabaidaaW.PrintWords Go.Proofs.YthcdlgphabaidaaW.PrintLast Go.Proofs.YthcdlgphabaidaaW.PrintMore
attribute [local go_sem] max2_int min2_int max_two min_two max_three min_three max_four min_four   -- for this text's walks alone
set_option linter.unusedVariables false
set_option linter.unusedSimpArgs false

/-! ### batch_May_1 (function 44): what it is -/
def batch_May_1.f (a0_0 : ByteArray) (a0_1 : ByteArray) (a0_2 : Bool) : Option (Bool) := if (a0_0.size : Int) < 1 then (some true) else (if (a0_0.size : Int) > 32 then (some true) else (if (a0_1.size : Int) > 64 then (some true) else (if a0_2 = true then (some (a0_1.toList != ([] : List UInt8))) else (some false))))

/-! ### api_Write_57: function 57 -/
def ixOf {α : Type} (p : α → Bool) (l : List α) : Int := if l.findIdx p < l.length then ((l.findIdx p : Nat) : Int) else -1
theorem ixOf_hit {α : Type} (p : α → Bool) (l : List α) (d : α) (k : Nat) (h : k < l.length) (hk : p (l.getD k d) = true) (hn : ∀ j, j < k → p (l.getD j d) = false) : ixOf p l = (k : Int) := by
  have e : l.findIdx p = k := by
    rw [List.findIdx_eq h]
    refine ⟨by rw [List.getD_eq_getElem?_getD, List.getElem?_eq_getElem h] at hk; exact hk, fun j hj => ?_⟩
    have := hn j hj
    rw [List.getD_eq_getElem?_getD, List.getElem?_eq_getElem (by omega)] at this
    exact this
  unfold ixOf
  rw [e, if_pos h]
theorem ixOf_miss {α : Type} (p : α → Bool) (l : List α) (d : α) (hn : ∀ j, j < l.length → p (l.getD j d) = false) : ixOf p l = -1 := by
  unfold ixOf
  rw [if_neg]
  intro h
  have h1 := List.findIdx_getElem (w := h) (p := p) (xs := l)
  have h2 := hn _ h
  rw [List.getD_eq_getElem?_getD, List.getElem?_eq_getElem h] at h2
  have h3 : p l[l.findIdx p] = false := h2
  rw [h3] at h1
  cases h1
theorem ixOf_cases {α : Type} (p : α → Bool) (l : List α) : ixOf p l = -1 ∨ ∃ i : Nat, i < l.length ∧ ixOf p l = (i : Int) := by
  unfold ixOf
  split
  · exact .inr ⟨_, by assumption, rfl⟩
  · exact .inl rfl


/-! ### batch_May: function 23 -/
def batch_May_has.f (l0 : List (S54)) : Option (Bool) := some (l0.any (fun x => (batch_May_1.f x.f0 x.f1 x.f2).getD false))
mutual
def batch_May.j0 : Nat → Bool → Int → ByteArray → List (S54) → Option (Bool)
  | 0, _, _, _, _ => none
  | k + 1, x41, x103000, x103001, x103002 => if x41 = true then (some false) else (batch_May.l0 k 1 x103000 x103001 x103002)
def batch_May.l0 : Nat → Int → Int → ByteArray → List (S54) → Option (Bool)
  | 0, _, _, _, _ => none
  | k + 1, x4, x103000, x103001, x103002 => if x4 < (x103002.length : Int) then (if 0 ≤ (wrap64 (x4 - 1)) then (if (wrap64 (x4 - 1)) < (x103002.length : Int) then (if 0 ≤ x4 then (if ((Op.bytesLess (((rd_T54 x103002 (wrap64 (x4 - 1))).f0).toList) (((rd_T54 x103002 x4).f0).toList)) = true) then (batch_May.l0 k (wrap64 (x4 + 1)) x103000 x103001 x103002) else (some false)) else (none)) else (none)) else (none)) else ((batch_May_has.f x103002).bind fun t105 => (some (!t105)))
end
def batch_May.f (k : Nat) (a0_0 : Int) (a0_1 : ByteArray) (l0_2 : List (S54)) : Option (Bool) := if a0_0 = 1 then (if (a0_1.size : Int) < 1 then (batch_May.j0 k true a0_0 a0_1 l0_2) else (if (a0_1.size : Int) > 16 then (batch_May.j0 k true a0_0 a0_1 l0_2) else (if (l0_2.length : Int) > 24 then (batch_May.j0 k true a0_0 a0_1 l0_2) else (if a0_0 = 2 then (batch_May.j0 k (decide ((l0_2.length : Int) > 0)) a0_0 a0_1 l0_2) else (batch_May.j0 k false a0_0 a0_1 l0_2))))) else (if a0_0 = 2 then (if (a0_1.size : Int) < 1 then (batch_May.j0 k true a0_0 a0_1 l0_2) else (if (a0_1.size : Int) > 16 then (batch_May.j0 k true a0_0 a0_1 l0_2) else (if (l0_2.length : Int) > 24 then (batch_May.j0 k true a0_0 a0_1 l0_2) else (batch_May.j0 k (decide ((l0_2.length : Int) > 0)) a0_0 a0_1 l0_2)))) else (batch_May.j0 k true a0_0 a0_1 l0_2))
theorem batch_May.mono_l : ∀ k, (∀ y0 y1 y2 y3, LeO (batch_May.j0 k y0 y1 y2 y3) (batch_May.j0 (k + 1) y0 y1 y2 y3)) ∧ (∀ y0 y1 y2 y3, LeO (batch_May.l0 k y0 y1 y2 y3) (batch_May.l0 (k + 1) y0 y1 y2 y3))
  | 0 => ⟨fun _ _ _ _ r h => by simp [batch_May.j0] at h, fun _ _ _ _ r h => by simp [batch_May.l0] at h⟩
  | k + 1 => by
    obtain ⟨ih0, ih1⟩ := batch_May.mono_l k
    refine ⟨?_, ?_⟩
    · intro y0 y1 y2 y3
      unfold batch_May.j0
      repeat' first
      | (with_reducible exact ih0 _ _ _ _)
      | (with_reducible exact ih1 _ _ _ _)
      | (with_reducible exact LeO.refl _)
      | (with_reducible exact LeO.none _)
      | (with_reducible refine LeO.ite ?_ ?_)
      | (with_reducible refine LeO.bind ?_ (fun _ => ?_))
      | exact ih0 _ _ _ _
      | exact ih1 _ _ _ _
      | exact LeO.none _
      | refine LeO.ite ?_ ?_
      | refine LeO.bind ?_ (fun _ => ?_)
    · intro y0 y1 y2 y3
      unfold batch_May.l0
      repeat' first
      | (with_reducible exact ih0 _ _ _ _)
      | (with_reducible exact ih1 _ _ _ _)
      | (with_reducible exact LeO.refl _)
      | (with_reducible exact LeO.none _)
      | (with_reducible refine LeO.ite ?_ ?_)
      | (with_reducible refine LeO.bind ?_ (fun _ => ?_))
      | exact ih0 _ _ _ _
      | exact ih1 _ _ _ _
      | exact LeO.none _
      | refine LeO.ite ?_ ?_
      | refine LeO.bind ?_ (fun _ => ?_)
theorem batch_May.mono : ∀ a0 a1 a2 k, LeO (batch_May.f k a0 a1 a2) (batch_May.f (k + 1) a0 a1 a2) := by
  intro a0 a1 a2 k
  obtain ⟨ih0, ih1⟩ := batch_May.mono_l k
  unfold batch_May.f
  repeat' first
      | (with_reducible exact ih0 _ _ _ _)
      | (with_reducible exact ih1 _ _ _ _)
      | (with_reducible exact LeO.refl _)
      | (with_reducible exact LeO.none _)
      | (with_reducible refine LeO.ite ?_ ?_)
      | (with_reducible refine LeO.bind ?_ (fun _ => ?_))
      | exact ih0 _ _ _ _
      | exact ih1 _ _ _ _
      | exact LeO.none _
      | refine LeO.ite ?_ ?_
      | refine LeO.bind ?_ (fun _ => ?_)

/-! ### dec_Num: function 34 -/
def dg : Nat → Nat → List UInt8 → List UInt8
  | 0, _, acc => acc
  | k + 1, v, acc => if v / 10 = 0 then UInt8.ofNat (48 + v % 10) :: acc else dg k (v / 10) (UInt8.ofNat (48 + v % 10) :: acc)
def numB (v : Nat) : ByteArray := ⟨(dg 20 v [59]).toArray⟩
def dec_Num.f (a0 : Int) : Option ByteArray := if 0 ≤ a0 then (if a0 < 18446744073709551616 then some (numB a0.toNat) else none) else none

/-! ### dec_Text (function 35): what it is -/
def dec_Text.f (a0 : ByteArray) : Option (ByteArray) := (dec_Num.f (IntKind.u64.wrap ((a0.size : Int)))).bind fun t106 => (if t106.size + a0.size ≤ 9223372036854775807 then (some (t106 ++ a0)) else (none))

/-! ### batch_Bytes: function 18 -/
def batch_Bytes.l0 : Nat → ByteArray → List (S54) → Int → Int → Option (ByteArray × Int)
  | 0, _, _, _, _ => none
  | k + 1, x4, x27, x28, x29 => if x29 < x28 then (if 0 ≤ x29 then (if x29 < (x27.length : Int) then (if (rd_T54 x27 x29).f2 = true then ((dec_Num.f 1).bind fun t114 => ((dec_Text.f ((rd_T54 x27 x29).f0)).bind fun t115 => (if t114.size + t115.size ≤ 9223372036854775807 then ((dec_Text.f ((rd_T54 x27 x29).f1)).bind fun t116 => (if (t114 ++ t115).size + t116.size ≤ 9223372036854775807 then (if x4.size + ((t114 ++ t115) ++ t116).size ≤ 140737488355328 then (batch_Bytes.l0 k (x4 ++ ((t114 ++ t115) ++ t116)) x27 x28 (wrap64 (x29 + 1))) else (none)) else (none))) else (none)))) else ((dec_Num.f 0).bind fun t117 => ((dec_Text.f ((rd_T54 x27 x29).f0)).bind fun t118 => (if t117.size + t118.size ≤ 9223372036854775807 then ((dec_Text.f ((rd_T54 x27 x29).f1)).bind fun t119 => (if (t117 ++ t118).size + t119.size ≤ 9223372036854775807 then (if x4.size + ((t117 ++ t118) ++ t119).size ≤ 140737488355328 then (batch_Bytes.l0 k (x4 ++ ((t117 ++ t118) ++ t119)) x27 x28 (wrap64 (x29 + 1))) else (none)) else (none))) else (none))))) else (none)) else (none)) else (some (x4, 0))
def batch_Bytes.f (k : Nat) (a0_0 : Int) (a0_1 : ByteArray) (l0_2 : List (S54)) : Option (ByteArray × Int) := (batch_May.f k a0_0 a0_1 l0_2).bind fun t108 => (if t108 = true then ((dec_Num.f (IntKind.u64.wrap (a0_0))).bind fun t109 => ((dec_Text.f a0_1).bind fun t110 => (if t109.size + t110.size ≤ 9223372036854775807 then ((dec_Num.f (IntKind.u64.wrap ((l0_2.length : Int)))).bind fun t111 => (if (t109 ++ t110).size + t111.size ≤ 9223372036854775807 then (if 0 + ((t109 ++ t110) ++ t111).size ≤ 140737488355328 then (batch_Bytes.l0 k ((⟨#[]⟩ : ByteArray) ++ ((t109 ++ t110) ++ t111)) l0_2 (l0_2.length : Int) 0) else (none)) else (none))) else (none)))) else (some ((⟨#[]⟩ : ByteArray), 1)))
theorem batch_Bytes.mono_l : ∀ k, (∀ y0 y1 y2 y3, LeO (batch_Bytes.l0 k y0 y1 y2 y3) (batch_Bytes.l0 (k + 1) y0 y1 y2 y3))
  | 0 => fun _ _ _ _ r h => by simp [batch_Bytes.l0] at h
  | k + 1 => by
    have ih0 := batch_Bytes.mono_l k
    · intro y0 y1 y2 y3
      unfold batch_Bytes.l0
      repeat' first
      | (with_reducible exact ih0 _ _ _ _)
      | (with_reducible exact batch_May.mono _ _ _ _)
      | (with_reducible exact LeO.refl _)
      | (with_reducible exact LeO.none _)
      | (with_reducible refine LeO.ite ?_ ?_)
      | (with_reducible refine LeO.bind ?_ (fun _ => ?_))
      | exact ih0 _ _ _ _
      | exact batch_May.mono _ _ _ _
      | exact LeO.none _
      | refine LeO.ite ?_ ?_
      | refine LeO.bind ?_ (fun _ => ?_)
theorem batch_Bytes.mono : ∀ a0 a1 a2 k, LeO (batch_Bytes.f k a0 a1 a2) (batch_Bytes.f (k + 1) a0 a1 a2) := by
  intro a0 a1 a2 k
  have ih0 := batch_Bytes.mono_l k
  unfold batch_Bytes.f
  repeat' first
      | (with_reducible exact ih0 _ _ _ _)
      | (with_reducible exact batch_May.mono _ _ _ _)
      | (with_reducible exact LeO.refl _)
      | (with_reducible exact LeO.none _)
      | (with_reducible refine LeO.ite ?_ ?_)
      | (with_reducible refine LeO.bind ?_ (fun _ => ?_))
      | exact ih0 _ _ _ _
      | exact batch_May.mono _ _ _ _
      | exact LeO.none _
      | refine LeO.ite ?_ ?_
      | refine LeO.bind ?_ (fun _ => ?_)

/-! ### stanchionlaw07_shown (function 11): what it is -/
def stanchionlaw07_shown.f (k : Nat)  : Option (Bool) := (batch_Bytes.f k 1 (⟨#[116]⟩ : ByteArray) (([(⟨(⟨#[97]⟩ : ByteArray), (⟨#[49]⟩ : ByteArray), false⟩ : S54)] : List (S54)))).bind fun bt123 => (if bt123.1.toList = ([49, 59, 49, 59, 116, 49, 59, 48, 59, 49, 59, 97, 49, 59, 49] : List UInt8) then (some (bt123.2 == 0)) else (some false))
theorem stanchionlaw07_shown.mono : ∀ k, LeO (stanchionlaw07_shown.f k ) (stanchionlaw07_shown.f (k + 1) ) := by
  intro  k
  unfold stanchionlaw07_shown.f
  repeat' first
      | (with_reducible exact batch_Bytes.mono _ _ _ _)
      | (with_reducible exact LeO.refl _)
      | (with_reducible exact LeO.none _)
      | (with_reducible refine LeO.ite ?_ ?_)
      | (with_reducible refine LeO.bind ?_ (fun _ => ?_))
      | exact batch_Bytes.mono _ _ _ _
      | exact LeO.none _
      | refine LeO.ite ?_ ?_
      | refine LeO.bind ?_ (fun _ => ?_)

/-! ### stanchionref05_Same (function 12): what it is -/
/-! ### stanchionref07_Same (function 17): what it is -/
/-! ### table_at: function 61 -/
def table_at.f (l0 : List S68) (a1 : ByteArray) : Option Int := some (ixOf (fun x => x.f0.toList == a1.toList) l0)

/-! ### table_Find (function 49): what it is -/
def table_Find.f (l0 : List (S68)) (a1 : ByteArray) : Option (ByteArray × Bool) := (table_at.f l0 a1).bind fun t131 => (if t131 < 0 then (some ((⟨#[]⟩ : ByteArray), false)) else (if 0 ≤ t131 then (if t131 < (l0.length : Int) then (some ((rd_T68 l0 t131).f1, true)) else (none)) else (none)))

/-! ### batch_Decided (function 27): what it is -/
def batch_Decided.f (l0_0 : List (S68)) (l0_1 : List (S68)) (a1 : ByteArray) : Option (ByteArray × Bool) := (table_Find.f l0_1 a1).bind fun bt134 => (some (bt134.1, bt134.2))

/-! ### api_Pair_58 (function 58): what it is -/
def api_Pair_58.f (l0 : List (S68)) : Option ((List (S68))) := (some (([] : List (S68)) : List (S68))).bind fun y136 => (if y136.length + l0.length < 4398046511104 then (some (y136 ++ l0)) else (none))


/-! ### table_Put: function 48 -/
def gtK68 (key : ByteArray) (x : S68) : Bool := !Op.bytesLess x.f0.toList key.toList && !x.f0.toList == key.toList
def eqK68 (key : ByteArray) (x : S68) : Bool := x.f0.toList == key.toList
def putL68 (l : List S68) (key val : ByteArray) : List S68 :=
  if 0 ≤ ixOf (eqK68 key) l then l.set (ixOf (eqK68 key) l).toNat ⟨key, val⟩
  else if ixOf (gtK68 key) l < 0 then l ++ [⟨key, val⟩]
  else l.take (ixOf (gtK68 key) l).toNat ++ ⟨key, val⟩ :: l.drop (ixOf (gtK68 key) l).toNat
def table_Put.f (l0 : List S68) (a1 a2 : ByteArray) : Option (List S68) := (api_Pair_58.f l0).bind fun y => if y.length < 4398046511104 then some (putL68 y a1 a2) else none


/-! ### table_Drop: function 69 -/
def dropL68 (l : List S68) (key : ByteArray) : List S68 := l.filter (fun x => !eqK68 key x)
def table_Drop.f (l0 : List S68) (a1 : ByteArray) : Option (List S68) := (api_Pair_58.f l0).bind fun y => some (dropL68 y a1)

/-! ### table_Apply: function 47 -/
def applyF68 : List S68 → List S54 → Option (List S68)
  | l, [] => some l
  | l, x :: ws => (if x.f2 = true then table_Drop.f l x.f0 else table_Put.f l x.f0 x.f1).bind fun y => applyF68 y ws
def table_Apply.f (l0 : List S68) (l1 : List S54) : Option (List S68) := (api_Pair_58.f l0).bind fun y => applyF68 y l1

/-! ### batch_Do (function 25): what it is -/
def batch_Do.f (k : Nat) (l0_0 : List (S68)) (l0_1 : List (S68)) (a1_0 : Int) (a1_1 : ByteArray) (l1_2 : List (S54)) : Option ((List (S68)) × (List (S68)) × Int) := (batch_May.f k a1_0 a1_1 l1_2).bind fun t145 => (if t145 = true then ((batch_Decided.f l0_0 l0_1 a1_1).bind fun bt146 => (if bt146.2 = true then (some (l0_0, l0_1, 8)) else (if a1_0 = 2 then ((table_Apply.f l0_0 l1_2).bind fun t148 => ((table_Put.f l0_1 a1_1 (⟨#[103]⟩ : ByteArray)).bind fun t151 => (some (t148, t151, 0)))) else ((table_Apply.f l0_0 l1_2).bind fun t154 => ((table_Put.f l0_1 a1_1 (⟨#[99]⟩ : ByteArray)).bind fun t157 => (some (t154, t157, 0))))))) else (some (l0_0, l0_1, 1)))
/-! ### stanchionref01_Less (function 46): what it is -/
mutual
def stanchionref01_Less.l0 : Nat → ByteArray → ByteArray → Int → Option (Bool)
  | 0, _, _, _ => none
  | k + 1, x0, x1, x5 => if x5 < (x0.size : Int) then (stanchionref01_Less.j1 k x0 x1 x5 (decide (x5 < (x1.size : Int)))) else (stanchionref01_Less.j1 k x0 x1 x5 false)
def stanchionref01_Less.j1 : Nat → ByteArray → ByteArray → Int → Bool → Option (Bool)
  | 0, _, _, _, _ => none
  | k + 1, x0, x1, x5, x15 => if x15 = true then (if 0 ≤ x5 then (if x5 < (x0.size : Int) then (if x5 < (x1.size : Int) then (if (bt x0 x5) = (bt x1 x5) then (stanchionref01_Less.l0 k x0 x1 (wrap64 (x5 + 1))) else (some (decide ((bt x0 x5) < (bt x1 x5))))) else (none)) else (none)) else (none)) else (some (decide ((x0.size : Int) < (x1.size : Int))))
end
def stanchionref01_Less.f (k : Nat) (a0 : ByteArray) (a1 : ByteArray) : Option (Bool) := stanchionref01_Less.l0 k a0 a1 0
/-! ### stanchionref07_May (function 24): what it is -/
/-! ### stanchionref05_Find (function 26): what it is -/
def stanchionref05_Find.l0 : Nat → List (S68) → ByteArray → Int → Option (ByteArray × Bool)
  | 0, _, _, _ => none
  | k + 1, x0, x1, x6 => if x6 < (x0.length : Int) then (if 0 ≤ x6 then (if ((rd_T68 x0 x6).f0).toList = x1.toList then (some ((rd_T68 x0 x6).f1, true)) else (stanchionref05_Find.l0 k x0 x1 (wrap64 (x6 + 1)))) else (none)) else (some ((⟨#[]⟩ : ByteArray), false))
def stanchionref05_Find.f (k : Nat) (l0 : List (S68)) (a1 : ByteArray) : Option (ByteArray × Bool) := stanchionref05_Find.l0 k l0 a1 0
/-! ### stanchionref07_Decided (function 30): what it is -/
/-! ### stanchionref05_Put (function 51): what it is -/
/-! ### stanchionref05_Drop (function 65): what it is -/
/-! ### stanchionref05_Apply (function 50): what it is -/
/-! ### stanchionref07_Do (function 29): what it is -/
/-! ### api_Pair_52 (function 52): what it is -/
/-! ### batch_Same (function 31): what it is -/
/-! ### stanchionlaw07_BatchDoes (function 8): what it is -/
/-! ### stanchionlaw07_BatchApart (function 6): what it is -/
/-! ### stanchionref05_Right (function 28): what it is -/
def stanchionref05_Right.l0 : Nat → List (S68) → Int → Option (Bool)
  | 0, _, _ => none
  | k + 1, x0, x3 => if x3 < (x0.length : Int) then (if 0 ≤ (wrap64 (x3 - 1)) then (if (wrap64 (x3 - 1)) < (x0.length : Int) then (if 0 ≤ x3 then ((stanchionref01_Less.f k ((rd_T68 x0 (wrap64 (x3 - 1))).f0) ((rd_T68 x0 x3).f0)).bind fun t286 => (if t286 = true then (stanchionref05_Right.l0 k x0 (wrap64 (x3 + 1))) else (some false))) else (none)) else (none)) else (none)) else (some true)
def stanchionref05_Right.f (k : Nat) (l0 : List (S68)) : Option (Bool) := stanchionref05_Right.l0 k l0 1
/-! ### stanchionlaw07_BatchWrites (function 7): what it is -/
def stanchionlaw07_BatchWrites.f (k : Nat) (l0_0 : List (S68)) (l0_1 : List (S68)) (a1_0 : Int) (a1_1 : ByteArray) (l1_2 : List (S54)) (a2 : Int) : Option (Bool) := (stanchionlaw07_shown.f k).bind fun t289 => ((batch_Do.f k l0_0 l0_1 a1_0 a1_1 l1_2).bind fun bt290 => ((stanchionref05_Right.f k l0_0).bind fun t298 => (if bt290.2.2 = 0 then (if t298 = true then (if a2 < 0 then (some t289) else (if a2 ≥ (l1_2.length : Int) then (some t289) else (if 0 ≤ a2 then (if a2 < (l1_2.length : Int) then ((stanchionref05_Find.f k bt290.1 ((rd_T54 l1_2 a2).f0)).bind fun bt300 => (if t289 = true then (if (bt300.2 == (!((rd_T54 l1_2 a2).f2))) = true then (if bt300.2 = true then (some (bt300.1.toList == ((rd_T54 l1_2 a2).f1).toList)) else (some true)) else (some false)) else (some false))) else (none)) else (none)))) else (some t289)) else (some t289))))
/-! ### batch_May_1: function 44 -/
set_option maxHeartbeats 8000000 in
set_option maxRecDepth 100000 in
theorem batch_May_1.calls (a0_0 : ByteArray) (a0_1 : ByteArray) (a0_2 : Bool) (r : Bool) (w : World) (h : batch_May_1.f a0_0 a0_1 a0_2 = some r) :
    Calls Try.prog 44 #[.agg #[.string a0_0, .string a0_1, .bool a0_2]] w fun e w' => e = .returned (.bool r) ∧ Below w.heap.size w w' := by
  have hu54 := Try.underlying54
  have HB := Aside0.mk (Below.refl w.heap.size w)
  have H : (if (a0_0.size : Int) < 1 then (some true) else (if (a0_0.size : Int) > 32 then (some true) else (if (a0_1.size : Int) > 64 then (some true) else (if a0_2 = true then (some (a0_1.toList != ([] : List UInt8))) else (some false))))) = some r := h
  clear h
  by_cases c2 : (a0_0.size : Int) < 1
  · rw [if_pos c2] at H
    have c2b0 : decide ((a0_0.size : Int) < 1) = true := decide_eq_true c2
    have c2b1 : decide (a0_0.size < 1) = true := decide_eq_true (by omega)
    clear c2
    obtain rfl := Option.some.inj H
    go_enter Try.func44, Try.ntmps44
    go_wp2_with (first | ((with_reducible refine gate_dst (N := 1) rfl ?_); (try (refine gate_guard (by rfl) ?_; dsimp only)); refine box_event ?hg (N := 1) ?hd (cs := #[.string a0_0, .string a0_1, .bool a0_2]) (t := 54) ?hr ?_; (case hd => rfl); (case hg => rfl); (case hr => first | (go_simp; done) | (go_simp; rfl)); intro gb101 hg w3 hbox hb; have n0_ := Aside0.mk (below_step (by repeat (first | (with_reducible first | exact HB.out | apply below_alloc | apply pw_below_drewN | apply below_drew1) | exact HB.out)) hb); have n1_ := Aside0.mk (hbox); have n2_ := Aside0.mk ((by rw [hg]; exact (below_size (by repeat (first | (with_reducible first | exact HB.out | apply below_alloc | apply pw_below_drewN | apply below_drew1) | exact HB.out))) : w.heap.size ≤ gb101)); have n3_ := Aside0.mk ((by rw [hg]; exact (below_size (by repeat (first | (with_reducible first | exact HB.out | apply below_alloc | apply pw_below_drewN | apply below_drew1) | exact HB.out))) : w.heap.size ≤ gb101)); clear HB; have HB := n0_; have BK101 := n1_; have GW101 := n2_; have GE101 := n3_; clear n0_ n1_ n2_ n3_; clear hb hbox hg; have hcz4_0 : w3.cell? ⟨gb101, 0, none⟩ = some (.string a0_0) := (blk_cell BK101.out 0).trans rfl; have hcz4_1 : w3.cell? ⟨gb101, 1, none⟩ = some (.string a0_1) := (blk_cell BK101.out 1).trans rfl; have hcz4_2 : w3.cell? ⟨gb101, 2, none⟩ = some (.bool a0_2) := (blk_cell BK101.out 2).trans rfl; have hfz4_0 := blk_frozen BK101.out 0; have hfz4_1 := blk_frozen BK101.out 1; have hfz4_2 := blk_frozen BK101.out 2))
    go_ret
    exact ⟨by first | rfl | (simp [errW_none, errW_some] <;> rfl) | (simp [*, errW_none, errW_some] <;> rfl) | (simp [*, errW_none, errW_some]; generalize ByteArray.toList _ = q_; cases q_ <;> rfl), by repeat (first | (with_reducible first | exact HB.out | apply below_alloc | apply pw_below_drewN | apply below_drew1 | refine below_set ?_ GE101.out) | exact HB.out)⟩
  · rw [if_neg c2] at H
    have c2b0 : decide ((a0_0.size : Int) < 1) = false := decide_eq_false c2
    have c2b1 : decide (a0_0.size < 1) = false := decide_eq_false (by omega)
    clear c2
    by_cases c5 : (a0_0.size : Int) > 32
    · rw [if_pos c5] at H
      have c5b0 : decide (32 < (a0_0.size : Int)) = true := decide_eq_true c5
      have c5b1 : decide (32 < a0_0.size) = true := decide_eq_true (by omega)
      clear c5
      obtain rfl := Option.some.inj H
      go_enter Try.func44, Try.ntmps44
      go_wp2_with (first | ((with_reducible refine gate_dst (N := 1) rfl ?_); (try (refine gate_guard (by rfl) ?_; dsimp only)); refine box_event ?hg (N := 1) ?hd (cs := #[.string a0_0, .string a0_1, .bool a0_2]) (t := 54) ?hr ?_; (case hd => rfl); (case hg => rfl); (case hr => first | (go_simp; done) | (go_simp; rfl)); intro gb101 hg w6 hbox hb; have n0_ := Aside0.mk (below_step (by repeat (first | (with_reducible first | exact HB.out | apply below_alloc | apply pw_below_drewN | apply below_drew1) | exact HB.out)) hb); have n1_ := Aside0.mk (hbox); have n2_ := Aside0.mk ((by rw [hg]; exact (below_size (by repeat (first | (with_reducible first | exact HB.out | apply below_alloc | apply pw_below_drewN | apply below_drew1) | exact HB.out))) : w.heap.size ≤ gb101)); have n3_ := Aside0.mk ((by rw [hg]; exact (below_size (by repeat (first | (with_reducible first | exact HB.out | apply below_alloc | apply pw_below_drewN | apply below_drew1) | exact HB.out))) : w.heap.size ≤ gb101)); clear HB; have HB := n0_; have BK101 := n1_; have GW101 := n2_; have GE101 := n3_; clear n0_ n1_ n2_ n3_; clear hb hbox hg; have hcz7_0 : w6.cell? ⟨gb101, 0, none⟩ = some (.string a0_0) := (blk_cell BK101.out 0).trans rfl; have hcz7_1 : w6.cell? ⟨gb101, 1, none⟩ = some (.string a0_1) := (blk_cell BK101.out 1).trans rfl; have hcz7_2 : w6.cell? ⟨gb101, 2, none⟩ = some (.bool a0_2) := (blk_cell BK101.out 2).trans rfl; have hfz7_0 := blk_frozen BK101.out 0; have hfz7_1 := blk_frozen BK101.out 1; have hfz7_2 := blk_frozen BK101.out 2))
      go_ret
      exact ⟨by first | rfl | (simp [errW_none, errW_some] <;> rfl) | (simp [*, errW_none, errW_some] <;> rfl) | (simp [*, errW_none, errW_some]; generalize ByteArray.toList _ = q_; cases q_ <;> rfl), by repeat (first | (with_reducible first | exact HB.out | apply below_alloc | apply pw_below_drewN | apply below_drew1 | refine below_set ?_ GE101.out) | exact HB.out)⟩
    · rw [if_neg c5] at H
      have c5b0 : decide (32 < (a0_0.size : Int)) = false := decide_eq_false c5
      have c5b1 : decide (32 < a0_0.size) = false := decide_eq_false (by omega)
      clear c5
      by_cases c8 : (a0_1.size : Int) > 64
      · rw [if_pos c8] at H
        have c8b0 : decide (64 < (a0_1.size : Int)) = true := decide_eq_true c8
        have c8b1 : decide (64 < a0_1.size) = true := decide_eq_true (by omega)
        clear c8
        obtain rfl := Option.some.inj H
        go_enter Try.func44, Try.ntmps44
        go_wp2_with (first | ((with_reducible refine gate_dst (N := 1) rfl ?_); (try (refine gate_guard (by rfl) ?_; dsimp only)); refine box_event ?hg (N := 1) ?hd (cs := #[.string a0_0, .string a0_1, .bool a0_2]) (t := 54) ?hr ?_; (case hd => rfl); (case hg => rfl); (case hr => first | (go_simp; done) | (go_simp; rfl)); intro gb101 hg w9 hbox hb; have n0_ := Aside0.mk (below_step (by repeat (first | (with_reducible first | exact HB.out | apply below_alloc | apply pw_below_drewN | apply below_drew1) | exact HB.out)) hb); have n1_ := Aside0.mk (hbox); have n2_ := Aside0.mk ((by rw [hg]; exact (below_size (by repeat (first | (with_reducible first | exact HB.out | apply below_alloc | apply pw_below_drewN | apply below_drew1) | exact HB.out))) : w.heap.size ≤ gb101)); have n3_ := Aside0.mk ((by rw [hg]; exact (below_size (by repeat (first | (with_reducible first | exact HB.out | apply below_alloc | apply pw_below_drewN | apply below_drew1) | exact HB.out))) : w.heap.size ≤ gb101)); clear HB; have HB := n0_; have BK101 := n1_; have GW101 := n2_; have GE101 := n3_; clear n0_ n1_ n2_ n3_; clear hb hbox hg; have hcz10_0 : w9.cell? ⟨gb101, 0, none⟩ = some (.string a0_0) := (blk_cell BK101.out 0).trans rfl; have hcz10_1 : w9.cell? ⟨gb101, 1, none⟩ = some (.string a0_1) := (blk_cell BK101.out 1).trans rfl; have hcz10_2 : w9.cell? ⟨gb101, 2, none⟩ = some (.bool a0_2) := (blk_cell BK101.out 2).trans rfl; have hfz10_0 := blk_frozen BK101.out 0; have hfz10_1 := blk_frozen BK101.out 1; have hfz10_2 := blk_frozen BK101.out 2))
        go_ret
        exact ⟨by first | rfl | (simp [errW_none, errW_some] <;> rfl) | (simp [*, errW_none, errW_some] <;> rfl) | (simp [*, errW_none, errW_some]; generalize ByteArray.toList _ = q_; cases q_ <;> rfl), by repeat (first | (with_reducible first | exact HB.out | apply below_alloc | apply pw_below_drewN | apply below_drew1 | refine below_set ?_ GE101.out) | exact HB.out)⟩
      · rw [if_neg c8] at H
        have c8b0 : decide (64 < (a0_1.size : Int)) = false := decide_eq_false c8
        have c8b1 : decide (64 < a0_1.size) = false := decide_eq_false (by omega)
        clear c8
        by_cases c11 : a0_2 = true
        · subst c11
          have H1 : (some (a0_1.toList != ([] : List UInt8))) = some r := by rw [if_pos rfl] at H; exact H
          clear H
          have H := H1
          clear H1
          obtain rfl := Option.some.inj H
          go_enter Try.func44, Try.ntmps44
          go_wp2_with (first | ((with_reducible refine gate_dst (N := 1) rfl ?_); (try (refine gate_guard (by rfl) ?_; dsimp only)); refine box_event ?hg (N := 1) ?hd (cs := #[.string a0_0, .string a0_1, .bool true]) (t := 54) ?hr ?_; (case hd => rfl); (case hg => rfl); (case hr => first | (go_simp; done) | (go_simp; rfl)); intro gb101 hg w12 hbox hb; have n0_ := Aside0.mk (below_step (by repeat (first | (with_reducible first | exact HB.out | apply below_alloc | apply pw_below_drewN | apply below_drew1) | exact HB.out)) hb); have n1_ := Aside0.mk (hbox); have n2_ := Aside0.mk ((by rw [hg]; exact (below_size (by repeat (first | (with_reducible first | exact HB.out | apply below_alloc | apply pw_below_drewN | apply below_drew1) | exact HB.out))) : w.heap.size ≤ gb101)); have n3_ := Aside0.mk ((by rw [hg]; exact (below_size (by repeat (first | (with_reducible first | exact HB.out | apply below_alloc | apply pw_below_drewN | apply below_drew1) | exact HB.out))) : w.heap.size ≤ gb101)); clear HB; have HB := n0_; have BK101 := n1_; have GW101 := n2_; have GE101 := n3_; clear n0_ n1_ n2_ n3_; clear hb hbox hg; have hcz13_0 : w12.cell? ⟨gb101, 0, none⟩ = some (.string a0_0) := (blk_cell BK101.out 0).trans rfl; have hcz13_1 : w12.cell? ⟨gb101, 1, none⟩ = some (.string a0_1) := (blk_cell BK101.out 1).trans rfl; have hcz13_2 : w12.cell? ⟨gb101, 2, none⟩ = some (.bool true) := (blk_cell BK101.out 2).trans rfl; have hfz13_0 := blk_frozen BK101.out 0; have hfz13_1 := blk_frozen BK101.out 1; have hfz13_2 := blk_frozen BK101.out 2))
          go_ret
          exact ⟨by first | rfl | (simp [errW_none, errW_some] <;> rfl) | (simp [*, errW_none, errW_some] <;> rfl) | (simp [*, errW_none, errW_some]; generalize ByteArray.toList _ = q_; cases q_ <;> rfl), by repeat (first | (with_reducible first | exact HB.out | apply below_alloc | apply pw_below_drewN | apply below_drew1 | refine below_set ?_ GE101.out) | exact HB.out)⟩
        · replace c11 := Bool.eq_false_iff.mpr c11
          subst c11
          have H1 : (some false) = some r := by rw [if_neg (show ¬ (false = true) by decide)] at H; exact H
          clear H
          have H := H1
          clear H1
          obtain rfl := Option.some.inj H
          go_enter Try.func44, Try.ntmps44
          go_wp2_with (first | ((with_reducible refine gate_dst (N := 1) rfl ?_); (try (refine gate_guard (by rfl) ?_; dsimp only)); refine box_event ?hg (N := 1) ?hd (cs := #[.string a0_0, .string a0_1, .bool false]) (t := 54) ?hr ?_; (case hd => rfl); (case hg => rfl); (case hr => first | (go_simp; done) | (go_simp; rfl)); intro gb101 hg w14 hbox hb; have n0_ := Aside0.mk (below_step (by repeat (first | (with_reducible first | exact HB.out | apply below_alloc | apply pw_below_drewN | apply below_drew1) | exact HB.out)) hb); have n1_ := Aside0.mk (hbox); have n2_ := Aside0.mk ((by rw [hg]; exact (below_size (by repeat (first | (with_reducible first | exact HB.out | apply below_alloc | apply pw_below_drewN | apply below_drew1) | exact HB.out))) : w.heap.size ≤ gb101)); have n3_ := Aside0.mk ((by rw [hg]; exact (below_size (by repeat (first | (with_reducible first | exact HB.out | apply below_alloc | apply pw_below_drewN | apply below_drew1) | exact HB.out))) : w.heap.size ≤ gb101)); clear HB; have HB := n0_; have BK101 := n1_; have GW101 := n2_; have GE101 := n3_; clear n0_ n1_ n2_ n3_; clear hb hbox hg; have hcz15_0 : w14.cell? ⟨gb101, 0, none⟩ = some (.string a0_0) := (blk_cell BK101.out 0).trans rfl; have hcz15_1 : w14.cell? ⟨gb101, 1, none⟩ = some (.string a0_1) := (blk_cell BK101.out 1).trans rfl; have hcz15_2 : w14.cell? ⟨gb101, 2, none⟩ = some (.bool false) := (blk_cell BK101.out 2).trans rfl; have hfz15_0 := blk_frozen BK101.out 0; have hfz15_1 := blk_frozen BK101.out 1; have hfz15_2 := blk_frozen BK101.out 2))
          go_ret
          exact ⟨by first | rfl | (simp [errW_none, errW_some] <;> rfl) | (simp [*, errW_none, errW_some] <;> rfl) | (simp [*, errW_none, errW_some]; generalize ByteArray.toList _ = q_; cases q_ <;> rfl), by repeat (first | (with_reducible first | exact HB.out | apply below_alloc | apply pw_below_drewN | apply below_drew1 | refine below_set ?_ GE101.out) | exact HB.out)⟩

end Go.Proofs.Ythcdlgphabaidaa.PB
