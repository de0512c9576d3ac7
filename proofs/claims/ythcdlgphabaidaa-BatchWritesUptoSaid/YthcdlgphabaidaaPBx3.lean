-- Made by a program of this workplace out of the translation (wip/tools in the repo). Not trusted: Lean checks it.
import Derived.Test.YthcdlgphabaidaaPBx0
namespace Go.Proofs.Ythcdlgphabaidaa.PB
open Go.RowKit Go.Proofs.YthcdlgphabaidaaW.PrintWords Go.Proofs.YthcdlgphabaidaaW.PrintLast Go.Proofs.YthcdlgphabaidaaW.PrintMore
attribute [local go_sem] max2_int min2_int max_two min_two max_three min_three max_four min_four   -- for this text's walks alone
set_option linter.unusedVariables false
set_option linter.unusedSimpArgs false

/-! ### batch_May_1 (function 44): what it is -/
def batch_May_1.f (a0_0 : ByteArray) (a0_1 : ByteArray) (a0_2 : Bool) : Option (Bool) := if (a0_0.size : Int) < 1 then (some true) else (if (a0_0.size : Int) > 32 then (some true) else (if (a0_1.size : Int) > 64 then (some true) else (if a0_2 = true then (some (a0_1.toList != ([] : List UInt8))) else (some false))))

/-! ### api_Write_57: function 57 -/
def ixOf {α : Type} (p : α → Bool) (l : List α) : Int := if l.findIdx p < l.length then ((l.findIdx p : Nat) : Int) else -1
theorem ixOf_hit {α : Type} (p : α → Bool) (l : List α) (d : α) (k : Nat) (h : k < l.length) (hk : p (l.getD k d) = true) (hn : ∀ j, j < k → p (l.getD j d) = false) : ixOf p l = (k : Int) := by
  have e : l.findIdx p = k := by
    rw [List.findIdx_eq h]
    refine ⟨by rw [List.getD_eq_getElem?_getD, List.getElem?_eq_getElem h] at hk; exact hk, fun j hj => ?_⟩
    have := hn j hj
    rw [List.getD_eq_getElem?_getD, List.getElem?_eq_getElem (by omega)] at this
    exact this
  unfold ixOf
  rw [e, if_pos h]
theorem ixOf_miss {α : Type} (p : α → Bool) (l : List α) (d : α) (hn : ∀ j, j < l.length → p (l.getD j d) = false) : ixOf p l = -1 := by
  unfold ixOf
  rw [if_neg]
  intro h
  have h1 := List.findIdx_getElem (w := h) (p := p) (xs := l)
  have h2 := hn _ h
  rw [List.getD_eq_getElem?_getD, List.getElem?_eq_getElem h] at h2
  have h3 : p l[l.findIdx p] = false := h2
  rw [h3] at h1
  cases h1
theorem ixOf_cases {α : Type} (p : α → Bool) (l : List α) : ixOf p l = -1 ∨ ∃ i : Nat, i < l.length ∧ ixOf p l = (i : Int) := by
  unfold ixOf
  split
  · exact .inr ⟨_, by assumption, rfl⟩
  · exact .inl rfl


/-! ### batch_May: function 23 -/
def batch_May_has.f (l0 : List (S54)) : Option (Bool) := some (l0.any (fun x => (batch_May_1.f x.f0 x.f1 x.f2).getD false))
mutual
def batch_May.j0 : Nat → Bool → Int → ByteArray → List (S54) → Option (Bool)
  | 0, _, _, _, _ => none
  | k + 1, x41, x103000, x103001, x103002 => if x41 = true then (some false) else (batch_May.l0 k 1 x103000 x103001 x103002)
def batch_May.l0 : Nat → Int → Int → ByteArray → List (S54) → Option (Bool)
  | 0, _, _, _, _ => none
  | k + 1, x4, x103000, x103001, x103002 => if x4 < (x103002.length : Int) then (if 0 ≤ (wrap64 (x4 - 1)) then (if (wrap64 (x4 - 1)) < (x103002.length : Int) then (if 0 ≤ x4 then (if ((Op.bytesLess (((rd_T54 x103002 (wrap64 (x4 - 1))).f0).toList) (((rd_T54 x103002 x4).f0).toList)) = true) then (batch_May.l0 k (wrap64 (x4 + 1)) x103000 x103001 x103002) else (some false)) else (none)) else (none)) else (none)) else ((batch_May_has.f x103002).bind fun t105 => (some (!t105)))
end
def batch_May.f (k : Nat) (a0_0 : Int) (a0_1 : ByteArray) (l0_2 : List (S54)) : Option (Bool) := if a0_0 = 1 then (if (a0_1.size : Int) < 1 then (batch_May.j0 k true a0_0 a0_1 l0_2) else (if (a0_1.size : Int) > 16 then (batch_May.j0 k true a0_0 a0_1 l0_2) else (if (l0_2.length : Int) > 24 then (batch_May.j0 k true a0_0 a0_1 l0_2) else (if a0_0 = 2 then (batch_May.j0 k (decide ((l0_2.length : Int) > 0)) a0_0 a0_1 l0_2) else (batch_May.j0 k false a0_0 a0_1 l0_2))))) else (if a0_0 = 2 then (if (a0_1.size : Int) < 1 then (batch_May.j0 k true a0_0 a0_1 l0_2) else (if (a0_1.size : Int) > 16 then (batch_May.j0 k true a0_0 a0_1 l0_2) else (if (l0_2.length : Int) > 24 then (batch_May.j0 k true a0_0 a0_1 l0_2) else (batch_May.j0 k (decide ((l0_2.length : Int) > 0)) a0_0 a0_1 l0_2)))) else (batch_May.j0 k true a0_0 a0_1 l0_2))
theorem batch_May.mono_l : ∀ k, (∀ y0 y1 y2 y3, LeO (batch_May.j0 k y0 y1 y2 y3) (batch_May.j0 (k + 1) y0 y1 y2 y3)) ∧ (∀ y0 y1 y2 y3, LeO (batch_May.l0 k y0 y1 y2 y3) (batch_May.l0 (k + 1) y0 y1 y2 y3))
  | 0 => ⟨fun _ _ _ _ r h => by simp [batch_May.j0] at h, fun _ _ _ _ r h => by simp [batch_May.l0] at h⟩
  | k + 1 => by
    obtain ⟨ih0, ih1⟩ := batch_May.mono_l k
    refine ⟨?_, ?_⟩
    · intro y0 y1 y2 y3
      unfold batch_May.j0
      repeat' first
      | (with_reducible exact ih0 _ _ _ _)
      | (with_reducible exact ih1 _ _ _ _)
      | (with_reducible exact LeO.refl _)
      | (with_reducible exact LeO.none _)
      | (with_reducible refine LeO.ite ?_ ?_)
      | (with_reducible refine LeO.bind ?_ (fun _ => ?_))
      | exact ih0 _ _ _ _
      | exact ih1 _ _ _ _
      | exact LeO.none _
      | refine LeO.ite ?_ ?_
      | refine LeO.bind ?_ (fun _ => ?_)
    · intro y0 y1 y2 y3
      unfold batch_May.l0
      repeat' first
      | (with_reducible exact ih0 _ _ _ _)
      | (with_reducible exact ih1 _ _ _ _)
      | (with_reducible exact LeO.refl _)
      | (with_reducible exact LeO.none _)
      | (with_reducible refine LeO.ite ?_ ?_)
      | (with_reducible refine LeO.bind ?_ (fun _ => ?_))
      | exact ih0 _ _ _ _
      | exact ih1 _ _ _ _
      | exact LeO.none _
      | refine LeO.ite ?_ ?_
      | refine LeO.bind ?_ (fun _ => ?_)
theorem batch_May.mono : ∀ a0 a1 a2 k, LeO (batch_May.f k a0 a1 a2) (batch_May.f (k + 1) a0 a1 a2) := by
  intro a0 a1 a2 k
  obtain ⟨ih0, ih1⟩ := batch_May.mono_l k
  unfold batch_May.f
  repeat' first
      | (with_reducible exact ih0 _ _ _ _)
      | (with_reducible exact ih1 _ _ _ _)
      | (with_reducible exact LeO.refl _)
      | (with_reducible exact LeO.none _)
      | (with_reducible refine LeO.ite ?_ ?_)
      | (with_reducible refine LeO.bind ?_ (fun _ => ?_))
      | exact ih0 _ _ _ _
      | exact ih1 _ _ _ _
      | exact LeO.none _
      | refine LeO.ite ?_ ?_
      | refine LeO.bind ?_ (fun _ => ?_)

/-! ### dec_Num: function 34 -/
def dg : Nat → Nat → List UInt8 → List UInt8
  | 0, _, acc => acc
  | k + 1, v, acc => if v / 10 = 0 then UInt8.ofNat (48 + v % 10) :: acc else dg k (v / 10) (UInt8.ofNat (48 + v % 10) :: acc)
def numB (v : Nat) : ByteArray := ⟨(dg 20 v [59]).toArray⟩
def dec_Num.f (a0 : Int) : Option ByteArray := if 0 ≤ a0 then (if a0 < 18446744073709551616 then some (numB a0.toNat) else none) else none

/-! ### dec_Text (function 35): what it is -/
def dec_Text.f (a0 : ByteArray) : Option (ByteArray) := (dec_Num.f (IntKind.u64.wrap ((a0.size : Int)))).bind fun t106 => (if t106.size + a0.size ≤ 9223372036854775807 then (some (t106 ++ a0)) else (none))

/-! ### batch_Bytes: function 18 -/
def batch_Bytes.l0 : Nat → ByteArray → List (S54) → Int → Int → Option (ByteArray × Int)
  | 0, _, _, _, _ => none
  | k + 1, x4, x27, x28, x29 => if x29 < x28 then (if 0 ≤ x29 then (if x29 < (x27.length : Int) then (if (rd_T54 x27 x29).f2 = true then ((dec_Num.f 1).bind fun t114 => ((dec_Text.f ((rd_T54 x27 x29).f0)).bind fun t115 => (if t114.size + t115.size ≤ 9223372036854775807 then ((dec_Text.f ((rd_T54 x27 x29).f1)).bind fun t116 => (if (t114 ++ t115).size + t116.size ≤ 9223372036854775807 then (if x4.size + ((t114 ++ t115) ++ t116).size ≤ 140737488355328 then (batch_Bytes.l0 k (x4 ++ ((t114 ++ t115) ++ t116)) x27 x28 (wrap64 (x29 + 1))) else (none)) else (none))) else (none)))) else ((dec_Num.f 0).bind fun t117 => ((dec_Text.f ((rd_T54 x27 x29).f0)).bind fun t118 => (if t117.size + t118.size ≤ 9223372036854775807 then ((dec_Text.f ((rd_T54 x27 x29).f1)).bind fun t119 => (if (t117 ++ t118).size + t119.size ≤ 9223372036854775807 then (if x4.size + ((t117 ++ t118) ++ t119).size ≤ 140737488355328 then (batch_Bytes.l0 k (x4 ++ ((t117 ++ t118) ++ t119)) x27 x28 (wrap64 (x29 + 1))) else (none)) else (none))) else (none))))) else (none)) else (none)) else (some (x4, 0))
def batch_Bytes.f (k : Nat) (a0_0 : Int) (a0_1 : ByteArray) (l0_2 : List (S54)) : Option (ByteArray × Int) := (batch_May.f k a0_0 a0_1 l0_2).bind fun t108 => (if t108 = true then ((dec_Num.f (IntKind.u64.wrap (a0_0))).bind fun t109 => ((dec_Text.f a0_1).bind fun t110 => (if t109.size + t110.size ≤ 9223372036854775807 then ((dec_Num.f (IntKind.u64.wrap ((l0_2.length : Int)))).bind fun t111 => (if (t109 ++ t110).size + t111.size ≤ 9223372036854775807 then (if 0 + ((t109 ++ t110) ++ t111).size ≤ 140737488355328 then (batch_Bytes.l0 k ((⟨#[]⟩ : ByteArray) ++ ((t109 ++ t110) ++ t111)) l0_2 (l0_2.length : Int) 0) else (none)) else (none))) else (none)))) else (some ((⟨#[]⟩ : ByteArray), 1)))
theorem batch_Bytes.mono_l : ∀ k, (∀ y0 y1 y2 y3, LeO (batch_Bytes.l0 k y0 y1 y2 y3) (batch_Bytes.l0 (k + 1) y0 y1 y2 y3))
  | 0 => fun _ _ _ _ r h => by simp [batch_Bytes.l0] at h
  | k + 1 => by
    have ih0 := batch_Bytes.mono_l k
    · intro y0 y1 y2 y3
      unfold batch_Bytes.l0
      repeat' first
      | (with_reducible exact ih0 _ _ _ _)
      | (with_reducible exact batch_May.mono _ _ _ _)
      | (with_reducible exact LeO.refl _)
      | (with_reducible exact LeO.none _)
      | (with_reducible refine LeO.ite ?_ ?_)
      | (with_reducible refine LeO.bind ?_ (fun _ => ?_))
      | exact ih0 _ _ _ _
      | exact batch_May.mono _ _ _ _
      | exact LeO.none _
      | refine LeO.ite ?_ ?_
      | refine LeO.bind ?_ (fun _ => ?_)
theorem batch_Bytes.mono : ∀ a0 a1 a2 k, LeO (batch_Bytes.f k a0 a1 a2) (batch_Bytes.f (k + 1) a0 a1 a2) := by
  intro a0 a1 a2 k
  have ih0 := batch_Bytes.mono_l k
  unfold batch_Bytes.f
  repeat' first
      | (with_reducible exact ih0 _ _ _ _)
      | (with_reducible exact batch_May.mono _ _ _ _)
      | (with_reducible exact LeO.refl _)
      | (with_reducible exact LeO.none _)
      | (with_reducible refine LeO.ite ?_ ?_)
      | (with_reducible refine LeO.bind ?_ (fun _ => ?_))
      | exact ih0 _ _ _ _
      | exact batch_May.mono _ _ _ _
      | exact LeO.none _
      | refine LeO.ite ?_ ?_
      | refine LeO.bind ?_ (fun _ => ?_)

/-! ### stanchionlaw07_shown (function 11): what it is -/
def stanchionlaw07_shown.f (k : Nat)  : Option (Bool) := (batch_Bytes.f k 1 (⟨#[116]⟩ : ByteArray) (([(⟨(⟨#[97]⟩ : ByteArray), (⟨#[49]⟩ : ByteArray), false⟩ : S54)] : List (S54)))).bind fun bt123 => (if bt123.1.toList = ([49, 59, 49, 59, 116, 49, 59, 48, 59, 49, 59, 97, 49, 59, 49] : List UInt8) then (some (bt123.2 == 0)) else (some false))
theorem stanchionlaw07_shown.mono : ∀ k, LeO (stanchionlaw07_shown.f k ) (stanchionlaw07_shown.f (k + 1) ) := by
  intro  k
  unfold stanchionlaw07_shown.f
  repeat' first
      | (with_reducible exact batch_Bytes.mono _ _ _ _)
      | (with_reducible exact LeO.refl _)
      | (with_reducible exact LeO.none _)
      | (with_reducible refine LeO.ite ?_ ?_)
      | (with_reducible refine LeO.bind ?_ (fun _ => ?_))
      | exact batch_Bytes.mono _ _ _ _
      | exact LeO.none _
      | refine LeO.ite ?_ ?_
      | refine LeO.bind ?_ (fun _ => ?_)

/-! ### stanchionref05_Same (function 12): what it is -/
/-! ### batch_Pairs (function 13): what it is -/
/-! ### stanchionref07_Pairs (function 14): what it is -/
/-! ### stringslite_HasPrefix (function 66): what it is -/
/-! ### stringslite_CutPrefix (function 53): what it is -/
/-! ### strings_CutPrefix (function 32): what it is -/
/-! ### batch_Back (function 15): what it is -/
/-! ### stanchionref07_Back (function 16): what it is -/
/-! ### stanchionref07_Same (function 17): what it is -/
/-! ### stanchionlaw07_BatchPairs (function 3): what it is -/
/-! ### stanchionref01_Less (function 46): what it is -/
mutual
def stanchionref01_Less.l0 : Nat → ByteArray → ByteArray → Int → Option (Bool)
  | 0, _, _, _ => none
  | k + 1, x0, x1, x5 => if x5 < (x0.size : Int) then (stanchionref01_Less.j1 k x0 x1 x5 (decide (x5 < (x1.size : Int)))) else (stanchionref01_Less.j1 k x0 x1 x5 false)
def stanchionref01_Less.j1 : Nat → ByteArray → ByteArray → Int → Bool → Option (Bool)
  | 0, _, _, _, _ => none
  | k + 1, x0, x1, x5, x15 => if x15 = true then (if 0 ≤ x5 then (if x5 < (x0.size : Int) then (if x5 < (x1.size : Int) then (if (bt x0 x5) = (bt x1 x5) then (stanchionref01_Less.l0 k x0 x1 (wrap64 (x5 + 1))) else (some (decide ((bt x0 x5) < (bt x1 x5))))) else (none)) else (none)) else (none)) else (some (decide ((x0.size : Int) < (x1.size : Int))))
end
def stanchionref01_Less.f (k : Nat) (a0 : ByteArray) (a1 : ByteArray) : Option (Bool) := stanchionref01_Less.l0 k a0 a1 0
/-! ### stanchionref07_May (function 24): what it is -/
/-! ### stanchionref01_Num (function 37): what it is -/
/-! ### stanchionref01_Text (function 38): what it is -/
/-! ### stanchionref07_Bytes (function 19): what it is -/
/-! ### dec_told (function 68): what it is -/
end Go.Proofs.Ythcdlgphabaidaa.PB
