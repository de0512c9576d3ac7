-- Made by a program of this workplace out of the translation (wip/tools in the repo). Not trusted: Lean checks it.
import Derived.Test.YtbkfmicnjnklnaaPBx0
namespace Go.Proofs.Ytbkfmicnjnklnaa.PB
open Go.RowKit Go.Proofs.YtbkfmicnjnklnaaW.PrintWords Go.Proofs.YtbkfmicnjnklnaaW.PrintLast Go.Proofs.YtbkfmicnjnklnaaW.PrintMore
attribute [local go_sem] max2_int min2_int max_two min_two max_three min_three max_four min_four   -- for this text's walks alone
set_option linter.unusedVariables false
set_option linter.unusedSimpArgs false

/-! ### api_Write_26: function 26 -/
def ixOf {α : Type} (p : α → Bool) (l : List α) : Int := if l.findIdx p < l.length then ((l.findIdx p : Nat) : Int) else -1
theorem ixOf_hit {α : Type} (p : α → Bool) (l : List α) (d : α) (k : Nat) (h : k < l.length) (hk : p (l.getD k d) = true) (hn : ∀ j, j < k → p (l.getD j d) = false) : ixOf p l = (k : Int) := by
  have e : l.findIdx p = k := by
    rw [List.findIdx_eq h]
    refine ⟨by rw [List.getD_eq_getElem?_getD, List.getElem?_eq_getElem h] at hk; exact hk, fun j hj => ?_⟩
    have := hn j hj
    rw [List.getD_eq_getElem?_getD, List.getElem?_eq_getElem (by omega)] at this
    exact this
  unfold ixOf
  rw [e, if_pos h]
theorem ixOf_miss {α : Type} (p : α → Bool) (l : List α) (d : α) (hn : ∀ j, j < l.length → p (l.getD j d) = false) : ixOf p l = -1 := by
  unfold ixOf
  rw [if_neg]
  intro h
  have h1 := List.findIdx_getElem (w := h) (p := p) (xs := l)
  have h2 := hn _ h
  rw [List.getD_eq_getElem?_getD, List.getElem?_eq_getElem h] at h2
  have h3 : p l[l.findIdx p] = false := h2
  rw [h3] at h1
  cases h1
theorem ixOf_cases {α : Type} (p : α → Bool) (l : List α) : ixOf p l = -1 ∨ ∃ i : Nat, i < l.length ∧ ixOf p l = (i : Int) := by
  unfold ixOf
  split
  · exact .inr ⟨_, by assumption, rfl⟩
  · exact .inl rfl


/-! ### table_at: function 39 -/
def table_at.f (l0 : List S43) (a1 : ByteArray) : Option Int := some (ixOf (fun x => x.f0.toList == a1.toList) l0)

/-! ### table_Find (function 28): what it is -/
def table_Find.f (l0 : List (S43)) (a1 : ByteArray) : Option (ByteArray × Bool) := (table_at.f l0 a1).bind fun t101 => (if t101 < 0 then (some ((⟨#[]⟩ : ByteArray), false)) else (if 0 ≤ t101 then (if t101 < (l0.length : Int) then (some ((rd_T43 l0 t101).f1, true)) else (none)) else (none)))

/-! ### view_Get: function 11 -/
def geq33 (key : ByteArray) (x : S33) : Bool := x.f0.toList == key.toList
def view_Get.f (l0 : List S33) (l1 : List S43) (a2 : ByteArray) : Option (ByteArray × Bool) :=
  if ixOf (geq33 a2) l0 < 0 then table_Find.f l1 a2 else if (rd_T33 l0 (ixOf (geq33 a2) l0)).f2 = true then some ((⟨#[]⟩ : ByteArray), false) else some ((rd_T33 l0 (ixOf (geq33 a2) l0)).f1, true)
theorem ixOf_cases' {α : Type} (p : α → Bool) (l : List α) : ixOf p l = -1 ∨ ∃ i : Nat, i < l.length ∧ ixOf p l = (i : Int) := by
  unfold ixOf
  split
  · exact .inr ⟨_, by assumption, rfl⟩
  · exact .inl rfl

/-! ### table_Between (function 40): what it is -/
def table_Between.f (a0 : ByteArray) (a1 : ByteArray) (a2 : ByteArray) : Option (Bool) := if ((Op.bytesLess a0.toList a1.toList) = true) then (some false) else (if a2.toList = ([] : List UInt8) then (some true) else (some (Op.bytesLess a0.toList a2.toList)))

/-! ### table_Range (function 30): what it is -/
def table_Range.l0 : Nat → ByteArray → ByteArray → Int → List (S43) → List (S43) → Int → Int → Option ((List (S43)))
  | 0, _, _, _, _, _, _, _ => none
  | k + 1, x1, x2, x3, x9, x12, x13, x14 => if x14 < x13 then (if 0 ≤ x14 then (if x14 < (x12.length : Int) then (if (x9.length : Int) ≥ x3 then (some x9) else ((table_Between.f ((rd_T43 x12 x14).f0) x1 x2).bind fun t105 => (if t105 = true then (if x9.length < 4398046511104 then (table_Range.l0 k x1 x2 x3 (x9 ++ [(⟨(rd_T43 x12 x14).f0, (rd_T43 x12 x14).f1⟩ : S43)]) x12 x13 (wrap64 (x14 + 1))) else (none)) else (table_Range.l0 k x1 x2 x3 x9 x12 x13 (wrap64 (x14 + 1)))))) else (none)) else (none)) else (some x9)
def table_Range.f (k : Nat) (l0 : List (S43)) (a1 : ByteArray) (a2 : ByteArray) (a3 : Int) : Option ((List (S43))) := table_Range.l0 k a1 a2 a3 ([] : List (S43)) l0 (l0.length : Int) 0
theorem table_Range.mono_l : ∀ k, (∀ y0 y1 y2 y3 y4 y5 y6, LeO (table_Range.l0 k y0 y1 y2 y3 y4 y5 y6) (table_Range.l0 (k + 1) y0 y1 y2 y3 y4 y5 y6))
  | 0 => fun _ _ _ _ _ _ _ r h => by simp [table_Range.l0] at h
  | k + 1 => by
    have ih0 := table_Range.mono_l k
    · intro y0 y1 y2 y3 y4 y5 y6
      unfold table_Range.l0
      repeat' first
      | (with_reducible exact ih0 _ _ _ _ _ _ _)
      | (with_reducible exact LeO.refl _)
      | (with_reducible exact LeO.none _)
      | (with_reducible refine LeO.ite ?_ ?_)
      | (with_reducible refine LeO.bind ?_ (fun _ => ?_))
      | exact ih0 _ _ _ _ _ _ _
      | exact LeO.none _
      | refine LeO.ite ?_ ?_
      | refine LeO.bind ?_ (fun _ => ?_)
theorem table_Range.mono : ∀ a0 a1 a2 a3 k, LeO (table_Range.f k a0 a1 a2 a3) (table_Range.f (k + 1) a0 a1 a2 a3) := by
  intro a0 a1 a2 a3 k
  have ih0 := table_Range.mono_l k
  unfold table_Range.f
  repeat' first
      | (with_reducible exact ih0 _ _ _ _ _ _ _)
      | (with_reducible exact LeO.refl _)
      | (with_reducible exact LeO.none _)
      | (with_reducible refine LeO.ite ?_ ?_)
      | (with_reducible refine LeO.bind ?_ (fun _ => ?_))
      | exact ih0 _ _ _ _ _ _ _
      | exact LeO.none _
      | refine LeO.ite ?_ ?_
      | refine LeO.bind ?_ (fun _ => ?_)

/-! ### api_Pair_41 (function 41): what it is -/
def api_Pair_41.f (l0 : List (S43)) : Option ((List (S43))) := (some (([] : List (S43)) : List (S43))).bind fun y109 => (if y109.length + l0.length < 4398046511104 then (some (y109 ++ l0)) else (none))


/-! ### table_Put: function 50 -/
def gtK43 (key : ByteArray) (x : S43) : Bool := !Op.bytesLess x.f0.toList key.toList && !x.f0.toList == key.toList
def eqK43 (key : ByteArray) (x : S43) : Bool := x.f0.toList == key.toList
def putL43 (l : List S43) (key val : ByteArray) : List S43 :=
  if 0 ≤ ixOf (eqK43 key) l then l.set (ixOf (eqK43 key) l).toNat ⟨key, val⟩
  else if ixOf (gtK43 key) l < 0 then l ++ [⟨key, val⟩]
  else l.take (ixOf (gtK43 key) l).toNat ++ ⟨key, val⟩ :: l.drop (ixOf (gtK43 key) l).toNat
def table_Put.f (l0 : List S43) (a1 a2 : ByteArray) : Option (List S43) := (api_Pair_41.f l0).bind fun y => if y.length < 4398046511104 then some (putL43 y a1 a2) else none


/-! ### table_Drop: function 51 -/
def dropL43 (l : List S43) (key : ByteArray) : List S43 := l.filter (fun x => !eqK43 key x)
def table_Drop.f (l0 : List S43) (a1 : ByteArray) : Option (List S43) := (api_Pair_41.f l0).bind fun y => some (dropL43 y a1)

/-! ### table_Apply: function 31 -/
def applyF43 : List S43 → List S33 → Option (List S43)
  | l, [] => some l
  | l, x :: ws => (if x.f2 = true then table_Drop.f l x.f0 else table_Put.f l x.f0 x.f1).bind fun y => applyF43 y ws
def table_Apply.f (l0 : List S43) (l1 : List S33) : Option (List S43) := (api_Pair_41.f l0).bind fun y => applyF43 y l1

/-! ### view_Scan (function 14): what it is -/
def view_Scan.f (k : Nat) (l0 : List (S33)) (l1 : List (S43)) (a2 : ByteArray) (a3 : ByteArray) (a4 : Int) : Option ((List (S43))) := (table_Apply.f l1 l0).bind fun t115 => ((table_Range.f k t115 a2 a3 a4).bind fun t118 => (some t118))
theorem view_Scan.mono : ∀ a0 a1 a2 a3 a4 k, LeO (view_Scan.f k a0 a1 a2 a3 a4) (view_Scan.f (k + 1) a0 a1 a2 a3 a4) := by
  intro a0 a1 a2 a3 a4 k
  unfold view_Scan.f
  repeat' first
      | (with_reducible exact table_Range.mono _ _ _ _ _)
      | (with_reducible exact LeO.refl _)
      | (with_reducible exact LeO.none _)
      | (with_reducible refine LeO.ite ?_ ?_)
      | (with_reducible refine LeO.bind ?_ (fun _ => ?_))
      | exact table_Range.mono _ _ _ _ _
      | exact LeO.none _
      | refine LeO.ite ?_ ?_
      | refine LeO.bind ?_ (fun _ => ?_)

/-! ### api_Write_34 (function 34): what it is -/
def api_Write_34.f (l0 : List (S33)) : Option ((List (S33))) := (some (([] : List (S33)) : List (S33))).bind fun y121 => (if y121.length + l0.length < 3518437208883 then (some (y121 ++ l0)) else (none))


/-! ### view_Set: function 16 -/
def sgt33 (key : ByteArray) (x : S33) : Bool := !Op.bytesLess x.f0.toList key.toList && !x.f0.toList == key.toList
def seq33 (key : ByteArray) (x : S33) : Bool := x.f0.toList == key.toList
def setL33 (l : List S33) (x : S33) : List S33 :=
  if 0 ≤ ixOf (seq33 x.f0) l then l.set (ixOf (seq33 x.f0) l).toNat x
  else if ixOf (sgt33 x.f0) l < 0 then l ++ [x]
  else l.take (ixOf (sgt33 x.f0) l).toNat ++ x :: l.drop (ixOf (sgt33 x.f0) l).toNat
def view_Set.f (l0 : List S33) (a1_0 a1_1 : ByteArray) (a1_2 : Bool) : Option (List S33) := (api_Write_34.f l0).bind fun y => if l0.length < 3518437208000 then some (setL33 y ⟨a1_0, a1_1, a1_2⟩) else none

/-! ### stanchionlaw12_shown (function 10): what it is -/
def stanchionlaw12_shown.f (k : Nat)  : Option (Bool) := (some (([(⟨(⟨#[97]⟩ : ByteArray), (⟨#[49]⟩ : ByteArray)⟩ : S43)] : List (S43)) : List (S43))).bind fun y127 => ((view_Set.f ([] : List (S33)) (⟨#[97]⟩ : ByteArray) (⟨#[]⟩ : ByteArray) true).bind fun t130 => ((view_Get.f t130 y127 (⟨#[97]⟩ : ByteArray)).bind fun bt133 => ((view_Set.f t130 (⟨#[98]⟩ : ByteArray) (⟨#[50]⟩ : ByteArray) false).bind fun t135 => ((view_Scan.f k t135 y127 (⟨#[]⟩ : ByteArray) (⟨#[]⟩ : ByteArray) 9).bind fun t138 => (if bt133.2 = true then (some false) else (if (t138.length : Int) = 1 then (if 0 < (t138.length : Int) then (some (((rd_T43 t138 0).f0).toList == ([98] : List UInt8))) else (none)) else (some false)))))))
theorem stanchionlaw12_shown.mono : ∀ k, LeO (stanchionlaw12_shown.f k ) (stanchionlaw12_shown.f (k + 1) ) := by
  intro  k
  unfold stanchionlaw12_shown.f
  repeat' first
      | (with_reducible exact view_Scan.mono _ _ _ _ _ _)
      | (with_reducible exact LeO.refl _)
      | (with_reducible exact LeO.none _)
      | (with_reducible refine LeO.ite ?_ ?_)
      | (with_reducible refine LeO.bind ?_ (fun _ => ?_))
      | exact view_Scan.mono _ _ _ _ _ _
      | exact LeO.none _
      | refine LeO.ite ?_ ?_
      | refine LeO.bind ?_ (fun _ => ?_)

/-! ### stanchionref05_Find (function 24): what it is -/
def stanchionref05_Find.l0 : Nat → List (S43) → ByteArray → Int → Option (ByteArray × Bool)
  | 0, _, _, _ => none
  | k + 1, x0, x1, x6 => if x6 < (x0.length : Int) then (if 0 ≤ x6 then (if ((rd_T43 x0 x6).f0).toList = x1.toList then (some ((rd_T43 x0 x6).f1, true)) else (stanchionref05_Find.l0 k x0 x1 (wrap64 (x6 + 1)))) else (none)) else (some ((⟨#[]⟩ : ByteArray), false))
def stanchionref05_Find.f (k : Nat) (l0 : List (S43)) (a1 : ByteArray) : Option (ByteArray × Bool) := stanchionref05_Find.l0 k l0 a1 0
theorem stanchionref05_Find.mono_l : ∀ k, (∀ y0 y1 y2, LeO (stanchionref05_Find.l0 k y0 y1 y2) (stanchionref05_Find.l0 (k + 1) y0 y1 y2))
  | 0 => fun _ _ _ r h => by simp [stanchionref05_Find.l0] at h
  | k + 1 => by
    have ih0 := stanchionref05_Find.mono_l k
    · intro y0 y1 y2
      unfold stanchionref05_Find.l0
      repeat' first
      | (with_reducible exact ih0 _ _ _)
      | (with_reducible exact LeO.refl _)
      | (with_reducible exact LeO.none _)
      | (with_reducible refine LeO.ite ?_ ?_)
      | (with_reducible refine LeO.bind ?_ (fun _ => ?_))
      | exact ih0 _ _ _
      | exact LeO.none _
      | refine LeO.ite ?_ ?_
      | refine LeO.bind ?_ (fun _ => ?_)
theorem stanchionref05_Find.mono : ∀ a0 a1 k, LeO (stanchionref05_Find.f k a0 a1) (stanchionref05_Find.f (k + 1) a0 a1) := by
  intro a0 a1 k
  have ih0 := stanchionref05_Find.mono_l k
  unfold stanchionref05_Find.f
  repeat' first
      | (with_reducible exact ih0 _ _ _)
      | (with_reducible exact LeO.refl _)
      | (with_reducible exact LeO.none _)
      | (with_reducible refine LeO.ite ?_ ?_)
      | (with_reducible refine LeO.bind ?_ (fun _ => ?_))
      | exact ih0 _ _ _
      | exact LeO.none _
      | refine LeO.ite ?_ ?_
      | refine LeO.bind ?_ (fun _ => ?_)

/-! ### stanchionref12_at (function 29): what it is -/
def stanchionref12_at.l0 : Nat → List (S33) → ByteArray → Int → Option (Int)
  | 0, _, _, _ => none
  | k + 1, x0, x1, x5 => if x5 < (x0.length : Int) then (if 0 ≤ x5 then (if ((rd_T33 x0 x5).f0).toList = x1.toList then (some x5) else (stanchionref12_at.l0 k x0 x1 (wrap64 (x5 + 1)))) else (none)) else (some (-1))
def stanchionref12_at.f (k : Nat) (l0 : List (S33)) (a1 : ByteArray) : Option (Int) := stanchionref12_at.l0 k l0 a1 0
theorem stanchionref12_at.mono_l : ∀ k, (∀ y0 y1 y2, LeO (stanchionref12_at.l0 k y0 y1 y2) (stanchionref12_at.l0 (k + 1) y0 y1 y2))
  | 0 => fun _ _ _ r h => by simp [stanchionref12_at.l0] at h
  | k + 1 => by
    have ih0 := stanchionref12_at.mono_l k
    · intro y0 y1 y2
      unfold stanchionref12_at.l0
      repeat' first
      | (with_reducible exact ih0 _ _ _)
      | (with_reducible exact LeO.refl _)
      | (with_reducible exact LeO.none _)
      | (with_reducible refine LeO.ite ?_ ?_)
      | (with_reducible refine LeO.bind ?_ (fun _ => ?_))
      | exact ih0 _ _ _
      | exact LeO.none _
      | refine LeO.ite ?_ ?_
      | refine LeO.bind ?_ (fun _ => ?_)
theorem stanchionref12_at.mono : ∀ a0 a1 k, LeO (stanchionref12_at.f k a0 a1) (stanchionref12_at.f (k + 1) a0 a1) := by
  intro a0 a1 k
  have ih0 := stanchionref12_at.mono_l k
  unfold stanchionref12_at.f
  repeat' first
      | (with_reducible exact ih0 _ _ _)
      | (with_reducible exact LeO.refl _)
      | (with_reducible exact LeO.none _)
      | (with_reducible refine LeO.ite ?_ ?_)
      | (with_reducible refine LeO.bind ?_ (fun _ => ?_))
      | exact ih0 _ _ _
      | exact LeO.none _
      | refine LeO.ite ?_ ?_
      | refine LeO.bind ?_ (fun _ => ?_)

/-! ### stanchionref12_Get (function 12): what it is -/
def stanchionref12_Get.f (k : Nat) (l0 : List (S33)) (l1 : List (S43)) (a2 : ByteArray) : Option (ByteArray × Bool) := (stanchionref12_at.f k l0 a2).bind fun t145 => (if t145 < 0 then ((stanchionref05_Find.f k l1 a2).bind fun bt146 => (some (bt146.1, bt146.2))) else (if 0 ≤ t145 then (if t145 < (l0.length : Int) then (if (rd_T33 l0 t145).f2 = true then (some ((⟨#[]⟩ : ByteArray), false)) else (some ((rd_T33 l0 t145).f1, true))) else (none)) else (none)))
theorem stanchionref12_Get.mono : ∀ a0 a1 a2 k, LeO (stanchionref12_Get.f k a0 a1 a2) (stanchionref12_Get.f (k + 1) a0 a1 a2) := by
  intro a0 a1 a2 k
  unfold stanchionref12_Get.f
  repeat' first
      | (with_reducible exact stanchionref05_Find.mono _ _ _)
      | (with_reducible exact stanchionref12_at.mono _ _ _)
      | (with_reducible exact LeO.refl _)
      | (with_reducible exact LeO.none _)
      | (with_reducible refine LeO.ite ?_ ?_)
      | (with_reducible refine LeO.bind ?_ (fun _ => ?_))
      | exact stanchionref05_Find.mono _ _ _
      | exact stanchionref12_at.mono _ _ _
      | exact LeO.none _
      | refine LeO.ite ?_ ?_
      | refine LeO.bind ?_ (fun _ => ?_)

/-! ### stanchionref05_Same (function 13): what it is -/
def stanchionref05_Same.l0 : Nat → List (S43) → List (S43) → Int → Option (Bool)
  | 0, _, _, _ => none
  | k + 1, x0, x1, x5 => if x5 < (x0.length : Int) then (if 0 ≤ x5 then (if x5 < (x1.length : Int) then (if (!((((rd_T43 x0 x5).f0).toList) == (((rd_T43 x1 x5).f0).toList)) || (!((((rd_T43 x0 x5).f1).toList) == (((rd_T43 x1 x5).f1).toList)))) = true then (some false) else (stanchionref05_Same.l0 k x0 x1 (wrap64 (x5 + 1)))) else (none)) else (none)) else (some true)
def stanchionref05_Same.f (k : Nat) (l0 : List (S43)) (l1 : List (S43)) : Option (Bool) := if (l0.length : Int) = (l1.length : Int) then (stanchionref05_Same.l0 k l0 l1 0) else (some false)
theorem stanchionref05_Same.mono_l : ∀ k, (∀ y0 y1 y2, LeO (stanchionref05_Same.l0 k y0 y1 y2) (stanchionref05_Same.l0 (k + 1) y0 y1 y2))
  | 0 => fun _ _ _ r h => by simp [stanchionref05_Same.l0] at h
  | k + 1 => by
    have ih0 := stanchionref05_Same.mono_l k
    · intro y0 y1 y2
      unfold stanchionref05_Same.l0
      repeat' first
      | (with_reducible exact ih0 _ _ _)
      | (with_reducible exact LeO.refl _)
      | (with_reducible exact LeO.none _)
      | (with_reducible refine LeO.ite ?_ ?_)
      | (with_reducible refine LeO.bind ?_ (fun _ => ?_))
      | exact ih0 _ _ _
      | exact LeO.none _
      | refine LeO.ite ?_ ?_
      | refine LeO.bind ?_ (fun _ => ?_)
theorem stanchionref05_Same.mono : ∀ a0 a1 k, LeO (stanchionref05_Same.f k a0 a1) (stanchionref05_Same.f (k + 1) a0 a1) := by
  intro a0 a1 k
  have ih0 := stanchionref05_Same.mono_l k
  unfold stanchionref05_Same.f
  repeat' first
      | (with_reducible exact ih0 _ _ _)
      | (with_reducible exact LeO.refl _)
      | (with_reducible exact LeO.none _)
      | (with_reducible refine LeO.ite ?_ ?_)
      | (with_reducible refine LeO.bind ?_ (fun _ => ?_))
      | exact ih0 _ _ _
      | exact LeO.none _
      | refine LeO.ite ?_ ?_
      | refine LeO.bind ?_ (fun _ => ?_)

/-! ### stanchionref01_Less (function 37): what it is -/
mutual
def stanchionref01_Less.l0 : Nat → ByteArray → ByteArray → Int → Option (Bool)
  | 0, _, _, _ => none
  | k + 1, x0, x1, x5 => if x5 < (x0.size : Int) then (stanchionref01_Less.j1 k x0 x1 x5 (decide (x5 < (x1.size : Int)))) else (stanchionref01_Less.j1 k x0 x1 x5 false)
def stanchionref01_Less.j1 : Nat → ByteArray → ByteArray → Int → Bool → Option (Bool)
  | 0, _, _, _, _ => none
  | k + 1, x0, x1, x5, x15 => if x15 = true then (if 0 ≤ x5 then (if x5 < (x0.size : Int) then (if x5 < (x1.size : Int) then (if (bt x0 x5) = (bt x1 x5) then (stanchionref01_Less.l0 k x0 x1 (wrap64 (x5 + 1))) else (some (decide ((bt x0 x5) < (bt x1 x5))))) else (none)) else (none)) else (none)) else (some (decide ((x0.size : Int) < (x1.size : Int))))
end
def stanchionref01_Less.f (k : Nat) (a0 : ByteArray) (a1 : ByteArray) : Option (Bool) := stanchionref01_Less.l0 k a0 a1 0
theorem stanchionref01_Less.mono_l : ∀ k, (∀ y0 y1 y2, LeO (stanchionref01_Less.l0 k y0 y1 y2) (stanchionref01_Less.l0 (k + 1) y0 y1 y2)) ∧ (∀ y0 y1 y2 y3, LeO (stanchionref01_Less.j1 k y0 y1 y2 y3) (stanchionref01_Less.j1 (k + 1) y0 y1 y2 y3))
  | 0 => ⟨fun _ _ _ r h => by simp [stanchionref01_Less.l0] at h, fun _ _ _ _ r h => by simp [stanchionref01_Less.j1] at h⟩
  | k + 1 => by
    obtain ⟨ih0, ih1⟩ := stanchionref01_Less.mono_l k
    refine ⟨?_, ?_⟩
    · intro y0 y1 y2
      unfold stanchionref01_Less.l0
      repeat' first
      | (with_reducible exact ih0 _ _ _)
      | (with_reducible exact ih1 _ _ _ _)
      | (with_reducible exact LeO.refl _)
      | (with_reducible exact LeO.none _)
      | (with_reducible refine LeO.ite ?_ ?_)
      | (with_reducible refine LeO.bind ?_ (fun _ => ?_))
      | exact ih0 _ _ _
      | exact ih1 _ _ _ _
      | exact LeO.none _
      | refine LeO.ite ?_ ?_
      | refine LeO.bind ?_ (fun _ => ?_)
    · intro y0 y1 y2 y3
      unfold stanchionref01_Less.j1
      repeat' first
      | (with_reducible exact ih0 _ _ _)
      | (with_reducible exact ih1 _ _ _ _)
      | (with_reducible exact LeO.refl _)
      | (with_reducible exact LeO.none _)
      | (with_reducible refine LeO.ite ?_ ?_)
      | (with_reducible refine LeO.bind ?_ (fun _ => ?_))
      | exact ih0 _ _ _
      | exact ih1 _ _ _ _
      | exact LeO.none _
      | refine LeO.ite ?_ ?_
      | refine LeO.bind ?_ (fun _ => ?_)
theorem stanchionref01_Less.mono : ∀ a0 a1 k, LeO (stanchionref01_Less.f k a0 a1) (stanchionref01_Less.f (k + 1) a0 a1) := by
  intro a0 a1 k
  obtain ⟨ih0, ih1⟩ := stanchionref01_Less.mono_l k
  unfold stanchionref01_Less.f
  repeat' first
      | (with_reducible exact ih0 _ _ _)
      | (with_reducible exact ih1 _ _ _ _)
      | (with_reducible exact LeO.refl _)
      | (with_reducible exact LeO.none _)
      | (with_reducible refine LeO.ite ?_ ?_)
      | (with_reducible refine LeO.bind ?_ (fun _ => ?_))
      | exact ih0 _ _ _
      | exact ih1 _ _ _ _
      | exact LeO.none _
      | refine LeO.ite ?_ ?_
      | refine LeO.bind ?_ (fun _ => ?_)

/-! ### stanchionref05_Between (function 38): what it is -/
def stanchionref05_Between.f (k : Nat) (a0 : ByteArray) (a1 : ByteArray) (a2 : ByteArray) : Option (Bool) := (stanchionref01_Less.f k a0 a1).bind fun t152 => (if t152 = true then (some false) else (if a2.toList = ([] : List UInt8) then (some true) else ((stanchionref01_Less.f k a0 a2).bind fun t153 => (some t153))))
theorem stanchionref05_Between.mono : ∀ a0 a1 a2 k, LeO (stanchionref05_Between.f k a0 a1 a2) (stanchionref05_Between.f (k + 1) a0 a1 a2) := by
  intro a0 a1 a2 k
  unfold stanchionref05_Between.f
  repeat' first
      | (with_reducible exact stanchionref01_Less.mono _ _ _)
      | (with_reducible exact LeO.refl _)
      | (with_reducible exact LeO.none _)
      | (with_reducible refine LeO.ite ?_ ?_)
      | (with_reducible refine LeO.bind ?_ (fun _ => ?_))
      | exact stanchionref01_Less.mono _ _ _
      | exact LeO.none _
      | refine LeO.ite ?_ ?_
      | refine LeO.bind ?_ (fun _ => ?_)

/-! ### stanchionref05_Range (function 25): what it is -/
mutual
def stanchionref05_Range.l0 : Nat → List (S43) → ByteArray → ByteArray → Int → List (S43) → Int → Option ((List (S43)))
  | 0, _, _, _, _, _, _ => none
  | k + 1, x0, x1, x2, x3, x9, x10 => if x10 < (x0.length : Int) then (stanchionref05_Range.j1 k x0 x1 x2 x3 x9 x10 (decide ((x9.length : Int) < x3))) else (stanchionref05_Range.j1 k x0 x1 x2 x3 x9 x10 false)
def stanchionref05_Range.j1 : Nat → List (S43) → ByteArray → ByteArray → Int → List (S43) → Int → Bool → Option ((List (S43)))
  | 0, _, _, _, _, _, _, _ => none
  | k + 1, x0, x1, x2, x3, x9, x10, x21 => if x21 = true then (if 0 ≤ x10 then (if x10 < (x0.length : Int) then ((stanchionref05_Between.f k ((rd_T43 x0 x10).f0) x1 x2).bind fun t155 => (if t155 = true then (if x9.length < 4398046511104 then (stanchionref05_Range.l0 k x0 x1 x2 x3 (x9 ++ [(⟨(rd_T43 x0 x10).f0, (rd_T43 x0 x10).f1⟩ : S43)]) (wrap64 (x10 + 1))) else (none)) else (stanchionref05_Range.l0 k x0 x1 x2 x3 x9 (wrap64 (x10 + 1))))) else (none)) else (none)) else (some x9)
end
def stanchionref05_Range.f (k : Nat) (l0 : List (S43)) (a1 : ByteArray) (a2 : ByteArray) (a3 : Int) : Option ((List (S43))) := stanchionref05_Range.l0 k l0 a1 a2 a3 ([] : List (S43)) 0
theorem stanchionref05_Range.mono_l : ∀ k, (∀ y0 y1 y2 y3 y4 y5, LeO (stanchionref05_Range.l0 k y0 y1 y2 y3 y4 y5) (stanchionref05_Range.l0 (k + 1) y0 y1 y2 y3 y4 y5)) ∧ (∀ y0 y1 y2 y3 y4 y5 y6, LeO (stanchionref05_Range.j1 k y0 y1 y2 y3 y4 y5 y6) (stanchionref05_Range.j1 (k + 1) y0 y1 y2 y3 y4 y5 y6))
  | 0 => ⟨fun _ _ _ _ _ _ r h => by simp [stanchionref05_Range.l0] at h, fun _ _ _ _ _ _ _ r h => by simp [stanchionref05_Range.j1] at h⟩
  | k + 1 => by
    obtain ⟨ih0, ih1⟩ := stanchionref05_Range.mono_l k
    refine ⟨?_, ?_⟩
    · intro y0 y1 y2 y3 y4 y5
      unfold stanchionref05_Range.l0
      repeat' first
      | (with_reducible exact ih0 _ _ _ _ _ _)
      | (with_reducible exact ih1 _ _ _ _ _ _ _)
      | (with_reducible exact stanchionref05_Between.mono _ _ _ _)
      | (with_reducible exact LeO.refl _)
      | (with_reducible exact LeO.none _)
      | (with_reducible refine LeO.ite ?_ ?_)
      | (with_reducible refine LeO.bind ?_ (fun _ => ?_))
      | exact ih0 _ _ _ _ _ _
      | exact ih1 _ _ _ _ _ _ _
      | exact stanchionref05_Between.mono _ _ _ _
      | exact LeO.none _
      | refine LeO.ite ?_ ?_
      | refine LeO.bind ?_ (fun _ => ?_)
    · intro y0 y1 y2 y3 y4 y5 y6
      unfold stanchionref05_Range.j1
      repeat' first
      | (with_reducible exact ih0 _ _ _ _ _ _)
      | (with_reducible exact ih1 _ _ _ _ _ _ _)
      | (with_reducible exact stanchionref05_Between.mono _ _ _ _)
      | (with_reducible exact LeO.refl _)
      | (with_reducible exact LeO.none _)
      | (with_reducible refine LeO.ite ?_ ?_)
      | (with_reducible refine LeO.bind ?_ (fun _ => ?_))
      | exact ih0 _ _ _ _ _ _
      | exact ih1 _ _ _ _ _ _ _
      | exact stanchionref05_Between.mono _ _ _ _
      | exact LeO.none _
      | refine LeO.ite ?_ ?_
      | refine LeO.bind ?_ (fun _ => ?_)
theorem stanchionref05_Range.mono : ∀ a0 a1 a2 a3 k, LeO (stanchionref05_Range.f k a0 a1 a2 a3) (stanchionref05_Range.f (k + 1) a0 a1 a2 a3) := by
  intro a0 a1 a2 a3 k
  obtain ⟨ih0, ih1⟩ := stanchionref05_Range.mono_l k
  unfold stanchionref05_Range.f
  repeat' first
      | (with_reducible exact ih0 _ _ _ _ _ _)
      | (with_reducible exact ih1 _ _ _ _ _ _ _)
      | (with_reducible exact stanchionref05_Between.mono _ _ _ _)
      | (with_reducible exact LeO.refl _)
      | (with_reducible exact LeO.none _)
      | (with_reducible refine LeO.ite ?_ ?_)
      | (with_reducible refine LeO.bind ?_ (fun _ => ?_))
      | exact ih0 _ _ _ _ _ _
      | exact ih1 _ _ _ _ _ _ _
      | exact stanchionref05_Between.mono _ _ _ _
      | exact LeO.none _
      | refine LeO.ite ?_ ?_
      | refine LeO.bind ?_ (fun _ => ?_)

/-! ### stanchionref05_Drop (function 44): what it is -/
def stanchionref05_Drop.l0 : Nat → List (S43) → ByteArray → List (S43) → Int → Option ((List (S43)))
  | 0, _, _, _, _ => none
  | k + 1, x0, x1, x5, x6 => if x6 < (x0.length : Int) then (if 0 ≤ x6 then (if ((rd_T43 x0 x6).f0).toList = x1.toList then (stanchionref05_Drop.l0 k x0 x1 x5 (wrap64 (x6 + 1))) else (if x5.length < 4398046511104 then (stanchionref05_Drop.l0 k x0 x1 (x5 ++ [(⟨(rd_T43 x0 x6).f0, (rd_T43 x0 x6).f1⟩ : S43)]) (wrap64 (x6 + 1))) else (none))) else (none)) else (some x5)
def stanchionref05_Drop.f (k : Nat) (l0 : List (S43)) (a1 : ByteArray) : Option ((List (S43))) := stanchionref05_Drop.l0 k l0 a1 ([] : List (S43)) 0
theorem stanchionref05_Drop.mono_l : ∀ k, (∀ y0 y1 y2 y3, LeO (stanchionref05_Drop.l0 k y0 y1 y2 y3) (stanchionref05_Drop.l0 (k + 1) y0 y1 y2 y3))
  | 0 => fun _ _ _ _ r h => by simp [stanchionref05_Drop.l0] at h
  | k + 1 => by
    have ih0 := stanchionref05_Drop.mono_l k
    · intro y0 y1 y2 y3
      unfold stanchionref05_Drop.l0
      repeat' first
      | (with_reducible exact ih0 _ _ _ _)
      | (with_reducible exact LeO.refl _)
      | (with_reducible exact LeO.none _)
      | (with_reducible refine LeO.ite ?_ ?_)
      | (with_reducible refine LeO.bind ?_ (fun _ => ?_))
      | exact ih0 _ _ _ _
      | exact LeO.none _
      | refine LeO.ite ?_ ?_
      | refine LeO.bind ?_ (fun _ => ?_)
theorem stanchionref05_Drop.mono : ∀ a0 a1 k, LeO (stanchionref05_Drop.f k a0 a1) (stanchionref05_Drop.f (k + 1) a0 a1) := by
  intro a0 a1 k
  have ih0 := stanchionref05_Drop.mono_l k
  unfold stanchionref05_Drop.f
  repeat' first
      | (with_reducible exact ih0 _ _ _ _)
      | (with_reducible exact LeO.refl _)
      | (with_reducible exact LeO.none _)
      | (with_reducible refine LeO.ite ?_ ?_)
      | (with_reducible refine LeO.bind ?_ (fun _ => ?_))
      | exact ih0 _ _ _ _
      | exact LeO.none _
      | refine LeO.ite ?_ ?_
      | refine LeO.bind ?_ (fun _ => ?_)

/-! ### stanchionref05_Put (function 45): what it is -/
mutual
def stanchionref05_Put.l0 : Nat → List (S43) → ByteArray → ByteArray → Bool → List (S43) → Bool → Int → Option ((List (S43)))
  | 0, _, _, _, _, _, _, _ => none
  | k + 1, x0, x1, x2, x8, x9, x10, x11 => if x11 < (x0.length : Int) then (if x10 = true then (stanchionref05_Put.j1 k x0 x1 x2 x8 x9 x10 x11 false) else (if x8 = true then (if 0 ≤ x11 then (if ((rd_T43 x0 x11).f0).toList = x1.toList then (stanchionref05_Put.j1 k x0 x1 x2 x8 x9 x10 x11 true) else (stanchionref05_Put.j1 k x0 x1 x2 x8 x9 x10 x11 false)) else (none)) else (if 0 ≤ x11 then ((stanchionref01_Less.f k x1 ((rd_T43 x0 x11).f0)).bind fun t172 => (stanchionref05_Put.j1 k x0 x1 x2 x8 x9 x10 x11 t172)) else (none)))) else (if x10 = true then (some x9) else (if x9.length < 4398046511104 then (some (x9 ++ [(⟨x1, x2⟩ : S43)])) else (none)))
def stanchionref05_Put.j1 : Nat → List (S43) → ByteArray → ByteArray → Bool → List (S43) → Bool → Int → Bool → Option ((List (S43)))
  | 0, _, _, _, _, _, _, _, _ => none
  | k + 1, x0, x1, x2, x8, x9, x10, x11, x50 => if x50 = true then (if x9.length < 4398046511104 then ((some (x9 ++ [(⟨x1, x2⟩ : S43)] : List (S43))).bind fun y173 => (if x8 = true then (stanchionref05_Put.l0 k x0 x1 x2 x8 y173 true (wrap64 (x11 + 1))) else (if 0 ≤ x11 then (if x11 < (x0.length : Int) then (if y173.length < 4398046511104 then (stanchionref05_Put.l0 k x0 x1 x2 x8 (y173 ++ [(⟨(rd_T43 x0 x11).f0, (rd_T43 x0 x11).f1⟩ : S43)]) true (wrap64 (x11 + 1))) else (none)) else (none)) else (none)))) else (none)) else (if 0 ≤ x11 then (if x11 < (x0.length : Int) then (if x9.length < 4398046511104 then (stanchionref05_Put.l0 k x0 x1 x2 x8 (x9 ++ [(⟨(rd_T43 x0 x11).f0, (rd_T43 x0 x11).f1⟩ : S43)]) x10 (wrap64 (x11 + 1))) else (none)) else (none)) else (none))
end
def stanchionref05_Put.f (k : Nat) (l0 : List (S43)) (a1 : ByteArray) (a2 : ByteArray) : Option ((List (S43))) := (stanchionref05_Find.f k l0 a1).bind fun bt165 => (stanchionref05_Put.l0 k l0 a1 a2 bt165.2 ([] : List (S43)) false 0)
theorem stanchionref05_Put.mono_l : ∀ k, (∀ y0 y1 y2 y3 y4 y5 y6, LeO (stanchionref05_Put.l0 k y0 y1 y2 y3 y4 y5 y6) (stanchionref05_Put.l0 (k + 1) y0 y1 y2 y3 y4 y5 y6)) ∧ (∀ y0 y1 y2 y3 y4 y5 y6 y7, LeO (stanchionref05_Put.j1 k y0 y1 y2 y3 y4 y5 y6 y7) (stanchionref05_Put.j1 (k + 1) y0 y1 y2 y3 y4 y5 y6 y7))
  | 0 => ⟨fun _ _ _ _ _ _ _ r h => by simp [stanchionref05_Put.l0] at h, fun _ _ _ _ _ _ _ _ r h => by simp [stanchionref05_Put.j1] at h⟩
  | k + 1 => by
    obtain ⟨ih0, ih1⟩ := stanchionref05_Put.mono_l k
    refine ⟨?_, ?_⟩
    · intro y0 y1 y2 y3 y4 y5 y6
      unfold stanchionref05_Put.l0
      repeat' first
      | (with_reducible exact ih0 _ _ _ _ _ _ _)
      | (with_reducible exact ih1 _ _ _ _ _ _ _ _)
      | (with_reducible exact stanchionref01_Less.mono _ _ _)
      | (with_reducible exact stanchionref05_Find.mono _ _ _)
      | (with_reducible exact LeO.refl _)
      | (with_reducible exact LeO.none _)
      | (with_reducible refine LeO.ite ?_ ?_)
      | (with_reducible refine LeO.bind ?_ (fun _ => ?_))
      | exact ih0 _ _ _ _ _ _ _
      | exact ih1 _ _ _ _ _ _ _ _
      | exact stanchionref01_Less.mono _ _ _
      | exact stanchionref05_Find.mono _ _ _
      | exact LeO.none _
      | refine LeO.ite ?_ ?_
      | refine LeO.bind ?_ (fun _ => ?_)
    · intro y0 y1 y2 y3 y4 y5 y6 y7
      unfold stanchionref05_Put.j1
      repeat' first
      | (with_reducible exact ih0 _ _ _ _ _ _ _)
      | (with_reducible exact ih1 _ _ _ _ _ _ _ _)
      | (with_reducible exact stanchionref01_Less.mono _ _ _)
      | (with_reducible exact stanchionref05_Find.mono _ _ _)
      | (with_reducible exact LeO.refl _)
      | (with_reducible exact LeO.none _)
      | (with_reducible refine LeO.ite ?_ ?_)
      | (with_reducible refine LeO.bind ?_ (fun _ => ?_))
      | exact ih0 _ _ _ _ _ _ _
      | exact ih1 _ _ _ _ _ _ _ _
      | exact stanchionref01_Less.mono _ _ _
      | exact stanchionref05_Find.mono _ _ _
      | exact LeO.none _
      | refine LeO.ite ?_ ?_
      | refine LeO.bind ?_ (fun _ => ?_)
theorem stanchionref05_Put.mono : ∀ a0 a1 a2 k, LeO (stanchionref05_Put.f k a0 a1 a2) (stanchionref05_Put.f (k + 1) a0 a1 a2) := by
  intro a0 a1 a2 k
  obtain ⟨ih0, ih1⟩ := stanchionref05_Put.mono_l k
  unfold stanchionref05_Put.f
  repeat' first
      | (with_reducible exact ih0 _ _ _ _ _ _ _)
      | (with_reducible exact ih1 _ _ _ _ _ _ _ _)
      | (with_reducible exact stanchionref01_Less.mono _ _ _)
      | (with_reducible exact stanchionref05_Find.mono _ _ _)
      | (with_reducible exact LeO.refl _)
      | (with_reducible exact LeO.none _)
      | (with_reducible refine LeO.ite ?_ ?_)
      | (with_reducible refine LeO.bind ?_ (fun _ => ?_))
      | exact ih0 _ _ _ _ _ _ _
      | exact ih1 _ _ _ _ _ _ _ _
      | exact stanchionref01_Less.mono _ _ _
      | exact stanchionref05_Find.mono _ _ _
      | exact LeO.none _
      | refine LeO.ite ?_ ?_
      | refine LeO.bind ?_ (fun _ => ?_)

/-! ### stanchionref05_Apply (function 32): what it is -/
def stanchionref05_Apply.l0 : Nat → List (S33) → List (S43) → Int → Option ((List (S43)))
  | 0, _, _, _ => none
  | k + 1, x1, x5, x6 => if x6 < (x1.length : Int) then (if 0 ≤ x6 then (if (rd_T33 x1 x6).f2 = true then ((stanchionref05_Drop.f k x5 ((rd_T33 x1 x6).f0)).bind fun t192 => (stanchionref05_Apply.l0 k x1 t192 (wrap64 (x6 + 1)))) else ((stanchionref05_Put.f k x5 ((rd_T33 x1 x6).f0) ((rd_T33 x1 x6).f1)).bind fun t197 => (stanchionref05_Apply.l0 k x1 t197 (wrap64 (x6 + 1))))) else (none)) else (some x5)
def stanchionref05_Apply.f (k : Nat) (l0 : List (S43)) (l1 : List (S33)) : Option ((List (S43))) := (some (([] : List (S43)) : List (S43))).bind fun y184 => (if y184.length + l0.length < 4398046511104 then (stanchionref05_Apply.l0 k l1 (y184 ++ l0) 0) else (none))
theorem stanchionref05_Apply.mono_l : ∀ k, (∀ y0 y1 y2, LeO (stanchionref05_Apply.l0 k y0 y1 y2) (stanchionref05_Apply.l0 (k + 1) y0 y1 y2))
  | 0 => fun _ _ _ r h => by simp [stanchionref05_Apply.l0] at h
  | k + 1 => by
    have ih0 := stanchionref05_Apply.mono_l k
    · intro y0 y1 y2
      unfold stanchionref05_Apply.l0
      repeat' first
      | (with_reducible exact ih0 _ _ _)
      | (with_reducible exact stanchionref05_Drop.mono _ _ _)
      | (with_reducible exact stanchionref05_Put.mono _ _ _ _)
      | (with_reducible exact LeO.refl _)
      | (with_reducible exact LeO.none _)
      | (with_reducible refine LeO.ite ?_ ?_)
      | (with_reducible refine LeO.bind ?_ (fun _ => ?_))
      | exact ih0 _ _ _
      | exact stanchionref05_Drop.mono _ _ _
      | exact stanchionref05_Put.mono _ _ _ _
      | exact LeO.none _
      | refine LeO.ite ?_ ?_
      | refine LeO.bind ?_ (fun _ => ?_)
theorem stanchionref05_Apply.mono : ∀ a0 a1 k, LeO (stanchionref05_Apply.f k a0 a1) (stanchionref05_Apply.f (k + 1) a0 a1) := by
  intro a0 a1 k
  have ih0 := stanchionref05_Apply.mono_l k
  unfold stanchionref05_Apply.f
  repeat' first
      | (with_reducible exact ih0 _ _ _)
      | (with_reducible exact stanchionref05_Drop.mono _ _ _)
      | (with_reducible exact stanchionref05_Put.mono _ _ _ _)
      | (with_reducible exact LeO.refl _)
      | (with_reducible exact LeO.none _)
      | (with_reducible refine LeO.ite ?_ ?_)
      | (with_reducible refine LeO.bind ?_ (fun _ => ?_))
      | exact ih0 _ _ _
      | exact stanchionref05_Drop.mono _ _ _
      | exact stanchionref05_Put.mono _ _ _ _
      | exact LeO.none _
      | refine LeO.ite ?_ ?_
      | refine LeO.bind ?_ (fun _ => ?_)

/-! ### stanchionref12_Scan (function 15): what it is -/
def stanchionref12_Scan.f (k : Nat) (l0 : List (S33)) (l1 : List (S43)) (a2 : ByteArray) (a3 : ByteArray) (a4 : Int) : Option ((List (S43))) := (stanchionref05_Apply.f k l1 l0).bind fun t200 => ((stanchionref05_Range.f k t200 a2 a3 a4).bind fun t203 => (some t203))
theorem stanchionref12_Scan.mono : ∀ a0 a1 a2 a3 a4 k, LeO (stanchionref12_Scan.f k a0 a1 a2 a3 a4) (stanchionref12_Scan.f (k + 1) a0 a1 a2 a3 a4) := by
  intro a0 a1 a2 a3 a4 k
  unfold stanchionref12_Scan.f
  repeat' first
      | (with_reducible exact stanchionref05_Apply.mono _ _ _)
      | (with_reducible exact stanchionref05_Range.mono _ _ _ _ _)
      | (with_reducible exact LeO.refl _)
      | (with_reducible exact LeO.none _)
      | (with_reducible refine LeO.ite ?_ ?_)
      | (with_reducible refine LeO.bind ?_ (fun _ => ?_))
      | exact stanchionref05_Apply.mono _ _ _
      | exact stanchionref05_Range.mono _ _ _ _ _
      | exact LeO.none _
      | refine LeO.ite ?_ ?_
      | refine LeO.bind ?_ (fun _ => ?_)

/-! ### stanchionlaw12_ViewReads (function 3): what it is -/
def stanchionlaw12_ViewReads.f (k : Nat) (l0_0 : List (S33)) (l0_1 : List (S43)) (a0_2 : ByteArray) (a0_3 : ByteArray) (a0_4 : ByteArray) (a0_5 : Int) : Option (Bool) := (stanchionlaw12_shown.f k).bind fun t207 => ((view_Get.f l0_0 l0_1 a0_2).bind fun bt208 => ((stanchionref12_Get.f k l0_0 l0_1 a0_2).bind fun bt210 => ((view_Scan.f k l0_0 l0_1 a0_3 a0_4 a0_5).bind fun t212 => ((stanchionref12_Scan.f k l0_0 l0_1 a0_3 a0_4 a0_5).bind fun t215 => ((stanchionref05_Same.f k t212 t215).bind fun t218 => (if t207 = true then (if bt208.1.toList = bt210.1.toList then (if (bt208.2 == bt210.2) = true then (some t218) else (some false)) else (some false)) else (some false)))))))
theorem stanchionlaw12_ViewReads.mono : ∀ a0 a1 a2 a3 a4 a5 k, LeO (stanchionlaw12_ViewReads.f k a0 a1 a2 a3 a4 a5) (stanchionlaw12_ViewReads.f (k + 1) a0 a1 a2 a3 a4 a5) := by
  intro a0 a1 a2 a3 a4 a5 k
  unfold stanchionlaw12_ViewReads.f
  repeat' first
      | (with_reducible exact stanchionlaw12_shown.mono _)
      | (with_reducible exact stanchionref05_Same.mono _ _ _)
      | (with_reducible exact stanchionref12_Get.mono _ _ _ _)
      | (with_reducible exact stanchionref12_Scan.mono _ _ _ _ _ _)
      | (with_reducible exact view_Scan.mono _ _ _ _ _ _)
      | (with_reducible exact LeO.refl _)
      | (with_reducible exact LeO.none _)
      | (with_reducible refine LeO.ite ?_ ?_)
      | (with_reducible refine LeO.bind ?_ (fun _ => ?_))
      | exact stanchionlaw12_shown.mono _
      | exact stanchionref05_Same.mono _ _ _
      | exact stanchionref12_Get.mono _ _ _ _
      | exact stanchionref12_Scan.mono _ _ _ _ _ _
      | exact view_Scan.mono _ _ _ _ _ _
      | exact LeO.none _
      | refine LeO.ite ?_ ?_
      | refine LeO.bind ?_ (fun _ => ?_)

/-! ### stanchionref05_Writes (function 17): what it is -/
def stanchionref05_Writes.l0 : Nat → List (S33) → List (S33) → Int → Option (Bool)
  | 0, _, _, _ => none
  | k + 1, x0, x1, x5 => if x5 < (x0.length : Int) then (if 0 ≤ x5 then (if x5 < (x1.length : Int) then (if (!((((rd_T33 x0 x5).f0).toList) == (((rd_T33 x1 x5).f0).toList)) || (!((((rd_T33 x0 x5).f1).toList) == (((rd_T33 x1 x5).f1).toList)) || (!(((rd_T33 x0 x5).f2) == ((rd_T33 x1 x5).f2))))) = true then (some false) else (stanchionref05_Writes.l0 k x0 x1 (wrap64 (x5 + 1)))) else (none)) else (none)) else (some true)
def stanchionref05_Writes.f (k : Nat) (l0 : List (S33)) (l1 : List (S33)) : Option (Bool) := if (l0.length : Int) = (l1.length : Int) then (stanchionref05_Writes.l0 k l0 l1 0) else (some false)
theorem stanchionref05_Writes.mono_l : ∀ k, (∀ y0 y1 y2, LeO (stanchionref05_Writes.l0 k y0 y1 y2) (stanchionref05_Writes.l0 (k + 1) y0 y1 y2))
  | 0 => fun _ _ _ r h => by simp [stanchionref05_Writes.l0] at h
  | k + 1 => by
    have ih0 := stanchionref05_Writes.mono_l k
    · intro y0 y1 y2
      unfold stanchionref05_Writes.l0
      repeat' first
      | (with_reducible exact ih0 _ _ _)
      | (with_reducible exact LeO.refl _)
      | (with_reducible exact LeO.none _)
      | (with_reducible refine LeO.ite ?_ ?_)
      | (with_reducible refine LeO.bind ?_ (fun _ => ?_))
      | exact ih0 _ _ _
      | exact LeO.none _
      | refine LeO.ite ?_ ?_
      | refine LeO.bind ?_ (fun _ => ?_)
theorem stanchionref05_Writes.mono : ∀ a0 a1 k, LeO (stanchionref05_Writes.f k a0 a1) (stanchionref05_Writes.f (k + 1) a0 a1) := by
  intro a0 a1 k
  have ih0 := stanchionref05_Writes.mono_l k
  unfold stanchionref05_Writes.f
  repeat' first
      | (with_reducible exact ih0 _ _ _)
      | (with_reducible exact LeO.refl _)
      | (with_reducible exact LeO.none _)
      | (with_reducible refine LeO.ite ?_ ?_)
      | (with_reducible refine LeO.bind ?_ (fun _ => ?_))
      | exact ih0 _ _ _
      | exact LeO.none _
      | refine LeO.ite ?_ ?_
      | refine LeO.bind ?_ (fun _ => ?_)

/-! ### stanchionlaw12_ViewTwice (function 5): what it is -/
def stanchionlaw12_ViewTwice.f (k : Nat) (l0 : List (S33)) (a1_0 : ByteArray) (a1_1 : ByteArray) (a1_2 : Bool) (a2_0 : ByteArray) (a2_1 : ByteArray) (a2_2 : Bool) : Option (Bool) := (stanchionlaw12_shown.f k).bind fun t223 => (if t223 = true then ((view_Set.f l0 a2_0 a1_1 a1_2).bind fun t224 => ((view_Set.f t224 a2_0 a2_1 a2_2).bind fun t227 => ((view_Set.f l0 a2_0 a2_1 a2_2).bind fun t230 => ((stanchionref05_Writes.f k t227 t230).bind fun t233 => (some t233))))) else (some false))
theorem stanchionlaw12_ViewTwice.mono : ∀ a0 a1 a2 a3 a4 a5 a6 k, LeO (stanchionlaw12_ViewTwice.f k a0 a1 a2 a3 a4 a5 a6) (stanchionlaw12_ViewTwice.f (k + 1) a0 a1 a2 a3 a4 a5 a6) := by
  intro a0 a1 a2 a3 a4 a5 a6 k
  unfold stanchionlaw12_ViewTwice.f
  repeat' first
      | (with_reducible exact stanchionlaw12_shown.mono _)
      | (with_reducible exact stanchionref05_Writes.mono _ _ _)
      | (with_reducible exact LeO.refl _)
      | (with_reducible exact LeO.none _)
      | (with_reducible refine LeO.ite ?_ ?_)
      | (with_reducible refine LeO.bind ?_ (fun _ => ?_))
      | exact stanchionlaw12_shown.mono _
      | exact stanchionref05_Writes.mono _ _ _
      | exact LeO.none _
      | refine LeO.ite ?_ ?_
      | refine LeO.bind ?_ (fun _ => ?_)

/-! ### stanchionref05_Right (function 18): what it is -/
def stanchionref05_Right.l0 : Nat → List (S43) → Int → Option (Bool)
  | 0, _, _ => none
  | k + 1, x0, x3 => if x3 < (x0.length : Int) then (if 0 ≤ (wrap64 (x3 - 1)) then (if (wrap64 (x3 - 1)) < (x0.length : Int) then (if 0 ≤ x3 then ((stanchionref01_Less.f k ((rd_T43 x0 (wrap64 (x3 - 1))).f0) ((rd_T43 x0 x3).f0)).bind fun t236 => (if t236 = true then (stanchionref05_Right.l0 k x0 (wrap64 (x3 + 1))) else (some false))) else (none)) else (none)) else (none)) else (some true)
def stanchionref05_Right.f (k : Nat) (l0 : List (S43)) : Option (Bool) := stanchionref05_Right.l0 k l0 1
theorem stanchionref05_Right.mono_l : ∀ k, (∀ y0 y1, LeO (stanchionref05_Right.l0 k y0 y1) (stanchionref05_Right.l0 (k + 1) y0 y1))
  | 0 => fun _ _ r h => by simp [stanchionref05_Right.l0] at h
  | k + 1 => by
    have ih0 := stanchionref05_Right.mono_l k
    · intro y0 y1
      unfold stanchionref05_Right.l0
      repeat' first
      | (with_reducible exact ih0 _ _)
      | (with_reducible exact stanchionref01_Less.mono _ _ _)
      | (with_reducible exact LeO.refl _)
      | (with_reducible exact LeO.none _)
      | (with_reducible refine LeO.ite ?_ ?_)
      | (with_reducible refine LeO.bind ?_ (fun _ => ?_))
      | exact ih0 _ _
      | exact stanchionref01_Less.mono _ _ _
      | exact LeO.none _
      | refine LeO.ite ?_ ?_
      | refine LeO.bind ?_ (fun _ => ?_)
theorem stanchionref05_Right.mono : ∀ a0 k, LeO (stanchionref05_Right.f k a0) (stanchionref05_Right.f (k + 1) a0) := by
  intro a0 k
  have ih0 := stanchionref05_Right.mono_l k
  unfold stanchionref05_Right.f
  repeat' first
      | (with_reducible exact ih0 _ _)
      | (with_reducible exact stanchionref01_Less.mono _ _ _)
      | (with_reducible exact LeO.refl _)
      | (with_reducible exact LeO.none _)
      | (with_reducible refine LeO.ite ?_ ?_)
      | (with_reducible refine LeO.bind ?_ (fun _ => ?_))
      | exact ih0 _ _
      | exact stanchionref01_Less.mono _ _ _
      | exact LeO.none _
      | refine LeO.ite ?_ ?_
      | refine LeO.bind ?_ (fun _ => ?_)

/-! ### view_Rises (function 19): what it is -/
def view_Rises.l0 : Nat → List (S33) → Int → Option (Bool)
  | 0, _, _ => none
  | k + 1, x0, x3 => if x3 < (x0.length : Int) then (if 0 ≤ (wrap64 (x3 - 1)) then (if (wrap64 (x3 - 1)) < (x0.length : Int) then (if 0 ≤ x3 then (if ((Op.bytesLess (((rd_T33 x0 (wrap64 (x3 - 1))).f0).toList) (((rd_T33 x0 x3).f0).toList)) = true) then (view_Rises.l0 k x0 (wrap64 (x3 + 1))) else (some false)) else (none)) else (none)) else (none)) else (some true)
def view_Rises.f (k : Nat) (l0 : List (S33)) : Option (Bool) := view_Rises.l0 k l0 1
theorem view_Rises.mono_l : ∀ k, (∀ y0 y1, LeO (view_Rises.l0 k y0 y1) (view_Rises.l0 (k + 1) y0 y1))
  | 0 => fun _ _ r h => by simp [view_Rises.l0] at h
  | k + 1 => by
    have ih0 := view_Rises.mono_l k
    · intro y0 y1
      unfold view_Rises.l0
      repeat' first
      | (with_reducible exact ih0 _ _)
      | (with_reducible exact LeO.refl _)
      | (with_reducible exact LeO.none _)
      | (with_reducible refine LeO.ite ?_ ?_)
      | (with_reducible refine LeO.bind ?_ (fun _ => ?_))
      | exact ih0 _ _
      | exact LeO.none _
      | refine LeO.ite ?_ ?_
      | refine LeO.bind ?_ (fun _ => ?_)
theorem view_Rises.mono : ∀ a0 k, LeO (view_Rises.f k a0) (view_Rises.f (k + 1) a0) := by
  intro a0 k
  have ih0 := view_Rises.mono_l k
  unfold view_Rises.f
  repeat' first
      | (with_reducible exact ih0 _ _)
      | (with_reducible exact LeO.refl _)
      | (with_reducible exact LeO.none _)
      | (with_reducible refine LeO.ite ?_ ?_)
      | (with_reducible refine LeO.bind ?_ (fun _ => ?_))
      | exact ih0 _ _
      | exact LeO.none _
      | refine LeO.ite ?_ ?_
      | refine LeO.bind ?_ (fun _ => ?_)

/-! ### stanchionlaw12_ViewAgrees (function 6): what it is -/
def stanchionlaw12_ViewAgrees.j0 : Nat → List (S33) → List (S43) → ByteArray → Bool → Bool → Option (Bool)
  | 0, _, _, _, _, _ => none
  | k + 1, x0, x1, x2, x7, x25 => if x25 = true then (some x7) else ((view_Get.f x0 x1 x2).bind fun bt242 => (if x2.size + 1 ≤ 9223372036854775807 then ((view_Scan.f k x0 x1 x2 (x2 ++ (⟨#[0]⟩ : ByteArray)) 9).bind fun t244 => (if bt242.2 = true then (if (t244.length : Int) = 1 then (if 0 < (t244.length : Int) then (if ((rd_T43 t244 0).f0).toList = x2.toList then (some (((rd_T43 t244 0).f1).toList == bt242.1.toList)) else (some false)) else (none)) else (some false)) else (some ((t244.length : Int) == 0)))) else (none)))
def stanchionlaw12_ViewAgrees.f (k : Nat) (l0 : List (S33)) (l1 : List (S43)) (a2 : ByteArray) : Option (Bool) := (stanchionlaw12_shown.f k).bind fun t239 => ((stanchionref05_Right.f k l1).bind fun t240 => (if t239 = true then (if t240 = true then ((view_Rises.f k l0).bind fun t241 => (stanchionlaw12_ViewAgrees.j0 k l0 l1 a2 t239 (!t241))) else (stanchionlaw12_ViewAgrees.j0 k l0 l1 a2 t239 true)) else (stanchionlaw12_ViewAgrees.j0 k l0 l1 a2 t239 true)))
theorem stanchionlaw12_ViewAgrees.mono_l : ∀ k, (∀ y0 y1 y2 y3 y4, LeO (stanchionlaw12_ViewAgrees.j0 k y0 y1 y2 y3 y4) (stanchionlaw12_ViewAgrees.j0 (k + 1) y0 y1 y2 y3 y4))
  | 0 => fun _ _ _ _ _ r h => by simp [stanchionlaw12_ViewAgrees.j0] at h
  | k + 1 => by
    have ih0 := stanchionlaw12_ViewAgrees.mono_l k
    · intro y0 y1 y2 y3 y4
      unfold stanchionlaw12_ViewAgrees.j0
      repeat' first
      | (with_reducible exact ih0 _ _ _ _ _)
      | (with_reducible exact stanchionlaw12_shown.mono _)
      | (with_reducible exact stanchionref05_Right.mono _ _)
      | (with_reducible exact view_Rises.mono _ _)
      | (with_reducible exact view_Scan.mono _ _ _ _ _ _)
      | (with_reducible exact LeO.refl _)
      | (with_reducible exact LeO.none _)
      | (with_reducible refine LeO.ite ?_ ?_)
      | (with_reducible refine LeO.bind ?_ (fun _ => ?_))
      | exact ih0 _ _ _ _ _
      | exact stanchionlaw12_shown.mono _
      | exact stanchionref05_Right.mono _ _
      | exact view_Rises.mono _ _
      | exact view_Scan.mono _ _ _ _ _ _
      | exact LeO.none _
      | refine LeO.ite ?_ ?_
      | refine LeO.bind ?_ (fun _ => ?_)
theorem stanchionlaw12_ViewAgrees.mono : ∀ a0 a1 a2 k, LeO (stanchionlaw12_ViewAgrees.f k a0 a1 a2) (stanchionlaw12_ViewAgrees.f (k + 1) a0 a1 a2) := by
  intro a0 a1 a2 k
  have ih0 := stanchionlaw12_ViewAgrees.mono_l k
  unfold stanchionlaw12_ViewAgrees.f
  repeat' first
      | (with_reducible exact ih0 _ _ _ _ _)
      | (with_reducible exact stanchionlaw12_shown.mono _)
      | (with_reducible exact stanchionref05_Right.mono _ _)
      | (with_reducible exact view_Rises.mono _ _)
      | (with_reducible exact view_Scan.mono _ _ _ _ _ _)
      | (with_reducible exact LeO.refl _)
      | (with_reducible exact LeO.none _)
      | (with_reducible refine LeO.ite ?_ ?_)
      | (with_reducible refine LeO.bind ?_ (fun _ => ?_))
      | exact ih0 _ _ _ _ _
      | exact stanchionlaw12_shown.mono _
      | exact stanchionref05_Right.mono _ _
      | exact view_Rises.mono _ _
      | exact view_Scan.mono _ _ _ _ _ _
      | exact LeO.none _
      | refine LeO.ite ?_ ?_
      | refine LeO.bind ?_ (fun _ => ?_)

/-! ### stanchionref12_Set (function 20): what it is -/
def stanchionref12_Set.l0 : Nat → List (S33) → Int → List (S33) → Bool → Int → ByteArray → ByteArray → Bool → Option ((List (S33)))
  | 0, _, _, _, _, _, _, _, _ => none
  | k + 1, x0, x5, x6, x7, x8, x250000, x250001, x250002 => if x8 < (x0.length : Int) then (if x8 = x5 then (if x6.length < 3518437208883 then (stanchionref12_Set.l0 k x0 x5 (x6 ++ [(⟨x250000, x250001, x250002⟩ : S33)]) true (wrap64 (x8 + 1)) x250000 x250001 x250002) else (none)) else (if 0 ≤ x8 then ((stanchionref01_Less.f k x250000 ((rd_T33 x0 x8).f0)).bind fun t258 => (if x5 < 0 then (if x7 = true then (if x6.length < 3518437208883 then (stanchionref12_Set.l0 k x0 x5 (x6 ++ [(⟨(rd_T33 x0 x8).f0, (rd_T33 x0 x8).f1, (rd_T33 x0 x8).f2⟩ : S33)]) x7 (wrap64 (x8 + 1)) x250000 x250001 x250002) else (none)) else (if t258 = true then (if x6.length < 3518437208883 then ((some (x6 ++ [(⟨x250000, x250001, x250002⟩ : S33)] : List (S33))).bind fun y263 => (if y263.length < 3518437208883 then (stanchionref12_Set.l0 k x0 x5 (y263 ++ [(⟨(rd_T33 x0 x8).f0, (rd_T33 x0 x8).f1, (rd_T33 x0 x8).f2⟩ : S33)]) true (wrap64 (x8 + 1)) x250000 x250001 x250002) else (none))) else (none)) else (if x6.length < 3518437208883 then (stanchionref12_Set.l0 k x0 x5 (x6 ++ [(⟨(rd_T33 x0 x8).f0, (rd_T33 x0 x8).f1, (rd_T33 x0 x8).f2⟩ : S33)]) x7 (wrap64 (x8 + 1)) x250000 x250001 x250002) else (none)))) else (if x6.length < 3518437208883 then (stanchionref12_Set.l0 k x0 x5 (x6 ++ [(⟨(rd_T33 x0 x8).f0, (rd_T33 x0 x8).f1, (rd_T33 x0 x8).f2⟩ : S33)]) x7 (wrap64 (x8 + 1)) x250000 x250001 x250002) else (none)))) else (none))) else (if x7 = true then (some x6) else (if x6.length < 3518437208883 then (some (x6 ++ [(⟨x250000, x250001, x250002⟩ : S33)])) else (none)))
def stanchionref12_Set.f (k : Nat) (l0 : List (S33)) (a1_0 : ByteArray) (a1_1 : ByteArray) (a1_2 : Bool) : Option ((List (S33))) := (stanchionref12_at.f k l0 a1_0).bind fun t250 => (stanchionref12_Set.l0 k l0 t250 ([] : List (S33)) false 0 a1_0 a1_1 a1_2)
theorem stanchionref12_Set.mono_l : ∀ k, (∀ y0 y1 y2 y3 y4 y5 y6 y7, LeO (stanchionref12_Set.l0 k y0 y1 y2 y3 y4 y5 y6 y7) (stanchionref12_Set.l0 (k + 1) y0 y1 y2 y3 y4 y5 y6 y7))
  | 0 => fun _ _ _ _ _ _ _ _ r h => by simp [stanchionref12_Set.l0] at h
  | k + 1 => by
    have ih0 := stanchionref12_Set.mono_l k
    · intro y0 y1 y2 y3 y4 y5 y6 y7
      unfold stanchionref12_Set.l0
      repeat' first
      | (with_reducible exact ih0 _ _ _ _ _ _ _ _)
      | (with_reducible exact stanchionref01_Less.mono _ _ _)
      | (with_reducible exact stanchionref12_at.mono _ _ _)
      | (with_reducible exact LeO.refl _)
      | (with_reducible exact LeO.none _)
      | (with_reducible refine LeO.ite ?_ ?_)
      | (with_reducible refine LeO.bind ?_ (fun _ => ?_))
      | exact ih0 _ _ _ _ _ _ _ _
      | exact stanchionref01_Less.mono _ _ _
      | exact stanchionref12_at.mono _ _ _
      | exact LeO.none _
      | refine LeO.ite ?_ ?_
      | refine LeO.bind ?_ (fun _ => ?_)
theorem stanchionref12_Set.mono : ∀ a0 a1 a2 a3 k, LeO (stanchionref12_Set.f k a0 a1 a2 a3) (stanchionref12_Set.f (k + 1) a0 a1 a2 a3) := by
  intro a0 a1 a2 a3 k
  have ih0 := stanchionref12_Set.mono_l k
  unfold stanchionref12_Set.f
  repeat' first
      | (with_reducible exact ih0 _ _ _ _ _ _ _ _)
      | (with_reducible exact stanchionref01_Less.mono _ _ _)
      | (with_reducible exact stanchionref12_at.mono _ _ _)
      | (with_reducible exact LeO.refl _)
      | (with_reducible exact LeO.none _)
      | (with_reducible refine LeO.ite ?_ ?_)
      | (with_reducible refine LeO.bind ?_ (fun _ => ?_))
      | exact ih0 _ _ _ _ _ _ _ _
      | exact stanchionref01_Less.mono _ _ _
      | exact stanchionref12_at.mono _ _ _
      | exact LeO.none _
      | refine LeO.ite ?_ ?_
      | refine LeO.bind ?_ (fun _ => ?_)

/-! ### view_Size (function 21): what it is -/
def view_Size.l0 : Nat → Int → List (S33) → Int → Int → Option (Int)
  | 0, _, _, _, _ => none
  | k + 1, x3, x6, x7, x8 => if x8 < x7 then (if 0 ≤ x8 then (if x8 < (x6.length : Int) then (view_Size.l0 k (wrap64 (x3 + (wrap64 ((((rd_T33 x6 x8).f0).size : Int) + (((rd_T33 x6 x8).f1).size : Int))))) x6 x7 (wrap64 (x8 + 1))) else (none)) else (none)) else (some x3)
def view_Size.f (k : Nat) (l0 : List (S33)) : Option (Int) := view_Size.l0 k 0 l0 (l0.length : Int) 0
theorem view_Size.mono_l : ∀ k, (∀ y0 y1 y2 y3, LeO (view_Size.l0 k y0 y1 y2 y3) (view_Size.l0 (k + 1) y0 y1 y2 y3))
  | 0 => fun _ _ _ _ r h => by simp [view_Size.l0] at h
  | k + 1 => by
    have ih0 := view_Size.mono_l k
    · intro y0 y1 y2 y3
      unfold view_Size.l0
      repeat' first
      | (with_reducible exact ih0 _ _ _ _)
      | (with_reducible exact LeO.refl _)
      | (with_reducible exact LeO.none _)
      | (with_reducible refine LeO.ite ?_ ?_)
      | (with_reducible refine LeO.bind ?_ (fun _ => ?_))
      | exact ih0 _ _ _ _
      | exact LeO.none _
      | refine LeO.ite ?_ ?_
      | refine LeO.bind ?_ (fun _ => ?_)
theorem view_Size.mono : ∀ a0 k, LeO (view_Size.f k a0) (view_Size.f (k + 1) a0) := by
  intro a0 k
  have ih0 := view_Size.mono_l k
  unfold view_Size.f
  repeat' first
      | (with_reducible exact ih0 _ _ _ _)
      | (with_reducible exact LeO.refl _)
      | (with_reducible exact LeO.none _)
      | (with_reducible refine LeO.ite ?_ ?_)
      | (with_reducible refine LeO.bind ?_ (fun _ => ?_))
      | exact ih0 _ _ _ _
      | exact LeO.none _
      | refine LeO.ite ?_ ?_
      | refine LeO.bind ?_ (fun _ => ?_)

/-! ### stanchionref12_Size (function 22): what it is -/
def stanchionref12_Size.l0 : Nat → List (S33) → Int → Int → Option (Int)
  | 0, _, _, _ => none
  | k + 1, x0, x3, x4 => if x4 < (x0.length : Int) then (if 0 ≤ x4 then (stanchionref12_Size.l0 k x0 (wrap64 ((wrap64 (x3 + (((rd_T33 x0 x4).f0).size : Int))) + (((rd_T33 x0 x4).f1).size : Int))) (wrap64 (x4 + 1))) else (none)) else (some x3)
def stanchionref12_Size.f (k : Nat) (l0 : List (S33)) : Option (Int) := stanchionref12_Size.l0 k l0 0 0
theorem stanchionref12_Size.mono_l : ∀ k, (∀ y0 y1 y2, LeO (stanchionref12_Size.l0 k y0 y1 y2) (stanchionref12_Size.l0 (k + 1) y0 y1 y2))
  | 0 => fun _ _ _ r h => by simp [stanchionref12_Size.l0] at h
  | k + 1 => by
    have ih0 := stanchionref12_Size.mono_l k
    · intro y0 y1 y2
      unfold stanchionref12_Size.l0
      repeat' first
      | (with_reducible exact ih0 _ _ _)
      | (with_reducible exact LeO.refl _)
      | (with_reducible exact LeO.none _)
      | (with_reducible refine LeO.ite ?_ ?_)
      | (with_reducible refine LeO.bind ?_ (fun _ => ?_))
      | exact ih0 _ _ _
      | exact LeO.none _
      | refine LeO.ite ?_ ?_
      | refine LeO.bind ?_ (fun _ => ?_)
theorem stanchionref12_Size.mono : ∀ a0 k, LeO (stanchionref12_Size.f k a0) (stanchionref12_Size.f (k + 1) a0) := by
  intro a0 k
  have ih0 := stanchionref12_Size.mono_l k
  unfold stanchionref12_Size.f
  repeat' first
      | (with_reducible exact ih0 _ _ _)
      | (with_reducible exact LeO.refl _)
      | (with_reducible exact LeO.none _)
      | (with_reducible refine LeO.ite ?_ ?_)
      | (with_reducible refine LeO.bind ?_ (fun _ => ?_))
      | exact ih0 _ _ _
      | exact LeO.none _
      | refine LeO.ite ?_ ?_
      | refine LeO.bind ?_ (fun _ => ?_)

end Go.Proofs.Ytbkfmicnjnklnaa.PB
