-- Made by a program of this workplace out of the translation (wip/tools in the repo). Not trusted: Lean checks it.
import Derived.Test.YtbkfmicnjnklnaaPBx0
namespace Go.Proofs.Ytbkfmicnjnklnaa.PB
open Go.RowKit Go.Proofs.YtbkfmicnjnklnaaW.PrintWords Go.Proofs.YtbkfmicnjnklnaaW.PrintLast Go.Proofs.YtbkfmicnjnklnaaW.PrintMore
attribute [local go_sem] max2_int min2_int max_two min_two max_three min_three max_four min_four   -- for this text's walks alone
set_option linter.unusedVariables false
set_option linter.unusedSimpArgs false

/-! ### api_Write_26: function 26 -/
def ixOf {α : Type} (p : α → Bool) (l : List α) : Int := if l.findIdx p < l.length then ((l.findIdx p : Nat) : Int) else -1
theorem ixOf_hit {α : Type} (p : α → Bool) (l : List α) (d : α) (k : Nat) (h : k < l.length) (hk : p (l.getD k d) = true) (hn : ∀ j, j < k → p (l.getD j d) = false) : ixOf p l = (k : Int) := by
  have e : l.findIdx p = k := by
    rw [List.findIdx_eq h]
    refine ⟨by rw [List.getD_eq_getElem?_getD, List.getElem?_eq_getElem h] at hk; exact hk, fun j hj => ?_⟩
    have := hn j hj
    rw [List.getD_eq_getElem?_getD, List.getElem?_eq_getElem (by omega)] at this
    exact this
  unfold ixOf
  rw [e, if_pos h]
theorem ixOf_miss {α : Type} (p : α → Bool) (l : List α) (d : α) (hn : ∀ j, j < l.length → p (l.getD j d) = false) : ixOf p l = -1 := by
  unfold ixOf
  rw [if_neg]
  intro h
  have h1 := List.findIdx_getElem (w := h) (p := p) (xs := l)
  have h2 := hn _ h
  rw [List.getD_eq_getElem?_getD, List.getElem?_eq_getElem h] at h2
  have h3 : p l[l.findIdx p] = false := h2
  rw [h3] at h1
  cases h1
theorem ixOf_cases {α : Type} (p : α → Bool) (l : List α) : ixOf p l = -1 ∨ ∃ i : Nat, i < l.length ∧ ixOf p l = (i : Int) := by
  unfold ixOf
  split
  · exact .inr ⟨_, by assumption, rfl⟩
  · exact .inl rfl


/-! ### table_at: function 39 -/
def table_at.f (l0 : List S43) (a1 : ByteArray) : Option Int := some (ixOf (fun x => x.f0.toList == a1.toList) l0)

/-! ### table_Find (function 28): what it is -/
def table_Find.f (l0 : List (S43)) (a1 : ByteArray) : Option (ByteArray × Bool) := (table_at.f l0 a1).bind fun t101 => (if t101 < 0 then (some ((⟨#[]⟩ : ByteArray), false)) else (if 0 ≤ t101 then (if t101 < (l0.length : Int) then (some ((rd_T43 l0 t101).f1, true)) else (none)) else (none)))

/-! ### view_Get: function 11 -/
def geq33 (key : ByteArray) (x : S33) : Bool := x.f0.toList == key.toList
def view_Get.f (l0 : List S33) (l1 : List S43) (a2 : ByteArray) : Option (ByteArray × Bool) :=
  if ixOf (geq33 a2) l0 < 0 then table_Find.f l1 a2 else if (rd_T33 l0 (ixOf (geq33 a2) l0)).f2 = true then some ((⟨#[]⟩ : ByteArray), false) else some ((rd_T33 l0 (ixOf (geq33 a2) l0)).f1, true)
theorem ixOf_cases' {α : Type} (p : α → Bool) (l : List α) : ixOf p l = -1 ∨ ∃ i : Nat, i < l.length ∧ ixOf p l = (i : Int) := by
  unfold ixOf
  split
  · exact .inr ⟨_, by assumption, rfl⟩
  · exact .inl rfl

/-! ### table_Between (function 40): what it is -/
def table_Between.f (a0 : ByteArray) (a1 : ByteArray) (a2 : ByteArray) : Option (Bool) := if ((Op.bytesLess a0.toList a1.toList) = true) then (some false) else (if a2.toList = ([] : List UInt8) then (some true) else (some (Op.bytesLess a0.toList a2.toList)))

/-! ### table_Range (function 30): what it is -/
def table_Range.l0 : Nat → ByteArray → ByteArray → Int → List (S43) → List (S43) → Int → Int → Option ((List (S43)))
  | 0, _, _, _, _, _, _, _ => none
  | k + 1, x1, x2, x3, x9, x12, x13, x14 => if x14 < x13 then (if 0 ≤ x14 then (if x14 < (x12.length : Int) then (if (x9.length : Int) ≥ x3 then (some x9) else ((table_Between.f ((rd_T43 x12 x14).f0) x1 x2).bind fun t105 => (if t105 = true then (if x9.length < 4398046511104 then (table_Range.l0 k x1 x2 x3 (x9 ++ [(⟨(rd_T43 x12 x14).f0, (rd_T43 x12 x14).f1⟩ : S43)]) x12 x13 (wrap64 (x14 + 1))) else (none)) else (table_Range.l0 k x1 x2 x3 x9 x12 x13 (wrap64 (x14 + 1)))))) else (none)) else (none)) else (some x9)
def table_Range.f (k : Nat) (l0 : List (S43)) (a1 : ByteArray) (a2 : ByteArray) (a3 : Int) : Option ((List (S43))) := table_Range.l0 k a1 a2 a3 ([] : List (S43)) l0 (l0.length : Int) 0
theorem table_Range.mono_l : ∀ k, (∀ y0 y1 y2 y3 y4 y5 y6, LeO (table_Range.l0 k y0 y1 y2 y3 y4 y5 y6) (table_Range.l0 (k + 1) y0 y1 y2 y3 y4 y5 y6))
  | 0 => fun _ _ _ _ _ _ _ r h => by simp [table_Range.l0] at h
  | k + 1 => by
    have ih0 := table_Range.mono_l k
    · intro y0 y1 y2 y3 y4 y5 y6
      unfold table_Range.l0
      repeat' first
      | (with_reducible exact ih0 _ _ _ _ _ _ _)
      | (with_reducible exact LeO.refl _)
      | (with_reducible exact LeO.none _)
      | (with_reducible refine LeO.ite ?_ ?_)
      | (with_reducible refine LeO.bind ?_ (fun _ => ?_))
      | exact ih0 _ _ _ _ _ _ _
      | exact LeO.none _
      | refine LeO.ite ?_ ?_
      | refine LeO.bind ?_ (fun _ => ?_)
theorem table_Range.mono : ∀ a0 a1 a2 a3 k, LeO (table_Range.f k a0 a1 a2 a3) (table_Range.f (k + 1) a0 a1 a2 a3) := by
  intro a0 a1 a2 a3 k
  have ih0 := table_Range.mono_l k
  unfold table_Range.f
  repeat' first
      | (with_reducible exact ih0 _ _ _ _ _ _ _)
      | (with_reducible exact LeO.refl _)
      | (with_reducible exact LeO.none _)
      | (with_reducible refine LeO.ite ?_ ?_)
      | (with_reducible refine LeO.bind ?_ (fun _ => ?_))
      | exact ih0 _ _ _ _ _ _ _
      | exact LeO.none _
      | refine LeO.ite ?_ ?_
      | refine LeO.bind ?_ (fun _ => ?_)

/-! ### api_Pair_41 (function 41): what it is -/
def api_Pair_41.f (l0 : List (S43)) : Option ((List (S43))) := (some (([] : List (S43)) : List (S43))).bind fun y109 => (if y109.length + l0.length < 4398046511104 then (some (y109 ++ l0)) else (none))


/-! ### table_Put: function 50 -/
def gtK43 (key : ByteArray) (x : S43) : Bool := !Op.bytesLess x.f0.toList key.toList && !x.f0.toList == key.toList
def eqK43 (key : ByteArray) (x : S43) : Bool := x.f0.toList == key.toList
def putL43 (l : List S43) (key val : ByteArray) : List S43 :=
  if 0 ≤ ixOf (eqK43 key) l then l.set (ixOf (eqK43 key) l).toNat ⟨key, val⟩
  else if ixOf (gtK43 key) l < 0 then l ++ [⟨key, val⟩]
  else l.take (ixOf (gtK43 key) l).toNat ++ ⟨key, val⟩ :: l.drop (ixOf (gtK43 key) l).toNat
def table_Put.f (l0 : List S43) (a1 a2 : ByteArray) : Option (List S43) := (api_Pair_41.f l0).bind fun y => if y.length < 4398046511104 then some (putL43 y a1 a2) else none


/-! ### table_Drop: function 51 -/
def dropL43 (l : List S43) (key : ByteArray) : List S43 := l.filter (fun x => !eqK43 key x)
def table_Drop.f (l0 : List S43) (a1 : ByteArray) : Option (List S43) := (api_Pair_41.f l0).bind fun y => some (dropL43 y a1)

/-! ### table_Apply: function 31 -/
def applyF43 : List S43 → List S33 → Option (List S43)
  | l, [] => some l
  | l, x :: ws => (if x.f2 = true then table_Drop.f l x.f0 else table_Put.f l x.f0 x.f1).bind fun y => applyF43 y ws
def table_Apply.f (l0 : List S43) (l1 : List S33) : Option (List S43) := (api_Pair_41.f l0).bind fun y => applyF43 y l1

/-! ### view_Scan (function 14): what it is -/
def view_Scan.f (k : Nat) (l0 : List (S33)) (l1 : List (S43)) (a2 : ByteArray) (a3 : ByteArray) (a4 : Int) : Option ((List (S43))) := (table_Apply.f l1 l0).bind fun t115 => ((table_Range.f k t115 a2 a3 a4).bind fun t118 => (some t118))
theorem view_Scan.mono : ∀ a0 a1 a2 a3 a4 k, LeO (view_Scan.f k a0 a1 a2 a3 a4) (view_Scan.f (k + 1) a0 a1 a2 a3 a4) := by
  intro a0 a1 a2 a3 a4 k
  unfold view_Scan.f
  repeat' first
      | (with_reducible exact table_Range.mono _ _ _ _ _)
      | (with_reducible exact LeO.refl _)
      | (with_reducible exact LeO.none _)
      | (with_reducible refine LeO.ite ?_ ?_)
      | (with_reducible refine LeO.bind ?_ (fun _ => ?_))
      | exact table_Range.mono _ _ _ _ _
      | exact LeO.none _
      | refine LeO.ite ?_ ?_
      | refine LeO.bind ?_ (fun _ => ?_)

/-! ### api_Write_34 (function 34): what it is -/
def api_Write_34.f (l0 : List (S33)) : Option ((List (S33))) := (some (([] : List (S33)) : List (S33))).bind fun y121 => (if y121.length + l0.length < 3518437208883 then (some (y121 ++ l0)) else (none))


/-! ### view_Set: function 16 -/
def sgt33 (key : ByteArray) (x : S33) : Bool := !Op.bytesLess x.f0.toList key.toList && !x.f0.toList == key.toList
def seq33 (key : ByteArray) (x : S33) : Bool := x.f0.toList == key.toList
def setL33 (l : List S33) (x : S33) : List S33 :=
  if 0 ≤ ixOf (seq33 x.f0) l then l.set (ixOf (seq33 x.f0) l).toNat x
  else if ixOf (sgt33 x.f0) l < 0 then l ++ [x]
  else l.take (ixOf (sgt33 x.f0) l).toNat ++ x :: l.drop (ixOf (sgt33 x.f0) l).toNat
def view_Set.f (l0 : List S33) (a1_0 a1_1 : ByteArray) (a1_2 : Bool) : Option (List S33) := (api_Write_34.f l0).bind fun y => if l0.length < 3518437208880 then some (setL33 y ⟨a1_0, a1_1, a1_2⟩) else none

/-! ### stanchionlaw12_shown (function 10): what it is -/
def stanchionlaw12_shown.f (k : Nat)  : Option (Bool) := (some (([(⟨(⟨#[97]⟩ : ByteArray), (⟨#[49]⟩ : ByteArray)⟩ : S43)] : List (S43)) : List (S43))).bind fun y127 => ((view_Set.f ([] : List (S33)) (⟨#[97]⟩ : ByteArray) (⟨#[]⟩ : ByteArray) true).bind fun t130 => ((view_Get.f t130 y127 (⟨#[97]⟩ : ByteArray)).bind fun bt133 => ((view_Set.f t130 (⟨#[98]⟩ : ByteArray) (⟨#[50]⟩ : ByteArray) false).bind fun t135 => ((view_Scan.f k t135 y127 (⟨#[]⟩ : ByteArray) (⟨#[]⟩ : ByteArray) 9).bind fun t138 => (if bt133.2 = true then (some false) else (if (t138.length : Int) = 1 then (if 0 < (t138.length : Int) then (some (((rd_T43 t138 0).f0).toList == ([98] : List UInt8))) else (none)) else (some false)))))))
theorem stanchionlaw12_shown.mono : ∀ k, LeO (stanchionlaw12_shown.f k ) (stanchionlaw12_shown.f (k + 1) ) := by
  intro  k
  unfold stanchionlaw12_shown.f
  repeat' first
      | (with_reducible exact view_Scan.mono _ _ _ _ _ _)
      | (with_reducible exact LeO.refl _)
      | (with_reducible exact LeO.none _)
      | (with_reducible refine LeO.ite ?_ ?_)
      | (with_reducible refine LeO.bind ?_ (fun _ => ?_))
      | exact view_Scan.mono _ _ _ _ _ _
      | exact LeO.none _
      | refine LeO.ite ?_ ?_
      | refine LeO.bind ?_ (fun _ => ?_)

/-! ### stanchionref05_Writes (function 17): what it is -/
def stanchionref05_Writes.l0 : Nat → List (S33) → List (S33) → Int → Option (Bool)
  | 0, _, _, _ => none
  | k + 1, x0, x1, x5 => if x5 < (x0.length : Int) then (if 0 ≤ x5 then (if x5 < (x1.length : Int) then (if (!((((rd_T33 x0 x5).f0).toList) == (((rd_T33 x1 x5).f0).toList)) || (!((((rd_T33 x0 x5).f1).toList) == (((rd_T33 x1 x5).f1).toList)) || (!(((rd_T33 x0 x5).f2) == ((rd_T33 x1 x5).f2))))) = true then (some false) else (stanchionref05_Writes.l0 k x0 x1 (wrap64 (x5 + 1)))) else (none)) else (none)) else (some true)
def stanchionref05_Writes.f (k : Nat) (l0 : List (S33)) (l1 : List (S33)) : Option (Bool) := if (l0.length : Int) = (l1.length : Int) then (stanchionref05_Writes.l0 k l0 l1 0) else (some false)
theorem stanchionref05_Writes.mono_l : ∀ k, (∀ y0 y1 y2, LeO (stanchionref05_Writes.l0 k y0 y1 y2) (stanchionref05_Writes.l0 (k + 1) y0 y1 y2))
  | 0 => fun _ _ _ r h => by simp [stanchionref05_Writes.l0] at h
  | k + 1 => by
    have ih0 := stanchionref05_Writes.mono_l k
    · intro y0 y1 y2
      unfold stanchionref05_Writes.l0
      repeat' first
      | (with_reducible exact ih0 _ _ _)
      | (with_reducible exact LeO.refl _)
      | (with_reducible exact LeO.none _)
      | (with_reducible refine LeO.ite ?_ ?_)
      | (with_reducible refine LeO.bind ?_ (fun _ => ?_))
      | exact ih0 _ _ _
      | exact LeO.none _
      | refine LeO.ite ?_ ?_
      | refine LeO.bind ?_ (fun _ => ?_)
theorem stanchionref05_Writes.mono : ∀ a0 a1 k, LeO (stanchionref05_Writes.f k a0 a1) (stanchionref05_Writes.f (k + 1) a0 a1) := by
  intro a0 a1 k
  have ih0 := stanchionref05_Writes.mono_l k
  unfold stanchionref05_Writes.f
  repeat' first
      | (with_reducible exact ih0 _ _ _)
      | (with_reducible exact LeO.refl _)
      | (with_reducible exact LeO.none _)
      | (with_reducible refine LeO.ite ?_ ?_)
      | (with_reducible refine LeO.bind ?_ (fun _ => ?_))
      | exact ih0 _ _ _
      | exact LeO.none _
      | refine LeO.ite ?_ ?_
      | refine LeO.bind ?_ (fun _ => ?_)

/-! ### stanchionlaw12_ViewTwice (function 5): what it is -/
def stanchionlaw12_ViewTwice.f (k : Nat) (l0 : List (S33)) (a1_0 : ByteArray) (a1_1 : ByteArray) (a1_2 : Bool) (a2_0 : ByteArray) (a2_1 : ByteArray) (a2_2 : Bool) : Option (Bool) := (stanchionlaw12_shown.f k).bind fun t146 => (if t146 = true then ((view_Set.f l0 a2_0 a1_1 a1_2).bind fun t147 => ((view_Set.f t147 a2_0 a2_1 a2_2).bind fun t150 => ((view_Set.f l0 a2_0 a2_1 a2_2).bind fun t153 => ((stanchionref05_Writes.f k t150 t153).bind fun t156 => (some t156))))) else (some false))
theorem stanchionlaw12_ViewTwice.mono : ∀ a0 a1 a2 a3 a4 a5 a6 k, LeO (stanchionlaw12_ViewTwice.f k a0 a1 a2 a3 a4 a5 a6) (stanchionlaw12_ViewTwice.f (k + 1) a0 a1 a2 a3 a4 a5 a6) := by
  intro a0 a1 a2 a3 a4 a5 a6 k
  unfold stanchionlaw12_ViewTwice.f
  repeat' first
      | (with_reducible exact stanchionlaw12_shown.mono _)
      | (with_reducible exact stanchionref05_Writes.mono _ _ _)
      | (with_reducible exact LeO.refl _)
      | (with_reducible exact LeO.none _)
      | (with_reducible refine LeO.ite ?_ ?_)
      | (with_reducible refine LeO.bind ?_ (fun _ => ?_))
      | exact stanchionlaw12_shown.mono _
      | exact stanchionref05_Writes.mono _ _ _
      | exact LeO.none _
      | refine LeO.ite ?_ ?_
      | refine LeO.bind ?_ (fun _ => ?_)

/-! ### view_Rises (function 19): what it is -/
def view_Rises.l0 : Nat → List (S33) → Int → Option (Bool)
  | 0, _, _ => none
  | k + 1, x0, x3 => if x3 < (x0.length : Int) then (if 0 ≤ (wrap64 (x3 - 1)) then (if (wrap64 (x3 - 1)) < (x0.length : Int) then (if 0 ≤ x3 then (if ((Op.bytesLess (((rd_T33 x0 (wrap64 (x3 - 1))).f0).toList) (((rd_T33 x0 x3).f0).toList)) = true) then (view_Rises.l0 k x0 (wrap64 (x3 + 1))) else (some false)) else (none)) else (none)) else (none)) else (some true)
def view_Rises.f (k : Nat) (l0 : List (S33)) : Option (Bool) := view_Rises.l0 k l0 1
theorem view_Rises.mono_l : ∀ k, (∀ y0 y1, LeO (view_Rises.l0 k y0 y1) (view_Rises.l0 (k + 1) y0 y1))
  | 0 => fun _ _ r h => by simp [view_Rises.l0] at h
  | k + 1 => by
    have ih0 := view_Rises.mono_l k
    · intro y0 y1
      unfold view_Rises.l0
      repeat' first
      | (with_reducible exact ih0 _ _)
      | (with_reducible exact LeO.refl _)
      | (with_reducible exact LeO.none _)
      | (with_reducible refine LeO.ite ?_ ?_)
      | (with_reducible refine LeO.bind ?_ (fun _ => ?_))
      | exact ih0 _ _
      | exact LeO.none _
      | refine LeO.ite ?_ ?_
      | refine LeO.bind ?_ (fun _ => ?_)
theorem view_Rises.mono : ∀ a0 k, LeO (view_Rises.f k a0) (view_Rises.f (k + 1) a0) := by
  intro a0 k
  have ih0 := view_Rises.mono_l k
  unfold view_Rises.f
  repeat' first
      | (with_reducible exact ih0 _ _)
      | (with_reducible exact LeO.refl _)
      | (with_reducible exact LeO.none _)
      | (with_reducible refine LeO.ite ?_ ?_)
      | (with_reducible refine LeO.bind ?_ (fun _ => ?_))
      | exact ih0 _ _
      | exact LeO.none _
      | refine LeO.ite ?_ ?_
      | refine LeO.bind ?_ (fun _ => ?_)

/-! ### stanchionref12_at (function 29): what it is -/
def stanchionref12_at.l0 : Nat → List (S33) → ByteArray → Int → Option (Int)
  | 0, _, _, _ => none
  | k + 1, x0, x1, x5 => if x5 < (x0.length : Int) then (if 0 ≤ x5 then (if ((rd_T33 x0 x5).f0).toList = x1.toList then (some x5) else (stanchionref12_at.l0 k x0 x1 (wrap64 (x5 + 1)))) else (none)) else (some (-1))
def stanchionref12_at.f (k : Nat) (l0 : List (S33)) (a1 : ByteArray) : Option (Int) := stanchionref12_at.l0 k l0 a1 0
theorem stanchionref12_at.mono_l : ∀ k, (∀ y0 y1 y2, LeO (stanchionref12_at.l0 k y0 y1 y2) (stanchionref12_at.l0 (k + 1) y0 y1 y2))
  | 0 => fun _ _ _ r h => by simp [stanchionref12_at.l0] at h
  | k + 1 => by
    have ih0 := stanchionref12_at.mono_l k
    · intro y0 y1 y2
      unfold stanchionref12_at.l0
      repeat' first
      | (with_reducible exact ih0 _ _ _)
      | (with_reducible exact LeO.refl _)
      | (with_reducible exact LeO.none _)
      | (with_reducible refine LeO.ite ?_ ?_)
      | (with_reducible refine LeO.bind ?_ (fun _ => ?_))
      | exact ih0 _ _ _
      | exact LeO.none _
      | refine LeO.ite ?_ ?_
      | refine LeO.bind ?_ (fun _ => ?_)
theorem stanchionref12_at.mono : ∀ a0 a1 k, LeO (stanchionref12_at.f k a0 a1) (stanchionref12_at.f (k + 1) a0 a1) := by
  intro a0 a1 k
  have ih0 := stanchionref12_at.mono_l k
  unfold stanchionref12_at.f
  repeat' first
      | (with_reducible exact ih0 _ _ _)
      | (with_reducible exact LeO.refl _)
      | (with_reducible exact LeO.none _)
      | (with_reducible refine LeO.ite ?_ ?_)
      | (with_reducible refine LeO.bind ?_ (fun _ => ?_))
      | exact ih0 _ _ _
      | exact LeO.none _
      | refine LeO.ite ?_ ?_
      | refine LeO.bind ?_ (fun _ => ?_)

/-! ### stanchionref01_Less (function 37): what it is -/
mutual
def stanchionref01_Less.l0 : Nat → ByteArray → ByteArray → Int → Option (Bool)
  | 0, _, _, _ => none
  | k + 1, x0, x1, x5 => if x5 < (x0.size : Int) then (stanchionref01_Less.j1 k x0 x1 x5 (decide (x5 < (x1.size : Int)))) else (stanchionref01_Less.j1 k x0 x1 x5 false)
def stanchionref01_Less.j1 : Nat → ByteArray → ByteArray → Int → Bool → Option (Bool)
  | 0, _, _, _, _ => none
  | k + 1, x0, x1, x5, x15 => if x15 = true then (if 0 ≤ x5 then (if x5 < (x0.size : Int) then (if x5 < (x1.size : Int) then (if (bt x0 x5) = (bt x1 x5) then (stanchionref01_Less.l0 k x0 x1 (wrap64 (x5 + 1))) else (some (decide ((bt x0 x5) < (bt x1 x5))))) else (none)) else (none)) else (none)) else (some (decide ((x0.size : Int) < (x1.size : Int))))
end
def stanchionref01_Less.f (k : Nat) (a0 : ByteArray) (a1 : ByteArray) : Option (Bool) := stanchionref01_Less.l0 k a0 a1 0
theorem stanchionref01_Less.mono_l : ∀ k, (∀ y0 y1 y2, LeO (stanchionref01_Less.l0 k y0 y1 y2) (stanchionref01_Less.l0 (k + 1) y0 y1 y2)) ∧ (∀ y0 y1 y2 y3, LeO (stanchionref01_Less.j1 k y0 y1 y2 y3) (stanchionref01_Less.j1 (k + 1) y0 y1 y2 y3))
  | 0 => ⟨fun _ _ _ r h => by simp [stanchionref01_Less.l0] at h, fun _ _ _ _ r h => by simp [stanchionref01_Less.j1] at h⟩
  | k + 1 => by
    obtain ⟨ih0, ih1⟩ := stanchionref01_Less.mono_l k
    refine ⟨?_, ?_⟩
    · intro y0 y1 y2
      unfold stanchionref01_Less.l0
      repeat' first
      | (with_reducible exact ih0 _ _ _)
      | (with_reducible exact ih1 _ _ _ _)
      | (with_reducible exact LeO.refl _)
      | (with_reducible exact LeO.none _)
      | (with_reducible refine LeO.ite ?_ ?_)
      | (with_reducible refine LeO.bind ?_ (fun _ => ?_))
      | exact ih0 _ _ _
      | exact ih1 _ _ _ _
      | exact LeO.none _
      | refine LeO.ite ?_ ?_
      | refine LeO.bind ?_ (fun _ => ?_)
    · intro y0 y1 y2 y3
      unfold stanchionref01_Less.j1
      repeat' first
      | (with_reducible exact ih0 _ _ _)
      | (with_reducible exact ih1 _ _ _ _)
      | (with_reducible exact LeO.refl _)
      | (with_reducible exact LeO.none _)
      | (with_reducible refine LeO.ite ?_ ?_)
      | (with_reducible refine LeO.bind ?_ (fun _ => ?_))
      | exact ih0 _ _ _
      | exact ih1 _ _ _ _
      | exact LeO.none _
      | refine LeO.ite ?_ ?_
      | refine LeO.bind ?_ (fun _ => ?_)
theorem stanchionref01_Less.mono : ∀ a0 a1 k, LeO (stanchionref01_Less.f k a0 a1) (stanchionref01_Less.f (k + 1) a0 a1) := by
  intro a0 a1 k
  obtain ⟨ih0, ih1⟩ := stanchionref01_Less.mono_l k
  unfold stanchionref01_Less.f
  repeat' first
      | (with_reducible exact ih0 _ _ _)
      | (with_reducible exact ih1 _ _ _ _)
      | (with_reducible exact LeO.refl _)
      | (with_reducible exact LeO.none _)
      | (with_reducible refine LeO.ite ?_ ?_)
      | (with_reducible refine LeO.bind ?_ (fun _ => ?_))
      | exact ih0 _ _ _
      | exact ih1 _ _ _ _
      | exact LeO.none _
      | refine LeO.ite ?_ ?_
      | refine LeO.bind ?_ (fun _ => ?_)

/-! ### stanchionref12_Set (function 20): what it is -/
def stanchionref12_Set.l0 : Nat → List (S33) → Int → List (S33) → Bool → Int → ByteArray → ByteArray → Bool → Option ((List (S33)))
  | 0, _, _, _, _, _, _, _, _ => none
  | k + 1, x0, x5, x6, x7, x8, x161000, x161001, x161002 => if x8 < (x0.length : Int) then (if x8 = x5 then (if x6.length < 3518437208883 then (stanchionref12_Set.l0 k x0 x5 (x6 ++ [(⟨x161000, x161001, x161002⟩ : S33)]) true (wrap64 (x8 + 1)) x161000 x161001 x161002) else (none)) else (if 0 ≤ x8 then ((stanchionref01_Less.f k x161000 ((rd_T33 x0 x8).f0)).bind fun t169 => (if x5 < 0 then (if x7 = true then (if x6.length < 3518437208883 then (stanchionref12_Set.l0 k x0 x5 (x6 ++ [(⟨(rd_T33 x0 x8).f0, (rd_T33 x0 x8).f1, (rd_T33 x0 x8).f2⟩ : S33)]) x7 (wrap64 (x8 + 1)) x161000 x161001 x161002) else (none)) else (if t169 = true then (if x6.length < 3518437208883 then ((some (x6 ++ [(⟨x161000, x161001, x161002⟩ : S33)] : List (S33))).bind fun y174 => (if y174.length < 3518437208883 then (stanchionref12_Set.l0 k x0 x5 (y174 ++ [(⟨(rd_T33 x0 x8).f0, (rd_T33 x0 x8).f1, (rd_T33 x0 x8).f2⟩ : S33)]) true (wrap64 (x8 + 1)) x161000 x161001 x161002) else (none))) else (none)) else (if x6.length < 3518437208883 then (stanchionref12_Set.l0 k x0 x5 (x6 ++ [(⟨(rd_T33 x0 x8).f0, (rd_T33 x0 x8).f1, (rd_T33 x0 x8).f2⟩ : S33)]) x7 (wrap64 (x8 + 1)) x161000 x161001 x161002) else (none)))) else (if x6.length < 3518437208883 then (stanchionref12_Set.l0 k x0 x5 (x6 ++ [(⟨(rd_T33 x0 x8).f0, (rd_T33 x0 x8).f1, (rd_T33 x0 x8).f2⟩ : S33)]) x7 (wrap64 (x8 + 1)) x161000 x161001 x161002) else (none)))) else (none))) else (if x7 = true then (some x6) else (if x6.length < 3518437208883 then (some (x6 ++ [(⟨x161000, x161001, x161002⟩ : S33)])) else (none)))
def stanchionref12_Set.f (k : Nat) (l0 : List (S33)) (a1_0 : ByteArray) (a1_1 : ByteArray) (a1_2 : Bool) : Option ((List (S33))) := (stanchionref12_at.f k l0 a1_0).bind fun t161 => (stanchionref12_Set.l0 k l0 t161 ([] : List (S33)) false 0 a1_0 a1_1 a1_2)
theorem stanchionref12_Set.mono_l : ∀ k, (∀ y0 y1 y2 y3 y4 y5 y6 y7, LeO (stanchionref12_Set.l0 k y0 y1 y2 y3 y4 y5 y6 y7) (stanchionref12_Set.l0 (k + 1) y0 y1 y2 y3 y4 y5 y6 y7))
  | 0 => fun _ _ _ _ _ _ _ _ r h => by simp [stanchionref12_Set.l0] at h
  | k + 1 => by
    have ih0 := stanchionref12_Set.mono_l k
    · intro y0 y1 y2 y3 y4 y5 y6 y7
      unfold stanchionref12_Set.l0
      repeat' first
      | (with_reducible exact ih0 _ _ _ _ _ _ _ _)
      | (with_reducible exact stanchionref01_Less.mono _ _ _)
      | (with_reducible exact stanchionref12_at.mono _ _ _)
      | (with_reducible exact LeO.refl _)
      | (with_reducible exact LeO.none _)
      | (with_reducible refine LeO.ite ?_ ?_)
      | (with_reducible refine LeO.bind ?_ (fun _ => ?_))
      | exact ih0 _ _ _ _ _ _ _ _
      | exact stanchionref01_Less.mono _ _ _
      | exact stanchionref12_at.mono _ _ _
      | exact LeO.none _
      | refine LeO.ite ?_ ?_
      | refine LeO.bind ?_ (fun _ => ?_)
theorem stanchionref12_Set.mono : ∀ a0 a1 a2 a3 k, LeO (stanchionref12_Set.f k a0 a1 a2 a3) (stanchionref12_Set.f (k + 1) a0 a1 a2 a3) := by
  intro a0 a1 a2 a3 k
  have ih0 := stanchionref12_Set.mono_l k
  unfold stanchionref12_Set.f
  repeat' first
      | (with_reducible exact ih0 _ _ _ _ _ _ _ _)
      | (with_reducible exact stanchionref01_Less.mono _ _ _)
      | (with_reducible exact stanchionref12_at.mono _ _ _)
      | (with_reducible exact LeO.refl _)
      | (with_reducible exact LeO.none _)
      | (with_reducible refine LeO.ite ?_ ?_)
      | (with_reducible refine LeO.bind ?_ (fun _ => ?_))
      | exact ih0 _ _ _ _ _ _ _ _
      | exact stanchionref01_Less.mono _ _ _
      | exact stanchionref12_at.mono _ _ _
      | exact LeO.none _
      | refine LeO.ite ?_ ?_
      | refine LeO.bind ?_ (fun _ => ?_)

/-! ### view_Size (function 21): what it is -/
def view_Size.l0 : Nat → Int → List (S33) → Int → Int → Option (Int)
  | 0, _, _, _, _ => none
  | k + 1, x3, x6, x7, x8 => if x8 < x7 then (if 0 ≤ x8 then (if x8 < (x6.length : Int) then (view_Size.l0 k (wrap64 (x3 + (wrap64 ((((rd_T33 x6 x8).f0).size : Int) + (((rd_T33 x6 x8).f1).size : Int))))) x6 x7 (wrap64 (x8 + 1))) else (none)) else (none)) else (some x3)
def view_Size.f (k : Nat) (l0 : List (S33)) : Option (Int) := view_Size.l0 k 0 l0 (l0.length : Int) 0
theorem view_Size.mono_l : ∀ k, (∀ y0 y1 y2 y3, LeO (view_Size.l0 k y0 y1 y2 y3) (view_Size.l0 (k + 1) y0 y1 y2 y3))
  | 0 => fun _ _ _ _ r h => by simp [view_Size.l0] at h
  | k + 1 => by
    have ih0 := view_Size.mono_l k
    · intro y0 y1 y2 y3
      unfold view_Size.l0
      repeat' first
      | (with_reducible exact ih0 _ _ _ _)
      | (with_reducible exact LeO.refl _)
      | (with_reducible exact LeO.none _)
      | (with_reducible refine LeO.ite ?_ ?_)
      | (with_reducible refine LeO.bind ?_ (fun _ => ?_))
      | exact ih0 _ _ _ _
      | exact LeO.none _
      | refine LeO.ite ?_ ?_
      | refine LeO.bind ?_ (fun _ => ?_)
theorem view_Size.mono : ∀ a0 k, LeO (view_Size.f k a0) (view_Size.f (k + 1) a0) := by
  intro a0 k
  have ih0 := view_Size.mono_l k
  unfold view_Size.f
  repeat' first
      | (with_reducible exact ih0 _ _ _ _)
      | (with_reducible exact LeO.refl _)
      | (with_reducible exact LeO.none _)
      | (with_reducible refine LeO.ite ?_ ?_)
      | (with_reducible refine LeO.bind ?_ (fun _ => ?_))
      | exact ih0 _ _ _ _
      | exact LeO.none _
      | refine LeO.ite ?_ ?_
      | refine LeO.bind ?_ (fun _ => ?_)

/-! ### stanchionref12_Size (function 22): what it is -/
def stanchionref12_Size.l0 : Nat → List (S33) → Int → Int → Option (Int)
  | 0, _, _, _ => none
  | k + 1, x0, x3, x4 => if x4 < (x0.length : Int) then (if 0 ≤ x4 then (stanchionref12_Size.l0 k x0 (wrap64 ((wrap64 (x3 + (((rd_T33 x0 x4).f0).size : Int))) + (((rd_T33 x0 x4).f1).size : Int))) (wrap64 (x4 + 1))) else (none)) else (some x3)
def stanchionref12_Size.f (k : Nat) (l0 : List (S33)) : Option (Int) := stanchionref12_Size.l0 k l0 0 0
theorem stanchionref12_Size.mono_l : ∀ k, (∀ y0 y1 y2, LeO (stanchionref12_Size.l0 k y0 y1 y2) (stanchionref12_Size.l0 (k + 1) y0 y1 y2))
  | 0 => fun _ _ _ r h => by simp [stanchionref12_Size.l0] at h
  | k + 1 => by
    have ih0 := stanchionref12_Size.mono_l k
    · intro y0 y1 y2
      unfold stanchionref12_Size.l0
      repeat' first
      | (with_reducible exact ih0 _ _ _)
      | (with_reducible exact LeO.refl _)
      | (with_reducible exact LeO.none _)
      | (with_reducible refine LeO.ite ?_ ?_)
      | (with_reducible refine LeO.bind ?_ (fun _ => ?_))
      | exact ih0 _ _ _
      | exact LeO.none _
      | refine LeO.ite ?_ ?_
      | refine LeO.bind ?_ (fun _ => ?_)
theorem stanchionref12_Size.mono : ∀ a0 k, LeO (stanchionref12_Size.f k a0) (stanchionref12_Size.f (k + 1) a0) := by
  intro a0 k
  have ih0 := stanchionref12_Size.mono_l k
  unfold stanchionref12_Size.f
  repeat' first
      | (with_reducible exact ih0 _ _ _)
      | (with_reducible exact LeO.refl _)
      | (with_reducible exact LeO.none _)
      | (with_reducible refine LeO.ite ?_ ?_)
      | (with_reducible refine LeO.bind ?_ (fun _ => ?_))
      | exact ih0 _ _ _
      | exact LeO.none _
      | refine LeO.ite ?_ ?_
      | refine LeO.bind ?_ (fun _ => ?_)

/-! ### stanchionref12_Rises (function 23): what it is -/
def stanchionref12_Rises.l0 : Nat → List (S33) → Int → Option (Bool)
  | 0, _, _ => none
  | k + 1, x0, x3 => if x3 < (x0.length : Int) then (if 0 ≤ (wrap64 (x3 - 1)) then (if (wrap64 (x3 - 1)) < (x0.length : Int) then (if 0 ≤ x3 then ((stanchionref01_Less.f k ((rd_T33 x0 (wrap64 (x3 - 1))).f0) ((rd_T33 x0 x3).f0)).bind fun t195 => (if t195 = true then (stanchionref12_Rises.l0 k x0 (wrap64 (x3 + 1))) else (some false))) else (none)) else (none)) else (none)) else (some true)
def stanchionref12_Rises.f (k : Nat) (l0 : List (S33)) : Option (Bool) := stanchionref12_Rises.l0 k l0 1
theorem stanchionref12_Rises.mono_l : ∀ k, (∀ y0 y1, LeO (stanchionref12_Rises.l0 k y0 y1) (stanchionref12_Rises.l0 (k + 1) y0 y1))
  | 0 => fun _ _ r h => by simp [stanchionref12_Rises.l0] at h
  | k + 1 => by
    have ih0 := stanchionref12_Rises.mono_l k
    · intro y0 y1
      unfold stanchionref12_Rises.l0
      repeat' first
      | (with_reducible exact ih0 _ _)
      | (with_reducible exact stanchionref01_Less.mono _ _ _)
      | (with_reducible exact LeO.refl _)
      | (with_reducible exact LeO.none _)
      | (with_reducible refine LeO.ite ?_ ?_)
      | (with_reducible refine LeO.bind ?_ (fun _ => ?_))
      | exact ih0 _ _
      | exact stanchionref01_Less.mono _ _ _
      | exact LeO.none _
      | refine LeO.ite ?_ ?_
      | refine LeO.bind ?_ (fun _ => ?_)
theorem stanchionref12_Rises.mono : ∀ a0 k, LeO (stanchionref12_Rises.f k a0) (stanchionref12_Rises.f (k + 1) a0) := by
  intro a0 k
  have ih0 := stanchionref12_Rises.mono_l k
  unfold stanchionref12_Rises.f
  repeat' first
      | (with_reducible exact ih0 _ _)
      | (with_reducible exact stanchionref01_Less.mono _ _ _)
      | (with_reducible exact LeO.refl _)
      | (with_reducible exact LeO.none _)
      | (with_reducible refine LeO.ite ?_ ?_)
      | (with_reducible refine LeO.bind ?_ (fun _ => ?_))
      | exact ih0 _ _
      | exact stanchionref01_Less.mono _ _ _
      | exact LeO.none _
      | refine LeO.ite ?_ ?_
      | refine LeO.bind ?_ (fun _ => ?_)

/-! ### stanchionlaw12_ViewSets (function 7): what it is -/
def stanchionlaw12_ViewSets.f (k : Nat) (l0 : List (S33)) (a1_0 : ByteArray) (a1_1 : ByteArray) (a1_2 : Bool) : Option (Bool) := (stanchionlaw12_shown.f k).bind fun t197 => ((some (([] : List (S33)) : List (S33))).bind fun y198 => (if y198.length + l0.length < 3518437208883 then ((view_Set.f l0 a1_0 a1_1 a1_2).bind fun t204 => ((stanchionref12_Set.f k l0 a1_0 a1_1 a1_2).bind fun t207 => ((stanchionref05_Writes.f k t204 t207).bind fun t210 => ((stanchionref05_Writes.f k l0 (y198 ++ l0)).bind fun t211 => (if t197 = true then (if t210 = true then (if t211 = true then ((view_Size.f k l0).bind fun t212 => ((stanchionref12_Size.f k l0).bind fun t213 => (if t212 = t213 then ((view_Rises.f k l0).bind fun t214 => ((stanchionref12_Rises.f k l0).bind fun t215 => (some (t214 == t215)))) else (some false)))) else (some false)) else (some false)) else (some false)))))) else (none)))
theorem stanchionlaw12_ViewSets.mono : ∀ a0 a1 a2 a3 k, LeO (stanchionlaw12_ViewSets.f k a0 a1 a2 a3) (stanchionlaw12_ViewSets.f (k + 1) a0 a1 a2 a3) := by
  intro a0 a1 a2 a3 k
  unfold stanchionlaw12_ViewSets.f
  repeat' first
      | (with_reducible exact stanchionlaw12_shown.mono _)
      | (with_reducible exact stanchionref05_Writes.mono _ _ _)
      | (with_reducible exact stanchionref12_Rises.mono _ _)
      | (with_reducible exact stanchionref12_Set.mono _ _ _ _ _)
      | (with_reducible exact stanchionref12_Size.mono _ _)
      | (with_reducible exact view_Rises.mono _ _)
      | (with_reducible exact view_Size.mono _ _)
      | (with_reducible exact LeO.refl _)
      | (with_reducible exact LeO.none _)
      | (with_reducible refine LeO.ite ?_ ?_)
      | (with_reducible refine LeO.bind ?_ (fun _ => ?_))
      | exact stanchionlaw12_shown.mono _
      | exact stanchionref05_Writes.mono _ _ _
      | exact stanchionref12_Rises.mono _ _
      | exact stanchionref12_Set.mono _ _ _ _ _
      | exact stanchionref12_Size.mono _ _
      | exact view_Rises.mono _ _
      | exact view_Size.mono _ _
      | exact LeO.none _
      | refine LeO.ite ?_ ?_
      | refine LeO.bind ?_ (fun _ => ?_)

open Go.Proofs.Ytbkfmicnjnklnaa.Cp
/-! ### api_Write_26: function 26 -/
set_option maxHeartbeats 8000000 in
set_option maxRecDepth 100000 in
theorem api_Write_26.calls (p : S33 → Bool) (g : Nat) (lb : Array Value) (eg : ∀ args w, (callFunc g args).run Try.prog w = .ok (.enter g args) w) (A0 : Option Addr) (c0 : Nat) (l0 : List (S33)) (w : World) (hr0 : Kd.C k33 w A0 l0.length l0)
    (hp : ∀ (W : World) (x : S33), Below w.heap.size w W → Calls Try.prog g (#[.agg #[.string x.f0, .string x.f1, .bool x.f2]] ++ lb) W fun e w' => e = .returned (.bool (p x)) ∧ Below W.heap.size W w') :
    Calls Try.prog 26 #[.slice A0 l0.length c0, .func (.func g) #[] lb] w fun e w' => e = .returned (.int .i64 (ixOf p l0)) ∧ Below w.heap.size w w' := by
  have hu33 := Try.underlying33
  have HR := Aside0.mk hr0
  have HP := Aside0.mk hp
  have hmx := hr0.2.1
  clear hr0 hp
  go_enter Try.func26, Try.ntmps26
  go_wp2
  go_loopg [9] l0.length (fun gg s9 wr => ∃ kk : Nat, kk ≤ l0.length ∧ l0.length - kk ≤ gg ∧ s9 = .int .i64 kk ∧ Aside0 (Below w.heap.size w wr) ∧ Aside0 (∀ j, j < kk → p (l0.getD j z33) = false))
  case atStart => exact ⟨0, Nat.zero_le _, by omega, rfl, ⟨Below.refl _ w⟩, ⟨fun j hj => absurd hj (Nat.not_lt_zero _)⟩⟩
  case round =>
    obtain ⟨kk, hkk, hg, rfl, HB, A⟩ := hrel
    by_cases hlt : kk < l0.length
    · have hltz : (kk : Int) < (l0.length : Int) := by omega
      obtain ⟨ad, e, hx0, hx1, hx2⟩ := at_T33 (Kd.C_below HR.out HB.out) (kk : Int) (by omega) hltz
      cases e
      simp only [Int.toNat_natCast] at hx0 hx1 hx2
      have e0 : rd_T33 l0 (kk : Int) = l0.getD kk z33 := by simp [rd_T33]
      rw [e0] at hx0 hx1 hx2
      clear e0
      obtain ⟨y, hy⟩ : ∃ y, l0.getD kk z33 = y := ⟨_, rfl⟩
      rw [hy] at hx0 hx1 hx2
      have Y := Aside0.mk hy
      clear hy
      have hcall := HP.out (wr.alloc (.cells #[.string y.f0, .string y.f1, .bool y.f2] 33)) y (below_alloc HB.out _)
      obtain ⟨q, hq⟩ : ∃ q, p y = q := ⟨_, rfl⟩
      rw [hq] at hcall
      have Q := Aside0.mk hq
      have CL := Aside0.mk hcall
      clear hq hcall
      cases q with
      | true =>
        go_wp2_with (go_at_fn g; refine CL.out.mono ?_; rintro e w' ⟨rfl, hb'⟩)
        go_ret
        exact ⟨by rw [ixOf_hit p l0 z33 kk hlt (by rw [Y.out]; exact Q.out) A.out]; rfl, below_step (below_alloc HB.out _) hb'⟩
      | false =>
        go_wp2_with (go_at_fn g; refine CL.out.mono ?_; rintro e w' ⟨rfl, hb'⟩)
        go_roundg (l0.length - (kk + 1))
        case measure => omega
        case rel =>
          refine ⟨kk + 1, by omega, by omega, by go_num, ⟨below_step (below_alloc HB.out _) hb'⟩, ⟨fun j hj => ?_⟩⟩
          by_cases e : j = kk
          · subst e; rw [Y.out]; exact Q.out
          · exact A.out j (by omega)
    · have hltz : decide ((kk : Int) < (l0.length : Int)) = false := decide_eq_false (by omega)
      have hltn : decide (kk < l0.length) = false := decide_eq_false (by omega)
      have E := Aside0.mk (show kk = l0.length by omega)
      go_wp2
      go_ret
      exact ⟨by rw [ixOf_miss p l0 z33 (fun j hj => A.out j (by have := E.out; omega))]; rfl, HB.out⟩

open Go.Proofs.Ytbkfmicnjnklnaa.Cp
/-! ### api_Pair_48: function 48 -/
set_option maxHeartbeats 8000000 in
set_option maxRecDepth 100000 in
theorem api_Pair_48.calls (p : S43 → Bool) (g : Nat) (lb : Array Value) (eg : ∀ args w, (callFunc g args).run Try.prog w = .ok (.enter g args) w) (A0 : Option Addr) (c0 : Nat) (l0 : List (S43)) (w : World) (hr0 : Kd.C k43 w A0 l0.length l0)
    (hp : ∀ (W : World) (x : S43), Below w.heap.size w W → Calls Try.prog g (#[.agg #[.string x.f0, .string x.f1]] ++ lb) W fun e w' => e = .returned (.bool (p x)) ∧ Below W.heap.size W w') :
    Calls Try.prog 48 #[.slice A0 l0.length c0, .func (.func g) #[] lb] w fun e w' => e = .returned (.int .i64 (ixOf p l0)) ∧ Below w.heap.size w w' := by
  have hu43 := Try.underlying43
  have HR := Aside0.mk hr0
  have HP := Aside0.mk hp
  have hmx := hr0.2.1
  clear hr0 hp
  go_enter Try.func48, Try.ntmps48
  go_wp2
  go_loopg [5, 8] l0.length (fun gg _ s8 wr => ∃ kk : Nat, kk ≤ l0.length ∧ l0.length - kk ≤ gg ∧ s8 = .int .i64 kk ∧ Aside0 (Below w.heap.size w wr) ∧ Aside0 (∀ j, j < kk → p (l0.getD j z43) = false))
  case atStart => exact ⟨0, Nat.zero_le _, by omega, rfl, ⟨Below.refl _ w⟩, ⟨fun j hj => absurd hj (Nat.not_lt_zero _)⟩⟩
  case round =>
    obtain ⟨kk, hkk, hg, rfl, HB, A⟩ := hrel
    by_cases hlt : kk < l0.length
    · have hltz : (kk : Int) < (l0.length : Int) := by omega
      obtain ⟨ad, e, hx0, hx1⟩ := at_T43 (Kd.C_below HR.out HB.out) (kk : Int) (by omega) hltz
      cases e
      simp only [Int.toNat_natCast] at hx0 hx1
      have hcall := HP.out wr (l0.getD kk z43) HB.out
      have e0 : rd_T43 l0 (kk : Int) = l0.getD kk z43 := by simp [rd_T43]
      rw [e0] at hx0 hx1
      clear e0
      obtain ⟨y, hy⟩ : ∃ y, l0.getD kk z43 = y := ⟨_, rfl⟩
      rw [hy] at hx0 hx1 hcall
      have Y := Aside0.mk hy
      clear hy
      obtain ⟨q, hq⟩ : ∃ q, p y = q := ⟨_, rfl⟩
      rw [hq] at hcall
      have Q := Aside0.mk hq
      clear hq
      cases q with
      | true =>
        go_wp2_with (go_at_fn g; refine hcall.mono ?_; rintro e w' ⟨rfl, hb'⟩)
        go_ret
        exact ⟨by rw [ixOf_hit p l0 z43 kk hlt (by rw [Y.out]; exact Q.out) A.out]; rfl, below_step HB.out hb'⟩
      | false =>
        go_wp2_with (go_at_fn g; refine hcall.mono ?_; rintro e w' ⟨rfl, hb'⟩)
        go_roundg (l0.length - (kk + 1))
        case measure => omega
        case rel =>
          refine ⟨kk + 1, by omega, by omega, by go_num, ⟨below_step HB.out hb'⟩, ⟨fun j hj => ?_⟩⟩
          by_cases e : j = kk
          · subst e; rw [Y.out]; exact Q.out
          · exact A.out j (by omega)
    · have hltz : decide ((kk : Int) < (l0.length : Int)) = false := decide_eq_false (by omega)
      have hltn : decide (kk < l0.length) = false := decide_eq_false (by omega)
      have E := Aside0.mk (show kk = l0.length by omega)
      go_wp2
      go_ret
      exact ⟨by rw [ixOf_miss p l0 z43 (fun j hj => A.out j (by have := E.out; omega))]; rfl, HB.out⟩

open Go.Proofs.Ytbkfmicnjnklnaa.Cp
/-! ### table_at: function 39 -/
theorem enters49 : ∀ args w, (callFunc 49 args).run Try.prog w = .ok (.enter 49 args) w := enters_of Try.func49 (by kernel_rfl) rfl
set_option maxHeartbeats 8000000 in
theorem table_at_1.calls (x : S43) (key : ByteArray) (B : Nat) (W : World) (hc : W.cell? ⟨B, 0, none⟩ = some (.string key)) :
    Calls Try.prog 49 #[.agg #[.string x.f0, .string x.f1], .pointer (some ⟨B, 0, none⟩)] W fun e w' => e = .returned (.bool (x.f0.toList == key.toList)) ∧ Below W.heap.size W w' := by
  have hu43 := Try.underlying43
  have hB := World.block_lt_of_cell? W _ hc
  go_enter Try.func49, Try.ntmps49
  go_wp2
  go_ret
  exact ⟨rfl, (Below.refl _ _).alloc (Nat.le_refl _) _⟩
set_option maxHeartbeats 8000000 in
theorem table_at.calls (A0 : Option Addr) (c0 : Nat) (l0 : List (S43)) (a1 : ByteArray) (r : Int) (w : World) (hr0 : Kd.C k43 w A0 l0.length l0) (hc0 : l0.length ≤ c0) (h : table_at.f l0 a1 = some r) :
    Calls Try.prog 39 #[.slice A0 l0.length c0, .string a1] w fun e w' => e = .returned (.int .i64 r) ∧ Below w.heap.size w w' := by
  obtain rfl := Option.some.inj h
  have HR := Aside0.mk hr0
  clear hr0 h hc0
  go_enter Try.func39, Try.ntmps39
  go_wp2_with (go_at_call 48; (refine (api_Pair_48.calls (fun x => x.f0.toList == a1.toList) 49 #[.pointer (some ⟨w.heap.size, 0, none⟩)] enters49 A0 c0 l0 _ (Kd.C_alloc HR.out _) (fun W x hb => table_at_1.calls x a1 w.heap.size W ((hb.cell (p := ⟨w.heap.size, 0, none⟩) (by simp)).trans (by go_simp)))).mono ?_; rintro e w' ⟨rfl, hb⟩))
  go_ret
  exact ⟨rfl, ((Below.refl _ _).alloc (Nat.le_refl _) _).trans (hb.mono (by simp))⟩

/-! ### table_Find: function 28 -/
set_option maxHeartbeats 8000000 in
set_option maxRecDepth 100000 in
theorem table_Find.calls (A0 : Option Addr) (c0 : Nat) (l0 : List (S43)) (a1 : ByteArray) (r1 : ByteArray) (r2 : Bool) (w : World) (hr0 : Kd.C k43 w A0 l0.length l0) (hc0 : l0.length ≤ c0) (h : table_Find.f l0 a1 = some (r1, r2)) :
    Calls Try.prog 28 #[.slice A0 l0.length c0, .string a1] w fun e w' => e = .returned (.tuple #[.string r1, .bool r2]) ∧ Below w.heap.size w w' := by
  have HR0 := Aside0.mk hr0
  have HC0 := Aside0.mk hc0
  clear hr0 hc0
  have HB := Aside0.mk (Below.refl w.heap.size w)
  have H : ((table_at.f l0 a1).bind fun t101 => (if t101 < 0 then (some ((⟨#[]⟩ : ByteArray), false)) else (if 0 ≤ t101 then (if t101 < (l0.length : Int) then (some ((rd_T43 l0 t101).f1, true)) else (none)) else (none)))) = some (r1, r2) := h
  clear h
  replace H := Option.bind_eq_some_iff.mp H
  obtain ⟨t101, A30, H⟩ := H
  replace H : (if t101 < 0 then (some ((⟨#[]⟩ : ByteArray), false)) else (if 0 ≤ t101 then (if t101 < (l0.length : Int) then (some ((rd_T43 l0 t101).f1, true)) else (none)) else (none))) = some (r1, r2) := H
  have A3 := Aside0.mk A30
  clear A30
  by_cases c4 : t101 < 0
  · rw [if_pos c4] at H
    have c4b0 : decide (t101 < 0) = true := decide_eq_true c4
    clear c4
    simp only [Option.some.injEq, Prod.mk.injEq] at H
    obtain ⟨rfl, rfl⟩ := H
    go_enter Try.func28, Try.ntmps28
    go_wp2_with (first | ((with_reducible refine gate_callee (f := 39) rfl ?_); refine goesL_ (some 9) rfl rfl Try.func39 (by kernel_rfl) rfl #[.slice A0 l0.length c0, .string a1] rfl (by (try simp only [List.map_toArray, List.map_cons, List.map_nil]); first | done | rfl | (simp only [List.length_drop, List.length_take]; rfl)) ?_; (with_reducible refine (table_at.calls _ _ l0 a1 t101 _ ?side1 ?side2 A3.out).mono ?_); (case side1 => repeat (first | exact HR0.out | (with_reducible refine Kd.C_alloc ?_ _) | (with_reducible refine Kd.C_drewN ?_ _) | (with_reducible refine Kd.C_drew ?_))); (case side2 => exact HC0.out); rintro e w5 ⟨rfl, hb⟩; refine ⟨_, rfl, ?_⟩; have n0_ := Aside0.mk (below_step (by repeat (first | (with_reducible first | exact HB.out | apply below_alloc | apply pw_below_drewN | apply below_drew1) | exact HB.out)) hb); clear HB; have HB := n0_; clear n0_; (try clear hb); (try clear hb2); (try clear hk); (try clear hi)))
    go_ret2
    exact ⟨by first | rfl | (simp [errW_none, errW_some] <;> rfl) | (simp [*, errW_none, errW_some] <;> rfl), by repeat (first | (with_reducible first | exact HB.out | apply below_alloc | apply pw_below_drewN | apply below_drew1) | exact HB.out)⟩
  · rw [if_neg c4] at H
    have c4b0 : decide (t101 < 0) = false := decide_eq_false c4
    clear c4
    by_cases c6 : 0 ≤ t101
    · rw [if_pos c6] at H
      have c6b0 : decide (0 ≤ t101) = true := decide_eq_true c6
      clear c6
      by_cases c7 : t101 < (l0.length : Int)
      · rw [if_pos c7] at H
        have c7b0 : decide (t101 < (l0.length : Int)) = true := decide_eq_true c7
        clear c7
        simp only [Option.some.injEq, Prod.mk.injEq] at H
        obtain ⟨rfl, rfl⟩ := H
        go_enter Try.func28, Try.ntmps28
        go_wp2_with (first | ((with_reducible refine gate_callee (f := 39) rfl ?_); refine goesL_ (some 9) rfl rfl Try.func39 (by kernel_rfl) rfl #[.slice A0 l0.length c0, .string a1] rfl (by (try simp only [List.map_toArray, List.map_cons, List.map_nil]); first | done | rfl | (simp only [List.length_drop, List.length_take]; rfl)) ?_; (with_reducible refine (table_at.calls _ _ l0 a1 t101 _ ?side1 ?side2 A3.out).mono ?_); (case side1 => repeat (first | exact HR0.out | (with_reducible refine Kd.C_alloc ?_ _) | (with_reducible refine Kd.C_drewN ?_ _) | (with_reducible refine Kd.C_drew ?_))); (case side2 => exact HC0.out); rintro e w8 ⟨rfl, hb⟩; refine ⟨_, rfl, ?_⟩; have n0_ := Aside0.mk (below_step (by repeat (first | (with_reducible first | exact HB.out | apply below_alloc | apply pw_below_drewN | apply below_drew1) | exact HB.out)) hb); clear HB; have HB := n0_; clear n0_; (try clear hb); (try clear hb2); (try clear hk); (try clear hi); have p102 : 0 ≤ (t101 : Int) := of_decide_eq_true (by first | (with_reducible assumption) | assumption); have q102 : t101 < (l0.length : Int) := of_decide_eq_true (by first | (with_reducible assumption) | assumption); obtain ⟨ad102, e102, hx102_0, hx102_1⟩ := at_T43 HR0.out t101 p102 q102; cases e102; replace hx102_0 := (HB.out.cell (World.block_lt_of_cell? w _ hx102_0)).trans hx102_0; replace hx102_1 := (HB.out.cell (World.block_lt_of_cell? w _ hx102_1)).trans hx102_1; replace p102 := eq_true p102; replace q102 := eq_true q102))
        go_ret2
        exact ⟨by first | rfl | (simp [errW_none, errW_some] <;> rfl) | (simp [*, errW_none, errW_some] <;> rfl), by repeat (first | (with_reducible first | exact HB.out | apply below_alloc | apply pw_below_drewN | apply below_drew1) | exact HB.out)⟩
      · rw [if_neg c7] at H
        exact absurd H (by simp)
    · rw [if_neg c6] at H
      exact absurd H (by simp)

open Go.Proofs.Ytbkfmicnjnklnaa.Cp
/-! ### view_Get: function 11 -/
theorem enters27 : ∀ args w, (callFunc 27 args).run Try.prog w = .ok (.enter 27 args) w := enters_of Try.func27 (by kernel_rfl) rfl
set_option maxHeartbeats 8000000 in
theorem view_Get_1.calls (x : S33) (key : ByteArray) (B : Nat) (W : World) (hc : W.cell? ⟨B, 0, none⟩ = some (.string key)) :
    Calls Try.prog 27 #[.agg #[.string x.f0, .string x.f1, .bool x.f2], .pointer (some ⟨B, 0, none⟩)] W fun e w' => e = .returned (.bool (geq33 key x)) ∧ Below W.heap.size W w' := by
  have hu33 := Try.underlying33
  have hB := World.block_lt_of_cell? W _ hc
  go_enter Try.func27, Try.ntmps27
  go_wp2
  go_ret
  exact ⟨rfl, (Below.refl _ _).alloc (Nat.le_refl _) _⟩
set_option maxHeartbeats 8000000 in
theorem view_Get.calls (A0 : Option Addr) (c0 : Nat) (l0 : List (S33)) (A1 : Option Addr) (c1 : Nat) (l1 : List (S43)) (a2 : ByteArray) (r1 : ByteArray) (r2 : Bool) (w : World) (hr0 : Kd.C k33 w A0 l0.length l0) (hc0 : l0.length ≤ c0) (hr1 : Kd.C k43 w A1 l1.length l1) (hc1 : l1.length ≤ c1) (h : view_Get.f l0 l1 a2 = some (r1, r2)) :
    Calls Try.prog 11 #[.slice A0 l0.length c0, .slice A1 l1.length c1, .string a2] w fun e w' => e = .returned (.tuple #[.string r1, .bool r2]) ∧ Below w.heap.size w w' := by
  have hu33 := Try.underlying33
  obtain ⟨W1, hW1⟩ : ∃ W1, W1 = w.alloc (.cells #[.string a2] 9) := ⟨_, rfl⟩
  have hB1 : Below w.heap.size w W1 := by rw [hW1]; exact Below.alloc (Below.refl _ _) (Nat.le_refl _) _
  have hk1 : W1.cell? ⟨w.heap.size, 0, none⟩ = some (.string a2) := by rw [hW1]; go_simp
  have hR0 : Kd.C k33 W1 A0 l0.length l0 := by rw [hW1]; exact Kd.C_alloc hr0 _
  have hR1 : Kd.C k43 W1 A1 l1.length l1 := by rw [hW1]; exact Kd.C_alloc hr1 _
  have hfi := api_Write_26.calls (geq33 a2) 27 #[.pointer (some ⟨w.heap.size, 0, none⟩)] enters27 A0 c0 l0 W1 hR0 (fun W x hb => view_Get_1.calls x a2 w.heap.size W ((hb.cell (World.block_lt_of_cell? W1 _ hk1)).trans hk1))
  have FN : ∀ W2 : World, Below W1.heap.size W1 W2 → table_Find.f l1 a2 = some (r1, r2) → Calls Try.prog 28 #[.slice A1 l1.length c1, .string a2] W2 fun e w' => e = .returned (.tuple #[.string r1, .bool r2]) ∧ Below W2.heap.size W2 w' := fun W2 hb h' => table_Find.calls A1 c1 l1 a2 r1 r2 W2 (Kd.C_below hR1 hb) hc1 h'
  unfold view_Get.f at h
  rcases ixOf_cases' (geq33 a2) l0 with hE | ⟨i, hil, hE⟩
  · rw [hE, if_pos (by decide)] at h
    rw [hE] at hfi
    have IX := Aside0.mk hfi
    have FF := Aside0.mk FN
    have H := Aside0.mk h
    have B1 := Aside0.mk hB1
    have K1 := Aside0.mk hk1
    rw [hW1] at IX
    clear hfi FN h hB1 hk1 hr0 hr1 hR0 hR1 hE
    go_enter Try.func11, Try.ntmps11
    go_wp2_with (first
      | (go_at_call 26; refine IX.out.mono ?_; rintro e w2 ⟨rfl, hb⟩; rw [← hW1] at hb; have k5 : w2.cell? ⟨w.heap.size, 0, none⟩ = some (.string a2) := (hb.cell (World.block_lt_of_cell? W1 _ K1.out)).trans K1.out; have B2 := Aside0.mk hb; clear hb)
      | (go_at_call 28; refine (FF.out w2 B2.out H.out).mono ?_; rintro e w3 ⟨rfl, hb⟩; have B3 := Aside0.mk hb; clear hb))
    go_ret2
    exact ⟨rfl, below_step (below_step B1.out B2.out) B3.out⟩
  · have hng : ¬ ((i : Int) < 0) := by omega
    rw [hE, if_neg hng] at h
    rw [hE] at hfi
    have hz0 : decide ((i : Int) < 0) = false := decide_eq_false hng
    have hz1 : (0 : Int) ≤ (i : Int) := by omega
    have hz2 : (i : Int) < (l0.length : Int) := by omega
    have hmx := hR0.2.1
    have IX := Aside0.mk hfi
    have R0 := Aside0.mk hR0
    have B1 := Aside0.mk hB1
    rw [hW1] at IX
    obtain ⟨x, hx⟩ : ∃ x, rd_T33 l0 (i : Int) = x := ⟨_, rfl⟩
    rw [hx] at h
    have X := Aside0.mk hx
    clear hfi FN hB1 hk1 hr0 hr1 hR0 hR1 hE hng hx
    obtain ⟨x0, x1, x2⟩ := x
    simp only at h
    have AT : ∀ w2 : World, Below W1.heap.size W1 w2 → ∃ ad, A0 = some ad ∧ w2.cell? ⟨(ad.add (i * 3)).block, (ad.add (i * 3)).off + 1, none⟩ = some (.string x1) ∧ w2.cell? ⟨(ad.add (i * 3)).block, (ad.add (i * 3)).off + 2, none⟩ = some (.bool x2) := fun w2 hb => by
      obtain ⟨ad, e, hx0, hx1, hx2⟩ := at_T33 (Kd.C_below R0.out hb) (i : Int) hz1 hz2
      rw [X.out] at hx0 hx1 hx2
      exact ⟨ad, e, hx1, hx2⟩
    have AA := Aside0.mk AT
    clear AT
    cases x2 with
    | true =>
      rw [if_pos rfl] at h
      obtain ⟨rfl, rfl⟩ := Prod.mk.inj (Option.some.inj h)
      clear h
      go_enter Try.func11, Try.ntmps11
      go_wp2_with (go_at_call 26; refine IX.out.mono ?_; rintro e w2 ⟨rfl, hb⟩; rw [← hW1] at hb; obtain ⟨ad, rfl, h1, h2⟩ := AA.out w2 hb; have B2 := Aside0.mk hb; clear hb)
      go_ret2
      exact ⟨rfl, below_step B1.out B2.out⟩
    | false =>
      rw [if_neg (by decide)] at h
      obtain ⟨rfl, rfl⟩ := Prod.mk.inj (Option.some.inj h)
      clear h
      go_enter Try.func11, Try.ntmps11
      go_wp2_with (go_at_call 26; refine IX.out.mono ?_; rintro e w2 ⟨rfl, hb⟩; rw [← hW1] at hb; obtain ⟨ad, rfl, h1, h2⟩ := AA.out w2 hb; have B2 := Aside0.mk hb; clear hb)
      go_ret2
      exact ⟨rfl, below_step B1.out B2.out⟩

/-! ### table_Between: function 40 -/
set_option maxHeartbeats 8000000 in
set_option maxRecDepth 100000 in
theorem table_Between.calls (a0 : ByteArray) (a1 : ByteArray) (a2 : ByteArray) (r : Bool) (w : World) (h : table_Between.f a0 a1 a2 = some r) :
    Calls Try.prog 40 #[.string a0, .string a1, .string a2] w fun e w' => e = .returned (.bool r) ∧ Drawn0 w w' := by
  have H : (if ((Op.bytesLess a0.toList a1.toList) = true) then (some false) else (if a2.toList = ([] : List UInt8) then (some true) else (some (Op.bytesLess a0.toList a2.toList)))) = some r := h
  clear h
  by_cases c4 : ((Op.bytesLess a0.toList a1.toList) = true)
  · rw [if_pos c4] at H
    have c4b0 : (Op.bytesLess a0.toList a1.toList) = true := c4
    clear c4
    obtain rfl := Option.some.inj H
    go_enter Try.func40, Try.ntmps40
    go_wp2
    go_ret
    exact ⟨by first | rfl | (simp; done) | (simp [*]; done), by repeat (first | exact Drawn0.refl _ | apply Drawn0.step)⟩
  · rw [if_neg c4] at H
    have c4b0 : (Op.bytesLess a0.toList a1.toList) = false := by simpa using c4
    clear c4
    by_cases c5 : a2.toList = ([] : List UInt8)
    · rw [if_pos c5] at H
      have c5b0 : (a2.toList == ([] : List UInt8)) = true := beq_iff_eq.mpr c5
      have c5b1 : (a2.toList != ([] : List UInt8)) = false := bne_eq_false_iff_eq.mpr c5
      clear c5
      obtain rfl := Option.some.inj H
      go_enter Try.func40, Try.ntmps40
      go_wp2
      go_ret
      exact ⟨by first | rfl | (simp; done) | (simp [*]; done), by repeat (first | exact Drawn0.refl _ | apply Drawn0.step)⟩
    · rw [if_neg c5] at H
      have c5b0 : (a2.toList == ([] : List UInt8)) = false := beq_eq_false_iff_ne.mpr c5
      have c5b1 : (a2.toList != ([] : List UInt8)) = true := bne_iff_ne.mpr c5
      obtain rfl := Option.some.inj H
      go_enter Try.func40, Try.ntmps40
      go_wp2
      go_ret
      exact ⟨by first | rfl | (simp; done) | (simp [*]; done), by repeat (first | exact Drawn0.refl _ | apply Drawn0.step)⟩

end Go.Proofs.Ytbkfmicnjnklnaa.PB
