-- Made by a program of this workplace out of the translation (wip/tools in the repo). Not trusted: Lean checks it.
import Derived.Test.YtdoamckcibcdcaaPBx0
namespace Go.Proofs.Ytdoamckcibcdcaa.PB
open Go.RowKit Go.Proofs.YtdoamckcibcdcaaW.PrintWords Go.Proofs.YtdoamckcibcdcaaW.PrintLast Go.Proofs.YtdoamckcibcdcaaW.PrintMore
attribute [local go_sem] max2_int min2_int max_two min_two max_three min_three max_four min_four   -- for this text's walks alone
set_option linter.unusedVariables false
set_option linter.unusedSimpArgs false

/-! ### table_Between (function 20): what it is -/
def table_Between.f (a0 : ByteArray) (a1 : ByteArray) (a2 : ByteArray) : Option (Bool) := if ((Op.bytesLess a0.toList a1.toList) = true) then (some false) else (if a2.toList = ([] : List UInt8) then (some true) else (some (Op.bytesLess a0.toList a2.toList)))

/-! ### table_Range (function 13): what it is -/
def table_Range.l0 : Nat → ByteArray → ByteArray → Int → List (S59) → List (S59) → Int → Int → Option ((List (S59)))
  | 0, _, _, _, _, _, _, _ => none
  | k + 1, x1, x2, x3, x9, x12, x13, x14 => if x14 < x13 then (if 0 ≤ x14 then (if x14 < (x12.length : Int) then (if (x9.length : Int) ≥ x3 then (some x9) else ((table_Between.f ((rd_T59 x12 x14).f0) x1 x2).bind fun t103 => (if t103 = true then (if x9.length < 4398046511104 then (table_Range.l0 k x1 x2 x3 (x9 ++ [(⟨(rd_T59 x12 x14).f0, (rd_T59 x12 x14).f1⟩ : S59)]) x12 x13 (wrap64 (x14 + 1))) else (none)) else (table_Range.l0 k x1 x2 x3 x9 x12 x13 (wrap64 (x14 + 1)))))) else (none)) else (none)) else (some x9)
def table_Range.f (k : Nat) (l0 : List (S59)) (a1 : ByteArray) (a2 : ByteArray) (a3 : Int) : Option ((List (S59))) := table_Range.l0 k a1 a2 a3 ([] : List (S59)) l0 (l0.length : Int) 0
theorem table_Range.mono_l : ∀ k, (∀ y0 y1 y2 y3 y4 y5 y6, LeO (table_Range.l0 k y0 y1 y2 y3 y4 y5 y6) (table_Range.l0 (k + 1) y0 y1 y2 y3 y4 y5 y6))
  | 0 => fun _ _ _ _ _ _ _ r h => by simp [table_Range.l0] at h
  | k + 1 => by
    have ih0 := table_Range.mono_l k
    · intro y0 y1 y2 y3 y4 y5 y6
      unfold table_Range.l0
      repeat' first
      | (with_reducible exact ih0 _ _ _ _ _ _ _)
      | (with_reducible exact LeO.refl _)
      | (with_reducible exact LeO.none _)
      | (with_reducible refine LeO.ite ?_ ?_)
      | (with_reducible refine LeO.bind ?_ (fun _ => ?_))
      | exact ih0 _ _ _ _ _ _ _
      | exact LeO.none _
      | refine LeO.ite ?_ ?_
      | refine LeO.bind ?_ (fun _ => ?_)
theorem table_Range.mono : ∀ a0 a1 a2 a3 k, LeO (table_Range.f k a0 a1 a2 a3) (table_Range.f (k + 1) a0 a1 a2 a3) := by
  intro a0 a1 a2 a3 k
  have ih0 := table_Range.mono_l k
  unfold table_Range.f
  repeat' first
      | (with_reducible exact ih0 _ _ _ _ _ _ _)
      | (with_reducible exact LeO.refl _)
      | (with_reducible exact LeO.none _)
      | (with_reducible refine LeO.ite ?_ ?_)
      | (with_reducible refine LeO.bind ?_ (fun _ => ?_))
      | exact ih0 _ _ _ _ _ _ _
      | exact LeO.none _
      | refine LeO.ite ?_ ?_
      | refine LeO.bind ?_ (fun _ => ?_)

/-! ### api_Pair_28 (function 28): what it is -/
def api_Pair_28.f (l0 : List (S59)) : Option ((List (S59))) := (some (([] : List (S59)) : List (S59))).bind fun y107 => (if y107.length + l0.length < 4398046511104 then (some (y107 ++ l0)) else (none))

/-! ### api_Pair_30: function 30 -/
def ixOf {α : Type} (p : α → Bool) (l : List α) : Int := if l.findIdx p < l.length then ((l.findIdx p : Nat) : Int) else -1
theorem ixOf_hit {α : Type} (p : α → Bool) (l : List α) (d : α) (k : Nat) (h : k < l.length) (hk : p (l.getD k d) = true) (hn : ∀ j, j < k → p (l.getD j d) = false) : ixOf p l = (k : Int) := by
  have e : l.findIdx p = k := by
    rw [List.findIdx_eq h]
    refine ⟨by rw [List.getD_eq_getElem?_getD, List.getElem?_eq_getElem h] at hk; exact hk, fun j hj => ?_⟩
    have := hn j hj
    rw [List.getD_eq_getElem?_getD, List.getElem?_eq_getElem (by omega)] at this
    exact this
  unfold ixOf
  rw [e, if_pos h]
theorem ixOf_miss {α : Type} (p : α → Bool) (l : List α) (d : α) (hn : ∀ j, j < l.length → p (l.getD j d) = false) : ixOf p l = -1 := by
  unfold ixOf
  rw [if_neg]
  intro h
  have h1 := List.findIdx_getElem (w := h) (p := p) (xs := l)
  have h2 := hn _ h
  rw [List.getD_eq_getElem?_getD, List.getElem?_eq_getElem h] at h2
  have h3 : p l[l.findIdx p] = false := h2
  rw [h3] at h1
  cases h1
theorem ixOf_cases {α : Type} (p : α → Bool) (l : List α) : ixOf p l = -1 ∨ ∃ i : Nat, i < l.length ∧ ixOf p l = (i : Int) := by
  unfold ixOf
  split
  · exact .inr ⟨_, by assumption, rfl⟩
  · exact .inl rfl

/-! ### table_at: function 29 -/
def table_at.f (l0 : List S59) (a1 : ByteArray) : Option Int := some (ixOf (fun x => x.f0.toList == a1.toList) l0)


/-! ### table_Put: function 15 -/
def gtK59 (key : ByteArray) (x : S59) : Bool := !Op.bytesLess x.f0.toList key.toList && !x.f0.toList == key.toList
def eqK59 (key : ByteArray) (x : S59) : Bool := x.f0.toList == key.toList
def putL59 (l : List S59) (key val : ByteArray) : List S59 :=
  if 0 ≤ ixOf (eqK59 key) l then l.set (ixOf (eqK59 key) l).toNat ⟨key, val⟩
  else if ixOf (gtK59 key) l < 0 then l ++ [⟨key, val⟩]
  else l.take (ixOf (gtK59 key) l).toNat ++ ⟨key, val⟩ :: l.drop (ixOf (gtK59 key) l).toNat
def table_Put.f (l0 : List S59) (a1 a2 : ByteArray) : Option (List S59) := (api_Pair_28.f l0).bind fun y => if y.length < 4398046511104 then some (putL59 y a1 a2) else none

/-! ### stanchionlaw05_shown (function 11): what it is -/
def stanchionlaw05_shown.f (k : Nat)  : Option (Bool) := (table_Put.f ([] : List (S59)) (⟨#[98]⟩ : ByteArray) (⟨#[50]⟩ : ByteArray)).bind fun t113 => ((table_Put.f t113 (⟨#[97]⟩ : ByteArray) (⟨#[49]⟩ : ByteArray)).bind fun t116 => ((table_Range.f k t116 (⟨#[97]⟩ : ByteArray) (⟨#[98]⟩ : ByteArray) 9).bind fun t119 => (if (t116.length : Int) = 2 then (if 0 < (t116.length : Int) then (if ((rd_T59 t116 0).f0).toList = ([97] : List UInt8) then (if (t119.length : Int) = 1 then (if 0 < (t119.length : Int) then (some (((rd_T59 t119 0).f1).toList == ([49] : List UInt8))) else (none)) else (some false)) else (some false)) else (none)) else (some false))))
theorem stanchionlaw05_shown.mono : ∀ k, LeO (stanchionlaw05_shown.f k ) (stanchionlaw05_shown.f (k + 1) ) := by
  intro  k
  unfold stanchionlaw05_shown.f
  repeat' first
      | (with_reducible exact table_Range.mono _ _ _ _ _)
      | (with_reducible exact LeO.refl _)
      | (with_reducible exact LeO.none _)
      | (with_reducible refine LeO.ite ?_ ?_)
      | (with_reducible refine LeO.bind ?_ (fun _ => ?_))
      | exact table_Range.mono _ _ _ _ _
      | exact LeO.none _
      | refine LeO.ite ?_ ?_
      | refine LeO.bind ?_ (fun _ => ?_)

/-! ### stanchionref01_Less (function 27): what it is -/
mutual
def stanchionref01_Less.l0 : Nat → ByteArray → ByteArray → Int → Option (Bool)
  | 0, _, _, _ => none
  | k + 1, x0, x1, x5 => if x5 < (x0.size : Int) then (stanchionref01_Less.j1 k x0 x1 x5 (decide (x5 < (x1.size : Int)))) else (stanchionref01_Less.j1 k x0 x1 x5 false)
def stanchionref01_Less.j1 : Nat → ByteArray → ByteArray → Int → Bool → Option (Bool)
  | 0, _, _, _, _ => none
  | k + 1, x0, x1, x5, x15 => if x15 = true then (if 0 ≤ x5 then (if x5 < (x0.size : Int) then (if x5 < (x1.size : Int) then (if (bt x0 x5) = (bt x1 x5) then (stanchionref01_Less.l0 k x0 x1 (wrap64 (x5 + 1))) else (some (decide ((bt x0 x5) < (bt x1 x5))))) else (none)) else (none)) else (none)) else (some (decide ((x0.size : Int) < (x1.size : Int))))
end
def stanchionref01_Less.f (k : Nat) (a0 : ByteArray) (a1 : ByteArray) : Option (Bool) := stanchionref01_Less.l0 k a0 a1 0
theorem stanchionref01_Less.mono_l : ∀ k, (∀ y0 y1 y2, LeO (stanchionref01_Less.l0 k y0 y1 y2) (stanchionref01_Less.l0 (k + 1) y0 y1 y2)) ∧ (∀ y0 y1 y2 y3, LeO (stanchionref01_Less.j1 k y0 y1 y2 y3) (stanchionref01_Less.j1 (k + 1) y0 y1 y2 y3))
  | 0 => ⟨fun _ _ _ r h => by simp [stanchionref01_Less.l0] at h, fun _ _ _ _ r h => by simp [stanchionref01_Less.j1] at h⟩
  | k + 1 => by
    obtain ⟨ih0, ih1⟩ := stanchionref01_Less.mono_l k
    refine ⟨?_, ?_⟩
    · intro y0 y1 y2
      unfold stanchionref01_Less.l0
      repeat' first
      | (with_reducible exact ih0 _ _ _)
      | (with_reducible exact ih1 _ _ _ _)
      | (with_reducible exact LeO.refl _)
      | (with_reducible exact LeO.none _)
      | (with_reducible refine LeO.ite ?_ ?_)
      | (with_reducible refine LeO.bind ?_ (fun _ => ?_))
      | exact ih0 _ _ _
      | exact ih1 _ _ _ _
      | exact LeO.none _
      | refine LeO.ite ?_ ?_
      | refine LeO.bind ?_ (fun _ => ?_)
    · intro y0 y1 y2 y3
      unfold stanchionref01_Less.j1
      repeat' first
      | (with_reducible exact ih0 _ _ _)
      | (with_reducible exact ih1 _ _ _ _)
      | (with_reducible exact LeO.refl _)
      | (with_reducible exact LeO.none _)
      | (with_reducible refine LeO.ite ?_ ?_)
      | (with_reducible refine LeO.bind ?_ (fun _ => ?_))
      | exact ih0 _ _ _
      | exact ih1 _ _ _ _
      | exact LeO.none _
      | refine LeO.ite ?_ ?_
      | refine LeO.bind ?_ (fun _ => ?_)
theorem stanchionref01_Less.mono : ∀ a0 a1 k, LeO (stanchionref01_Less.f k a0 a1) (stanchionref01_Less.f (k + 1) a0 a1) := by
  intro a0 a1 k
  obtain ⟨ih0, ih1⟩ := stanchionref01_Less.mono_l k
  unfold stanchionref01_Less.f
  repeat' first
      | (with_reducible exact ih0 _ _ _)
      | (with_reducible exact ih1 _ _ _ _)
      | (with_reducible exact LeO.refl _)
      | (with_reducible exact LeO.none _)
      | (with_reducible refine LeO.ite ?_ ?_)
      | (with_reducible refine LeO.bind ?_ (fun _ => ?_))
      | exact ih0 _ _ _
      | exact ih1 _ _ _ _
      | exact LeO.none _
      | refine LeO.ite ?_ ?_
      | refine LeO.bind ?_ (fun _ => ?_)

/-! ### stanchionref05_Right (function 12): what it is -/
def stanchionref05_Right.l0 : Nat → List (S59) → Int → Option (Bool)
  | 0, _, _ => none
  | k + 1, x0, x3 => if x3 < (x0.length : Int) then (if 0 ≤ (wrap64 (x3 - 1)) then (if (wrap64 (x3 - 1)) < (x0.length : Int) then (if 0 ≤ x3 then ((stanchionref01_Less.f k ((rd_T59 x0 (wrap64 (x3 - 1))).f0) ((rd_T59 x0 x3).f0)).bind fun t126 => (if t126 = true then (stanchionref05_Right.l0 k x0 (wrap64 (x3 + 1))) else (some false))) else (none)) else (none)) else (none)) else (some true)
def stanchionref05_Right.f (k : Nat) (l0 : List (S59)) : Option (Bool) := stanchionref05_Right.l0 k l0 1
theorem stanchionref05_Right.mono_l : ∀ k, (∀ y0 y1, LeO (stanchionref05_Right.l0 k y0 y1) (stanchionref05_Right.l0 (k + 1) y0 y1))
  | 0 => fun _ _ r h => by simp [stanchionref05_Right.l0] at h
  | k + 1 => by
    have ih0 := stanchionref05_Right.mono_l k
    · intro y0 y1
      unfold stanchionref05_Right.l0
      repeat' first
      | (with_reducible exact ih0 _ _)
      | (with_reducible exact stanchionref01_Less.mono _ _ _)
      | (with_reducible exact LeO.refl _)
      | (with_reducible exact LeO.none _)
      | (with_reducible refine LeO.ite ?_ ?_)
      | (with_reducible refine LeO.bind ?_ (fun _ => ?_))
      | exact ih0 _ _
      | exact stanchionref01_Less.mono _ _ _
      | exact LeO.none _
      | refine LeO.ite ?_ ?_
      | refine LeO.bind ?_ (fun _ => ?_)
theorem stanchionref05_Right.mono : ∀ a0 k, LeO (stanchionref05_Right.f k a0) (stanchionref05_Right.f (k + 1) a0) := by
  intro a0 k
  have ih0 := stanchionref05_Right.mono_l k
  unfold stanchionref05_Right.f
  repeat' first
      | (with_reducible exact ih0 _ _)
      | (with_reducible exact stanchionref01_Less.mono _ _ _)
      | (with_reducible exact LeO.refl _)
      | (with_reducible exact LeO.none _)
      | (with_reducible refine LeO.ite ?_ ?_)
      | (with_reducible refine LeO.bind ?_ (fun _ => ?_))
      | exact ih0 _ _
      | exact stanchionref01_Less.mono _ _ _
      | exact LeO.none _
      | refine LeO.ite ?_ ?_
      | refine LeO.bind ?_ (fun _ => ?_)

/-! ### stanchionref05_Same (function 14): what it is -/
def stanchionref05_Same.l0 : Nat → List (S59) → List (S59) → Int → Option (Bool)
  | 0, _, _, _ => none
  | k + 1, x0, x1, x5 => if x5 < (x0.length : Int) then (if 0 ≤ x5 then (if x5 < (x1.length : Int) then (if (!((((rd_T59 x0 x5).f0).toList) == (((rd_T59 x1 x5).f0).toList)) || (!((((rd_T59 x0 x5).f1).toList) == (((rd_T59 x1 x5).f1).toList)))) = true then (some false) else (stanchionref05_Same.l0 k x0 x1 (wrap64 (x5 + 1)))) else (none)) else (none)) else (some true)
def stanchionref05_Same.f (k : Nat) (l0 : List (S59)) (l1 : List (S59)) : Option (Bool) := if (l0.length : Int) = (l1.length : Int) then (stanchionref05_Same.l0 k l0 l1 0) else (some false)
theorem stanchionref05_Same.mono_l : ∀ k, (∀ y0 y1 y2, LeO (stanchionref05_Same.l0 k y0 y1 y2) (stanchionref05_Same.l0 (k + 1) y0 y1 y2))
  | 0 => fun _ _ _ r h => by simp [stanchionref05_Same.l0] at h
  | k + 1 => by
    have ih0 := stanchionref05_Same.mono_l k
    · intro y0 y1 y2
      unfold stanchionref05_Same.l0
      repeat' first
      | (with_reducible exact ih0 _ _ _)
      | (with_reducible exact LeO.refl _)
      | (with_reducible exact LeO.none _)
      | (with_reducible refine LeO.ite ?_ ?_)
      | (with_reducible refine LeO.bind ?_ (fun _ => ?_))
      | exact ih0 _ _ _
      | exact LeO.none _
      | refine LeO.ite ?_ ?_
      | refine LeO.bind ?_ (fun _ => ?_)
theorem stanchionref05_Same.mono : ∀ a0 a1 k, LeO (stanchionref05_Same.f k a0 a1) (stanchionref05_Same.f (k + 1) a0 a1) := by
  intro a0 a1 k
  have ih0 := stanchionref05_Same.mono_l k
  unfold stanchionref05_Same.f
  repeat' first
      | (with_reducible exact ih0 _ _ _)
      | (with_reducible exact LeO.refl _)
      | (with_reducible exact LeO.none _)
      | (with_reducible refine LeO.ite ?_ ?_)
      | (with_reducible refine LeO.bind ?_ (fun _ => ?_))
      | exact ih0 _ _ _
      | exact LeO.none _
      | refine LeO.ite ?_ ?_
      | refine LeO.bind ?_ (fun _ => ?_)

/-! ### stanchionlaw05_TableParts (function 3): what it is -/
def stanchionlaw05_TableParts.j0 : Nat → List (S59) → ByteArray → ByteArray → ByteArray → Bool → Bool → Option (Bool)
  | 0, _, _, _, _, _, _ => none
  | k + 1, x3, x4, x5, x6, x7, x46 => if x46 = true then (some x7) else ((table_Range.f k x3 x4 x5 (x3.length : Int)).bind fun t132 => ((table_Range.f k x3 x5 x6 (x3.length : Int)).bind fun t135 => ((some (([] : List (S59)) : List (S59))).bind fun y138 => (if y138.length + t132.length < 4398046511104 then ((some (y138 ++ t132 : List (S59))).bind fun y141 => (if y141.length + t135.length < 4398046511104 then ((table_Range.f k x3 x4 x6 (x3.length : Int)).bind fun t147 => ((stanchionref05_Same.f k (y141 ++ t135) t147).bind fun t150 => (some t150))) else (none))) else (none)))))
def stanchionlaw05_TableParts.f (k : Nat) (l0_0 : List (S59)) (a0_1 : ByteArray) (a0_2 : ByteArray) (a0_3 : ByteArray) : Option (Bool) := (stanchionlaw05_shown.f k).bind fun t130 => ((stanchionref05_Right.f k l0_0).bind fun t131 => (if t130 = true then (if t131 = true then (if a0_2.toList = ([] : List UInt8) then (stanchionlaw05_TableParts.j0 k l0_0 a0_1 a0_2 a0_3 t130 true) else (if (Op.bytesLess a0_2.toList a0_1.toList) = true then (stanchionlaw05_TableParts.j0 k l0_0 a0_1 a0_2 a0_3 t130 true) else (if a0_3.toList = ([] : List UInt8) then (stanchionlaw05_TableParts.j0 k l0_0 a0_1 a0_2 a0_3 t130 false) else (stanchionlaw05_TableParts.j0 k l0_0 a0_1 a0_2 a0_3 t130 (Op.bytesLess a0_3.toList a0_2.toList))))) else (stanchionlaw05_TableParts.j0 k l0_0 a0_1 a0_2 a0_3 t130 true)) else (stanchionlaw05_TableParts.j0 k l0_0 a0_1 a0_2 a0_3 t130 true)))
theorem stanchionlaw05_TableParts.mono_l : ∀ k, (∀ y0 y1 y2 y3 y4 y5, LeO (stanchionlaw05_TableParts.j0 k y0 y1 y2 y3 y4 y5) (stanchionlaw05_TableParts.j0 (k + 1) y0 y1 y2 y3 y4 y5))
  | 0 => fun _ _ _ _ _ _ r h => by simp [stanchionlaw05_TableParts.j0] at h
  | k + 1 => by
    have ih0 := stanchionlaw05_TableParts.mono_l k
    · intro y0 y1 y2 y3 y4 y5
      unfold stanchionlaw05_TableParts.j0
      repeat' first
      | (with_reducible exact ih0 _ _ _ _ _ _)
      | (with_reducible exact stanchionlaw05_shown.mono _)
      | (with_reducible exact stanchionref05_Right.mono _ _)
      | (with_reducible exact stanchionref05_Same.mono _ _ _)
      | (with_reducible exact table_Range.mono _ _ _ _ _)
      | (with_reducible exact LeO.refl _)
      | (with_reducible exact LeO.none _)
      | (with_reducible refine LeO.ite ?_ ?_)
      | (with_reducible refine LeO.bind ?_ (fun _ => ?_))
      | exact ih0 _ _ _ _ _ _
      | exact stanchionlaw05_shown.mono _
      | exact stanchionref05_Right.mono _ _
      | exact stanchionref05_Same.mono _ _ _
      | exact table_Range.mono _ _ _ _ _
      | exact LeO.none _
      | refine LeO.ite ?_ ?_
      | refine LeO.bind ?_ (fun _ => ?_)
theorem stanchionlaw05_TableParts.mono : ∀ a0 a1 a2 a3 k, LeO (stanchionlaw05_TableParts.f k a0 a1 a2 a3) (stanchionlaw05_TableParts.f (k + 1) a0 a1 a2 a3) := by
  intro a0 a1 a2 a3 k
  have ih0 := stanchionlaw05_TableParts.mono_l k
  unfold stanchionlaw05_TableParts.f
  repeat' first
      | (with_reducible exact ih0 _ _ _ _ _ _)
      | (with_reducible exact stanchionlaw05_shown.mono _)
      | (with_reducible exact stanchionref05_Right.mono _ _)
      | (with_reducible exact stanchionref05_Same.mono _ _ _)
      | (with_reducible exact table_Range.mono _ _ _ _ _)
      | (with_reducible exact LeO.refl _)
      | (with_reducible exact LeO.none _)
      | (with_reducible refine LeO.ite ?_ ?_)
      | (with_reducible refine LeO.bind ?_ (fun _ => ?_))
      | exact ih0 _ _ _ _ _ _
      | exact stanchionlaw05_shown.mono _
      | exact stanchionref05_Right.mono _ _
      | exact stanchionref05_Same.mono _ _ _
      | exact table_Range.mono _ _ _ _ _
      | exact LeO.none _
      | refine LeO.ite ?_ ?_
      | refine LeO.bind ?_ (fun _ => ?_)

/-! ### stanchionlaw05_TableMost (function 4): what it is -/
def stanchionlaw05_TableMost.f (k : Nat) (l0_0 : List (S59)) (a0_1 : ByteArray) (a0_2 : ByteArray) (a0_3 : Int) : Option (Bool) := (stanchionlaw05_shown.f k).bind fun t152 => ((table_Range.f k l0_0 a0_1 a0_2 (l0_0.length : Int)).bind fun t153 => ((table_Range.f k l0_0 a0_1 a0_2 a0_3).bind fun t156 => (if a0_3 < 0 then (if 0 > (t153.length : Int) then (if t152 = true then (if 0 ≤ (t153.length : Int) then (if (t153.length : Int) ≤ (t153.length : Int) then ((stanchionref05_Same.f k t156 (t153.take ((t153.length : Int) : Int).toNat)).bind fun t163 => (some t163)) else (none)) else (none)) else (some false)) else (if t152 = true then (if 0 ≤ (t153.length : Int) then ((stanchionref05_Same.f k t156 (t153.take 0)).bind fun t168 => (some t168)) else (none)) else (some false))) else (if a0_3 > (t153.length : Int) then (if t152 = true then (if 0 ≤ (t153.length : Int) then (if (t153.length : Int) ≤ (t153.length : Int) then ((stanchionref05_Same.f k t156 (t153.take ((t153.length : Int) : Int).toNat)).bind fun t173 => (some t173)) else (none)) else (none)) else (some false)) else (if t152 = true then (if 0 ≤ a0_3 then (if a0_3 ≤ (t153.length : Int) then ((stanchionref05_Same.f k t156 (t153.take (a0_3 : Int).toNat)).bind fun t178 => (some t178)) else (none)) else (none)) else (some false))))))
theorem stanchionlaw05_TableMost.mono : ∀ a0 a1 a2 a3 k, LeO (stanchionlaw05_TableMost.f k a0 a1 a2 a3) (stanchionlaw05_TableMost.f (k + 1) a0 a1 a2 a3) := by
  intro a0 a1 a2 a3 k
  unfold stanchionlaw05_TableMost.f
  repeat' first
      | (with_reducible exact stanchionlaw05_shown.mono _)
      | (with_reducible exact stanchionref05_Same.mono _ _ _)
      | (with_reducible exact table_Range.mono _ _ _ _ _)
      | (with_reducible exact LeO.refl _)
      | (with_reducible exact LeO.none _)
      | (with_reducible refine LeO.ite ?_ ?_)
      | (with_reducible refine LeO.bind ?_ (fun _ => ?_))
      | exact stanchionlaw05_shown.mono _
      | exact stanchionref05_Same.mono _ _ _
      | exact table_Range.mono _ _ _ _ _
      | exact LeO.none _
      | refine LeO.ite ?_ ?_
      | refine LeO.bind ?_ (fun _ => ?_)

/-! ### table_Find (function 16): what it is -/
def table_Find.f (l0 : List (S59)) (a1 : ByteArray) : Option (ByteArray × Bool) := (table_at.f l0 a1).bind fun t179 => (if t179 < 0 then (some ((⟨#[]⟩ : ByteArray), false)) else (if 0 ≤ t179 then (if t179 < (l0.length : Int) then (some ((rd_T59 l0 t179).f1, true)) else (none)) else (none)))

/-! ### stanchionlaw05_TableTwice (function 5): what it is -/
def stanchionlaw05_TableTwice.f (k : Nat) (l0_0 : List (S59)) (a0_1 : ByteArray) (a0_2 : ByteArray) (a0_3 : ByteArray) : Option (Bool) := (stanchionlaw05_shown.f k).bind fun t182 => ((table_Put.f l0_0 a0_1 a0_2).bind fun t183 => ((table_Put.f t183 a0_1 a0_3).bind fun t186 => ((table_Put.f l0_0 a0_1 a0_3).bind fun t189 => ((stanchionref05_Same.f k t186 t189).bind fun t192 => ((table_Find.f l0_0 a0_1).bind fun bt193 => (if t182 = true then (if t192 = true then (if bt193.2 = true then ((table_Put.f l0_0 a0_1 bt193.1).bind fun t195 => ((stanchionref05_Same.f k t195 l0_0).bind fun t198 => (some t198))) else (some true)) else (some false)) else (some false)))))))
theorem stanchionlaw05_TableTwice.mono : ∀ a0 a1 a2 a3 k, LeO (stanchionlaw05_TableTwice.f k a0 a1 a2 a3) (stanchionlaw05_TableTwice.f (k + 1) a0 a1 a2 a3) := by
  intro a0 a1 a2 a3 k
  unfold stanchionlaw05_TableTwice.f
  repeat' first
      | (with_reducible exact stanchionlaw05_shown.mono _)
      | (with_reducible exact stanchionref05_Same.mono _ _ _)
      | (with_reducible exact LeO.refl _)
      | (with_reducible exact LeO.none _)
      | (with_reducible refine LeO.ite ?_ ?_)
      | (with_reducible refine LeO.bind ?_ (fun _ => ?_))
      | exact stanchionlaw05_shown.mono _
      | exact stanchionref05_Same.mono _ _ _
      | exact LeO.none _
      | refine LeO.ite ?_ ?_
      | refine LeO.bind ?_ (fun _ => ?_)

/-! ### stanchionref05_Find (function 17): what it is -/
def stanchionref05_Find.l0 : Nat → List (S59) → ByteArray → Int → Option (ByteArray × Bool)
  | 0, _, _, _ => none
  | k + 1, x0, x1, x6 => if x6 < (x0.length : Int) then (if 0 ≤ x6 then (if ((rd_T59 x0 x6).f0).toList = x1.toList then (some ((rd_T59 x0 x6).f1, true)) else (stanchionref05_Find.l0 k x0 x1 (wrap64 (x6 + 1)))) else (none)) else (some ((⟨#[]⟩ : ByteArray), false))
def stanchionref05_Find.f (k : Nat) (l0 : List (S59)) (a1 : ByteArray) : Option (ByteArray × Bool) := stanchionref05_Find.l0 k l0 a1 0
theorem stanchionref05_Find.mono_l : ∀ k, (∀ y0 y1 y2, LeO (stanchionref05_Find.l0 k y0 y1 y2) (stanchionref05_Find.l0 (k + 1) y0 y1 y2))
  | 0 => fun _ _ _ r h => by simp [stanchionref05_Find.l0] at h
  | k + 1 => by
    have ih0 := stanchionref05_Find.mono_l k
    · intro y0 y1 y2
      unfold stanchionref05_Find.l0
      repeat' first
      | (with_reducible exact ih0 _ _ _)
      | (with_reducible exact LeO.refl _)
      | (with_reducible exact LeO.none _)
      | (with_reducible refine LeO.ite ?_ ?_)
      | (with_reducible refine LeO.bind ?_ (fun _ => ?_))
      | exact ih0 _ _ _
      | exact LeO.none _
      | refine LeO.ite ?_ ?_
      | refine LeO.bind ?_ (fun _ => ?_)
theorem stanchionref05_Find.mono : ∀ a0 a1 k, LeO (stanchionref05_Find.f k a0 a1) (stanchionref05_Find.f (k + 1) a0 a1) := by
  intro a0 a1 k
  have ih0 := stanchionref05_Find.mono_l k
  unfold stanchionref05_Find.f
  repeat' first
      | (with_reducible exact ih0 _ _ _)
      | (with_reducible exact LeO.refl _)
      | (with_reducible exact LeO.none _)
      | (with_reducible refine LeO.ite ?_ ?_)
      | (with_reducible refine LeO.bind ?_ (fun _ => ?_))
      | exact ih0 _ _ _
      | exact LeO.none _
      | refine LeO.ite ?_ ?_
      | refine LeO.bind ?_ (fun _ => ?_)

/-! ### stanchionref05_Between (function 21): what it is -/
def stanchionref05_Between.f (k : Nat) (a0 : ByteArray) (a1 : ByteArray) (a2 : ByteArray) : Option (Bool) := (stanchionref01_Less.f k a0 a1).bind fun t201 => (if t201 = true then (some false) else (if a2.toList = ([] : List UInt8) then (some true) else ((stanchionref01_Less.f k a0 a2).bind fun t202 => (some t202))))
theorem stanchionref05_Between.mono : ∀ a0 a1 a2 k, LeO (stanchionref05_Between.f k a0 a1 a2) (stanchionref05_Between.f (k + 1) a0 a1 a2) := by
  intro a0 a1 a2 k
  unfold stanchionref05_Between.f
  repeat' first
      | (with_reducible exact stanchionref01_Less.mono _ _ _)
      | (with_reducible exact LeO.refl _)
      | (with_reducible exact LeO.none _)
      | (with_reducible refine LeO.ite ?_ ?_)
      | (with_reducible refine LeO.bind ?_ (fun _ => ?_))
      | exact stanchionref01_Less.mono _ _ _
      | exact LeO.none _
      | refine LeO.ite ?_ ?_
      | refine LeO.bind ?_ (fun _ => ?_)

/-! ### stanchionref05_Range (function 18): what it is -/
mutual
def stanchionref05_Range.l0 : Nat → List (S59) → ByteArray → ByteArray → Int → List (S59) → Int → Option ((List (S59)))
  | 0, _, _, _, _, _, _ => none
  | k + 1, x0, x1, x2, x3, x9, x10 => if x10 < (x0.length : Int) then (stanchionref05_Range.j1 k x0 x1 x2 x3 x9 x10 (decide ((x9.length : Int) < x3))) else (stanchionref05_Range.j1 k x0 x1 x2 x3 x9 x10 false)
def stanchionref05_Range.j1 : Nat → List (S59) → ByteArray → ByteArray → Int → List (S59) → Int → Bool → Option ((List (S59)))
  | 0, _, _, _, _, _, _, _ => none
  | k + 1, x0, x1, x2, x3, x9, x10, x21 => if x21 = true then (if 0 ≤ x10 then (if x10 < (x0.length : Int) then ((stanchionref05_Between.f k ((rd_T59 x0 x10).f0) x1 x2).bind fun t204 => (if t204 = true then (if x9.length < 4398046511104 then (stanchionref05_Range.l0 k x0 x1 x2 x3 (x9 ++ [(⟨(rd_T59 x0 x10).f0, (rd_T59 x0 x10).f1⟩ : S59)]) (wrap64 (x10 + 1))) else (none)) else (stanchionref05_Range.l0 k x0 x1 x2 x3 x9 (wrap64 (x10 + 1))))) else (none)) else (none)) else (some x9)
end
def stanchionref05_Range.f (k : Nat) (l0 : List (S59)) (a1 : ByteArray) (a2 : ByteArray) (a3 : Int) : Option ((List (S59))) := stanchionref05_Range.l0 k l0 a1 a2 a3 ([] : List (S59)) 0
theorem stanchionref05_Range.mono_l : ∀ k, (∀ y0 y1 y2 y3 y4 y5, LeO (stanchionref05_Range.l0 k y0 y1 y2 y3 y4 y5) (stanchionref05_Range.l0 (k + 1) y0 y1 y2 y3 y4 y5)) ∧ (∀ y0 y1 y2 y3 y4 y5 y6, LeO (stanchionref05_Range.j1 k y0 y1 y2 y3 y4 y5 y6) (stanchionref05_Range.j1 (k + 1) y0 y1 y2 y3 y4 y5 y6))
  | 0 => ⟨fun _ _ _ _ _ _ r h => by simp [stanchionref05_Range.l0] at h, fun _ _ _ _ _ _ _ r h => by simp [stanchionref05_Range.j1] at h⟩
  | k + 1 => by
    obtain ⟨ih0, ih1⟩ := stanchionref05_Range.mono_l k
    refine ⟨?_, ?_⟩
    · intro y0 y1 y2 y3 y4 y5
      unfold stanchionref05_Range.l0
      repeat' first
      | (with_reducible exact ih0 _ _ _ _ _ _)
      | (with_reducible exact ih1 _ _ _ _ _ _ _)
      | (with_reducible exact stanchionref05_Between.mono _ _ _ _)
      | (with_reducible exact LeO.refl _)
      | (with_reducible exact LeO.none _)
      | (with_reducible refine LeO.ite ?_ ?_)
      | (with_reducible refine LeO.bind ?_ (fun _ => ?_))
      | exact ih0 _ _ _ _ _ _
      | exact ih1 _ _ _ _ _ _ _
      | exact stanchionref05_Between.mono _ _ _ _
      | exact LeO.none _
      | refine LeO.ite ?_ ?_
      | refine LeO.bind ?_ (fun _ => ?_)
    · intro y0 y1 y2 y3 y4 y5 y6
      unfold stanchionref05_Range.j1
      repeat' first
      | (with_reducible exact ih0 _ _ _ _ _ _)
      | (with_reducible exact ih1 _ _ _ _ _ _ _)
      | (with_reducible exact stanchionref05_Between.mono _ _ _ _)
      | (with_reducible exact LeO.refl _)
      | (with_reducible exact LeO.none _)
      | (with_reducible refine LeO.ite ?_ ?_)
      | (with_reducible refine LeO.bind ?_ (fun _ => ?_))
      | exact ih0 _ _ _ _ _ _
      | exact ih1 _ _ _ _ _ _ _
      | exact stanchionref05_Between.mono _ _ _ _
      | exact LeO.none _
      | refine LeO.ite ?_ ?_
      | refine LeO.bind ?_ (fun _ => ?_)
theorem stanchionref05_Range.mono : ∀ a0 a1 a2 a3 k, LeO (stanchionref05_Range.f k a0 a1 a2 a3) (stanchionref05_Range.f (k + 1) a0 a1 a2 a3) := by
  intro a0 a1 a2 a3 k
  obtain ⟨ih0, ih1⟩ := stanchionref05_Range.mono_l k
  unfold stanchionref05_Range.f
  repeat' first
      | (with_reducible exact ih0 _ _ _ _ _ _)
      | (with_reducible exact ih1 _ _ _ _ _ _ _)
      | (with_reducible exact stanchionref05_Between.mono _ _ _ _)
      | (with_reducible exact LeO.refl _)
      | (with_reducible exact LeO.none _)
      | (with_reducible refine LeO.ite ?_ ?_)
      | (with_reducible refine LeO.bind ?_ (fun _ => ?_))
      | exact ih0 _ _ _ _ _ _
      | exact ih1 _ _ _ _ _ _ _
      | exact stanchionref05_Between.mono _ _ _ _
      | exact LeO.none _
      | refine LeO.ite ?_ ?_
      | refine LeO.bind ?_ (fun _ => ?_)

/-! ### table_Right (function 19): what it is -/
def table_Right.l0 : Nat → List (S59) → Int → Option (Bool)
  | 0, _, _ => none
  | k + 1, x0, x3 => if x3 < (x0.length : Int) then (if 0 ≤ (wrap64 (x3 - 1)) then (if (wrap64 (x3 - 1)) < (x0.length : Int) then (if 0 ≤ x3 then (if ((Op.bytesLess (((rd_T59 x0 (wrap64 (x3 - 1))).f0).toList) (((rd_T59 x0 x3).f0).toList)) = true) then (table_Right.l0 k x0 (wrap64 (x3 + 1))) else (some false)) else (none)) else (none)) else (none)) else (some true)
def table_Right.f (k : Nat) (l0 : List (S59)) : Option (Bool) := table_Right.l0 k l0 1
theorem table_Right.mono_l : ∀ k, (∀ y0 y1, LeO (table_Right.l0 k y0 y1) (table_Right.l0 (k + 1) y0 y1))
  | 0 => fun _ _ r h => by simp [table_Right.l0] at h
  | k + 1 => by
    have ih0 := table_Right.mono_l k
    · intro y0 y1
      unfold table_Right.l0
      repeat' first
      | (with_reducible exact ih0 _ _)
      | (with_reducible exact LeO.refl _)
      | (with_reducible exact LeO.none _)
      | (with_reducible refine LeO.ite ?_ ?_)
      | (with_reducible refine LeO.bind ?_ (fun _ => ?_))
      | exact ih0 _ _
      | exact LeO.none _
      | refine LeO.ite ?_ ?_
      | refine LeO.bind ?_ (fun _ => ?_)
theorem table_Right.mono : ∀ a0 k, LeO (table_Right.f k a0) (table_Right.f (k + 1) a0) := by
  intro a0 k
  have ih0 := table_Right.mono_l k
  unfold table_Right.f
  repeat' first
      | (with_reducible exact ih0 _ _)
      | (with_reducible exact LeO.refl _)
      | (with_reducible exact LeO.none _)
      | (with_reducible refine LeO.ite ?_ ?_)
      | (with_reducible refine LeO.bind ?_ (fun _ => ?_))
      | exact ih0 _ _
      | exact LeO.none _
      | refine LeO.ite ?_ ?_
      | refine LeO.bind ?_ (fun _ => ?_)

/-! ### stanchionlaw05_TableFinds (function 6): what it is -/
def stanchionlaw05_TableFinds.f (k : Nat) (l0_0 : List (S59)) (a0_1 : ByteArray) (a0_2 : ByteArray) (a0_3 : ByteArray) (a0_4 : Int) : Option (Bool) := (stanchionlaw05_shown.f k).bind fun t212 => ((table_Find.f l0_0 a0_1).bind fun bt213 => ((stanchionref05_Find.f k l0_0 a0_1).bind fun bt215 => ((table_Range.f k l0_0 a0_2 a0_3 a0_4).bind fun t217 => ((stanchionref05_Range.f k l0_0 a0_2 a0_3 a0_4).bind fun t220 => ((stanchionref05_Same.f k t217 t220).bind fun t223 => (if t212 = true then (if bt213.1.toList = bt215.1.toList then (if (bt213.2 == bt215.2) = true then (if t223 = true then ((table_Right.f k l0_0).bind fun t224 => ((stanchionref05_Right.f k l0_0).bind fun t225 => (if (t224 == t225) = true then ((table_Between.f a0_1 a0_2 a0_3).bind fun t226 => ((stanchionref05_Between.f k a0_1 a0_2 a0_3).bind fun t227 => (some (t226 == t227)))) else (some false)))) else (some false)) else (some false)) else (some false)) else (some false)))))))
theorem stanchionlaw05_TableFinds.mono : ∀ a0 a1 a2 a3 a4 k, LeO (stanchionlaw05_TableFinds.f k a0 a1 a2 a3 a4) (stanchionlaw05_TableFinds.f (k + 1) a0 a1 a2 a3 a4) := by
  intro a0 a1 a2 a3 a4 k
  unfold stanchionlaw05_TableFinds.f
  repeat' first
      | (with_reducible exact stanchionlaw05_shown.mono _)
      | (with_reducible exact stanchionref05_Between.mono _ _ _ _)
      | (with_reducible exact stanchionref05_Find.mono _ _ _)
      | (with_reducible exact stanchionref05_Range.mono _ _ _ _ _)
      | (with_reducible exact stanchionref05_Right.mono _ _)
      | (with_reducible exact stanchionref05_Same.mono _ _ _)
      | (with_reducible exact table_Range.mono _ _ _ _ _)
      | (with_reducible exact table_Right.mono _ _)
      | (with_reducible exact LeO.refl _)
      | (with_reducible exact LeO.none _)
      | (with_reducible refine LeO.ite ?_ ?_)
      | (with_reducible refine LeO.bind ?_ (fun _ => ?_))
      | exact stanchionlaw05_shown.mono _
      | exact stanchionref05_Between.mono _ _ _ _
      | exact stanchionref05_Find.mono _ _ _
      | exact stanchionref05_Range.mono _ _ _ _ _
      | exact stanchionref05_Right.mono _ _
      | exact stanchionref05_Same.mono _ _ _
      | exact table_Range.mono _ _ _ _ _
      | exact table_Right.mono _ _
      | exact LeO.none _
      | refine LeO.ite ?_ ?_
      | refine LeO.bind ?_ (fun _ => ?_)


/-! ### table_Drop: function 22 -/
def dropL59 (l : List S59) (key : ByteArray) : List S59 := l.filter (fun x => !eqK59 key x)
def table_Drop.f (l0 : List S59) (a1 : ByteArray) : Option (List S59) := (api_Pair_28.f l0).bind fun y => some (dropL59 y a1)

/-! ### stanchionlaw05_TableApart (function 7): what it is -/
def stanchionlaw05_TableApart.f (k : Nat) (l0_0 : List (S59)) (a0_1 : ByteArray) (a0_2 : ByteArray) (a0_3 : ByteArray) : Option (Bool) := (stanchionlaw05_shown.f k).bind fun t229 => (if a0_1.toList = a0_3.toList then (some t229) else ((table_Find.f l0_0 a0_3).bind fun bt230 => ((table_Put.f l0_0 a0_1 a0_2).bind fun t232 => ((table_Find.f t232 a0_3).bind fun bt235 => ((table_Drop.f l0_0 a0_1).bind fun t237 => ((table_Find.f t237 a0_3).bind fun bt240 => (if t229 = true then (if bt230.1.toList = bt235.1.toList then (if (bt230.2 == bt235.2) = true then (if bt230.1.toList = bt240.1.toList then (some (bt230.2 == bt240.2)) else (some false)) else (some false)) else (some false)) else (some false))))))))
theorem stanchionlaw05_TableApart.mono : ∀ a0 a1 a2 a3 k, LeO (stanchionlaw05_TableApart.f k a0 a1 a2 a3) (stanchionlaw05_TableApart.f (k + 1) a0 a1 a2 a3) := by
  intro a0 a1 a2 a3 k
  unfold stanchionlaw05_TableApart.f
  repeat' first
      | (with_reducible exact stanchionlaw05_shown.mono _)
      | (with_reducible exact LeO.refl _)
      | (with_reducible exact LeO.none _)
      | (with_reducible refine LeO.ite ?_ ?_)
      | (with_reducible refine LeO.bind ?_ (fun _ => ?_))
      | exact stanchionlaw05_shown.mono _
      | exact LeO.none _
      | refine LeO.ite ?_ ?_
      | refine LeO.bind ?_ (fun _ => ?_)

/-! ### stanchionref05_Put (function 23): what it is -/
mutual
def stanchionref05_Put.l0 : Nat → List (S59) → ByteArray → ByteArray → Bool → List (S59) → Bool → Int → Option ((List (S59)))
  | 0, _, _, _, _, _, _, _ => none
  | k + 1, x0, x1, x2, x8, x9, x10, x11 => if x11 < (x0.length : Int) then (if x10 = true then (stanchionref05_Put.j1 k x0 x1 x2 x8 x9 x10 x11 false) else (if x8 = true then (if 0 ≤ x11 then (if ((rd_T59 x0 x11).f0).toList = x1.toList then (stanchionref05_Put.j1 k x0 x1 x2 x8 x9 x10 x11 true) else (stanchionref05_Put.j1 k x0 x1 x2 x8 x9 x10 x11 false)) else (none)) else (if 0 ≤ x11 then ((stanchionref01_Less.f k x1 ((rd_T59 x0 x11).f0)).bind fun t249 => (stanchionref05_Put.j1 k x0 x1 x2 x8 x9 x10 x11 t249)) else (none)))) else (if x10 = true then (some x9) else (if x9.length < 4398046511104 then (some (x9 ++ [(⟨x1, x2⟩ : S59)])) else (none)))
def stanchionref05_Put.j1 : Nat → List (S59) → ByteArray → ByteArray → Bool → List (S59) → Bool → Int → Bool → Option ((List (S59)))
  | 0, _, _, _, _, _, _, _, _ => none
  | k + 1, x0, x1, x2, x8, x9, x10, x11, x50 => if x50 = true then (if x9.length < 4398046511104 then ((some (x9 ++ [(⟨x1, x2⟩ : S59)] : List (S59))).bind fun y250 => (if x8 = true then (stanchionref05_Put.l0 k x0 x1 x2 x8 y250 true (wrap64 (x11 + 1))) else (if 0 ≤ x11 then (if x11 < (x0.length : Int) then (if y250.length < 4398046511104 then (stanchionref05_Put.l0 k x0 x1 x2 x8 (y250 ++ [(⟨(rd_T59 x0 x11).f0, (rd_T59 x0 x11).f1⟩ : S59)]) true (wrap64 (x11 + 1))) else (none)) else (none)) else (none)))) else (none)) else (if 0 ≤ x11 then (if x11 < (x0.length : Int) then (if x9.length < 4398046511104 then (stanchionref05_Put.l0 k x0 x1 x2 x8 (x9 ++ [(⟨(rd_T59 x0 x11).f0, (rd_T59 x0 x11).f1⟩ : S59)]) x10 (wrap64 (x11 + 1))) else (none)) else (none)) else (none))
end
def stanchionref05_Put.f (k : Nat) (l0 : List (S59)) (a1 : ByteArray) (a2 : ByteArray) : Option ((List (S59))) := (stanchionref05_Find.f k l0 a1).bind fun bt242 => (stanchionref05_Put.l0 k l0 a1 a2 bt242.2 ([] : List (S59)) false 0)
theorem stanchionref05_Put.mono_l : ∀ k, (∀ y0 y1 y2 y3 y4 y5 y6, LeO (stanchionref05_Put.l0 k y0 y1 y2 y3 y4 y5 y6) (stanchionref05_Put.l0 (k + 1) y0 y1 y2 y3 y4 y5 y6)) ∧ (∀ y0 y1 y2 y3 y4 y5 y6 y7, LeO (stanchionref05_Put.j1 k y0 y1 y2 y3 y4 y5 y6 y7) (stanchionref05_Put.j1 (k + 1) y0 y1 y2 y3 y4 y5 y6 y7))
  | 0 => ⟨fun _ _ _ _ _ _ _ r h => by simp [stanchionref05_Put.l0] at h, fun _ _ _ _ _ _ _ _ r h => by simp [stanchionref05_Put.j1] at h⟩
  | k + 1 => by
    obtain ⟨ih0, ih1⟩ := stanchionref05_Put.mono_l k
    refine ⟨?_, ?_⟩
    · intro y0 y1 y2 y3 y4 y5 y6
      unfold stanchionref05_Put.l0
      repeat' first
      | (with_reducible exact ih0 _ _ _ _ _ _ _)
      | (with_reducible exact ih1 _ _ _ _ _ _ _ _)
      | (with_reducible exact stanchionref01_Less.mono _ _ _)
      | (with_reducible exact stanchionref05_Find.mono _ _ _)
      | (with_reducible exact LeO.refl _)
      | (with_reducible exact LeO.none _)
      | (with_reducible refine LeO.ite ?_ ?_)
      | (with_reducible refine LeO.bind ?_ (fun _ => ?_))
      | exact ih0 _ _ _ _ _ _ _
      | exact ih1 _ _ _ _ _ _ _ _
      | exact stanchionref01_Less.mono _ _ _
      | exact stanchionref05_Find.mono _ _ _
      | exact LeO.none _
      | refine LeO.ite ?_ ?_
      | refine LeO.bind ?_ (fun _ => ?_)
    · intro y0 y1 y2 y3 y4 y5 y6 y7
      unfold stanchionref05_Put.j1
      repeat' first
      | (with_reducible exact ih0 _ _ _ _ _ _ _)
      | (with_reducible exact ih1 _ _ _ _ _ _ _ _)
      | (with_reducible exact stanchionref01_Less.mono _ _ _)
      | (with_reducible exact stanchionref05_Find.mono _ _ _)
      | (with_reducible exact LeO.refl _)
      | (with_reducible exact LeO.none _)
      | (with_reducible refine LeO.ite ?_ ?_)
      | (with_reducible refine LeO.bind ?_ (fun _ => ?_))
      | exact ih0 _ _ _ _ _ _ _
      | exact ih1 _ _ _ _ _ _ _ _
      | exact stanchionref01_Less.mono _ _ _
      | exact stanchionref05_Find.mono _ _ _
      | exact LeO.none _
      | refine LeO.ite ?_ ?_
      | refine LeO.bind ?_ (fun _ => ?_)
theorem stanchionref05_Put.mono : ∀ a0 a1 a2 k, LeO (stanchionref05_Put.f k a0 a1 a2) (stanchionref05_Put.f (k + 1) a0 a1 a2) := by
  intro a0 a1 a2 k
  obtain ⟨ih0, ih1⟩ := stanchionref05_Put.mono_l k
  unfold stanchionref05_Put.f
  repeat' first
      | (with_reducible exact ih0 _ _ _ _ _ _ _)
      | (with_reducible exact ih1 _ _ _ _ _ _ _ _)
      | (with_reducible exact stanchionref01_Less.mono _ _ _)
      | (with_reducible exact stanchionref05_Find.mono _ _ _)
      | (with_reducible exact LeO.refl _)
      | (with_reducible exact LeO.none _)
      | (with_reducible refine LeO.ite ?_ ?_)
      | (with_reducible refine LeO.bind ?_ (fun _ => ?_))
      | exact ih0 _ _ _ _ _ _ _
      | exact ih1 _ _ _ _ _ _ _ _
      | exact stanchionref01_Less.mono _ _ _
      | exact stanchionref05_Find.mono _ _ _
      | exact LeO.none _
      | refine LeO.ite ?_ ?_
      | refine LeO.bind ?_ (fun _ => ?_)

/-! ### stanchionref05_Drop (function 24): what it is -/
def stanchionref05_Drop.l0 : Nat → List (S59) → ByteArray → List (S59) → Int → Option ((List (S59)))
  | 0, _, _, _, _ => none
  | k + 1, x0, x1, x5, x6 => if x6 < (x0.length : Int) then (if 0 ≤ x6 then (if ((rd_T59 x0 x6).f0).toList = x1.toList then (stanchionref05_Drop.l0 k x0 x1 x5 (wrap64 (x6 + 1))) else (if x5.length < 4398046511104 then (stanchionref05_Drop.l0 k x0 x1 (x5 ++ [(⟨(rd_T59 x0 x6).f0, (rd_T59 x0 x6).f1⟩ : S59)]) (wrap64 (x6 + 1))) else (none))) else (none)) else (some x5)
def stanchionref05_Drop.f (k : Nat) (l0 : List (S59)) (a1 : ByteArray) : Option ((List (S59))) := stanchionref05_Drop.l0 k l0 a1 ([] : List (S59)) 0
theorem stanchionref05_Drop.mono_l : ∀ k, (∀ y0 y1 y2 y3, LeO (stanchionref05_Drop.l0 k y0 y1 y2 y3) (stanchionref05_Drop.l0 (k + 1) y0 y1 y2 y3))
  | 0 => fun _ _ _ _ r h => by simp [stanchionref05_Drop.l0] at h
  | k + 1 => by
    have ih0 := stanchionref05_Drop.mono_l k
    · intro y0 y1 y2 y3
      unfold stanchionref05_Drop.l0
      repeat' first
      | (with_reducible exact ih0 _ _ _ _)
      | (with_reducible exact LeO.refl _)
      | (with_reducible exact LeO.none _)
      | (with_reducible refine LeO.ite ?_ ?_)
      | (with_reducible refine LeO.bind ?_ (fun _ => ?_))
      | exact ih0 _ _ _ _
      | exact LeO.none _
      | refine LeO.ite ?_ ?_
      | refine LeO.bind ?_ (fun _ => ?_)
theorem stanchionref05_Drop.mono : ∀ a0 a1 k, LeO (stanchionref05_Drop.f k a0 a1) (stanchionref05_Drop.f (k + 1) a0 a1) := by
  intro a0 a1 k
  have ih0 := stanchionref05_Drop.mono_l k
  unfold stanchionref05_Drop.f
  repeat' first
      | (with_reducible exact ih0 _ _ _ _)
      | (with_reducible exact LeO.refl _)
      | (with_reducible exact LeO.none _)
      | (with_reducible refine LeO.ite ?_ ?_)
      | (with_reducible refine LeO.bind ?_ (fun _ => ?_))
      | exact ih0 _ _ _ _
      | exact LeO.none _
      | refine LeO.ite ?_ ?_
      | refine LeO.bind ?_ (fun _ => ?_)

/-! ### table_Apply: function 25 -/
def applyF59 : List S59 → List S56 → Option (List S59)
  | l, [] => some l
  | l, x :: ws => (if x.f2 = true then table_Drop.f l x.f0 else table_Put.f l x.f0 x.f1).bind fun y => applyF59 y ws
def table_Apply.f (l0 : List S59) (l1 : List S56) : Option (List S59) := (api_Pair_28.f l0).bind fun y => applyF59 y l1

/-! ### stanchionref05_Apply (function 26): what it is -/
def stanchionref05_Apply.l0 : Nat → List (S56) → List (S59) → Int → Option ((List (S59)))
  | 0, _, _, _ => none
  | k + 1, x1, x5, x6 => if x6 < (x1.length : Int) then (if 0 ≤ x6 then (if (rd_T56 x1 x6).f2 = true then ((stanchionref05_Drop.f k x5 ((rd_T56 x1 x6).f0)).bind fun t274 => (stanchionref05_Apply.l0 k x1 t274 (wrap64 (x6 + 1)))) else ((stanchionref05_Put.f k x5 ((rd_T56 x1 x6).f0) ((rd_T56 x1 x6).f1)).bind fun t279 => (stanchionref05_Apply.l0 k x1 t279 (wrap64 (x6 + 1))))) else (none)) else (some x5)
def stanchionref05_Apply.f (k : Nat) (l0 : List (S59)) (l1 : List (S56)) : Option ((List (S59))) := (some (([] : List (S59)) : List (S59))).bind fun y266 => (if y266.length + l0.length < 4398046511104 then (stanchionref05_Apply.l0 k l1 (y266 ++ l0) 0) else (none))
theorem stanchionref05_Apply.mono_l : ∀ k, (∀ y0 y1 y2, LeO (stanchionref05_Apply.l0 k y0 y1 y2) (stanchionref05_Apply.l0 (k + 1) y0 y1 y2))
  | 0 => fun _ _ _ r h => by simp [stanchionref05_Apply.l0] at h
  | k + 1 => by
    have ih0 := stanchionref05_Apply.mono_l k
    · intro y0 y1 y2
      unfold stanchionref05_Apply.l0
      repeat' first
      | (with_reducible exact ih0 _ _ _)
      | (with_reducible exact stanchionref05_Drop.mono _ _ _)
      | (with_reducible exact stanchionref05_Put.mono _ _ _ _)
      | (with_reducible exact LeO.refl _)
      | (with_reducible exact LeO.none _)
      | (with_reducible refine LeO.ite ?_ ?_)
      | (with_reducible refine LeO.bind ?_ (fun _ => ?_))
      | exact ih0 _ _ _
      | exact stanchionref05_Drop.mono _ _ _
      | exact stanchionref05_Put.mono _ _ _ _
      | exact LeO.none _
      | refine LeO.ite ?_ ?_
      | refine LeO.bind ?_ (fun _ => ?_)
theorem stanchionref05_Apply.mono : ∀ a0 a1 k, LeO (stanchionref05_Apply.f k a0 a1) (stanchionref05_Apply.f (k + 1) a0 a1) := by
  intro a0 a1 k
  have ih0 := stanchionref05_Apply.mono_l k
  unfold stanchionref05_Apply.f
  repeat' first
      | (with_reducible exact ih0 _ _ _)
      | (with_reducible exact stanchionref05_Drop.mono _ _ _)
      | (with_reducible exact stanchionref05_Put.mono _ _ _ _)
      | (with_reducible exact LeO.refl _)
      | (with_reducible exact LeO.none _)
      | (with_reducible refine LeO.ite ?_ ?_)
      | (with_reducible refine LeO.bind ?_ (fun _ => ?_))
      | exact ih0 _ _ _
      | exact stanchionref05_Drop.mono _ _ _
      | exact stanchionref05_Put.mono _ _ _ _
      | exact LeO.none _
      | refine LeO.ite ?_ ?_
      | refine LeO.bind ?_ (fun _ => ?_)

/-! ### stanchionlaw05_TablePuts (function 8): what it is -/
def stanchionlaw05_TablePuts.f (k : Nat) (l0_0 : List (S59)) (a0_1 : ByteArray) (a0_2 : ByteArray) (l0_3 : List (S56)) : Option (Bool) := (stanchionlaw05_shown.f k).bind fun t283 => ((table_Put.f l0_0 a0_1 a0_2).bind fun t284 => ((stanchionref05_Put.f k l0_0 a0_1 a0_2).bind fun t287 => ((stanchionref05_Same.f k t284 t287).bind fun t290 => ((table_Drop.f l0_0 a0_1).bind fun t291 => ((stanchionref05_Drop.f k l0_0 a0_1).bind fun t294 => ((stanchionref05_Same.f k t291 t294).bind fun t297 => (if t283 = true then (if t290 = true then (if t297 = true then ((table_Apply.f l0_0 l0_3).bind fun t298 => ((stanchionref05_Apply.f k l0_0 l0_3).bind fun t301 => ((stanchionref05_Same.f k t298 t301).bind fun t304 => (some t304)))) else (some false)) else (some false)) else (some false))))))))
theorem stanchionlaw05_TablePuts.mono : ∀ a0 a1 a2 a3 k, LeO (stanchionlaw05_TablePuts.f k a0 a1 a2 a3) (stanchionlaw05_TablePuts.f (k + 1) a0 a1 a2 a3) := by
  intro a0 a1 a2 a3 k
  unfold stanchionlaw05_TablePuts.f
  repeat' first
      | (with_reducible exact stanchionlaw05_shown.mono _)
      | (with_reducible exact stanchionref05_Apply.mono _ _ _)
      | (with_reducible exact stanchionref05_Drop.mono _ _ _)
      | (with_reducible exact stanchionref05_Put.mono _ _ _ _)
      | (with_reducible exact stanchionref05_Same.mono _ _ _)
      | (with_reducible exact LeO.refl _)
      | (with_reducible exact LeO.none _)
      | (with_reducible refine LeO.ite ?_ ?_)
      | (with_reducible refine LeO.bind ?_ (fun _ => ?_))
      | exact stanchionlaw05_shown.mono _
      | exact stanchionref05_Apply.mono _ _ _
      | exact stanchionref05_Drop.mono _ _ _
      | exact stanchionref05_Put.mono _ _ _ _
      | exact stanchionref05_Same.mono _ _ _
      | exact LeO.none _
      | refine LeO.ite ?_ ?_
      | refine LeO.bind ?_ (fun _ => ?_)

/-! ### stanchionlaw05_TableStays (function 9): what it is -/
def stanchionlaw05_TableStays.j0 : Nat → List (S59) → ByteArray → ByteArray → List (S56) → ByteArray → ByteArray → Bool → Bool → Option (Bool)
  | 0, _, _, _, _, _, _, _, _ => none
  | k + 1, x3, x4, x5, x6, x7, x8, x9, x40 => if x40 = true then (some x9) else ((table_Put.f x3 x4 x5).bind fun t308 => ((table_Drop.f x3 x4).bind fun t311 => ((table_Apply.f x3 x6).bind fun t314 => ((table_Range.f k x3 x7 x8 (x3.length : Int)).bind fun t317 => ((table_Find.f t308 x4).bind fun bt320 => ((table_Find.f t311 x4).bind fun bt322 => ((stanchionref05_Right.f k t308).bind fun t324 => (if t324 = true then ((stanchionref05_Right.f k t311).bind fun t325 => (if t325 = true then ((stanchionref05_Right.f k t314).bind fun t326 => (if t326 = true then ((stanchionref05_Right.f k t317).bind fun t327 => (if t327 = true then (if bt320.2 = true then (if bt320.1.toList = x5.toList then (some (!bt322.2)) else (some false)) else (some false)) else (some false))) else (some false))) else (some false))) else (some false)))))))))
def stanchionlaw05_TableStays.f (k : Nat) (l0_0 : List (S59)) (a0_1 : ByteArray) (a0_2 : ByteArray) (l0_3 : List (S56)) (a0_4 : ByteArray) (a0_5 : ByteArray) : Option (Bool) := (stanchionlaw05_shown.f k).bind fun t306 => ((stanchionref05_Right.f k l0_0).bind fun t307 => (if t306 = true then (stanchionlaw05_TableStays.j0 k l0_0 a0_1 a0_2 l0_3 a0_4 a0_5 t306 (!t307)) else (stanchionlaw05_TableStays.j0 k l0_0 a0_1 a0_2 l0_3 a0_4 a0_5 t306 true)))
theorem stanchionlaw05_TableStays.mono_l : ∀ k, (∀ y0 y1 y2 y3 y4 y5 y6 y7, LeO (stanchionlaw05_TableStays.j0 k y0 y1 y2 y3 y4 y5 y6 y7) (stanchionlaw05_TableStays.j0 (k + 1) y0 y1 y2 y3 y4 y5 y6 y7))
  | 0 => fun _ _ _ _ _ _ _ _ r h => by simp [stanchionlaw05_TableStays.j0] at h
  | k + 1 => by
    have ih0 := stanchionlaw05_TableStays.mono_l k
    · intro y0 y1 y2 y3 y4 y5 y6 y7
      unfold stanchionlaw05_TableStays.j0
      repeat' first
      | (with_reducible exact ih0 _ _ _ _ _ _ _ _)
      | (with_reducible exact stanchionlaw05_shown.mono _)
      | (with_reducible exact stanchionref05_Right.mono _ _)
      | (with_reducible exact table_Range.mono _ _ _ _ _)
      | (with_reducible exact LeO.refl _)
      | (with_reducible exact LeO.none _)
      | (with_reducible refine LeO.ite ?_ ?_)
      | (with_reducible refine LeO.bind ?_ (fun _ => ?_))
      | exact ih0 _ _ _ _ _ _ _ _
      | exact stanchionlaw05_shown.mono _
      | exact stanchionref05_Right.mono _ _
      | exact table_Range.mono _ _ _ _ _
      | exact LeO.none _
      | refine LeO.ite ?_ ?_
      | refine LeO.bind ?_ (fun _ => ?_)
theorem stanchionlaw05_TableStays.mono : ∀ a0 a1 a2 a3 a4 a5 k, LeO (stanchionlaw05_TableStays.f k a0 a1 a2 a3 a4 a5) (stanchionlaw05_TableStays.f (k + 1) a0 a1 a2 a3 a4 a5) := by
  intro a0 a1 a2 a3 a4 a5 k
  have ih0 := stanchionlaw05_TableStays.mono_l k
  unfold stanchionlaw05_TableStays.f
  repeat' first
      | (with_reducible exact ih0 _ _ _ _ _ _ _ _)
      | (with_reducible exact stanchionlaw05_shown.mono _)
      | (with_reducible exact stanchionref05_Right.mono _ _)
      | (with_reducible exact table_Range.mono _ _ _ _ _)
      | (with_reducible exact LeO.refl _)
      | (with_reducible exact LeO.none _)
      | (with_reducible refine LeO.ite ?_ ?_)
      | (with_reducible refine LeO.bind ?_ (fun _ => ?_))
      | exact ih0 _ _ _ _ _ _ _ _
      | exact stanchionlaw05_shown.mono _
      | exact stanchionref05_Right.mono _ _
      | exact table_Range.mono _ _ _ _ _
      | exact LeO.none _
      | refine LeO.ite ?_ ?_
      | refine LeO.bind ?_ (fun _ => ?_)

/-! ### stanchionlaw05_TableLast (function 10): what it is -/
mutual
def stanchionlaw05_TableLast.j0 : Nat → List (S59) → List (S56) → ByteArray → Bool → ByteArray → Bool → Bool → Option (Bool)
  | 0, _, _, _, _, _, _, _ => none
  | k + 1, x0, x1, x2, x7, x9, x10, x28 => if x28 = true then (some x7) else (stanchionlaw05_TableLast.l0 k x0 x1 x2 x9 x10 0)
def stanchionlaw05_TableLast.l0 : Nat → List (S59) → List (S56) → ByteArray → ByteArray → Bool → Int → Option (Bool)
  | 0, _, _, _, _, _, _ => none
  | k + 1, x0, x1, x2, x9, x10, x11 => if x11 < (x1.length : Int) then (if 0 ≤ x11 then (if ((rd_T56 x1 x11).f0).toList = x2.toList then (if (rd_T56 x1 x11).f2 = true then (stanchionlaw05_TableLast.l0 k x0 x1 x2 (⟨#[]⟩ : ByteArray) (!((rd_T56 x1 x11).f2)) (wrap64 (x11 + 1))) else (stanchionlaw05_TableLast.l0 k x0 x1 x2 ((rd_T56 x1 x11).f1) (!((rd_T56 x1 x11).f2)) (wrap64 (x11 + 1)))) else (stanchionlaw05_TableLast.l0 k x0 x1 x2 x9 x10 (wrap64 (x11 + 1)))) else (none)) else ((table_Apply.f x0 x1).bind fun t332 => ((table_Find.f t332 x2).bind fun bt335 => (if x9.toList = bt335.1.toList then (some (x10 == bt335.2)) else (some false))))
end
def stanchionlaw05_TableLast.f (k : Nat) (l0 : List (S59)) (l1 : List (S56)) (a2 : ByteArray) : Option (Bool) := (stanchionlaw05_shown.f k).bind fun t328 => ((table_Right.f k l0).bind fun t329 => ((table_Find.f l0 a2).bind fun bt330 => (if t328 = true then (stanchionlaw05_TableLast.j0 k l0 l1 a2 t328 bt330.1 bt330.2 (!t329)) else (stanchionlaw05_TableLast.j0 k l0 l1 a2 t328 bt330.1 bt330.2 true))))
theorem stanchionlaw05_TableLast.mono_l : ∀ k, (∀ y0 y1 y2 y3 y4 y5 y6, LeO (stanchionlaw05_TableLast.j0 k y0 y1 y2 y3 y4 y5 y6) (stanchionlaw05_TableLast.j0 (k + 1) y0 y1 y2 y3 y4 y5 y6)) ∧ (∀ y0 y1 y2 y3 y4 y5, LeO (stanchionlaw05_TableLast.l0 k y0 y1 y2 y3 y4 y5) (stanchionlaw05_TableLast.l0 (k + 1) y0 y1 y2 y3 y4 y5))
  | 0 => ⟨fun _ _ _ _ _ _ _ r h => by simp [stanchionlaw05_TableLast.j0] at h, fun _ _ _ _ _ _ r h => by simp [stanchionlaw05_TableLast.l0] at h⟩
  | k + 1 => by
    obtain ⟨ih0, ih1⟩ := stanchionlaw05_TableLast.mono_l k
    refine ⟨?_, ?_⟩
    · intro y0 y1 y2 y3 y4 y5 y6
      unfold stanchionlaw05_TableLast.j0
      repeat' first
      | (with_reducible exact ih0 _ _ _ _ _ _ _)
      | (with_reducible exact ih1 _ _ _ _ _ _)
      | (with_reducible exact stanchionlaw05_shown.mono _)
      | (with_reducible exact table_Right.mono _ _)
      | (with_reducible exact LeO.refl _)
      | (with_reducible exact LeO.none _)
      | (with_reducible refine LeO.ite ?_ ?_)
      | (with_reducible refine LeO.bind ?_ (fun _ => ?_))
      | exact ih0 _ _ _ _ _ _ _
      | exact ih1 _ _ _ _ _ _
      | exact stanchionlaw05_shown.mono _
      | exact table_Right.mono _ _
      | exact LeO.none _
      | refine LeO.ite ?_ ?_
      | refine LeO.bind ?_ (fun _ => ?_)
    · intro y0 y1 y2 y3 y4 y5
      unfold stanchionlaw05_TableLast.l0
      repeat' first
      | (with_reducible exact ih0 _ _ _ _ _ _ _)
      | (with_reducible exact ih1 _ _ _ _ _ _)
      | (with_reducible exact stanchionlaw05_shown.mono _)
      | (with_reducible exact table_Right.mono _ _)
      | (with_reducible exact LeO.refl _)
      | (with_reducible exact LeO.none _)
      | (with_reducible refine LeO.ite ?_ ?_)
      | (with_reducible refine LeO.bind ?_ (fun _ => ?_))
      | exact ih0 _ _ _ _ _ _ _
      | exact ih1 _ _ _ _ _ _
      | exact stanchionlaw05_shown.mono _
      | exact table_Right.mono _ _
      | exact LeO.none _
      | refine LeO.ite ?_ ?_
      | refine LeO.bind ?_ (fun _ => ?_)
theorem stanchionlaw05_TableLast.mono : ∀ a0 a1 a2 k, LeO (stanchionlaw05_TableLast.f k a0 a1 a2) (stanchionlaw05_TableLast.f (k + 1) a0 a1 a2) := by
  intro a0 a1 a2 k
  obtain ⟨ih0, ih1⟩ := stanchionlaw05_TableLast.mono_l k
  unfold stanchionlaw05_TableLast.f
  repeat' first
      | (with_reducible exact ih0 _ _ _ _ _ _ _)
      | (with_reducible exact ih1 _ _ _ _ _ _)
      | (with_reducible exact stanchionlaw05_shown.mono _)
      | (with_reducible exact table_Right.mono _ _)
      | (with_reducible exact LeO.refl _)
      | (with_reducible exact LeO.none _)
      | (with_reducible refine LeO.ite ?_ ?_)
      | (with_reducible refine LeO.bind ?_ (fun _ => ?_))
      | exact ih0 _ _ _ _ _ _ _
      | exact ih1 _ _ _ _ _ _
      | exact stanchionlaw05_shown.mono _
      | exact table_Right.mono _ _
      | exact LeO.none _
      | refine LeO.ite ?_ ?_
      | refine LeO.bind ?_ (fun _ => ?_)

/-! ### table_Between: function 20 -/
set_option maxHeartbeats 8000000 in
set_option maxRecDepth 100000 in
theorem table_Between.calls (a0 : ByteArray) (a1 : ByteArray) (a2 : ByteArray) (r : Bool) (w : World) (h : table_Between.f a0 a1 a2 = some r) :
    Calls Try.prog 20 #[.string a0, .string a1, .string a2] w fun e w' => e = .returned (.bool r) ∧ Drawn0 w w' := by
  have H : (if ((Op.bytesLess a0.toList a1.toList) = true) then (some false) else (if a2.toList = ([] : List UInt8) then (some true) else (some (Op.bytesLess a0.toList a2.toList)))) = some r := h
  clear h
  by_cases c4 : ((Op.bytesLess a0.toList a1.toList) = true)
  · rw [if_pos c4] at H
    have c4b0 : (Op.bytesLess a0.toList a1.toList) = true := c4
    clear c4
    obtain rfl := Option.some.inj H
    go_enter Try.func20, Try.ntmps20
    go_wp2
    go_ret
    exact ⟨by first | rfl | (simp; done) | (simp [*]; done), by repeat (first | exact Drawn0.refl _ | apply Drawn0.step)⟩
  · rw [if_neg c4] at H
    have c4b0 : (Op.bytesLess a0.toList a1.toList) = false := by simpa using c4
    clear c4
    by_cases c5 : a2.toList = ([] : List UInt8)
    · rw [if_pos c5] at H
      have c5b0 : (a2.toList == ([] : List UInt8)) = true := beq_iff_eq.mpr c5
      have c5b1 : (a2.toList != ([] : List UInt8)) = false := bne_eq_false_iff_eq.mpr c5
      clear c5
      obtain rfl := Option.some.inj H
      go_enter Try.func20, Try.ntmps20
      go_wp2
      go_ret
      exact ⟨by first | rfl | (simp; done) | (simp [*]; done), by repeat (first | exact Drawn0.refl _ | apply Drawn0.step)⟩
    · rw [if_neg c5] at H
      have c5b0 : (a2.toList == ([] : List UInt8)) = false := beq_eq_false_iff_ne.mpr c5
      have c5b1 : (a2.toList != ([] : List UInt8)) = true := bne_iff_ne.mpr c5
      obtain rfl := Option.some.inj H
      go_enter Try.func20, Try.ntmps20
      go_wp2
      go_ret
      exact ⟨by first | rfl | (simp; done) | (simp [*]; done), by repeat (first | exact Drawn0.refl _ | apply Drawn0.step)⟩

end Go.Proofs.Ytdoamckcibcdcaa.PB
