-- Made by a program of this workplace out of the translation (wip/tools in the repo). Not trusted: Lean checks it.
import Derived.Test.YtdoamckcibcdcaaPBx0
namespace Go.Proofs.Ytdoamckcibcdcaa.PB
open Go.RowKit Go.Proofs.YtdoamckcibcdcaaW.PrintWords Go.Proofs.YtdoamckcibcdcaaW.PrintLast Go.Proofs.YtdoamckcibcdcaaW.PrintMore
attribute [local go_sem] max2_int min2_int max_two min_two max_three min_three max_four min_four   -- for this text's walks alone
set_option linter.unusedVariables false
set_option linter.unusedSimpArgs false

/-! ### table_Between (function 20): what it is -/
def table_Between.f (a0 : ByteArray) (a1 : ByteArray) (a2 : ByteArray) : Option (Bool) := if ((Op.bytesLess a0.toList a1.toList) = true) then (some false) else (if a2.toList = ([] : List UInt8) then (some true) else (some (Op.bytesLess a0.toList a2.toList)))

/-! ### table_Range (function 13): what it is -/
def table_Range.l0 : Nat → ByteArray → ByteArray → Int → List (S59) → List (S59) → Int → Int → Option ((List (S59)))
  | 0, _, _, _, _, _, _, _ => none
  | k + 1, x1, x2, x3, x9, x12, x13, x14 => if x14 < x13 then (if 0 ≤ x14 then (if x14 < (x12.length : Int) then (if (x9.length : Int) ≥ x3 then (some x9) else ((table_Between.f ((rd_T59 x12 x14).f0) x1 x2).bind fun t103 => (if t103 = true then (if x9.length < 4398046511104 then (table_Range.l0 k x1 x2 x3 (x9 ++ [(⟨(rd_T59 x12 x14).f0, (rd_T59 x12 x14).f1⟩ : S59)]) x12 x13 (wrap64 (x14 + 1))) else (none)) else (table_Range.l0 k x1 x2 x3 x9 x12 x13 (wrap64 (x14 + 1)))))) else (none)) else (none)) else (some x9)
def table_Range.f (k : Nat) (l0 : List (S59)) (a1 : ByteArray) (a2 : ByteArray) (a3 : Int) : Option ((List (S59))) := table_Range.l0 k a1 a2 a3 ([] : List (S59)) l0 (l0.length : Int) 0
theorem table_Range.mono_l : ∀ k, (∀ y0 y1 y2 y3 y4 y5 y6, LeO (table_Range.l0 k y0 y1 y2 y3 y4 y5 y6) (table_Range.l0 (k + 1) y0 y1 y2 y3 y4 y5 y6))
  | 0 => fun _ _ _ _ _ _ _ r h => by simp [table_Range.l0] at h
  | k + 1 => by
    have ih0 := table_Range.mono_l k
    · intro y0 y1 y2 y3 y4 y5 y6
      unfold table_Range.l0
      repeat' first
      | (with_reducible exact ih0 _ _ _ _ _ _ _)
      | (with_reducible exact LeO.refl _)
      | (with_reducible exact LeO.none _)
      | (with_reducible refine LeO.ite ?_ ?_)
      | (with_reducible refine LeO.bind ?_ (fun _ => ?_))
      | exact ih0 _ _ _ _ _ _ _
      | exact LeO.none _
      | refine LeO.ite ?_ ?_
      | refine LeO.bind ?_ (fun _ => ?_)
theorem table_Range.mono : ∀ a0 a1 a2 a3 k, LeO (table_Range.f k a0 a1 a2 a3) (table_Range.f (k + 1) a0 a1 a2 a3) := by
  intro a0 a1 a2 a3 k
  have ih0 := table_Range.mono_l k
  unfold table_Range.f
  repeat' first
      | (with_reducible exact ih0 _ _ _ _ _ _ _)
      | (with_reducible exact LeO.refl _)
      | (with_reducible exact LeO.none _)
      | (with_reducible refine LeO.ite ?_ ?_)
      | (with_reducible refine LeO.bind ?_ (fun _ => ?_))
      | exact ih0 _ _ _ _ _ _ _
      | exact LeO.none _
      | refine LeO.ite ?_ ?_
      | refine LeO.bind ?_ (fun _ => ?_)

/-! ### api_Pair_28 (function 28): what it is -/
def api_Pair_28.f (l0 : List (S59)) : Option ((List (S59))) := (some (([] : List (S59)) : List (S59))).bind fun y107 => (if y107.length + l0.length < 4398046511104 then (some (y107 ++ l0)) else (none))

/-! ### api_Pair_30: function 30 -/
def ixOf {α : Type} (p : α → Bool) (l : List α) : Int := if l.findIdx p < l.length then ((l.findIdx p : Nat) : Int) else -1
theorem ixOf_hit {α : Type} (p : α → Bool) (l : List α) (d : α) (k : Nat) (h : k < l.length) (hk : p (l.getD k d) = true) (hn : ∀ j, j < k → p (l.getD j d) = false) : ixOf p l = (k : Int) := by
  have e : l.findIdx p = k := by
    rw [List.findIdx_eq h]
    refine ⟨by rw [List.getD_eq_getElem?_getD, List.getElem?_eq_getElem h] at hk; exact hk, fun j hj => ?_⟩
    have := hn j hj
    rw [List.getD_eq_getElem?_getD, List.getElem?_eq_getElem (by omega)] at this
    exact this
  unfold ixOf
  rw [e, if_pos h]
theorem ixOf_miss {α : Type} (p : α → Bool) (l : List α) (d : α) (hn : ∀ j, j < l.length → p (l.getD j d) = false) : ixOf p l = -1 := by
  unfold ixOf
  rw [if_neg]
  intro h
  have h1 := List.findIdx_getElem (w := h) (p := p) (xs := l)
  have h2 := hn _ h
  rw [List.getD_eq_getElem?_getD, List.getElem?_eq_getElem h] at h2
  have h3 : p l[l.findIdx p] = false := h2
  rw [h3] at h1
  cases h1
theorem ixOf_cases {α : Type} (p : α → Bool) (l : List α) : ixOf p l = -1 ∨ ∃ i : Nat, i < l.length ∧ ixOf p l = (i : Int) := by
  unfold ixOf
  split
  · exact .inr ⟨_, by assumption, rfl⟩
  · exact .inl rfl

/-! ### table_at: function 29 -/
def table_at.f (l0 : List S59) (a1 : ByteArray) : Option Int := some (ixOf (fun x => x.f0.toList == a1.toList) l0)


/-! ### table_Put: function 15 -/
def gtK59 (key : ByteArray) (x : S59) : Bool := !Op.bytesLess x.f0.toList key.toList && !x.f0.toList == key.toList
def eqK59 (key : ByteArray) (x : S59) : Bool := x.f0.toList == key.toList
def putL59 (l : List S59) (key val : ByteArray) : List S59 :=
  if 0 ≤ ixOf (eqK59 key) l then l.set (ixOf (eqK59 key) l).toNat ⟨key, val⟩
  else if ixOf (gtK59 key) l < 0 then l ++ [⟨key, val⟩]
  else l.take (ixOf (gtK59 key) l).toNat ++ ⟨key, val⟩ :: l.drop (ixOf (gtK59 key) l).toNat
def table_Put.f (l0 : List S59) (a1 a2 : ByteArray) : Option (List S59) := (api_Pair_28.f l0).bind fun y => if y.length < 4398046511104 then some (putL59 y a1 a2) else none

/-! ### stanchionlaw05_shown (function 11): what it is -/
def stanchionlaw05_shown.f (k : Nat)  : Option (Bool) := (table_Put.f ([] : List (S59)) (⟨#[98]⟩ : ByteArray) (⟨#[50]⟩ : ByteArray)).bind fun t113 => ((table_Put.f t113 (⟨#[97]⟩ : ByteArray) (⟨#[49]⟩ : ByteArray)).bind fun t116 => ((table_Range.f k t116 (⟨#[97]⟩ : ByteArray) (⟨#[98]⟩ : ByteArray) 9).bind fun t119 => (if (t116.length : Int) = 2 then (if 0 < (t116.length : Int) then (if ((rd_T59 t116 0).f0).toList = ([97] : List UInt8) then (if (t119.length : Int) = 1 then (if 0 < (t119.length : Int) then (some (((rd_T59 t119 0).f1).toList == ([49] : List UInt8))) else (none)) else (some false)) else (some false)) else (none)) else (some false))))
theorem stanchionlaw05_shown.mono : ∀ k, LeO (stanchionlaw05_shown.f k ) (stanchionlaw05_shown.f (k + 1) ) := by
  intro  k
  unfold stanchionlaw05_shown.f
  repeat' first
      | (with_reducible exact table_Range.mono _ _ _ _ _)
      | (with_reducible exact LeO.refl _)
      | (with_reducible exact LeO.none _)
      | (with_reducible refine LeO.ite ?_ ?_)
      | (with_reducible refine LeO.bind ?_ (fun _ => ?_))
      | exact table_Range.mono _ _ _ _ _
      | exact LeO.none _
      | refine LeO.ite ?_ ?_
      | refine LeO.bind ?_ (fun _ => ?_)

/-! ### stanchionref05_Same (function 14): what it is -/
def stanchionref05_Same.l0 : Nat → List (S59) → List (S59) → Int → Option (Bool)
  | 0, _, _, _ => none
  | k + 1, x0, x1, x5 => if x5 < (x0.length : Int) then (if 0 ≤ x5 then (if x5 < (x1.length : Int) then (if (!((((rd_T59 x0 x5).f0).toList) == (((rd_T59 x1 x5).f0).toList)) || (!((((rd_T59 x0 x5).f1).toList) == (((rd_T59 x1 x5).f1).toList)))) = true then (some false) else (stanchionref05_Same.l0 k x0 x1 (wrap64 (x5 + 1)))) else (none)) else (none)) else (some true)
def stanchionref05_Same.f (k : Nat) (l0 : List (S59)) (l1 : List (S59)) : Option (Bool) := if (l0.length : Int) = (l1.length : Int) then (stanchionref05_Same.l0 k l0 l1 0) else (some false)
theorem stanchionref05_Same.mono_l : ∀ k, (∀ y0 y1 y2, LeO (stanchionref05_Same.l0 k y0 y1 y2) (stanchionref05_Same.l0 (k + 1) y0 y1 y2))
  | 0 => fun _ _ _ r h => by simp [stanchionref05_Same.l0] at h
  | k + 1 => by
    have ih0 := stanchionref05_Same.mono_l k
    · intro y0 y1 y2
      unfold stanchionref05_Same.l0
      repeat' first
      | (with_reducible exact ih0 _ _ _)
      | (with_reducible exact LeO.refl _)
      | (with_reducible exact LeO.none _)
      | (with_reducible refine LeO.ite ?_ ?_)
      | (with_reducible refine LeO.bind ?_ (fun _ => ?_))
      | exact ih0 _ _ _
      | exact LeO.none _
      | refine LeO.ite ?_ ?_
      | refine LeO.bind ?_ (fun _ => ?_)
theorem stanchionref05_Same.mono : ∀ a0 a1 k, LeO (stanchionref05_Same.f k a0 a1) (stanchionref05_Same.f (k + 1) a0 a1) := by
  intro a0 a1 k
  have ih0 := stanchionref05_Same.mono_l k
  unfold stanchionref05_Same.f
  repeat' first
      | (with_reducible exact ih0 _ _ _)
      | (with_reducible exact LeO.refl _)
      | (with_reducible exact LeO.none _)
      | (with_reducible refine LeO.ite ?_ ?_)
      | (with_reducible refine LeO.bind ?_ (fun _ => ?_))
      | exact ih0 _ _ _
      | exact LeO.none _
      | refine LeO.ite ?_ ?_
      | refine LeO.bind ?_ (fun _ => ?_)


/-! ### table_Drop: function 22 -/
def dropL59 (l : List S59) (key : ByteArray) : List S59 := l.filter (fun x => !eqK59 key x)
def table_Drop.f (l0 : List S59) (a1 : ByteArray) : Option (List S59) := (api_Pair_28.f l0).bind fun y => some (dropL59 y a1)

/-! ### stanchionref05_Find (function 17): what it is -/
def stanchionref05_Find.l0 : Nat → List (S59) → ByteArray → Int → Option (ByteArray × Bool)
  | 0, _, _, _ => none
  | k + 1, x0, x1, x6 => if x6 < (x0.length : Int) then (if 0 ≤ x6 then (if ((rd_T59 x0 x6).f0).toList = x1.toList then (some ((rd_T59 x0 x6).f1, true)) else (stanchionref05_Find.l0 k x0 x1 (wrap64 (x6 + 1)))) else (none)) else (some ((⟨#[]⟩ : ByteArray), false))
def stanchionref05_Find.f (k : Nat) (l0 : List (S59)) (a1 : ByteArray) : Option (ByteArray × Bool) := stanchionref05_Find.l0 k l0 a1 0
theorem stanchionref05_Find.mono_l : ∀ k, (∀ y0 y1 y2, LeO (stanchionref05_Find.l0 k y0 y1 y2) (stanchionref05_Find.l0 (k + 1) y0 y1 y2))
  | 0 => fun _ _ _ r h => by simp [stanchionref05_Find.l0] at h
  | k + 1 => by
    have ih0 := stanchionref05_Find.mono_l k
    · intro y0 y1 y2
      unfold stanchionref05_Find.l0
      repeat' first
      | (with_reducible exact ih0 _ _ _)
      | (with_reducible exact LeO.refl _)
      | (with_reducible exact LeO.none _)
      | (with_reducible refine LeO.ite ?_ ?_)
      | (with_reducible refine LeO.bind ?_ (fun _ => ?_))
      | exact ih0 _ _ _
      | exact LeO.none _
      | refine LeO.ite ?_ ?_
      | refine LeO.bind ?_ (fun _ => ?_)
theorem stanchionref05_Find.mono : ∀ a0 a1 k, LeO (stanchionref05_Find.f k a0 a1) (stanchionref05_Find.f (k + 1) a0 a1) := by
  intro a0 a1 k
  have ih0 := stanchionref05_Find.mono_l k
  unfold stanchionref05_Find.f
  repeat' first
      | (with_reducible exact ih0 _ _ _)
      | (with_reducible exact LeO.refl _)
      | (with_reducible exact LeO.none _)
      | (with_reducible refine LeO.ite ?_ ?_)
      | (with_reducible refine LeO.bind ?_ (fun _ => ?_))
      | exact ih0 _ _ _
      | exact LeO.none _
      | refine LeO.ite ?_ ?_
      | refine LeO.bind ?_ (fun _ => ?_)

/-! ### stanchionref01_Less (function 27): what it is -/
mutual
def stanchionref01_Less.l0 : Nat → ByteArray → ByteArray → Int → Option (Bool)
  | 0, _, _, _ => none
  | k + 1, x0, x1, x5 => if x5 < (x0.size : Int) then (stanchionref01_Less.j1 k x0 x1 x5 (decide (x5 < (x1.size : Int)))) else (stanchionref01_Less.j1 k x0 x1 x5 false)
def stanchionref01_Less.j1 : Nat → ByteArray → ByteArray → Int → Bool → Option (Bool)
  | 0, _, _, _, _ => none
  | k + 1, x0, x1, x5, x15 => if x15 = true then (if 0 ≤ x5 then (if x5 < (x0.size : Int) then (if x5 < (x1.size : Int) then (if (bt x0 x5) = (bt x1 x5) then (stanchionref01_Less.l0 k x0 x1 (wrap64 (x5 + 1))) else (some (decide ((bt x0 x5) < (bt x1 x5))))) else (none)) else (none)) else (none)) else (some (decide ((x0.size : Int) < (x1.size : Int))))
end
def stanchionref01_Less.f (k : Nat) (a0 : ByteArray) (a1 : ByteArray) : Option (Bool) := stanchionref01_Less.l0 k a0 a1 0
theorem stanchionref01_Less.mono_l : ∀ k, (∀ y0 y1 y2, LeO (stanchionref01_Less.l0 k y0 y1 y2) (stanchionref01_Less.l0 (k + 1) y0 y1 y2)) ∧ (∀ y0 y1 y2 y3, LeO (stanchionref01_Less.j1 k y0 y1 y2 y3) (stanchionref01_Less.j1 (k + 1) y0 y1 y2 y3))
  | 0 => ⟨fun _ _ _ r h => by simp [stanchionref01_Less.l0] at h, fun _ _ _ _ r h => by simp [stanchionref01_Less.j1] at h⟩
  | k + 1 => by
    obtain ⟨ih0, ih1⟩ := stanchionref01_Less.mono_l k
    refine ⟨?_, ?_⟩
    · intro y0 y1 y2
      unfold stanchionref01_Less.l0
      repeat' first
      | (with_reducible exact ih0 _ _ _)
      | (with_reducible exact ih1 _ _ _ _)
      | (with_reducible exact LeO.refl _)
      | (with_reducible exact LeO.none _)
      | (with_reducible refine LeO.ite ?_ ?_)
      | (with_reducible refine LeO.bind ?_ (fun _ => ?_))
      | exact ih0 _ _ _
      | exact ih1 _ _ _ _
      | exact LeO.none _
      | refine LeO.ite ?_ ?_
      | refine LeO.bind ?_ (fun _ => ?_)
    · intro y0 y1 y2 y3
      unfold stanchionref01_Less.j1
      repeat' first
      | (with_reducible exact ih0 _ _ _)
      | (with_reducible exact ih1 _ _ _ _)
      | (with_reducible exact LeO.refl _)
      | (with_reducible exact LeO.none _)
      | (with_reducible refine LeO.ite ?_ ?_)
      | (with_reducible refine LeO.bind ?_ (fun _ => ?_))
      | exact ih0 _ _ _
      | exact ih1 _ _ _ _
      | exact LeO.none _
      | refine LeO.ite ?_ ?_
      | refine LeO.bind ?_ (fun _ => ?_)
theorem stanchionref01_Less.mono : ∀ a0 a1 k, LeO (stanchionref01_Less.f k a0 a1) (stanchionref01_Less.f (k + 1) a0 a1) := by
  intro a0 a1 k
  obtain ⟨ih0, ih1⟩ := stanchionref01_Less.mono_l k
  unfold stanchionref01_Less.f
  repeat' first
      | (with_reducible exact ih0 _ _ _)
      | (with_reducible exact ih1 _ _ _ _)
      | (with_reducible exact LeO.refl _)
      | (with_reducible exact LeO.none _)
      | (with_reducible refine LeO.ite ?_ ?_)
      | (with_reducible refine LeO.bind ?_ (fun _ => ?_))
      | exact ih0 _ _ _
      | exact ih1 _ _ _ _
      | exact LeO.none _
      | refine LeO.ite ?_ ?_
      | refine LeO.bind ?_ (fun _ => ?_)

/-! ### stanchionref05_Put (function 23): what it is -/
mutual
def stanchionref05_Put.l0 : Nat → List (S59) → ByteArray → ByteArray → Bool → List (S59) → Bool → Int → Option ((List (S59)))
  | 0, _, _, _, _, _, _, _ => none
  | k + 1, x0, x1, x2, x8, x9, x10, x11 => if x11 < (x0.length : Int) then (if x10 = true then (stanchionref05_Put.j1 k x0 x1 x2 x8 x9 x10 x11 false) else (if x8 = true then (if 0 ≤ x11 then (if ((rd_T59 x0 x11).f0).toList = x1.toList then (stanchionref05_Put.j1 k x0 x1 x2 x8 x9 x10 x11 true) else (stanchionref05_Put.j1 k x0 x1 x2 x8 x9 x10 x11 false)) else (none)) else (if 0 ≤ x11 then ((stanchionref01_Less.f k x1 ((rd_T59 x0 x11).f0)).bind fun t135 => (stanchionref05_Put.j1 k x0 x1 x2 x8 x9 x10 x11 t135)) else (none)))) else (if x10 = true then (some x9) else (if x9.length < 4398046511104 then (some (x9 ++ [(⟨x1, x2⟩ : S59)])) else (none)))
def stanchionref05_Put.j1 : Nat → List (S59) → ByteArray → ByteArray → Bool → List (S59) → Bool → Int → Bool → Option ((List (S59)))
  | 0, _, _, _, _, _, _, _, _ => none
  | k + 1, x0, x1, x2, x8, x9, x10, x11, x50 => if x50 = true then (if x9.length < 4398046511104 then ((some (x9 ++ [(⟨x1, x2⟩ : S59)] : List (S59))).bind fun y136 => (if x8 = true then (stanchionref05_Put.l0 k x0 x1 x2 x8 y136 true (wrap64 (x11 + 1))) else (if 0 ≤ x11 then (if x11 < (x0.length : Int) then (if y136.length < 4398046511104 then (stanchionref05_Put.l0 k x0 x1 x2 x8 (y136 ++ [(⟨(rd_T59 x0 x11).f0, (rd_T59 x0 x11).f1⟩ : S59)]) true (wrap64 (x11 + 1))) else (none)) else (none)) else (none)))) else (none)) else (if 0 ≤ x11 then (if x11 < (x0.length : Int) then (if x9.length < 4398046511104 then (stanchionref05_Put.l0 k x0 x1 x2 x8 (x9 ++ [(⟨(rd_T59 x0 x11).f0, (rd_T59 x0 x11).f1⟩ : S59)]) x10 (wrap64 (x11 + 1))) else (none)) else (none)) else (none))
end
def stanchionref05_Put.f (k : Nat) (l0 : List (S59)) (a1 : ByteArray) (a2 : ByteArray) : Option ((List (S59))) := (stanchionref05_Find.f k l0 a1).bind fun bt128 => (stanchionref05_Put.l0 k l0 a1 a2 bt128.2 ([] : List (S59)) false 0)
theorem stanchionref05_Put.mono_l : ∀ k, (∀ y0 y1 y2 y3 y4 y5 y6, LeO (stanchionref05_Put.l0 k y0 y1 y2 y3 y4 y5 y6) (stanchionref05_Put.l0 (k + 1) y0 y1 y2 y3 y4 y5 y6)) ∧ (∀ y0 y1 y2 y3 y4 y5 y6 y7, LeO (stanchionref05_Put.j1 k y0 y1 y2 y3 y4 y5 y6 y7) (stanchionref05_Put.j1 (k + 1) y0 y1 y2 y3 y4 y5 y6 y7))
  | 0 => ⟨fun _ _ _ _ _ _ _ r h => by simp [stanchionref05_Put.l0] at h, fun _ _ _ _ _ _ _ _ r h => by simp [stanchionref05_Put.j1] at h⟩
  | k + 1 => by
    obtain ⟨ih0, ih1⟩ := stanchionref05_Put.mono_l k
    refine ⟨?_, ?_⟩
    · intro y0 y1 y2 y3 y4 y5 y6
      unfold stanchionref05_Put.l0
      repeat' first
      | (with_reducible exact ih0 _ _ _ _ _ _ _)
      | (with_reducible exact ih1 _ _ _ _ _ _ _ _)
      | (with_reducible exact stanchionref01_Less.mono _ _ _)
      | (with_reducible exact stanchionref05_Find.mono _ _ _)
      | (with_reducible exact LeO.refl _)
      | (with_reducible exact LeO.none _)
      | (with_reducible refine LeO.ite ?_ ?_)
      | (with_reducible refine LeO.bind ?_ (fun _ => ?_))
      | exact ih0 _ _ _ _ _ _ _
      | exact ih1 _ _ _ _ _ _ _ _
      | exact stanchionref01_Less.mono _ _ _
      | exact stanchionref05_Find.mono _ _ _
      | exact LeO.none _
      | refine LeO.ite ?_ ?_
      | refine LeO.bind ?_ (fun _ => ?_)
    · intro y0 y1 y2 y3 y4 y5 y6 y7
      unfold stanchionref05_Put.j1
      repeat' first
      | (with_reducible exact ih0 _ _ _ _ _ _ _)
      | (with_reducible exact ih1 _ _ _ _ _ _ _ _)
      | (with_reducible exact stanchionref01_Less.mono _ _ _)
      | (with_reducible exact stanchionref05_Find.mono _ _ _)
      | (with_reducible exact LeO.refl _)
      | (with_reducible exact LeO.none _)
      | (with_reducible refine LeO.ite ?_ ?_)
      | (with_reducible refine LeO.bind ?_ (fun _ => ?_))
      | exact ih0 _ _ _ _ _ _ _
      | exact ih1 _ _ _ _ _ _ _ _
      | exact stanchionref01_Less.mono _ _ _
      | exact stanchionref05_Find.mono _ _ _
      | exact LeO.none _
      | refine LeO.ite ?_ ?_
      | refine LeO.bind ?_ (fun _ => ?_)
theorem stanchionref05_Put.mono : ∀ a0 a1 a2 k, LeO (stanchionref05_Put.f k a0 a1 a2) (stanchionref05_Put.f (k + 1) a0 a1 a2) := by
  intro a0 a1 a2 k
  obtain ⟨ih0, ih1⟩ := stanchionref05_Put.mono_l k
  unfold stanchionref05_Put.f
  repeat' first
      | (with_reducible exact ih0 _ _ _ _ _ _ _)
      | (with_reducible exact ih1 _ _ _ _ _ _ _ _)
      | (with_reducible exact stanchionref01_Less.mono _ _ _)
      | (with_reducible exact stanchionref05_Find.mono _ _ _)
      | (with_reducible exact LeO.refl _)
      | (with_reducible exact LeO.none _)
      | (with_reducible refine LeO.ite ?_ ?_)
      | (with_reducible refine LeO.bind ?_ (fun _ => ?_))
      | exact ih0 _ _ _ _ _ _ _
      | exact ih1 _ _ _ _ _ _ _ _
      | exact stanchionref01_Less.mono _ _ _
      | exact stanchionref05_Find.mono _ _ _
      | exact LeO.none _
      | refine LeO.ite ?_ ?_
      | refine LeO.bind ?_ (fun _ => ?_)

/-! ### stanchionref05_Drop (function 24): what it is -/
def stanchionref05_Drop.l0 : Nat → List (S59) → ByteArray → List (S59) → Int → Option ((List (S59)))
  | 0, _, _, _, _ => none
  | k + 1, x0, x1, x5, x6 => if x6 < (x0.length : Int) then (if 0 ≤ x6 then (if ((rd_T59 x0 x6).f0).toList = x1.toList then (stanchionref05_Drop.l0 k x0 x1 x5 (wrap64 (x6 + 1))) else (if x5.length < 4398046511104 then (stanchionref05_Drop.l0 k x0 x1 (x5 ++ [(⟨(rd_T59 x0 x6).f0, (rd_T59 x0 x6).f1⟩ : S59)]) (wrap64 (x6 + 1))) else (none))) else (none)) else (some x5)
def stanchionref05_Drop.f (k : Nat) (l0 : List (S59)) (a1 : ByteArray) : Option ((List (S59))) := stanchionref05_Drop.l0 k l0 a1 ([] : List (S59)) 0
theorem stanchionref05_Drop.mono_l : ∀ k, (∀ y0 y1 y2 y3, LeO (stanchionref05_Drop.l0 k y0 y1 y2 y3) (stanchionref05_Drop.l0 (k + 1) y0 y1 y2 y3))
  | 0 => fun _ _ _ _ r h => by simp [stanchionref05_Drop.l0] at h
  | k + 1 => by
    have ih0 := stanchionref05_Drop.mono_l k
    · intro y0 y1 y2 y3
      unfold stanchionref05_Drop.l0
      repeat' first
      | (with_reducible exact ih0 _ _ _ _)
      | (with_reducible exact LeO.refl _)
      | (with_reducible exact LeO.none _)
      | (with_reducible refine LeO.ite ?_ ?_)
      | (with_reducible refine LeO.bind ?_ (fun _ => ?_))
      | exact ih0 _ _ _ _
      | exact LeO.none _
      | refine LeO.ite ?_ ?_
      | refine LeO.bind ?_ (fun _ => ?_)
theorem stanchionref05_Drop.mono : ∀ a0 a1 k, LeO (stanchionref05_Drop.f k a0 a1) (stanchionref05_Drop.f (k + 1) a0 a1) := by
  intro a0 a1 k
  have ih0 := stanchionref05_Drop.mono_l k
  unfold stanchionref05_Drop.f
  repeat' first
      | (with_reducible exact ih0 _ _ _ _)
      | (with_reducible exact LeO.refl _)
      | (with_reducible exact LeO.none _)
      | (with_reducible refine LeO.ite ?_ ?_)
      | (with_reducible refine LeO.bind ?_ (fun _ => ?_))
      | exact ih0 _ _ _ _
      | exact LeO.none _
      | refine LeO.ite ?_ ?_
      | refine LeO.bind ?_ (fun _ => ?_)

/-! ### table_Apply: function 25 -/
def applyF59 : List S59 → List S56 → Option (List S59)
  | l, [] => some l
  | l, x :: ws => (if x.f2 = true then table_Drop.f l x.f0 else table_Put.f l x.f0 x.f1).bind fun y => applyF59 y ws
def table_Apply.f (l0 : List S59) (l1 : List S56) : Option (List S59) := (api_Pair_28.f l0).bind fun y => applyF59 y l1

/-! ### stanchionref05_Apply (function 26): what it is -/
def stanchionref05_Apply.l0 : Nat → List (S56) → List (S59) → Int → Option ((List (S59)))
  | 0, _, _, _ => none
  | k + 1, x1, x5, x6 => if x6 < (x1.length : Int) then (if 0 ≤ x6 then (if (rd_T56 x1 x6).f2 = true then ((stanchionref05_Drop.f k x5 ((rd_T56 x1 x6).f0)).bind fun t160 => (stanchionref05_Apply.l0 k x1 t160 (wrap64 (x6 + 1)))) else ((stanchionref05_Put.f k x5 ((rd_T56 x1 x6).f0) ((rd_T56 x1 x6).f1)).bind fun t165 => (stanchionref05_Apply.l0 k x1 t165 (wrap64 (x6 + 1))))) else (none)) else (some x5)
def stanchionref05_Apply.f (k : Nat) (l0 : List (S59)) (l1 : List (S56)) : Option ((List (S59))) := (some (([] : List (S59)) : List (S59))).bind fun y152 => (if y152.length + l0.length < 4398046511104 then (stanchionref05_Apply.l0 k l1 (y152 ++ l0) 0) else (none))
theorem stanchionref05_Apply.mono_l : ∀ k, (∀ y0 y1 y2, LeO (stanchionref05_Apply.l0 k y0 y1 y2) (stanchionref05_Apply.l0 (k + 1) y0 y1 y2))
  | 0 => fun _ _ _ r h => by simp [stanchionref05_Apply.l0] at h
  | k + 1 => by
    have ih0 := stanchionref05_Apply.mono_l k
    · intro y0 y1 y2
      unfold stanchionref05_Apply.l0
      repeat' first
      | (with_reducible exact ih0 _ _ _)
      | (with_reducible exact stanchionref05_Drop.mono _ _ _)
      | (with_reducible exact stanchionref05_Put.mono _ _ _ _)
      | (with_reducible exact LeO.refl _)
      | (with_reducible exact LeO.none _)
      | (with_reducible refine LeO.ite ?_ ?_)
      | (with_reducible refine LeO.bind ?_ (fun _ => ?_))
      | exact ih0 _ _ _
      | exact stanchionref05_Drop.mono _ _ _
      | exact stanchionref05_Put.mono _ _ _ _
      | exact LeO.none _
      | refine LeO.ite ?_ ?_
      | refine LeO.bind ?_ (fun _ => ?_)
theorem stanchionref05_Apply.mono : ∀ a0 a1 k, LeO (stanchionref05_Apply.f k a0 a1) (stanchionref05_Apply.f (k + 1) a0 a1) := by
  intro a0 a1 k
  have ih0 := stanchionref05_Apply.mono_l k
  unfold stanchionref05_Apply.f
  repeat' first
      | (with_reducible exact ih0 _ _ _)
      | (with_reducible exact stanchionref05_Drop.mono _ _ _)
      | (with_reducible exact stanchionref05_Put.mono _ _ _ _)
      | (with_reducible exact LeO.refl _)
      | (with_reducible exact LeO.none _)
      | (with_reducible refine LeO.ite ?_ ?_)
      | (with_reducible refine LeO.bind ?_ (fun _ => ?_))
      | exact ih0 _ _ _
      | exact stanchionref05_Drop.mono _ _ _
      | exact stanchionref05_Put.mono _ _ _ _
      | exact LeO.none _
      | refine LeO.ite ?_ ?_
      | refine LeO.bind ?_ (fun _ => ?_)

/-! ### stanchionlaw05_TablePuts (function 8): what it is -/
def stanchionlaw05_TablePuts.f (k : Nat) (l0_0 : List (S59)) (a0_1 : ByteArray) (a0_2 : ByteArray) (l0_3 : List (S56)) : Option (Bool) := (stanchionlaw05_shown.f k).bind fun t169 => ((table_Put.f l0_0 a0_1 a0_2).bind fun t170 => ((stanchionref05_Put.f k l0_0 a0_1 a0_2).bind fun t173 => ((stanchionref05_Same.f k t170 t173).bind fun t176 => ((table_Drop.f l0_0 a0_1).bind fun t177 => ((stanchionref05_Drop.f k l0_0 a0_1).bind fun t180 => ((stanchionref05_Same.f k t177 t180).bind fun t183 => (if t169 = true then (if t176 = true then (if t183 = true then ((table_Apply.f l0_0 l0_3).bind fun t184 => ((stanchionref05_Apply.f k l0_0 l0_3).bind fun t187 => ((stanchionref05_Same.f k t184 t187).bind fun t190 => (some t190)))) else (some false)) else (some false)) else (some false))))))))
theorem stanchionlaw05_TablePuts.mono : ∀ a0 a1 a2 a3 k, LeO (stanchionlaw05_TablePuts.f k a0 a1 a2 a3) (stanchionlaw05_TablePuts.f (k + 1) a0 a1 a2 a3) := by
  intro a0 a1 a2 a3 k
  unfold stanchionlaw05_TablePuts.f
  repeat' first
      | (with_reducible exact stanchionlaw05_shown.mono _)
      | (with_reducible exact stanchionref05_Apply.mono _ _ _)
      | (with_reducible exact stanchionref05_Drop.mono _ _ _)
      | (with_reducible exact stanchionref05_Put.mono _ _ _ _)
      | (with_reducible exact stanchionref05_Same.mono _ _ _)
      | (with_reducible exact LeO.refl _)
      | (with_reducible exact LeO.none _)
      | (with_reducible refine LeO.ite ?_ ?_)
      | (with_reducible refine LeO.bind ?_ (fun _ => ?_))
      | exact stanchionlaw05_shown.mono _
      | exact stanchionref05_Apply.mono _ _ _
      | exact stanchionref05_Drop.mono _ _ _
      | exact stanchionref05_Put.mono _ _ _ _
      | exact stanchionref05_Same.mono _ _ _
      | exact LeO.none _
      | refine LeO.ite ?_ ?_
      | refine LeO.bind ?_ (fun _ => ?_)

/-! ### stanchionref05_Right (function 12): what it is -/
def stanchionref05_Right.l0 : Nat → List (S59) → Int → Option (Bool)
  | 0, _, _ => none
  | k + 1, x0, x3 => if x3 < (x0.length : Int) then (if 0 ≤ (wrap64 (x3 - 1)) then (if (wrap64 (x3 - 1)) < (x0.length : Int) then (if 0 ≤ x3 then ((stanchionref01_Less.f k ((rd_T59 x0 (wrap64 (x3 - 1))).f0) ((rd_T59 x0 x3).f0)).bind fun t193 => (if t193 = true then (stanchionref05_Right.l0 k x0 (wrap64 (x3 + 1))) else (some false))) else (none)) else (none)) else (none)) else (some true)
def stanchionref05_Right.f (k : Nat) (l0 : List (S59)) : Option (Bool) := stanchionref05_Right.l0 k l0 1
theorem stanchionref05_Right.mono_l : ∀ k, (∀ y0 y1, LeO (stanchionref05_Right.l0 k y0 y1) (stanchionref05_Right.l0 (k + 1) y0 y1))
  | 0 => fun _ _ r h => by simp [stanchionref05_Right.l0] at h
  | k + 1 => by
    have ih0 := stanchionref05_Right.mono_l k
    · intro y0 y1
      unfold stanchionref05_Right.l0
      repeat' first
      | (with_reducible exact ih0 _ _)
      | (with_reducible exact stanchionref01_Less.mono _ _ _)
      | (with_reducible exact LeO.refl _)
      | (with_reducible exact LeO.none _)
      | (with_reducible refine LeO.ite ?_ ?_)
      | (with_reducible refine LeO.bind ?_ (fun _ => ?_))
      | exact ih0 _ _
      | exact stanchionref01_Less.mono _ _ _
      | exact LeO.none _
      | refine LeO.ite ?_ ?_
      | refine LeO.bind ?_ (fun _ => ?_)
theorem stanchionref05_Right.mono : ∀ a0 k, LeO (stanchionref05_Right.f k a0) (stanchionref05_Right.f (k + 1) a0) := by
  intro a0 k
  have ih0 := stanchionref05_Right.mono_l k
  unfold stanchionref05_Right.f
  repeat' first
      | (with_reducible exact ih0 _ _)
      | (with_reducible exact stanchionref01_Less.mono _ _ _)
      | (with_reducible exact LeO.refl _)
      | (with_reducible exact LeO.none _)
      | (with_reducible refine LeO.ite ?_ ?_)
      | (with_reducible refine LeO.bind ?_ (fun _ => ?_))
      | exact ih0 _ _
      | exact stanchionref01_Less.mono _ _ _
      | exact LeO.none _
      | refine LeO.ite ?_ ?_
      | refine LeO.bind ?_ (fun _ => ?_)

/-! ### table_Find (function 16): what it is -/
def table_Find.f (l0 : List (S59)) (a1 : ByteArray) : Option (ByteArray × Bool) := (table_at.f l0 a1).bind fun t194 => (if t194 < 0 then (some ((⟨#[]⟩ : ByteArray), false)) else (if 0 ≤ t194 then (if t194 < (l0.length : Int) then (some ((rd_T59 l0 t194).f1, true)) else (none)) else (none)))

/-! ### stanchionlaw05_TableStays (function 9): what it is -/
def stanchionlaw05_TableStays.j0 : Nat → List (S59) → ByteArray → ByteArray → List (S56) → ByteArray → ByteArray → Bool → Bool → Option (Bool)
  | 0, _, _, _, _, _, _, _, _ => none
  | k + 1, x3, x4, x5, x6, x7, x8, x9, x40 => if x40 = true then (some x9) else ((table_Put.f x3 x4 x5).bind fun t199 => ((table_Drop.f x3 x4).bind fun t202 => ((table_Apply.f x3 x6).bind fun t205 => ((table_Range.f k x3 x7 x8 (x3.length : Int)).bind fun t208 => ((table_Find.f t199 x4).bind fun bt211 => ((table_Find.f t202 x4).bind fun bt213 => ((stanchionref05_Right.f k t199).bind fun t215 => (if t215 = true then ((stanchionref05_Right.f k t202).bind fun t216 => (if t216 = true then ((stanchionref05_Right.f k t205).bind fun t217 => (if t217 = true then ((stanchionref05_Right.f k t208).bind fun t218 => (if t218 = true then (if bt211.2 = true then (if bt211.1.toList = x5.toList then (some (!bt213.2)) else (some false)) else (some false)) else (some false))) else (some false))) else (some false))) else (some false)))))))))
def stanchionlaw05_TableStays.f (k : Nat) (l0_0 : List (S59)) (a0_1 : ByteArray) (a0_2 : ByteArray) (l0_3 : List (S56)) (a0_4 : ByteArray) (a0_5 : ByteArray) : Option (Bool) := (stanchionlaw05_shown.f k).bind fun t197 => ((stanchionref05_Right.f k l0_0).bind fun t198 => (if t197 = true then (stanchionlaw05_TableStays.j0 k l0_0 a0_1 a0_2 l0_3 a0_4 a0_5 t197 (!t198)) else (stanchionlaw05_TableStays.j0 k l0_0 a0_1 a0_2 l0_3 a0_4 a0_5 t197 true)))
theorem stanchionlaw05_TableStays.mono_l : ∀ k, (∀ y0 y1 y2 y3 y4 y5 y6 y7, LeO (stanchionlaw05_TableStays.j0 k y0 y1 y2 y3 y4 y5 y6 y7) (stanchionlaw05_TableStays.j0 (k + 1) y0 y1 y2 y3 y4 y5 y6 y7))
  | 0 => fun _ _ _ _ _ _ _ _ r h => by simp [stanchionlaw05_TableStays.j0] at h
  | k + 1 => by
    have ih0 := stanchionlaw05_TableStays.mono_l k
    · intro y0 y1 y2 y3 y4 y5 y6 y7
      unfold stanchionlaw05_TableStays.j0
      repeat' first
      | (with_reducible exact ih0 _ _ _ _ _ _ _ _)
      | (with_reducible exact stanchionlaw05_shown.mono _)
      | (with_reducible exact stanchionref05_Right.mono _ _)
      | (with_reducible exact table_Range.mono _ _ _ _ _)
      | (with_reducible exact LeO.refl _)
      | (with_reducible exact LeO.none _)
      | (with_reducible refine LeO.ite ?_ ?_)
      | (with_reducible refine LeO.bind ?_ (fun _ => ?_))
      | exact ih0 _ _ _ _ _ _ _ _
      | exact stanchionlaw05_shown.mono _
      | exact stanchionref05_Right.mono _ _
      | exact table_Range.mono _ _ _ _ _
      | exact LeO.none _
      | refine LeO.ite ?_ ?_
      | refine LeO.bind ?_ (fun _ => ?_)
theorem stanchionlaw05_TableStays.mono : ∀ a0 a1 a2 a3 a4 a5 k, LeO (stanchionlaw05_TableStays.f k a0 a1 a2 a3 a4 a5) (stanchionlaw05_TableStays.f (k + 1) a0 a1 a2 a3 a4 a5) := by
  intro a0 a1 a2 a3 a4 a5 k
  have ih0 := stanchionlaw05_TableStays.mono_l k
  unfold stanchionlaw05_TableStays.f
  repeat' first
      | (with_reducible exact ih0 _ _ _ _ _ _ _ _)
      | (with_reducible exact stanchionlaw05_shown.mono _)
      | (with_reducible exact stanchionref05_Right.mono _ _)
      | (with_reducible exact table_Range.mono _ _ _ _ _)
      | (with_reducible exact LeO.refl _)
      | (with_reducible exact LeO.none _)
      | (with_reducible refine LeO.ite ?_ ?_)
      | (with_reducible refine LeO.bind ?_ (fun _ => ?_))
      | exact ih0 _ _ _ _ _ _ _ _
      | exact stanchionlaw05_shown.mono _
      | exact stanchionref05_Right.mono _ _
      | exact table_Range.mono _ _ _ _ _
      | exact LeO.none _
      | refine LeO.ite ?_ ?_
      | refine LeO.bind ?_ (fun _ => ?_)

/-! ### table_Right (function 19): what it is -/
def table_Right.l0 : Nat → List (S59) → Int → Option (Bool)
  | 0, _, _ => none
  | k + 1, x0, x3 => if x3 < (x0.length : Int) then (if 0 ≤ (wrap64 (x3 - 1)) then (if (wrap64 (x3 - 1)) < (x0.length : Int) then (if 0 ≤ x3 then (if ((Op.bytesLess (((rd_T59 x0 (wrap64 (x3 - 1))).f0).toList) (((rd_T59 x0 x3).f0).toList)) = true) then (table_Right.l0 k x0 (wrap64 (x3 + 1))) else (some false)) else (none)) else (none)) else (none)) else (some true)
def table_Right.f (k : Nat) (l0 : List (S59)) : Option (Bool) := table_Right.l0 k l0 1
theorem table_Right.mono_l : ∀ k, (∀ y0 y1, LeO (table_Right.l0 k y0 y1) (table_Right.l0 (k + 1) y0 y1))
  | 0 => fun _ _ r h => by simp [table_Right.l0] at h
  | k + 1 => by
    have ih0 := table_Right.mono_l k
    · intro y0 y1
      unfold table_Right.l0
      repeat' first
      | (with_reducible exact ih0 _ _)
      | (with_reducible exact LeO.refl _)
      | (with_reducible exact LeO.none _)
      | (with_reducible refine LeO.ite ?_ ?_)
      | (with_reducible refine LeO.bind ?_ (fun _ => ?_))
      | exact ih0 _ _
      | exact LeO.none _
      | refine LeO.ite ?_ ?_
      | refine LeO.bind ?_ (fun _ => ?_)
theorem table_Right.mono : ∀ a0 k, LeO (table_Right.f k a0) (table_Right.f (k + 1) a0) := by
  intro a0 k
  have ih0 := table_Right.mono_l k
  unfold table_Right.f
  repeat' first
      | (with_reducible exact ih0 _ _)
      | (with_reducible exact LeO.refl _)
      | (with_reducible exact LeO.none _)
      | (with_reducible refine LeO.ite ?_ ?_)
      | (with_reducible refine LeO.bind ?_ (fun _ => ?_))
      | exact ih0 _ _
      | exact LeO.none _
      | refine LeO.ite ?_ ?_
      | refine LeO.bind ?_ (fun _ => ?_)

/-! ### stanchionlaw05_TableLast (function 10): what it is -/
mutual
def stanchionlaw05_TableLast.j0 : Nat → List (S59) → List (S56) → ByteArray → Bool → ByteArray → Bool → Bool → Option (Bool)
  | 0, _, _, _, _, _, _, _ => none
  | k + 1, x0, x1, x2, x7, x9, x10, x28 => if x28 = true then (some x7) else (stanchionlaw05_TableLast.l0 k x0 x1 x2 x9 x10 0)
def stanchionlaw05_TableLast.l0 : Nat → List (S59) → List (S56) → ByteArray → ByteArray → Bool → Int → Option (Bool)
  | 0, _, _, _, _, _, _ => none
  | k + 1, x0, x1, x2, x9, x10, x11 => if x11 < (x1.length : Int) then (if 0 ≤ x11 then (if ((rd_T56 x1 x11).f0).toList = x2.toList then (if (rd_T56 x1 x11).f2 = true then (stanchionlaw05_TableLast.l0 k x0 x1 x2 (⟨#[]⟩ : ByteArray) (!((rd_T56 x1 x11).f2)) (wrap64 (x11 + 1))) else (stanchionlaw05_TableLast.l0 k x0 x1 x2 ((rd_T56 x1 x11).f1) (!((rd_T56 x1 x11).f2)) (wrap64 (x11 + 1)))) else (stanchionlaw05_TableLast.l0 k x0 x1 x2 x9 x10 (wrap64 (x11 + 1)))) else (none)) else ((table_Apply.f x0 x1).bind fun t225 => ((table_Find.f t225 x2).bind fun bt228 => (if x9.toList = bt228.1.toList then (some (x10 == bt228.2)) else (some false))))
end
def stanchionlaw05_TableLast.f (k : Nat) (l0 : List (S59)) (l1 : List (S56)) (a2 : ByteArray) : Option (Bool) := (stanchionlaw05_shown.f k).bind fun t221 => ((table_Right.f k l0).bind fun t222 => ((table_Find.f l0 a2).bind fun bt223 => (if t221 = true then (stanchionlaw05_TableLast.j0 k l0 l1 a2 t221 bt223.1 bt223.2 (!t222)) else (stanchionlaw05_TableLast.j0 k l0 l1 a2 t221 bt223.1 bt223.2 true))))
theorem stanchionlaw05_TableLast.mono_l : ∀ k, (∀ y0 y1 y2 y3 y4 y5 y6, LeO (stanchionlaw05_TableLast.j0 k y0 y1 y2 y3 y4 y5 y6) (stanchionlaw05_TableLast.j0 (k + 1) y0 y1 y2 y3 y4 y5 y6)) ∧ (∀ y0 y1 y2 y3 y4 y5, LeO (stanchionlaw05_TableLast.l0 k y0 y1 y2 y3 y4 y5) (stanchionlaw05_TableLast.l0 (k + 1) y0 y1 y2 y3 y4 y5))
  | 0 => ⟨fun _ _ _ _ _ _ _ r h => by simp [stanchionlaw05_TableLast.j0] at h, fun _ _ _ _ _ _ r h => by simp [stanchionlaw05_TableLast.l0] at h⟩
  | k + 1 => by
    obtain ⟨ih0, ih1⟩ := stanchionlaw05_TableLast.mono_l k
    refine ⟨?_, ?_⟩
    · intro y0 y1 y2 y3 y4 y5 y6
      unfold stanchionlaw05_TableLast.j0
      repeat' first
      | (with_reducible exact ih0 _ _ _ _ _ _ _)
      | (with_reducible exact ih1 _ _ _ _ _ _)
      | (with_reducible exact stanchionlaw05_shown.mono _)
      | (with_reducible exact table_Right.mono _ _)
      | (with_reducible exact LeO.refl _)
      | (with_reducible exact LeO.none _)
      | (with_reducible refine LeO.ite ?_ ?_)
      | (with_reducible refine LeO.bind ?_ (fun _ => ?_))
      | exact ih0 _ _ _ _ _ _ _
      | exact ih1 _ _ _ _ _ _
      | exact stanchionlaw05_shown.mono _
      | exact table_Right.mono _ _
      | exact LeO.none _
      | refine LeO.ite ?_ ?_
      | refine LeO.bind ?_ (fun _ => ?_)
    · intro y0 y1 y2 y3 y4 y5
      unfold stanchionlaw05_TableLast.l0
      repeat' first
      | (with_reducible exact ih0 _ _ _ _ _ _ _)
      | (with_reducible exact ih1 _ _ _ _ _ _)
      | (with_reducible exact stanchionlaw05_shown.mono _)
      | (with_reducible exact table_Right.mono _ _)
      | (with_reducible exact LeO.refl _)
      | (with_reducible exact LeO.none _)
      | (with_reducible refine LeO.ite ?_ ?_)
      | (with_reducible refine LeO.bind ?_ (fun _ => ?_))
      | exact ih0 _ _ _ _ _ _ _
      | exact ih1 _ _ _ _ _ _
      | exact stanchionlaw05_shown.mono _
      | exact table_Right.mono _ _
      | exact LeO.none _
      | refine LeO.ite ?_ ?_
      | refine LeO.bind ?_ (fun _ => ?_)
theorem stanchionlaw05_TableLast.mono : ∀ a0 a1 a2 k, LeO (stanchionlaw05_TableLast.f k a0 a1 a2) (stanchionlaw05_TableLast.f (k + 1) a0 a1 a2) := by
  intro a0 a1 a2 k
  obtain ⟨ih0, ih1⟩ := stanchionlaw05_TableLast.mono_l k
  unfold stanchionlaw05_TableLast.f
  repeat' first
      | (with_reducible exact ih0 _ _ _ _ _ _ _)
      | (with_reducible exact ih1 _ _ _ _ _ _)
      | (with_reducible exact stanchionlaw05_shown.mono _)
      | (with_reducible exact table_Right.mono _ _)
      | (with_reducible exact LeO.refl _)
      | (with_reducible exact LeO.none _)
      | (with_reducible refine LeO.ite ?_ ?_)
      | (with_reducible refine LeO.bind ?_ (fun _ => ?_))
      | exact ih0 _ _ _ _ _ _ _
      | exact ih1 _ _ _ _ _ _
      | exact stanchionlaw05_shown.mono _
      | exact table_Right.mono _ _
      | exact LeO.none _
      | refine LeO.ite ?_ ?_
      | refine LeO.bind ?_ (fun _ => ?_)

/-! ### table_Between: function 20 -/
set_option maxHeartbeats 8000000 in
set_option maxRecDepth 100000 in
theorem table_Between.calls (a0 : ByteArray) (a1 : ByteArray) (a2 : ByteArray) (r : Bool) (w : World) (h : table_Between.f a0 a1 a2 = some r) :
    Calls Try.prog 20 #[.string a0, .string a1, .string a2] w fun e w' => e = .returned (.bool r) ∧ Drawn0 w w' := by
  have H : (if ((Op.bytesLess a0.toList a1.toList) = true) then (some false) else (if a2.toList = ([] : List UInt8) then (some true) else (some (Op.bytesLess a0.toList a2.toList)))) = some r := h
  clear h
  by_cases c4 : ((Op.bytesLess a0.toList a1.toList) = true)
  · rw [if_pos c4] at H
    have c4b0 : (Op.bytesLess a0.toList a1.toList) = true := c4
    clear c4
    obtain rfl := Option.some.inj H
    go_enter Try.func20, Try.ntmps20
    go_wp2
    go_ret
    exact ⟨by first | rfl | (simp; done) | (simp [*]; done), by repeat (first | exact Drawn0.refl _ | apply Drawn0.step)⟩
  · rw [if_neg c4] at H
    have c4b0 : (Op.bytesLess a0.toList a1.toList) = false := by simpa using c4
    clear c4
    by_cases c5 : a2.toList = ([] : List UInt8)
    · rw [if_pos c5] at H
      have c5b0 : (a2.toList == ([] : List UInt8)) = true := beq_iff_eq.mpr c5
      have c5b1 : (a2.toList != ([] : List UInt8)) = false := bne_eq_false_iff_eq.mpr c5
      clear c5
      obtain rfl := Option.some.inj H
      go_enter Try.func20, Try.ntmps20
      go_wp2
      go_ret
      exact ⟨by first | rfl | (simp; done) | (simp [*]; done), by repeat (first | exact Drawn0.refl _ | apply Drawn0.step)⟩
    · rw [if_neg c5] at H
      have c5b0 : (a2.toList == ([] : List UInt8)) = false := beq_eq_false_iff_ne.mpr c5
      have c5b1 : (a2.toList != ([] : List UInt8)) = true := bne_iff_ne.mpr c5
      obtain rfl := Option.some.inj H
      go_enter Try.func20, Try.ntmps20
      go_wp2
      go_ret
      exact ⟨by first | rfl | (simp; done) | (simp [*]; done), by repeat (first | exact Drawn0.refl _ | apply Drawn0.step)⟩

/-! ### table_Range: function 13 -/
set_option maxHeartbeats 8000000 in
set_option maxRecDepth 100000 in
theorem table_Range.calls (k : Nat) (A0 : Option Addr) (c0 : Nat) (l0 : List (S59)) (a1 : ByteArray) (a2 : ByteArray) (a3 : Int) (r : List (S59)) (w : World) (hr0 : Kd.C k59 w A0 l0.length l0) (hc0 : l0.length ≤ c0) (h : table_Range.f k l0 a1 a2 a3 = some r) :
    Calls Try.prog 13 #[.slice A0 l0.length c0, .string a1, .string a2, .int .i64 a3] w fun e w' => ∃ v0_ : Value, e = .returned (v0_) ∧ Kd.R k59 59 w' w.heap.size (fun _ => True) v0_ r ∧ Below w.heap.size w w' := by
  have hu59 := Try.underlying59
  have HR0 := Aside0.mk hr0
  have HC0 := Aside0.mk hc0
  clear hr0 hc0
  have HB := Aside0.mk (Below.refl w.heap.size w)
  have H : (table_Range.l0 k a1 a2 a3 ([] : List (S59)) l0 (l0.length : Int) 0) = some r := h
  clear h
  have H' := Aside0.mk H
  clear H
  go_enter Try.func13, Try.ntmps13
  go_wp2
  go_loopg [9, 14] k (fun kq v9 v14 w' => ∃ (x9_1 : List (S59)) (x14_1 : Int), v14 = .int .i64 x14_1 ∧ Aside0 (table_Range.l0 kq a1 a2 a3 x9_1 l0 (l0.length : Int) x14_1 = some r) ∧ Aside0 (kq ≤ k) ∧ Aside0 (Kd.R k59 59 w' w.heap.size (fun _ => True) v9 x9_1) ∧ Aside0 (Below w.heap.size w w'))
  case atStart => exact ⟨(([] : List (S59))), (0), (by first | rfl | (simp; done) | (simp [*]; done)), H', ⟨Nat.le_refl _⟩, ⟨by first | exact Kd.R_nil _ _ _ _ _ | exact Kd.N_nil _ _ _ _ _ | exact Kd.V_nil _ _ _ _ _ | exact Kd.Q_nil _ _ _ _ _ | exact Kd.S_nil _ _ _ _ _⟩, ⟨by repeat (first | (with_reducible first | exact HB.out | apply below_alloc | apply pw_below_drewN | apply below_drew1) | exact HB.out)⟩⟩
  case round =>
    clear H'
    try clear c1
    try clear p2
    obtain ⟨x9_1, x14_1, rfl, HA, HK1, HO_9, HB⟩ := hrel
    cases gk with
    | zero => exact absurd HA.out (by simp [table_Range.l0])
    | succ k1 =>
      have H := HA.out
      clear HA
      simp only [table_Range.l0] at H
      by_cases c5 : x14_1 < (l0.length : Int)
      · rw [if_pos c5] at H
        have c5b0 : decide (x14_1 < (l0.length : Int)) = true := decide_eq_true c5
        clear c5
        by_cases c6 : 0 ≤ x14_1
        · rw [if_pos c6] at H
          have c6b0 : decide (0 ≤ x14_1) = true := decide_eq_true c6
          clear c6
          by_cases c7 : x14_1 < (l0.length : Int)
          · rw [if_pos c7] at H
            have c7b0 : decide (x14_1 < (l0.length : Int)) = true := decide_eq_true c7
            clear c7
            by_cases c8 : (x9_1.length : Int) ≥ a3
            · rw [if_pos c8] at H
              have c8b0 : decide (a3 ≤ (x9_1.length : Int)) = true := decide_eq_true c8
              clear c8
              obtain rfl := Option.some.inj H
              have p101 : 0 ≤ (x14_1 : Int) := of_decide_eq_true (by first | (with_reducible assumption) | assumption)
              have q101 : x14_1 < (l0.length : Int) := of_decide_eq_true (by first | (with_reducible assumption) | assumption)
              obtain ⟨ad101, e101, hx101_0, hx101_1⟩ := at_T59 HR0.out x14_1 p101 q101
              cases e101
              replace hx101_0 := (HB.out.cell (World.block_lt_of_cell? w _ hx101_0)).trans hx101_0
              replace hx101_1 := (HB.out.cell (World.block_lt_of_cell? w _ hx101_1)).trans hx101_1
              replace p101 := eq_true p101
              replace q101 := eq_true q101
              go_wp2_with (first | ((with_reducible refine gate_dst (N := 11) rfl ?_); refine box_event ?hg (N := 11) ?hd (cs := #[.string (⟨#[]⟩ : ByteArray), .string (⟨#[]⟩ : ByteArray)]) (t := 59) ?hr ?_; (case hd => rfl); (case hg => rfl); (case hr => first | (go_simp; done) | (go_simp; rfl)); intro gb102 hg w9 hbox hb; have n0_ := Aside0.mk (Kd.R_below (Kd.R_elderB (by (with_reducible repeat (first | apply Kd.R_alloc | apply Kd.R_drewN | apply Kd.R_drew)); exact HO_9.out) gb102 (Nat.le_of_eq hg.symm)) hb); have n1_ := Aside0.mk (below_step (by repeat (first | (with_reducible first | exact HB.out | apply below_alloc | apply pw_below_drewN | apply below_drew1) | exact HB.out)) hb); have n2_ := Aside0.mk (hbox); have n3_ := Aside0.mk ((by rw [hg]; exact (below_size (by repeat (first | (with_reducible first | exact HB.out | apply below_alloc | apply pw_below_drewN | apply below_drew1) | exact HB.out))) : w.heap.size ≤ gb102)); have n4_ := Aside0.mk ((by rw [hg]; exact (below_size (by repeat (first | (with_reducible first | exact HB.out | apply below_alloc | apply pw_below_drewN | apply below_drew1) | exact HB.out))) : w.heap.size ≤ gb102)); clear HO_9; clear HB; have HO_9 := n0_; have HB := n1_; have BK102 := n2_; have GW102 := n3_; have GE102 := n4_; clear n0_ n1_ n2_ n3_ n4_; clear hb hbox hg; have hcz10_0 : w9.cell? ⟨gb102, 0, none⟩ = some (.string (⟨#[]⟩ : ByteArray)) := (blk_cell BK102.out 0).trans rfl; have hcz10_1 : w9.cell? ⟨gb102, 1, none⟩ = some (.string (⟨#[]⟩ : ByteArray)) := (blk_cell BK102.out 1).trans rfl; have hfz10_0 := blk_frozen BK102.out 0; have hfz10_1 := blk_frozen BK102.out 1; obtain ⟨Ao11, co11, eo11⟩ := Kd.R_slice HO_9.out; subst eo11))
              go_ret
              exact ⟨_, by first | rfl | (simp [errW_none, errW_some] <;> rfl) | (simp [*, errW_none, errW_some] <;> rfl), by (with_reducible repeat (first | apply Kd.R_alloc | apply Kd.R_drewN | apply Kd.R_drew)); exact Kd.R_mono (Kd.R_far (p := ⟨gb102, 1, none⟩) (Kd.R_far (p := ⟨gb102, 0, none⟩) (Kd.R_mono HO_9.out (fun k_ hk => (⟨hk, hk.2⟩ : _ ∧ k_ ≠ gb102))) (fun _ hk => hk.2) (.string ((rd_T59 l0 x14_1).f0))) (fun _ hk => hk.2) (.string ((rd_T59 l0 x14_1).f1))) (fun _ hk => trivial), by repeat (first | (with_reducible first | exact HB.out | apply below_alloc | apply pw_below_drewN | apply below_drew1 | refine below_set ?_ GE102.out) | exact HB.out)⟩
            · rw [if_neg c8] at H
              have c8b0 : decide (a3 ≤ (x9_1.length : Int)) = false := decide_eq_false c8
              clear c8
              replace H := Option.bind_eq_some_iff.mp H
              obtain ⟨t103, A120, H⟩ := H
              replace H : (if t103 = true then (if x9_1.length < 4398046511104 then (table_Range.l0 k1 a1 a2 a3 (x9_1 ++ [(⟨(rd_T59 l0 x14_1).f0, (rd_T59 l0 x14_1).f1⟩ : S59)]) l0 (l0.length : Int) (wrap64 (x14_1 + 1))) else (none)) else (table_Range.l0 k1 a1 a2 a3 x9_1 l0 (l0.length : Int) (wrap64 (x14_1 + 1)))) = some r := H
              have A12 := Aside0.mk A120
              clear A120
              by_cases c13 : t103 = true
              · subst c13
                have H1 : (if x9_1.length < 4398046511104 then (table_Range.l0 k1 a1 a2 a3 (x9_1 ++ [(⟨(rd_T59 l0 x14_1).f0, (rd_T59 l0 x14_1).f1⟩ : S59)]) l0 (l0.length : Int) (wrap64 (x14_1 + 1))) else (none)) = some r := by rw [if_pos rfl] at H; exact H
                clear H
                have H := H1
                clear H1
                by_cases c14 : x9_1.length < 4398046511104
                · rw [if_pos c14] at H
                  have LMc14 := Aside0.mk c14
                  clear c14
                  obtain ⟨y104, hy104⟩ : ∃ y_ : List (S59), y_ = (x9_1 ++ [(⟨(rd_T59 l0 x14_1).f0, (rd_T59 l0 x14_1).f1⟩ : S59)]) := ⟨_, rfl⟩
                  replace H : (table_Range.l0 k1 a1 a2 a3 y104 l0 (l0.length : Int) (wrap64 (x14_1 + 1))) = some r := by first | (rw [hy104]; with_reducible exact H) | (have H2_ := (Option.bind_some _ _).symm.trans H; rw [hy104]; with_reducible exact H2_) | (have H2_ := (Option.bind_some _ _).symm.trans H; with_reducible exact H2_) | with_reducible exact H | (rw [hy104]; exact H) | exact H
                  have Ny104 := Aside0.mk hy104
                  clear hy104
                  have H' := Aside0.mk H
                  clear H
                  have p101 : 0 ≤ (x14_1 : Int) := of_decide_eq_true (by first | (with_reducible assumption) | assumption)
                  have q101 : x14_1 < (l0.length : Int) := of_decide_eq_true (by first | (with_reducible assumption) | assumption)
                  obtain ⟨ad101, e101, hx101_0, hx101_1⟩ := at_T59 HR0.out x14_1 p101 q101
                  cases e101
                  replace hx101_0 := (HB.out.cell (World.block_lt_of_cell? w _ hx101_0)).trans hx101_0
                  replace hx101_1 := (HB.out.cell (World.block_lt_of_cell? w _ hx101_1)).trans hx101_1
                  replace p101 := eq_true p101
                  replace q101 := eq_true q101
                  go_wp2_with (first | ((with_reducible refine gate_dst (N := 11) rfl ?_); refine box_event ?hg (N := 11) ?hd (cs := #[.string (⟨#[]⟩ : ByteArray), .string (⟨#[]⟩ : ByteArray)]) (t := 59) ?hr ?_; (case hd => rfl); (case hg => rfl); (case hr => first | (go_simp; done) | (go_simp; rfl)); intro gb102 hg w15 hbox hb; have n0_ := Aside0.mk (Kd.R_below (Kd.R_elderB (by (with_reducible repeat (first | apply Kd.R_alloc | apply Kd.R_drewN | apply Kd.R_drew)); exact HO_9.out) gb102 (Nat.le_of_eq hg.symm)) hb); have n1_ := Aside0.mk (below_step (by repeat (first | (with_reducible first | exact HB.out | apply below_alloc | apply pw_below_drewN | apply below_drew1) | exact HB.out)) hb); have n2_ := Aside0.mk (hbox); have n3_ := Aside0.mk ((by rw [hg]; exact (below_size (by repeat (first | (with_reducible first | exact HB.out | apply below_alloc | apply pw_below_drewN | apply below_drew1) | exact HB.out))) : w.heap.size ≤ gb102)); have n4_ := Aside0.mk ((by rw [hg]; exact (below_size (by repeat (first | (with_reducible first | exact HB.out | apply below_alloc | apply pw_below_drewN | apply below_drew1) | exact HB.out))) : w.heap.size ≤ gb102)); clear HO_9; clear HB; have HO_9 := n0_; have HB := n1_; have BK102 := n2_; have GW102 := n3_; have GE102 := n4_; clear n0_ n1_ n2_ n3_ n4_; clear hb hbox hg; have hcz16_0 : w15.cell? ⟨gb102, 0, none⟩ = some (.string (⟨#[]⟩ : ByteArray)) := (blk_cell BK102.out 0).trans rfl; have hcz16_1 : w15.cell? ⟨gb102, 1, none⟩ = some (.string (⟨#[]⟩ : ByteArray)) := (blk_cell BK102.out 1).trans rfl; have hfz16_0 := blk_frozen BK102.out 0; have hfz16_1 := blk_frozen BK102.out 1; obtain ⟨Ao17, co17, eo17⟩ := Kd.R_slice HO_9.out; subst eo17) | ((with_reducible refine gate_callee (f := 20) rfl ?_); refine goesL_ (some 26) rfl rfl Try.func20 (by kernel_rfl) rfl #[.string ((rd_T59 l0 x14_1).f0), .string a1, .string a2] rfl (by (try simp only [List.map_toArray, List.map_cons, List.map_nil]); first | done | rfl | (simp only [List.length_drop, List.length_take]; rfl)) ?_; (with_reducible refine (table_Between.calls ((rd_T59 l0 x14_1).f0) a1 a2 true _ A12.out).mono ?_); rintro e w' ⟨rfl, ⟨nd, rfl⟩⟩; refine ⟨_, rfl, ?_⟩) | ((with_reducible refine gate_builtin (b := .append) (xs := #[.tmp 27, .tmp 29]) rfl ?_); at_builtin; refine Kd.R_append k59 (w0 := w) w.heap.size rfl (.tmp 27) (.tmp 29) 22 59 (.agg #[(.string ⟨#[]⟩), (.string ⟨#[]⟩)]) 32 rfl Try.underlying22 info59 rfl (by decide) (by omega) (.slice Ao17 x9_1.length co17) x9_1 (⟨(rd_T59 l0 x14_1).f0, (rd_T59 l0 x14_1).f1⟩ : S59) [.string ((rd_T59 l0 x14_1).f0), .string ((rd_T59 l0 x14_1).f1)] (fun k_ => k_ ≠ gb102) (fun _ => False) rfl (by first | (go_simp; done) | (go_simp; rfl)) ?aP (fun _ hk => hk.elim) ?aF ?aO ?aB ?aS ?aL ?_; (case aP => exact k59_mkM _ _ _ (⟨(rd_T59 l0 x14_1).f0, (rd_T59 l0 x14_1).f1⟩ : S59)); (case aB => exact (by repeat (first | (with_reducible first | exact HB.out | apply below_alloc | apply pw_below_drewN | apply below_drew1 | refine below_set ?_ GE102.out) | exact HB.out))); (case aF => exact (fun k_ hk => Kd.freshB (g := gb102) (o := .cells #[.string ((rd_T59 l0 x14_1).f0), .string ((rd_T59 l0 x14_1).f1)] 59 (0, 0)) (by (with_reducible repeat (first | refine blk_drewN ?_ _ | refine blk_drew ?_ | refine blk_alloc ?_ _)); refine blk_put (cs := #[.string ((rd_T59 l0 x14_1).f0), .string (⟨#[]⟩ : ByteArray)]) ?_ 1 _ rfl; (with_reducible repeat (first | refine blk_drewN ?_ _ | refine blk_drew ?_ | refine blk_alloc ?_ _)); refine blk_put (cs := #[.string (⟨#[]⟩ : ByteArray), .string (⟨#[]⟩ : ByteArray)]) ?_ 0 _ rfl; (with_reducible repeat (first | refine blk_drewN ?_ _ | refine blk_drew ?_ | refine blk_alloc ?_ _)); exact BK102.out) k_ hk)); (case aO => exact (by (with_reducible repeat (first | apply Kd.R_alloc | apply Kd.R_drewN | apply Kd.R_drew)); exact Kd.R_mono (Kd.R_far (p := ⟨gb102, 1, none⟩) (Kd.R_far (p := ⟨gb102, 0, none⟩) (Kd.R_mono HO_9.out (fun k_ hk => (⟨hk, hk.2⟩ : _ ∧ k_ ≠ gb102))) (fun _ hk => hk.2) (.string ((rd_T59 l0 x14_1).f0))) (fun _ hk => hk.2) (.string ((rd_T59 l0 x14_1).f1))) (fun _ hk => hk.1.2))); (case aS => exact (below_size (by repeat (first | (with_reducible first | exact HB.out | apply below_alloc | apply pw_below_drewN | apply below_drew1 | refine below_set ?_ GE102.out) | exact HB.out)))); (case aL => have := LMc14.out; omega); intro v105 w18 ho hb hg hat; rw [← Ny104.out] at ho; have n0_ := Aside0.mk (blk_grown (g := gb102) (o := .cells #[.string ((rd_T59 l0 x14_1).f0), .string ((rd_T59 l0 x14_1).f1)] 59 (0, 0)) (by (with_reducible repeat (first | refine blk_drewN ?_ _ | refine blk_drew ?_ | refine blk_alloc ?_ _)); refine blk_put (cs := #[.string ((rd_T59 l0 x14_1).f0), .string (⟨#[]⟩ : ByteArray)]) ?_ 1 _ rfl; (with_reducible repeat (first | refine blk_drewN ?_ _ | refine blk_drew ?_ | refine blk_alloc ?_ _)); refine blk_put (cs := #[.string (⟨#[]⟩ : ByteArray), .string (⟨#[]⟩ : ByteArray)]) ?_ 0 _ rfl; (with_reducible repeat (first | refine blk_drewN ?_ _ | refine blk_drew ?_ | refine blk_alloc ?_ _)); exact BK102.out) hg (Kd.R_away HO_9.out (fun _ hk => hk.2))); have n1_ := Aside0.mk (hb); have n2_ := Aside0.mk (ho); clear BK102; clear HB; clear HO_9; have BK102 := n0_; have HB := n1_; have HO106 := n2_; clear n0_ n1_ n2_; clear ho hb hg hat))
                  go_roundg k1
                  case measure => have := HK1.out; omega
                  case rel => exact ⟨(y104), (wrap64 (x14_1 + 1)), (by first | rfl | (simp; done) | (simp [*]; done)), H', ⟨by have := HK1.out; omega⟩, ⟨by (with_reducible repeat (first | apply Kd.R_alloc | apply Kd.R_drewN | apply Kd.R_drew)); exact Kd.R_mono HO106.out (fun _ hk => trivial)⟩, ⟨by repeat (first | (with_reducible first | exact HB.out | apply below_alloc | apply pw_below_drewN | apply below_drew1 | refine below_set ?_ GE102.out) | exact HB.out)⟩⟩
                · rw [if_neg c14] at H
                  exact absurd H (by simp)
              · replace c13 := Bool.eq_false_iff.mpr c13
                subst c13
                have H1 : (table_Range.l0 k1 a1 a2 a3 x9_1 l0 (l0.length : Int) (wrap64 (x14_1 + 1))) = some r := by rw [if_neg (show ¬ (false = true) by decide)] at H; exact H
                clear H
                have H := H1
                clear H1
                have H' := Aside0.mk H
                clear H
                have p101 : 0 ≤ (x14_1 : Int) := of_decide_eq_true (by first | (with_reducible assumption) | assumption)
                have q101 : x14_1 < (l0.length : Int) := of_decide_eq_true (by first | (with_reducible assumption) | assumption)
                obtain ⟨ad101, e101, hx101_0, hx101_1⟩ := at_T59 HR0.out x14_1 p101 q101
                cases e101
                replace hx101_0 := (HB.out.cell (World.block_lt_of_cell? w _ hx101_0)).trans hx101_0
                replace hx101_1 := (HB.out.cell (World.block_lt_of_cell? w _ hx101_1)).trans hx101_1
                replace p101 := eq_true p101
                replace q101 := eq_true q101
                go_wp2_with (first | ((with_reducible refine gate_dst (N := 11) rfl ?_); refine box_event ?hg (N := 11) ?hd (cs := #[.string (⟨#[]⟩ : ByteArray), .string (⟨#[]⟩ : ByteArray)]) (t := 59) ?hr ?_; (case hd => rfl); (case hg => rfl); (case hr => first | (go_simp; done) | (go_simp; rfl)); intro gb102 hg w19 hbox hb; have n0_ := Aside0.mk (Kd.R_below (Kd.R_elderB (by (with_reducible repeat (first | apply Kd.R_alloc | apply Kd.R_drewN | apply Kd.R_drew)); exact HO_9.out) gb102 (Nat.le_of_eq hg.symm)) hb); have n1_ := Aside0.mk (below_step (by repeat (first | (with_reducible first | exact HB.out | apply below_alloc | apply pw_below_drewN | apply below_drew1) | exact HB.out)) hb); have n2_ := Aside0.mk (hbox); have n3_ := Aside0.mk ((by rw [hg]; exact (below_size (by repeat (first | (with_reducible first | exact HB.out | apply below_alloc | apply pw_below_drewN | apply below_drew1) | exact HB.out))) : w.heap.size ≤ gb102)); have n4_ := Aside0.mk ((by rw [hg]; exact (below_size (by repeat (first | (with_reducible first | exact HB.out | apply below_alloc | apply pw_below_drewN | apply below_drew1) | exact HB.out))) : w.heap.size ≤ gb102)); clear HO_9; clear HB; have HO_9 := n0_; have HB := n1_; have BK102 := n2_; have GW102 := n3_; have GE102 := n4_; clear n0_ n1_ n2_ n3_ n4_; clear hb hbox hg; have hcz20_0 : w19.cell? ⟨gb102, 0, none⟩ = some (.string (⟨#[]⟩ : ByteArray)) := (blk_cell BK102.out 0).trans rfl; have hcz20_1 : w19.cell? ⟨gb102, 1, none⟩ = some (.string (⟨#[]⟩ : ByteArray)) := (blk_cell BK102.out 1).trans rfl; have hfz20_0 := blk_frozen BK102.out 0; have hfz20_1 := blk_frozen BK102.out 1; obtain ⟨Ao21, co21, eo21⟩ := Kd.R_slice HO_9.out; subst eo21) | ((with_reducible refine gate_callee (f := 20) rfl ?_); refine goesL_ (some 26) rfl rfl Try.func20 (by kernel_rfl) rfl #[.string ((rd_T59 l0 x14_1).f0), .string a1, .string a2] rfl (by (try simp only [List.map_toArray, List.map_cons, List.map_nil]); first | done | rfl | (simp only [List.length_drop, List.length_take]; rfl)) ?_; (with_reducible refine (table_Between.calls ((rd_T59 l0 x14_1).f0) a1 a2 false _ A12.out).mono ?_); rintro e w' ⟨rfl, ⟨nd, rfl⟩⟩; refine ⟨_, rfl, ?_⟩))
                go_roundg k1
                case measure => have := HK1.out; omega
                case rel => exact ⟨(x9_1), (wrap64 (x14_1 + 1)), (by first | rfl | (simp; done) | (simp [*]; done)), H', ⟨by have := HK1.out; omega⟩, ⟨by (with_reducible repeat (first | apply Kd.R_alloc | apply Kd.R_drewN | apply Kd.R_drew)); exact Kd.R_mono (Kd.R_far (p := ⟨gb102, 1, none⟩) (Kd.R_far (p := ⟨gb102, 0, none⟩) (Kd.R_mono HO_9.out (fun k_ hk => (⟨hk, hk.2⟩ : _ ∧ k_ ≠ gb102))) (fun _ hk => hk.2) (.string ((rd_T59 l0 x14_1).f0))) (fun _ hk => hk.2) (.string ((rd_T59 l0 x14_1).f1))) (fun _ hk => trivial)⟩, ⟨by repeat (first | (with_reducible first | exact HB.out | apply below_alloc | apply pw_below_drewN | apply below_drew1 | refine below_set ?_ GE102.out) | exact HB.out)⟩⟩
          · rw [if_neg c7] at H
            exact absurd H (by simp)
        · rw [if_neg c6] at H
          exact absurd H (by simp)
      · rw [if_neg c5] at H
        have c5b0 : decide (x14_1 < (l0.length : Int)) = false := decide_eq_false c5
        clear c5
        obtain rfl := Option.some.inj H
        go_wp2
        go_ret
        exact ⟨_, by first | rfl | (simp [errW_none, errW_some] <;> rfl) | (simp [*, errW_none, errW_some] <;> rfl), by (with_reducible repeat (first | apply Kd.R_alloc | apply Kd.R_drewN | apply Kd.R_drew)); exact HO_9.out, by repeat (first | (with_reducible first | exact HB.out | apply below_alloc | apply pw_below_drewN | apply below_drew1) | exact HB.out)⟩

/-! ### api_Pair_28: function 28 -/
set_option maxHeartbeats 8000000 in
set_option maxRecDepth 100000 in
theorem api_Pair_28.calls (A0 : Option Addr) (c0 : Nat) (l0 : List (S59)) (r : List (S59)) (w : World) (hr0 : Kd.C k59 w A0 l0.length l0) (hc0 : l0.length ≤ c0) (h : api_Pair_28.f l0 = some r) :
    Calls Try.prog 28 #[.slice A0 l0.length c0] w fun e w' => ∃ v0_ : Value, e = .returned (v0_) ∧ Kd.R k59 59 w' w.heap.size (fun _ => True) v0_ r ∧ Below w.heap.size w w' := by
  have HR0 := Aside0.mk hr0
  have HC0 := Aside0.mk hc0
  clear hr0 hc0
  have HB := Aside0.mk (Below.refl w.heap.size w)
  have H : ((some (([] : List (S59)) : List (S59))).bind fun y107 => (if y107.length + l0.length < 4398046511104 then (some (y107 ++ l0)) else (none))) = some r := h
  clear h
  obtain ⟨y107, hy107⟩ : ∃ y_ : List (S59), y_ = (([] : List (S59))) := ⟨_, rfl⟩
  replace H : (if y107.length + l0.length < 4398046511104 then (some (y107 ++ l0)) else (none)) = some r := by first | (rw [hy107]; with_reducible exact H) | (have H2_ := (Option.bind_some _ _).symm.trans H; rw [hy107]; with_reducible exact H2_) | (have H2_ := (Option.bind_some _ _).symm.trans H; with_reducible exact H2_) | with_reducible exact H | (rw [hy107]; exact H) | exact H
  have Ny107 := Aside0.mk hy107
  clear hy107
  by_cases c2 : y107.length + l0.length < 4398046511104
  · rw [if_pos c2] at H
    have LMc2 := Aside0.mk c2
    clear c2
    obtain ⟨y110, hy110⟩ : ∃ y_ : List (S59), y_ = (y107 ++ l0) := ⟨_, rfl⟩
    replace H : (some y110) = some r := by first | (rw [hy110]; with_reducible exact H) | (have H2_ := (Option.bind_some _ _).symm.trans H; rw [hy110]; with_reducible exact H2_) | (have H2_ := (Option.bind_some _ _).symm.trans H; with_reducible exact H2_) | with_reducible exact H | (rw [hy110]; exact H) | exact H
    have Ny110 := Aside0.mk hy110
    clear hy110
    obtain rfl := Option.some.inj H
    have qT := fun (w : World) (a : Option Addr) (l c : Nat) => Lib.run_eql_slice_nil (P := Try.prog) w 22 59 a l c 0 0 Try.underlying22
    rcases A0 with _ | ad0
    · have hl : l0 = [] := by
        rcases l0 with _ | ⟨x_, l_⟩
        · rfl
        · obtain ⟨_, h_, _⟩ := HR0.out.2.2 (by simp)
          cases h_
      have hy := Aside0.mk (show y110 = [] by rw [Ny110.out, Ny107.out, hl]; rfl)
      clear hl
      go_enter Try.func28, Try.ntmps28
      go_wp2
      go_ret
      exact ⟨_, rfl, by rw [hy.out]; exact Kd.R_nil _ _ _ _ _, HB.out⟩
    · go_enter Try.func28, Try.ntmps28
      go_wp2_with (first | ((with_reducible refine gate_dst (N := 5) rfl ?_); refine Kd.R_lit k59 _ 59 ?hg (N := 5) ?hd (xs := ([] : List (S59))) (inner := []) (ok := fun _ => True) (okp := fun _ => True) ?hr ?hp (fun _ hk => hk) trivial (Below.refl _ _) (Nat.le_refl _) (by simp) ?_; (case hd => rfl); (case hg => rfl); (case hr => first | (go_simp; done) | (go_simp; rfl)); (case hp => exact (Reps.none _ _)); intro v108 w3 ho4 hb hg_ hnew_; clear hg_ hnew_; (first | rw [← Ny107.out] at ho4 | (simp only [Int.reduceToNat] at ho4; rw [← Ny107.out] at ho4)); have n0_ := Aside0.mk (Kd.R_lower ho4 (below_size (by repeat (first | (with_reducible first | exact HB.out | apply below_alloc | apply pw_below_drewN | apply below_drew1) | exact HB.out)))); have n1_ := Aside0.mk (below_step (by repeat (first | (with_reducible first | exact HB.out | apply below_alloc | apply pw_below_drewN | apply below_drew1) | exact HB.out)) hb); clear HB; have HO109 := n0_; have HB := n1_; clear n0_ n1_; clear hb ho4) | ((with_reducible refine gate_builtin (b := .append) (xs := #[.tmp 5, .tmp 6]) rfl ?_); at_builtin; refine Kd.R_append_rows k59 (w0 := w) w.heap.size rfl (.tmp 5) (.tmp 6) 22 59 (.agg #[(.string ⟨#[]⟩), (.string ⟨#[]⟩)]) 32 rfl Try.underlying22 info59 rfl (by decide) (by omega) v108 y107 l0 _ _ _ (fun _ => True) (fun _ => False) rfl rfl ?aO ?aR (fun _ _ h => h) (fun _ h => h.elim) ?aF ?aB ?aS ?aL ?_; (case aR => repeat (first | exact (Kd.C_below HR0.out HB.out) | (with_reducible refine Kd.C_alloc ?_ _) | (with_reducible refine Kd.C_drewN ?_ _) | (with_reducible refine Kd.C_drew ?_))); (case aB => exact (by repeat (first | (with_reducible first | exact HB.out | apply below_alloc | apply pw_below_drewN | apply below_drew1) | exact HB.out))); (case aF => exact (fun _ _ => trivial)); (case aO => exact (by (with_reducible repeat (first | apply Kd.R_alloc | apply Kd.R_drewN | apply Kd.R_drew)); exact HO109.out)); (case aS => exact (below_size (by repeat (first | (with_reducible first | exact HB.out | apply below_alloc | apply pw_below_drewN | apply below_drew1) | exact HB.out)))); (case aL => have := LMc2.out; omega); intro v111 w5 ho hb hg hat; rw [← Ny110.out] at ho; have n0_ := Aside0.mk (hb); have n1_ := Aside0.mk (ho); clear HB; clear HO109; have HB := n0_; have HO112 := n1_; clear n0_ n1_; clear ho hb hg hat))
      go_ret
      exact ⟨_, by first | rfl | (simp [errW_none, errW_some] <;> rfl) | (simp [*, errW_none, errW_some] <;> rfl), by (with_reducible repeat (first | apply Kd.R_alloc | apply Kd.R_drewN | apply Kd.R_drew)); exact HO112.out, by repeat (first | (with_reducible first | exact HB.out | apply below_alloc | apply pw_below_drewN | apply below_drew1) | exact HB.out)⟩
  · rw [if_neg c2] at H
    exact absurd H (by simp)

open Go.Proofs.Ytdoamckcibcdcaa.Cp
/-! ### api_Pair_30: function 30 -/
set_option maxHeartbeats 8000000 in
set_option maxRecDepth 100000 in
theorem api_Pair_30.calls (p : S59 → Bool) (g : Nat) (lb : Array Value) (eg : ∀ args w, (callFunc g args).run Try.prog w = .ok (.enter g args) w) (A0 : Option Addr) (c0 : Nat) (l0 : List (S59)) (w : World) (hr0 : Kd.C k59 w A0 l0.length l0)
    (hp : ∀ (W : World) (x : S59), Below w.heap.size w W → Calls Try.prog g (#[.agg #[.string x.f0, .string x.f1]] ++ lb) W fun e w' => e = .returned (.bool (p x)) ∧ Below W.heap.size W w') :
    Calls Try.prog 30 #[.slice A0 l0.length c0, .func (.func g) #[] lb] w fun e w' => e = .returned (.int .i64 (ixOf p l0)) ∧ Below w.heap.size w w' := by
  have hu59 := Try.underlying59
  have HR := Aside0.mk hr0
  have HP := Aside0.mk hp
  have hmx := hr0.2.1
  clear hr0 hp
  go_enter Try.func30, Try.ntmps30
  go_wp2
  go_loopg [5, 8] l0.length (fun gg _ s8 wr => ∃ kk : Nat, kk ≤ l0.length ∧ l0.length - kk ≤ gg ∧ s8 = .int .i64 kk ∧ Aside0 (Below w.heap.size w wr) ∧ Aside0 (∀ j, j < kk → p (l0.getD j z59) = false))
  case atStart => exact ⟨0, Nat.zero_le _, by omega, rfl, ⟨Below.refl _ w⟩, ⟨fun j hj => absurd hj (Nat.not_lt_zero _)⟩⟩
  case round =>
    obtain ⟨kk, hkk, hg, rfl, HB, A⟩ := hrel
    by_cases hlt : kk < l0.length
    · have hltz : (kk : Int) < (l0.length : Int) := by omega
      obtain ⟨ad, e, hx0, hx1⟩ := at_T59 (Kd.C_below HR.out HB.out) (kk : Int) (by omega) hltz
      cases e
      simp only [Int.toNat_natCast] at hx0 hx1
      have hcall := HP.out wr (l0.getD kk z59) HB.out
      have e0 : rd_T59 l0 (kk : Int) = l0.getD kk z59 := by simp [rd_T59]
      rw [e0] at hx0 hx1
      clear e0
      obtain ⟨y, hy⟩ : ∃ y, l0.getD kk z59 = y := ⟨_, rfl⟩
      rw [hy] at hx0 hx1 hcall
      have Y := Aside0.mk hy
      clear hy
      obtain ⟨q, hq⟩ : ∃ q, p y = q := ⟨_, rfl⟩
      rw [hq] at hcall
      have Q := Aside0.mk hq
      clear hq
      cases q with
      | true =>
        go_wp2_with (go_at_fn g; refine hcall.mono ?_; rintro e w' ⟨rfl, hb'⟩)
        go_ret
        exact ⟨by rw [ixOf_hit p l0 z59 kk hlt (by rw [Y.out]; exact Q.out) A.out]; rfl, below_step HB.out hb'⟩
      | false =>
        go_wp2_with (go_at_fn g; refine hcall.mono ?_; rintro e w' ⟨rfl, hb'⟩)
        go_roundg (l0.length - (kk + 1))
        case measure => omega
        case rel =>
          refine ⟨kk + 1, by omega, by omega, by go_num, ⟨below_step HB.out hb'⟩, ⟨fun j hj => ?_⟩⟩
          by_cases e : j = kk
          · subst e; rw [Y.out]; exact Q.out
          · exact A.out j (by omega)
    · have hltz : decide ((kk : Int) < (l0.length : Int)) = false := decide_eq_false (by omega)
      have hltn : decide (kk < l0.length) = false := decide_eq_false (by omega)
      have E := Aside0.mk (show kk = l0.length by omega)
      go_wp2
      go_ret
      exact ⟨by rw [ixOf_miss p l0 z59 (fun j hj => A.out j (by have := E.out; omega))]; rfl, HB.out⟩

open Go.Proofs.Ytdoamckcibcdcaa.Cp
/-! ### table_at: function 29 -/
theorem enters37 : ∀ args w, (callFunc 37 args).run Try.prog w = .ok (.enter 37 args) w := enters_of Try.func37 (by kernel_rfl) rfl
set_option maxHeartbeats 8000000 in
theorem table_at_1.calls (x : S59) (key : ByteArray) (B : Nat) (W : World) (hc : W.cell? ⟨B, 0, none⟩ = some (.string key)) :
    Calls Try.prog 37 #[.agg #[.string x.f0, .string x.f1], .pointer (some ⟨B, 0, none⟩)] W fun e w' => e = .returned (.bool (x.f0.toList == key.toList)) ∧ Below W.heap.size W w' := by
  have hu59 := Try.underlying59
  have hB := World.block_lt_of_cell? W _ hc
  go_enter Try.func37, Try.ntmps37
  go_wp2
  go_ret
  exact ⟨rfl, (Below.refl _ _).alloc (Nat.le_refl _) _⟩
set_option maxHeartbeats 8000000 in
theorem table_at.calls (A0 : Option Addr) (c0 : Nat) (l0 : List (S59)) (a1 : ByteArray) (r : Int) (w : World) (hr0 : Kd.C k59 w A0 l0.length l0) (hc0 : l0.length ≤ c0) (h : table_at.f l0 a1 = some r) :
    Calls Try.prog 29 #[.slice A0 l0.length c0, .string a1] w fun e w' => e = .returned (.int .i64 r) ∧ Below w.heap.size w w' := by
  obtain rfl := Option.some.inj h
  have HR := Aside0.mk hr0
  clear hr0 h hc0
  go_enter Try.func29, Try.ntmps29
  go_wp2_with (go_at_call 30; (refine (api_Pair_30.calls (fun x => x.f0.toList == a1.toList) 37 #[.pointer (some ⟨w.heap.size, 0, none⟩)] enters37 A0 c0 l0 _ (Kd.C_alloc HR.out _) (fun W x hb => table_at_1.calls x a1 w.heap.size W ((hb.cell (p := ⟨w.heap.size, 0, none⟩) (by simp)).trans (by go_simp)))).mono ?_; rintro e w' ⟨rfl, hb⟩))
  go_ret
  exact ⟨rfl, ((Below.refl _ _).alloc (Nat.le_refl _) _).trans (hb.mono (by simp))⟩

-- function 38: no road meets it

-- function 41: no road meets it

-- function 40: no road meets it

-- function 39: no road meets it

end Go.Proofs.Ytdoamckcibcdcaa.PB
