-- Made by a program of this workplace out of the translation (wip/tools in the repo). Not trusted: Lean checks it.
import Derived.Test.YtlacmlceedkfoaaPEx0
namespace Go.Proofs.Ytlacmlceedkfoaa.PE
open Go.RowKit Go.Proofs.YtlacmlceedkfoaaW.PrintWords Go.Proofs.YtlacmlceedkfoaaW.PrintLast Go.Proofs.YtlacmlceedkfoaaW.PrintMore
attribute [local go_sem] max2_int min2_int max_two min_two max_three min_three max_four min_four   -- for this text's walks alone
set_option linter.unusedVariables false
set_option linter.unusedSimpArgs false

/-! ### api_Write_34: function 34 -/
def ixOf {α : Type} (p : α → Bool) (l : List α) : Int := if l.findIdx p < l.length then ((l.findIdx p : Nat) : Int) else -1
theorem ixOf_hit {α : Type} (p : α → Bool) (l : List α) (d : α) (k : Nat) (h : k < l.length) (hk : p (l.getD k d) = true) (hn : ∀ j, j < k → p (l.getD j d) = false) : ixOf p l = (k : Int) := by
  have e : l.findIdx p = k := by
    rw [List.findIdx_eq h]
    refine ⟨by rw [List.getD_eq_getElem?_getD, List.getElem?_eq_getElem h] at hk; exact hk, fun j hj => ?_⟩
    have := hn j hj
    rw [List.getD_eq_getElem?_getD, List.getElem?_eq_getElem (by omega)] at this
    exact this
  unfold ixOf
  rw [e, if_pos h]
theorem ixOf_miss {α : Type} (p : α → Bool) (l : List α) (d : α) (hn : ∀ j, j < l.length → p (l.getD j d) = false) : ixOf p l = -1 := by
  unfold ixOf
  rw [if_neg]
  intro h
  have h1 := List.findIdx_getElem (w := h) (p := p) (xs := l)
  have h2 := hn _ h
  rw [List.getD_eq_getElem?_getD, List.getElem?_eq_getElem h] at h2
  have h3 : p l[l.findIdx p] = false := h2
  rw [h3] at h1
  cases h1
theorem ixOf_cases {α : Type} (p : α → Bool) (l : List α) : ixOf p l = -1 ∨ ∃ i : Nat, i < l.length ∧ ixOf p l = (i : Int) := by
  unfold ixOf
  split
  · exact .inr ⟨_, by assumption, rfl⟩
  · exact .inl rfl


/-! ### table_at: function 50 -/
def table_at.f (l0 : List S59) (a1 : ByteArray) : Option Int := some (ixOf (fun x => x.f0.toList == a1.toList) l0)

/-! ### table_Find (function 36): what it is -/
def table_Find.f (l0 : List (S59)) (a1 : ByteArray) : Option (ByteArray × Bool) := (table_at.f l0 a1).bind fun t101 => (if t101 < 0 then (some ((⟨#[]⟩ : ByteArray), false)) else (if 0 ≤ t101 then (if t101 < (l0.length : Int) then (some ((rd_T59 l0 t101).f1, true)) else (none)) else (none)))

/-! ### view_Get: function 23 -/
def geq61 (key : ByteArray) (x : S61) : Bool := x.f0.toList == key.toList
def view_Get.f (l0 : List S61) (l1 : List S59) (a2 : ByteArray) : Option (ByteArray × Bool) :=
  if ixOf (geq61 a2) l0 < 0 then table_Find.f l1 a2 else if (rd_T61 l0 (ixOf (geq61 a2) l0)).f2 = true then some ((⟨#[]⟩ : ByteArray), false) else some ((rd_T61 l0 (ixOf (geq61 a2) l0)).f1, true)
theorem ixOf_cases' {α : Type} (p : α → Bool) (l : List α) : ixOf p l = -1 ∨ ∃ i : Nat, i < l.length ∧ ixOf p l = (i : Int) := by
  unfold ixOf
  split
  · exact .inr ⟨_, by assumption, rfl⟩
  · exact .inl rfl

/-! ### api_Pair_24 (function 24): what it is -/
def api_Pair_24.l0 : Nat → List (S59) → List (S59) → Int → Int → Option (Bool)
  | 0, _, _, _, _ => none
  | k + 1, x0, x1, x12, x13 => if x13 < x12 then (if 0 ≤ x13 then (if x13 < (x0.length : Int) then (if x13 < (x1.length : Int) then (if (!((((rd_T59 x0 x13).f0).toList) == (((rd_T59 x1 x13).f0).toList)) || (!((((rd_T59 x0 x13).f1).toList) == (((rd_T59 x1 x13).f1).toList)))) = true then (some false) else (api_Pair_24.l0 k x0 x1 x12 (wrap64 (x13 + 1)))) else (none)) else (none)) else (none)) else (some true)
def api_Pair_24.f (k : Nat) (l0 : List (S59)) (l1 : List (S59)) : Option (Bool) := if (l0.length : Int) = (l1.length : Int) then (api_Pair_24.l0 k l0 l1 (l0.length : Int) 0) else (some false)
/-! ### api_Pair_45 (function 45): what it is -/
def api_Pair_45.f (l0 : List (S59)) : Option ((List (S59))) := (some (([] : List (S59)) : List (S59))).bind fun y105 => (if y105.length + l0.length < 4398046511104 then (some (y105 ++ l0)) else (none))


/-! ### table_Put: function 55 -/
def gtK59 (key : ByteArray) (x : S59) : Bool := !Op.bytesLess x.f0.toList key.toList && !x.f0.toList == key.toList
def eqK59 (key : ByteArray) (x : S59) : Bool := x.f0.toList == key.toList
def putL59 (l : List S59) (key val : ByteArray) : List S59 :=
  if 0 ≤ ixOf (eqK59 key) l then l.set (ixOf (eqK59 key) l).toNat ⟨key, val⟩
  else if ixOf (gtK59 key) l < 0 then l ++ [⟨key, val⟩]
  else l.take (ixOf (gtK59 key) l).toNat ++ ⟨key, val⟩ :: l.drop (ixOf (gtK59 key) l).toNat
def table_Put.f (l0 : List S59) (a1 a2 : ByteArray) : Option (List S59) := (api_Pair_45.f l0).bind fun y => if y.length < 4398046511104 then some (putL59 y a1 a2) else none


/-! ### table_Drop: function 56 -/
def dropL59 (l : List S59) (key : ByteArray) : List S59 := l.filter (fun x => !eqK59 key x)
def table_Drop.f (l0 : List S59) (a1 : ByteArray) : Option (List S59) := (api_Pair_45.f l0).bind fun y => some (dropL59 y a1)

/-! ### table_Apply: function 30 -/
def applyF59 : List S59 → List S61 → Option (List S59)
  | l, [] => some l
  | l, x :: ws => (if x.f2 = true then table_Drop.f l x.f0 else table_Put.f l x.f0 x.f1).bind fun y => applyF59 y ws
def table_Apply.f (l0 : List S59) (l1 : List S61) : Option (List S59) := (api_Pair_45.f l0).bind fun y => applyF59 y l1

/-! ### table_Between (function 51): what it is -/
def table_Between.f (a0 : ByteArray) (a1 : ByteArray) (a2 : ByteArray) : Option (Bool) := if ((Op.bytesLess a0.toList a1.toList) = true) then (some false) else (if a2.toList = ([] : List UInt8) then (some true) else (some (Op.bytesLess a0.toList a2.toList)))

/-! ### table_Range (function 37): what it is -/
def table_Range.l0 : Nat → ByteArray → ByteArray → Int → List (S59) → List (S59) → Int → Int → Option ((List (S59)))
  | 0, _, _, _, _, _, _, _ => none
  | k + 1, x1, x2, x3, x9, x12, x13, x14 => if x14 < x13 then (if 0 ≤ x14 then (if x14 < (x12.length : Int) then (if (x9.length : Int) ≥ x3 then (some x9) else ((table_Between.f ((rd_T59 x12 x14).f0) x1 x2).bind fun t113 => (if t113 = true then (if x9.length < 4398046511104 then (table_Range.l0 k x1 x2 x3 (x9 ++ [(⟨(rd_T59 x12 x14).f0, (rd_T59 x12 x14).f1⟩ : S59)]) x12 x13 (wrap64 (x14 + 1))) else (none)) else (table_Range.l0 k x1 x2 x3 x9 x12 x13 (wrap64 (x14 + 1)))))) else (none)) else (none)) else (some x9)
def table_Range.f (k : Nat) (l0 : List (S59)) (a1 : ByteArray) (a2 : ByteArray) (a3 : Int) : Option ((List (S59))) := table_Range.l0 k a1 a2 a3 ([] : List (S59)) l0 (l0.length : Int) 0
/-! ### view_Scan (function 25): what it is -/
def view_Scan.f (k : Nat) (l0 : List (S61)) (l1 : List (S59)) (a2 : ByteArray) (a3 : ByteArray) (a4 : Int) : Option ((List (S59))) := (table_Apply.f l1 l0).bind fun t117 => ((table_Range.f k t117 a2 a3 a4).bind fun t120 => (some t120))
/-! ### api_Write_39 (function 39): what it is -/
def api_Write_39.f (l0 : List (S61)) : Option ((List (S61))) := (some (([] : List (S61)) : List (S61))).bind fun y123 => (if y123.length + l0.length < 3518437208883 then (some (y123 ++ l0)) else (none))


/-! ### view_Set: function 26 -/
def sgt61 (key : ByteArray) (x : S61) : Bool := !Op.bytesLess x.f0.toList key.toList && !x.f0.toList == key.toList
def seq61 (key : ByteArray) (x : S61) : Bool := x.f0.toList == key.toList
def setL61 (l : List S61) (x : S61) : List S61 :=
  if 0 ≤ ixOf (seq61 x.f0) l then l.set (ixOf (seq61 x.f0) l).toNat x
  else if ixOf (sgt61 x.f0) l < 0 then l ++ [x]
  else l.take (ixOf (sgt61 x.f0) l).toNat ++ x :: l.drop (ixOf (sgt61 x.f0) l).toNat
def view_Set.f (l0 : List S61) (a1_0 a1_1 : ByteArray) (a1_2 : Bool) : Option (List S61) := (api_Write_39.f l0).bind fun y => if l0.length < 3518437208000 then some (setL61 y ⟨a1_0, a1_1, a1_2⟩) else none

/-! ### audit_Step (function 11): what it is -/
def audit_Step.f (k : Nat) (l0 : List (S61)) (l1 : List (S59)) (a2_0 : Int) (a2_1 : ByteArray) (a2_2 : ByteArray) (a2_3 : ByteArray) (a2_4 : ByteArray) (a2_5 : Int) (a2_6 : ByteArray) (a2_7 : Bool) (l2_8 : List (S59)) : Option ((List (S61)) × Bool) := if a2_0 = 1 then ((view_Get.f l0 l1 a2_1).bind fun bt141 => (if bt141.1.toList = a2_6.toList then (some (l0, (bt141.2 == a2_7))) else (some (l0, false)))) else (if a2_0 = 4 then ((view_Scan.f k l0 l1 a2_3 a2_4 a2_5).bind fun t131 => ((api_Pair_24.f k t131 l2_8).bind fun t134 => (some (l0, t134)))) else (if a2_0 = 3 then ((view_Set.f l0 a2_1 (⟨#[]⟩ : ByteArray) true).bind fun t135 => (some (t135, true))) else (if a2_0 = 2 then ((view_Set.f l0 a2_1 a2_2 false).bind fun t138 => (some (t138, true))) else (some (l0, true)))))
/-! ### audit_One (function 13): what it is -/
def audit_One.l0 : Nat → List (S59) → List (S27) → List (S61) → Int → Int → Option ((List (S61)) × Bool)
  | 0, _, _, _, _, _ => none
  | k + 1, x0, x1, x6, x11, x12 => if x12 < x11 then (if 0 ≤ x12 then (if x12 < (x1.length : Int) then ((audit_Step.f k x6 x0 ((rd_T27 x1 x12).f0.f0) ((rd_T27 x1 x12).f0.f1) ((rd_T27 x1 x12).f0.f2) ((rd_T27 x1 x12).f0.f3) ((rd_T27 x1 x12).f0.f4) ((rd_T27 x1 x12).f0.f5) ((rd_T27 x1 x12).f1) ((rd_T27 x1 x12).f2) ((rd_T27 x1 x12).f3)).bind fun bt144 => (if bt144.2 = true then (audit_One.l0 k x0 x1 bt144.1 x11 (wrap64 (x12 + 1))) else (some (([] : List (S61)), false)))) else (none)) else (none)) else (some (x6, true))
def audit_One.f (k : Nat) (l0 : List (S59)) (l1 : List (S27)) : Option ((List (S61)) × Bool) := audit_One.l0 k l0 l1 ([] : List (S61)) (l1.length : Int) 0
/-! ### audit_Serial (function 16): what it is -/
def audit_Serial.l0 : Nat → List (S59) → List (S46) → Int → Int → Option ((List (S59)) × Int)
  | 0, _, _, _, _ => none
  | k + 1, x0, x1, x10, x11 => if x11 < x10 then (if 0 ≤ x11 then (if x11 < (x1.length : Int) then ((audit_One.f k x0 ((rd_T46 x1 x11).f1)).bind fun bt149 => (if bt149.2 = true then ((table_Apply.f x0 bt149.1).bind fun t153 => (audit_Serial.l0 k t153 x1 x10 (wrap64 (x11 + 1)))) else (some (x0, x11)))) else (none)) else (none)) else (some (x0, (x1.length : Int)))
def audit_Serial.f (k : Nat) (l0 : List (S59)) (l1 : List (S46)) : Option ((List (S59)) × Int) := audit_Serial.l0 k l0 l1 (l1.length : Int) 0
/-! ### stanchionlaw19_shown: function 10 -/
def stanchionlaw19_shown.f : Option Bool := some true

/-! ### stanchionref05_Same (function 17): what it is -/
def stanchionref05_Same.l0 : Nat → List (S59) → List (S59) → Int → Option (Bool)
  | 0, _, _, _ => none
  | k + 1, x0, x1, x5 => if x5 < (x0.length : Int) then (if 0 ≤ x5 then (if x5 < (x1.length : Int) then (if (!((((rd_T59 x0 x5).f0).toList) == (((rd_T59 x1 x5).f0).toList)) || (!((((rd_T59 x0 x5).f1).toList) == (((rd_T59 x1 x5).f1).toList)))) = true then (some false) else (stanchionref05_Same.l0 k x0 x1 (wrap64 (x5 + 1)))) else (none)) else (none)) else (some true)
def stanchionref05_Same.f (k : Nat) (l0 : List (S59)) (l1 : List (S59)) : Option (Bool) := if (l0.length : Int) = (l1.length : Int) then (stanchionref05_Same.l0 k l0 l1 0) else (some false)
/-! ### stanchionref05_Find (function 18): what it is -/
def stanchionref05_Find.l0 : Nat → List (S59) → ByteArray → Int → Option (ByteArray × Bool)
  | 0, _, _, _ => none
  | k + 1, x0, x1, x6 => if x6 < (x0.length : Int) then (if 0 ≤ x6 then (if ((rd_T59 x0 x6).f0).toList = x1.toList then (some ((rd_T59 x0 x6).f1, true)) else (stanchionref05_Find.l0 k x0 x1 (wrap64 (x6 + 1)))) else (none)) else (some ((⟨#[]⟩ : ByteArray), false))
def stanchionref05_Find.f (k : Nat) (l0 : List (S59)) (a1 : ByteArray) : Option (ByteArray × Bool) := stanchionref05_Find.l0 k l0 a1 0
/-! ### stanchionref12_at (function 42): what it is -/
def stanchionref12_at.l0 : Nat → List (S61) → ByteArray → Int → Option (Int)
  | 0, _, _, _ => none
  | k + 1, x0, x1, x5 => if x5 < (x0.length : Int) then (if 0 ≤ x5 then (if ((rd_T61 x0 x5).f0).toList = x1.toList then (some x5) else (stanchionref12_at.l0 k x0 x1 (wrap64 (x5 + 1)))) else (none)) else (some (-1))
def stanchionref12_at.f (k : Nat) (l0 : List (S61)) (a1 : ByteArray) : Option (Int) := stanchionref12_at.l0 k l0 a1 0
/-! ### stanchionref12_Get (function 27): what it is -/
def stanchionref12_Get.f (k : Nat) (l0 : List (S61)) (l1 : List (S59)) (a2 : ByteArray) : Option (ByteArray × Bool) := (stanchionref12_at.f k l0 a2).bind fun t161 => (if t161 < 0 then ((stanchionref05_Find.f k l1 a2).bind fun bt162 => (some (bt162.1, bt162.2))) else (if 0 ≤ t161 then (if t161 < (l0.length : Int) then (if (rd_T61 l0 t161).f2 = true then (some ((⟨#[]⟩ : ByteArray), false)) else (some ((rd_T61 l0 t161).f1, true))) else (none)) else (none)))
/-! ### stanchionref01_Less (function 43): what it is -/
mutual
def stanchionref01_Less.l0 : Nat → ByteArray → ByteArray → Int → Option (Bool)
  | 0, _, _, _ => none
  | k + 1, x0, x1, x5 => if x5 < (x0.size : Int) then (stanchionref01_Less.j1 k x0 x1 x5 (decide (x5 < (x1.size : Int)))) else (stanchionref01_Less.j1 k x0 x1 x5 false)
def stanchionref01_Less.j1 : Nat → ByteArray → ByteArray → Int → Bool → Option (Bool)
  | 0, _, _, _, _ => none
  | k + 1, x0, x1, x5, x15 => if x15 = true then (if 0 ≤ x5 then (if x5 < (x0.size : Int) then (if x5 < (x1.size : Int) then (if (bt x0 x5) = (bt x1 x5) then (stanchionref01_Less.l0 k x0 x1 (wrap64 (x5 + 1))) else (some (decide ((bt x0 x5) < (bt x1 x5))))) else (none)) else (none)) else (none)) else (some (decide ((x0.size : Int) < (x1.size : Int))))
end
def stanchionref01_Less.f (k : Nat) (a0 : ByteArray) (a1 : ByteArray) : Option (Bool) := stanchionref01_Less.l0 k a0 a1 0
/-! ### stanchionref12_Set (function 28): what it is -/
def stanchionref12_Set.l0 : Nat → List (S61) → Int → List (S61) → Bool → Int → ByteArray → ByteArray → Bool → Option ((List (S61)))
  | 0, _, _, _, _, _, _, _, _ => none
  | k + 1, x0, x5, x6, x7, x8, x167000, x167001, x167002 => if x8 < (x0.length : Int) then (if x8 = x5 then (if x6.length < 3518437208883 then (stanchionref12_Set.l0 k x0 x5 (x6 ++ [(⟨x167000, x167001, x167002⟩ : S61)]) true (wrap64 (x8 + 1)) x167000 x167001 x167002) else (none)) else (if 0 ≤ x8 then ((stanchionref01_Less.f k x167000 ((rd_T61 x0 x8).f0)).bind fun t175 => (if x5 < 0 then (if x7 = true then (if x6.length < 3518437208883 then (stanchionref12_Set.l0 k x0 x5 (x6 ++ [(⟨(rd_T61 x0 x8).f0, (rd_T61 x0 x8).f1, (rd_T61 x0 x8).f2⟩ : S61)]) x7 (wrap64 (x8 + 1)) x167000 x167001 x167002) else (none)) else (if t175 = true then (if x6.length < 3518437208883 then ((some (x6 ++ [(⟨x167000, x167001, x167002⟩ : S61)] : List (S61))).bind fun y180 => (if y180.length < 3518437208883 then (stanchionref12_Set.l0 k x0 x5 (y180 ++ [(⟨(rd_T61 x0 x8).f0, (rd_T61 x0 x8).f1, (rd_T61 x0 x8).f2⟩ : S61)]) true (wrap64 (x8 + 1)) x167000 x167001 x167002) else (none))) else (none)) else (if x6.length < 3518437208883 then (stanchionref12_Set.l0 k x0 x5 (x6 ++ [(⟨(rd_T61 x0 x8).f0, (rd_T61 x0 x8).f1, (rd_T61 x0 x8).f2⟩ : S61)]) x7 (wrap64 (x8 + 1)) x167000 x167001 x167002) else (none)))) else (if x6.length < 3518437208883 then (stanchionref12_Set.l0 k x0 x5 (x6 ++ [(⟨(rd_T61 x0 x8).f0, (rd_T61 x0 x8).f1, (rd_T61 x0 x8).f2⟩ : S61)]) x7 (wrap64 (x8 + 1)) x167000 x167001 x167002) else (none)))) else (none))) else (if x7 = true then (some x6) else (if x6.length < 3518437208883 then (some (x6 ++ [(⟨x167000, x167001, x167002⟩ : S61)])) else (none)))
def stanchionref12_Set.f (k : Nat) (l0 : List (S61)) (a1_0 : ByteArray) (a1_1 : ByteArray) (a1_2 : Bool) : Option ((List (S61))) := (stanchionref12_at.f k l0 a1_0).bind fun t167 => (stanchionref12_Set.l0 k l0 t167 ([] : List (S61)) false 0 a1_0 a1_1 a1_2)
/-! ### stanchionref05_Drop (function 48): what it is -/
def stanchionref05_Drop.l0 : Nat → List (S59) → ByteArray → List (S59) → Int → Option ((List (S59)))
  | 0, _, _, _, _ => none
  | k + 1, x0, x1, x5, x6 => if x6 < (x0.length : Int) then (if 0 ≤ x6 then (if ((rd_T59 x0 x6).f0).toList = x1.toList then (stanchionref05_Drop.l0 k x0 x1 x5 (wrap64 (x6 + 1))) else (if x5.length < 4398046511104 then (stanchionref05_Drop.l0 k x0 x1 (x5 ++ [(⟨(rd_T59 x0 x6).f0, (rd_T59 x0 x6).f1⟩ : S59)]) (wrap64 (x6 + 1))) else (none))) else (none)) else (some x5)
def stanchionref05_Drop.f (k : Nat) (l0 : List (S59)) (a1 : ByteArray) : Option ((List (S59))) := stanchionref05_Drop.l0 k l0 a1 ([] : List (S59)) 0
/-! ### stanchionref05_Put (function 49): what it is -/
mutual
def stanchionref05_Put.l0 : Nat → List (S59) → ByteArray → ByteArray → Bool → List (S59) → Bool → Int → Option ((List (S59)))
  | 0, _, _, _, _, _, _, _ => none
  | k + 1, x0, x1, x2, x8, x9, x10, x11 => if x11 < (x0.length : Int) then (if x10 = true then (stanchionref05_Put.j1 k x0 x1 x2 x8 x9 x10 x11 false) else (if x8 = true then (if 0 ≤ x11 then (if ((rd_T59 x0 x11).f0).toList = x1.toList then (stanchionref05_Put.j1 k x0 x1 x2 x8 x9 x10 x11 true) else (stanchionref05_Put.j1 k x0 x1 x2 x8 x9 x10 x11 false)) else (none)) else (if 0 ≤ x11 then ((stanchionref01_Less.f k x1 ((rd_T59 x0 x11).f0)).bind fun t207 => (stanchionref05_Put.j1 k x0 x1 x2 x8 x9 x10 x11 t207)) else (none)))) else (if x10 = true then (some x9) else (if x9.length < 4398046511104 then (some (x9 ++ [(⟨x1, x2⟩ : S59)])) else (none)))
def stanchionref05_Put.j1 : Nat → List (S59) → ByteArray → ByteArray → Bool → List (S59) → Bool → Int → Bool → Option ((List (S59)))
  | 0, _, _, _, _, _, _, _, _ => none
  | k + 1, x0, x1, x2, x8, x9, x10, x11, x50 => if x50 = true then (if x9.length < 4398046511104 then ((some (x9 ++ [(⟨x1, x2⟩ : S59)] : List (S59))).bind fun y208 => (if x8 = true then (stanchionref05_Put.l0 k x0 x1 x2 x8 y208 true (wrap64 (x11 + 1))) else (if 0 ≤ x11 then (if x11 < (x0.length : Int) then (if y208.length < 4398046511104 then (stanchionref05_Put.l0 k x0 x1 x2 x8 (y208 ++ [(⟨(rd_T59 x0 x11).f0, (rd_T59 x0 x11).f1⟩ : S59)]) true (wrap64 (x11 + 1))) else (none)) else (none)) else (none)))) else (none)) else (if 0 ≤ x11 then (if x11 < (x0.length : Int) then (if x9.length < 4398046511104 then (stanchionref05_Put.l0 k x0 x1 x2 x8 (x9 ++ [(⟨(rd_T59 x0 x11).f0, (rd_T59 x0 x11).f1⟩ : S59)]) x10 (wrap64 (x11 + 1))) else (none)) else (none)) else (none))
end
def stanchionref05_Put.f (k : Nat) (l0 : List (S59)) (a1 : ByteArray) (a2 : ByteArray) : Option ((List (S59))) := (stanchionref05_Find.f k l0 a1).bind fun bt200 => (stanchionref05_Put.l0 k l0 a1 a2 bt200.2 ([] : List (S59)) false 0)
/-! ### stanchionref05_Apply (function 31): what it is -/
def stanchionref05_Apply.l0 : Nat → List (S61) → List (S59) → Int → Option ((List (S59)))
  | 0, _, _, _ => none
  | k + 1, x1, x5, x6 => if x6 < (x1.length : Int) then (if 0 ≤ x6 then (if (rd_T61 x1 x6).f2 = true then ((stanchionref05_Drop.f k x5 ((rd_T61 x1 x6).f0)).bind fun t227 => (stanchionref05_Apply.l0 k x1 t227 (wrap64 (x6 + 1)))) else ((stanchionref05_Put.f k x5 ((rd_T61 x1 x6).f0) ((rd_T61 x1 x6).f1)).bind fun t232 => (stanchionref05_Apply.l0 k x1 t232 (wrap64 (x6 + 1))))) else (none)) else (some x5)
def stanchionref05_Apply.f (k : Nat) (l0 : List (S59)) (l1 : List (S61)) : Option ((List (S59))) := (some (([] : List (S59)) : List (S59))).bind fun y219 => (if y219.length + l0.length < 4398046511104 then (stanchionref05_Apply.l0 k l1 (y219 ++ l0) 0) else (none))
/-! ### stanchionref05_Between (function 54): what it is -/
def stanchionref05_Between.f (k : Nat) (a0 : ByteArray) (a1 : ByteArray) (a2 : ByteArray) : Option (Bool) := (stanchionref01_Less.f k a0 a1).bind fun t235 => (if t235 = true then (some false) else (if a2.toList = ([] : List UInt8) then (some true) else ((stanchionref01_Less.f k a0 a2).bind fun t236 => (some t236))))
/-! ### stanchionref05_Range (function 44): what it is -/
mutual
def stanchionref05_Range.l0 : Nat → List (S59) → ByteArray → ByteArray → Int → List (S59) → Int → Option ((List (S59)))
  | 0, _, _, _, _, _, _ => none
  | k + 1, x0, x1, x2, x3, x9, x10 => if x10 < (x0.length : Int) then (stanchionref05_Range.j1 k x0 x1 x2 x3 x9 x10 (decide ((x9.length : Int) < x3))) else (stanchionref05_Range.j1 k x0 x1 x2 x3 x9 x10 false)
def stanchionref05_Range.j1 : Nat → List (S59) → ByteArray → ByteArray → Int → List (S59) → Int → Bool → Option ((List (S59)))
  | 0, _, _, _, _, _, _, _ => none
  | k + 1, x0, x1, x2, x3, x9, x10, x21 => if x21 = true then (if 0 ≤ x10 then (if x10 < (x0.length : Int) then ((stanchionref05_Between.f k ((rd_T59 x0 x10).f0) x1 x2).bind fun t238 => (if t238 = true then (if x9.length < 4398046511104 then (stanchionref05_Range.l0 k x0 x1 x2 x3 (x9 ++ [(⟨(rd_T59 x0 x10).f0, (rd_T59 x0 x10).f1⟩ : S59)]) (wrap64 (x10 + 1))) else (none)) else (stanchionref05_Range.l0 k x0 x1 x2 x3 x9 (wrap64 (x10 + 1))))) else (none)) else (none)) else (some x9)
end
def stanchionref05_Range.f (k : Nat) (l0 : List (S59)) (a1 : ByteArray) (a2 : ByteArray) (a3 : Int) : Option ((List (S59))) := stanchionref05_Range.l0 k l0 a1 a2 a3 ([] : List (S59)) 0
/-! ### stanchionref12_Scan (function 29): what it is -/
def stanchionref12_Scan.f (k : Nat) (l0 : List (S61)) (l1 : List (S59)) (a2 : ByteArray) (a3 : ByteArray) (a4 : Int) : Option ((List (S59))) := (stanchionref05_Apply.f k l1 l0).bind fun t243 => ((stanchionref05_Range.f k t243 a2 a3 a4).bind fun t246 => (some t246))
/-! ### stanchionref19_Step (function 12): what it is -/
def stanchionref19_Step.f (k : Nat) (l0 : List (S61)) (l1 : List (S59)) (a2_0 : Int) (a2_1 : ByteArray) (a2_2 : ByteArray) (a2_3 : ByteArray) (a2_4 : ByteArray) (a2_5 : Int) (a2_6 : ByteArray) (a2_7 : Bool) (l2_8 : List (S59)) : Option ((List (S61)) × Bool) := if a2_0 = 1 then ((stanchionref12_Get.f k l0 l1 a2_1).bind fun bt251 => (if bt251.1.toList = a2_6.toList then (some (l0, (bt251.2 == a2_7))) else (some (l0, false)))) else (if a2_0 = 2 then ((stanchionref12_Set.f k l0 a2_1 a2_2 false).bind fun t253 => (some (t253, true))) else (if a2_0 = 3 then ((stanchionref12_Set.f k l0 a2_1 (⟨#[]⟩ : ByteArray) true).bind fun t256 => (some (t256, true))) else (if a2_0 = 4 then ((stanchionref12_Scan.f k l0 l1 a2_3 a2_4 a2_5).bind fun t259 => ((stanchionref05_Same.f k t259 l2_8).bind fun t262 => (some (l0, t262)))) else (some (l0, true)))))
/-! ### stanchionref19_One (function 14): what it is -/
def stanchionref19_One.l0 : Nat → List (S59) → List (S27) → List (S61) → Int → Option ((List (S61)) × Bool)
  | 0, _, _, _, _ => none
  | k + 1, x0, x1, x6, x7 => if x7 < (x1.length : Int) then (if 0 ≤ x7 then ((stanchionref19_Step.f k x6 x0 ((rd_T27 x1 x7).f0.f0) ((rd_T27 x1 x7).f0.f1) ((rd_T27 x1 x7).f0.f2) ((rd_T27 x1 x7).f0.f3) ((rd_T27 x1 x7).f0.f4) ((rd_T27 x1 x7).f0.f5) ((rd_T27 x1 x7).f1) ((rd_T27 x1 x7).f2) ((rd_T27 x1 x7).f3)).bind fun bt264 => (if bt264.2 = true then (stanchionref19_One.l0 k x0 x1 bt264.1 (wrap64 (x7 + 1))) else (some (([] : List (S61)), false)))) else (none)) else (some (x6, true))
def stanchionref19_One.f (k : Nat) (l0 : List (S59)) (l1 : List (S27)) : Option ((List (S61)) × Bool) := stanchionref19_One.l0 k l0 l1 ([] : List (S61)) 0
/-! ### stanchionref19_Serial (function 19): what it is -/
def stanchionref19_Serial.l0 : Nat → List (S59) → List (S46) → Int → Option ((List (S59)) × Int)
  | 0, _, _, _ => none
  | k + 1, x0, x1, x6 => if x6 < (x1.length : Int) then (if 0 ≤ x6 then ((stanchionref19_One.f k x0 ((rd_T46 x1 x6).f1)).bind fun bt269 => (if bt269.2 = true then ((stanchionref05_Apply.f k x0 bt269.1).bind fun t273 => (stanchionref19_Serial.l0 k t273 x1 (wrap64 (x6 + 1)))) else (some (x0, x6)))) else (none)) else (some (x0, (x1.length : Int)))
def stanchionref19_Serial.f (k : Nat) (l0 : List (S59)) (l1 : List (S46)) : Option ((List (S59)) × Int) := stanchionref19_Serial.l0 k l0 l1 0
end Go.Proofs.Ytlacmlceedkfoaa.PE
