-- Made by a program of this workplace out of the translation (wip/tools in the repo). Not trusted: Lean checks it.
import Derived.Test.YtbhkopbalhhpgaaPMx0
namespace Go.Proofs.Ytbhkopbalhhpgaa.PM
open Go.RowKit Go.Proofs.YtbhkopbalhhpgaaW.PrintWords Go.Proofs.YtbhkopbalhhpgaaW.PrintLast Go.Proofs.YtbhkopbalhhpgaaW.PrintMore
attribute [local go_sem] max2_int min2_int max_two min_two max_three min_three max_four min_four   -- for this text's walks alone
set_option linter.unusedVariables false
set_option linter.unusedSimpArgs false

/-! ### run_may_1 (function 58): what it is -/
def run_may_1.f (a0_0 : ByteArray) (a0_1 : ByteArray) : Option (Bool) := if (a0_0.size : Int) > 65536 then (some true) else (some (decide ((a0_1.size : Int) > 65536)))

/-! ### table_Right (function 59): what it is -/
def table_Right.l0 : Nat → List (S62) → Int → Option (Bool)
  | 0, _, _ => none
  | k + 1, x0, x3 => if x3 < (x0.length : Int) then (if 0 ≤ (wrap64 (x3 - 1)) then (if (wrap64 (x3 - 1)) < (x0.length : Int) then (if 0 ≤ x3 then (if ((Op.bytesLess (((rd_T62 x0 (wrap64 (x3 - 1))).f0).toList) (((rd_T62 x0 x3).f0).toList)) = true) then (table_Right.l0 k x0 (wrap64 (x3 + 1))) else (some false)) else (none)) else (none)) else (none)) else (some true)
def table_Right.f (k : Nat) (l0 : List (S62)) : Option (Bool) := table_Right.l0 k l0 1
theorem table_Right.mono_l : ∀ k, (∀ y0 y1, LeO (table_Right.l0 k y0 y1) (table_Right.l0 (k + 1) y0 y1))
  | 0 => fun _ _ r h => by simp [table_Right.l0] at h
  | k + 1 => by
    have ih0 := table_Right.mono_l k
    · intro y0 y1
      unfold table_Right.l0
      repeat' first
      | (with_reducible exact ih0 _ _)
      | (with_reducible exact LeO.refl _)
      | (with_reducible exact LeO.none _)
      | (with_reducible refine LeO.ite ?_ ?_)
      | (with_reducible refine LeO.bind ?_ (fun _ => ?_))
      | exact ih0 _ _
      | exact LeO.none _
      | refine LeO.ite ?_ ?_
      | refine LeO.bind ?_ (fun _ => ?_)
theorem table_Right.mono : ∀ a0 k, LeO (table_Right.f k a0) (table_Right.f (k + 1) a0) := by
  intro a0 k
  have ih0 := table_Right.mono_l k
  unfold table_Right.f
  repeat' first
      | (with_reducible exact ih0 _ _)
      | (with_reducible exact LeO.refl _)
      | (with_reducible exact LeO.none _)
      | (with_reducible refine LeO.ite ?_ ?_)
      | (with_reducible refine LeO.bind ?_ (fun _ => ?_))
      | exact ih0 _ _
      | exact LeO.none _
      | refine LeO.ite ?_ ?_
      | refine LeO.bind ?_ (fun _ => ?_)

/-! ### api_Pair_86: function 86 -/
def ixOf {α : Type} (p : α → Bool) (l : List α) : Int := if l.findIdx p < l.length then ((l.findIdx p : Nat) : Int) else -1
theorem ixOf_hit {α : Type} (p : α → Bool) (l : List α) (d : α) (k : Nat) (h : k < l.length) (hk : p (l.getD k d) = true) (hn : ∀ j, j < k → p (l.getD j d) = false) : ixOf p l = (k : Int) := by
  have e : l.findIdx p = k := by
    rw [List.findIdx_eq h]
    refine ⟨by rw [List.getD_eq_getElem?_getD, List.getElem?_eq_getElem h] at hk; exact hk, fun j hj => ?_⟩
    have := hn j hj
    rw [List.getD_eq_getElem?_getD, List.getElem?_eq_getElem (by omega)] at this
    exact this
  unfold ixOf
  rw [e, if_pos h]
theorem ixOf_miss {α : Type} (p : α → Bool) (l : List α) (d : α) (hn : ∀ j, j < l.length → p (l.getD j d) = false) : ixOf p l = -1 := by
  unfold ixOf
  rw [if_neg]
  intro h
  have h1 := List.findIdx_getElem (w := h) (p := p) (xs := l)
  have h2 := hn _ h
  rw [List.getD_eq_getElem?_getD, List.getElem?_eq_getElem h] at h2
  have h3 : p l[l.findIdx p] = false := h2
  rw [h3] at h1
  cases h1
theorem ixOf_cases {α : Type} (p : α → Bool) (l : List α) : ixOf p l = -1 ∨ ∃ i : Nat, i < l.length ∧ ixOf p l = (i : Int) := by
  unfold ixOf
  split
  · exact .inr ⟨_, by assumption, rfl⟩
  · exact .inl rfl


/-! ### run_may: function 28 -/
def run_may_has.f (l0 : List (S62)) : Option (Bool) := some (l0.any (fun x => (run_may_1.f x.f0 x.f1).getD false))
def run_may.f (k : Nat) (l0 : List (S62)) : Option (Bool) := (table_Right.f k l0).bind fun t104 => (if t104 = true then ((run_may_has.f l0).bind fun t105 => (some (!t105))) else (some false))
theorem run_may.mono : ∀ a0 k, LeO (run_may.f k a0) (run_may.f (k + 1) a0) := by
  intro a0 k
  unfold run_may.f
  repeat' first
      | (with_reducible exact table_Right.mono _ _)
      | (with_reducible exact LeO.refl _)
      | (with_reducible exact LeO.none _)
      | (with_reducible refine LeO.ite ?_ ?_)
      | (with_reducible refine LeO.bind ?_ (fun _ => ?_))
      | exact table_Right.mono _ _
      | exact LeO.none _
      | refine LeO.ite ?_ ?_
      | refine LeO.bind ?_ (fun _ => ?_)

/-! ### dec_Num: function 30 -/
def dg : Nat → Nat → List UInt8 → List UInt8
  | 0, _, acc => acc
  | k + 1, v, acc => if v / 10 = 0 then UInt8.ofNat (48 + v % 10) :: acc else dg k (v / 10) (UInt8.ofNat (48 + v % 10) :: acc)
def numB (v : Nat) : ByteArray := ⟨(dg 20 v [59]).toArray⟩
def dec_Num.f (a0 : Int) : Option ByteArray := if 0 ≤ a0 then (if a0 < 18446744073709551616 then some (numB a0.toNat) else none) else none

/-! ### dec_Text (function 31): what it is -/
def dec_Text.f (a0 : ByteArray) : Option (ByteArray) := (dec_Num.f (IntKind.u64.wrap ((a0.size : Int)))).bind fun t106 => (if t106.size + a0.size ≤ 9223372036854775807 then (some (t106 ++ a0)) else (none))

/-! ### sum_Of: function 62 -/
def sumS (p : Int × Int) (x : Int) : Int × Int :=
  ((p.1 + x) % 4294967296 % 65521, (p.2 + (p.1 + x) % 4294967296 % 65521) % 4294967296 % 65521)
def sumT (s : ByteArray) : Nat → Int × Int
  | 0 => (1, 0)
  | n + 1 => sumS (sumT s n) (bt s (n : Int))
def sumJ (p : Int × Int) : Int := bits .or .u32 (p.2 * 65536 % 4294967296) p.1
def sum_Of.f (a0 : ByteArray) : Option Int := if a0.size < 4611686018427387904 then some (sumJ (sumT a0 a0.size)) else none

/-! ### sum_Seal (function 32): what it is -/
def sum_Seal.f (a0 : ByteArray) : Option (ByteArray) := (dec_Text.f a0).bind fun t107 => ((sum_Of.f a0).bind fun t108 => ((dec_Num.f (IntKind.u64.wrap (t108))).bind fun t109 => (if t107.size + t109.size ≤ 9223372036854775807 then (some (t107 ++ t109)) else (none))))

/-! ### run_Bytes: function 11 -/
def run_Bytes.l0 : Nat → ByteArray → List (S62) → Int → Int → Option (ByteArray × Int)
  | 0, _, _, _, _ => none
  | k + 1, x4, x15, x16, x17 => if x17 < x16 then (if 0 ≤ x17 then (if x17 < (x15.length : Int) then ((dec_Text.f ((rd_T62 x15 x17).f0)).bind fun t114 => ((dec_Text.f ((rd_T62 x15 x17).f1)).bind fun t115 => (if t114.size + t115.size ≤ 9223372036854775807 then (if x4.size + (t114 ++ t115).size ≤ 140737488355328 then (run_Bytes.l0 k (x4 ++ (t114 ++ t115)) x15 x16 (wrap64 (x17 + 1))) else (none)) else (none)))) else (none)) else (none)) else ((sum_Seal.f x4).bind fun t116 => (some (t116, 0)))
def run_Bytes.f (k : Nat) (l0 : List (S62)) : Option (ByteArray × Int) := (run_may.f k l0).bind fun t110 => (if t110 = true then ((dec_Num.f (IntKind.u64.wrap ((l0.length : Int)))).bind fun t111 => (if 0 + t111.size ≤ 140737488355328 then (run_Bytes.l0 k ((⟨#[]⟩ : ByteArray) ++ t111) l0 (l0.length : Int) 0) else (none))) else (some ((⟨#[]⟩ : ByteArray), 1)))
theorem run_Bytes.mono_l : ∀ k, (∀ y0 y1 y2 y3, LeO (run_Bytes.l0 k y0 y1 y2 y3) (run_Bytes.l0 (k + 1) y0 y1 y2 y3))
  | 0 => fun _ _ _ _ r h => by simp [run_Bytes.l0] at h
  | k + 1 => by
    have ih0 := run_Bytes.mono_l k
    · intro y0 y1 y2 y3
      unfold run_Bytes.l0
      repeat' first
      | (with_reducible exact ih0 _ _ _ _)
      | (with_reducible exact run_may.mono _ _)
      | (with_reducible exact LeO.refl _)
      | (with_reducible exact LeO.none _)
      | (with_reducible refine LeO.ite ?_ ?_)
      | (with_reducible refine LeO.bind ?_ (fun _ => ?_))
      | exact ih0 _ _ _ _
      | exact run_may.mono _ _
      | exact LeO.none _
      | refine LeO.ite ?_ ?_
      | refine LeO.bind ?_ (fun _ => ?_)
theorem run_Bytes.mono : ∀ a0 k, LeO (run_Bytes.f k a0) (run_Bytes.f (k + 1) a0) := by
  intro a0 k
  have ih0 := run_Bytes.mono_l k
  unfold run_Bytes.f
  repeat' first
      | (with_reducible exact ih0 _ _ _ _)
      | (with_reducible exact run_may.mono _ _)
      | (with_reducible exact LeO.refl _)
      | (with_reducible exact LeO.none _)
      | (with_reducible refine LeO.ite ?_ ?_)
      | (with_reducible refine LeO.bind ?_ (fun _ => ?_))
      | exact ih0 _ _ _ _
      | exact run_may.mono _ _
      | exact LeO.none _
      | refine LeO.ite ?_ ?_
      | refine LeO.bind ?_ (fun _ => ?_)

/-! ### dec_told (function 63): what it is -/
def dec_told.l0 : Nat → ByteArray → Int → Int → Int → Option (Int × Bool)
  | 0, _, _, _, _ => none
  | k + 1, x0, x4, x8, x9 => if x9 < x8 then (if 0 ≤ x9 then (if x9 < (x0.size : Int) then (if x4 > ((18446744073709551615 - (((bt x0 x9) - 48) % 256)) / 10) then (some (0, false)) else (dec_told.l0 k x0 (IntKind.u64.wrap ((IntKind.u64.wrap (10 * x4)) + (((bt x0 x9) - 48) % 256))) x8 (wrap64 (x9 + 1)))) else (none)) else (none)) else (some (x4, true))
def dec_told.f (k : Nat) (a0 : ByteArray) : Option (Int × Bool) := dec_told.l0 k a0 0 (a0.size : Int) 0
theorem dec_told.mono_l : ∀ k, (∀ y0 y1 y2 y3, LeO (dec_told.l0 k y0 y1 y2 y3) (dec_told.l0 (k + 1) y0 y1 y2 y3))
  | 0 => fun _ _ _ _ r h => by simp [dec_told.l0] at h
  | k + 1 => by
    have ih0 := dec_told.mono_l k
    · intro y0 y1 y2 y3
      unfold dec_told.l0
      repeat' first
      | (with_reducible exact ih0 _ _ _ _)
      | (with_reducible exact LeO.refl _)
      | (with_reducible exact LeO.none _)
      | (with_reducible refine LeO.ite ?_ ?_)
      | (with_reducible refine LeO.bind ?_ (fun _ => ?_))
      | exact ih0 _ _ _ _
      | exact LeO.none _
      | refine LeO.ite ?_ ?_
      | refine LeO.bind ?_ (fun _ => ?_)
theorem dec_told.mono : ∀ a0 k, LeO (dec_told.f k a0) (dec_told.f (k + 1) a0) := by
  intro a0 k
  have ih0 := dec_told.mono_l k
  unfold dec_told.f
  repeat' first
      | (with_reducible exact ih0 _ _ _ _)
      | (with_reducible exact LeO.refl _)
      | (with_reducible exact LeO.none _)
      | (with_reducible refine LeO.ite ?_ ?_)
      | (with_reducible refine LeO.bind ?_ (fun _ => ?_))
      | exact ih0 _ _ _ _
      | exact LeO.none _
      | refine LeO.ite ?_ ?_
      | refine LeO.bind ?_ (fun _ => ?_)

/-! ### dec_TakeNum (function 35): what it is -/
mutual
def dec_TakeNum.j1 : Nat → ByteArray → Int → Option (Int × ByteArray × Int)
  | 0, _, _ => none
  | k + 1, x0, x5 => if x5 > 20 then (some (0, (⟨#[]⟩ : ByteArray), 3)) else (if 0 ≤ x5 then (if x5 ≤ (x0.size : Int) then ((dec_told.f k (x0.extract 0 (x5 : Int).toNat)).bind fun bt117 => (if x5 > 1 then (if 0 < (x0.size : Int) then (dec_TakeNum.j2 k x0 x5 bt117.1 bt117.2 ((bt x0 0) == 48)) else (none)) else (dec_TakeNum.j2 k x0 x5 bt117.1 bt117.2 false))) else (none)) else (none))
def dec_TakeNum.j2 : Nat → ByteArray → Int → Int → Bool → Bool → Option (Int × ByteArray × Int)
  | 0, _, _, _, _, _ => none
  | k + 1, x0, x5, x6, x7, x32 => if x32 = true then (some (0, (⟨#[]⟩ : ByteArray), 3)) else (if x7 = true then (if x5 < (x0.size : Int) then (if x5 = 0 then (dec_TakeNum.j3 k x0 x5 x6 true) else (if 0 ≤ x5 then (dec_TakeNum.j3 k x0 x5 x6 ((bt x0 x5) != 59)) else (none))) else (dec_TakeNum.j3 k x0 x5 x6 false)) else (some (0, (⟨#[]⟩ : ByteArray), 3)))
def dec_TakeNum.j3 : Nat → ByteArray → Int → Int → Bool → Option (Int × ByteArray × Int)
  | 0, _, _, _, _ => none
  | k + 1, x0, x5, x6, x43 => if x43 = true then (some (0, (⟨#[]⟩ : ByteArray), 3)) else (if x5 = (x0.size : Int) then (some (0, (⟨#[]⟩ : ByteArray), 2)) else (if 0 ≤ (wrap64 (x5 + 1)) then (if (wrap64 (x5 + 1)) ≤ (x0.size : Int) then (some (x6, x0.extract ((wrap64 (x5 + 1)) : Int).toNat x0.size, 0)) else (none)) else (none)))
def dec_TakeNum.l0 : Nat → ByteArray → Int → Option (Int × ByteArray × Int)
  | 0, _, _ => none
  | k + 1, x0, x5 => if x5 < (x0.size : Int) then (if 0 ≤ x5 then (if (bt x0 x5) < 48 then (dec_TakeNum.j1 k x0 x5) else (if (bt x0 x5) > 57 then (dec_TakeNum.j1 k x0 x5) else (dec_TakeNum.l0 k x0 (wrap64 (x5 + 1))))) else (none)) else (dec_TakeNum.j1 k x0 x5)
end
def dec_TakeNum.f (k : Nat) (a0 : ByteArray) : Option (Int × ByteArray × Int) := dec_TakeNum.l0 k a0 0
theorem dec_TakeNum.mono_l : ∀ k, (∀ y0 y1, LeO (dec_TakeNum.j1 k y0 y1) (dec_TakeNum.j1 (k + 1) y0 y1)) ∧ (∀ y0 y1 y2 y3 y4, LeO (dec_TakeNum.j2 k y0 y1 y2 y3 y4) (dec_TakeNum.j2 (k + 1) y0 y1 y2 y3 y4)) ∧ (∀ y0 y1 y2 y3, LeO (dec_TakeNum.j3 k y0 y1 y2 y3) (dec_TakeNum.j3 (k + 1) y0 y1 y2 y3)) ∧ (∀ y0 y1, LeO (dec_TakeNum.l0 k y0 y1) (dec_TakeNum.l0 (k + 1) y0 y1))
  | 0 => ⟨fun _ _ r h => by simp [dec_TakeNum.j1] at h, fun _ _ _ _ _ r h => by simp [dec_TakeNum.j2] at h, fun _ _ _ _ r h => by simp [dec_TakeNum.j3] at h, fun _ _ r h => by simp [dec_TakeNum.l0] at h⟩
  | k + 1 => by
    obtain ⟨ih0, ih1, ih2, ih3⟩ := dec_TakeNum.mono_l k
    refine ⟨?_, ?_, ?_, ?_⟩
    · intro y0 y1
      unfold dec_TakeNum.j1
      repeat' first
      | (with_reducible exact ih0 _ _)
      | (with_reducible exact ih1 _ _ _ _ _)
      | (with_reducible exact ih2 _ _ _ _)
      | (with_reducible exact ih3 _ _)
      | (with_reducible exact dec_told.mono _ _)
      | (with_reducible exact LeO.refl _)
      | (with_reducible exact LeO.none _)
      | (with_reducible refine LeO.ite ?_ ?_)
      | (with_reducible refine LeO.bind ?_ (fun _ => ?_))
      | exact ih0 _ _
      | exact ih1 _ _ _ _ _
      | exact ih2 _ _ _ _
      | exact ih3 _ _
      | exact dec_told.mono _ _
      | exact LeO.none _
      | refine LeO.ite ?_ ?_
      | refine LeO.bind ?_ (fun _ => ?_)
    · intro y0 y1 y2 y3 y4
      unfold dec_TakeNum.j2
      repeat' first
      | (with_reducible exact ih0 _ _)
      | (with_reducible exact ih1 _ _ _ _ _)
      | (with_reducible exact ih2 _ _ _ _)
      | (with_reducible exact ih3 _ _)
      | (with_reducible exact dec_told.mono _ _)
      | (with_reducible exact LeO.refl _)
      | (with_reducible exact LeO.none _)
      | (with_reducible refine LeO.ite ?_ ?_)
      | (with_reducible refine LeO.bind ?_ (fun _ => ?_))
      | exact ih0 _ _
      | exact ih1 _ _ _ _ _
      | exact ih2 _ _ _ _
      | exact ih3 _ _
      | exact dec_told.mono _ _
      | exact LeO.none _
      | refine LeO.ite ?_ ?_
      | refine LeO.bind ?_ (fun _ => ?_)
    · intro y0 y1 y2 y3
      unfold dec_TakeNum.j3
      repeat' first
      | (with_reducible exact ih0 _ _)
      | (with_reducible exact ih1 _ _ _ _ _)
      | (with_reducible exact ih2 _ _ _ _)
      | (with_reducible exact ih3 _ _)
      | (with_reducible exact dec_told.mono _ _)
      | (with_reducible exact LeO.refl _)
      | (with_reducible exact LeO.none _)
      | (with_reducible refine LeO.ite ?_ ?_)
      | (with_reducible refine LeO.bind ?_ (fun _ => ?_))
      | exact ih0 _ _
      | exact ih1 _ _ _ _ _
      | exact ih2 _ _ _ _
      | exact ih3 _ _
      | exact dec_told.mono _ _
      | exact LeO.none _
      | refine LeO.ite ?_ ?_
      | refine LeO.bind ?_ (fun _ => ?_)
    · intro y0 y1
      unfold dec_TakeNum.l0
      repeat' first
      | (with_reducible exact ih0 _ _)
      | (with_reducible exact ih1 _ _ _ _ _)
      | (with_reducible exact ih2 _ _ _ _)
      | (with_reducible exact ih3 _ _)
      | (with_reducible exact dec_told.mono _ _)
      | (with_reducible exact LeO.refl _)
      | (with_reducible exact LeO.none _)
      | (with_reducible refine LeO.ite ?_ ?_)
      | (with_reducible refine LeO.bind ?_ (fun _ => ?_))
      | exact ih0 _ _
      | exact ih1 _ _ _ _ _
      | exact ih2 _ _ _ _
      | exact ih3 _ _
      | exact dec_told.mono _ _
      | exact LeO.none _
      | refine LeO.ite ?_ ?_
      | refine LeO.bind ?_ (fun _ => ?_)
theorem dec_TakeNum.mono : ∀ a0 k, LeO (dec_TakeNum.f k a0) (dec_TakeNum.f (k + 1) a0) := by
  intro a0 k
  obtain ⟨ih0, ih1, ih2, ih3⟩ := dec_TakeNum.mono_l k
  unfold dec_TakeNum.f
  repeat' first
      | (with_reducible exact ih0 _ _)
      | (with_reducible exact ih1 _ _ _ _ _)
      | (with_reducible exact ih2 _ _ _ _)
      | (with_reducible exact ih3 _ _)
      | (with_reducible exact dec_told.mono _ _)
      | (with_reducible exact LeO.refl _)
      | (with_reducible exact LeO.none _)
      | (with_reducible refine LeO.ite ?_ ?_)
      | (with_reducible refine LeO.bind ?_ (fun _ => ?_))
      | exact ih0 _ _
      | exact ih1 _ _ _ _ _
      | exact ih2 _ _ _ _
      | exact ih3 _ _
      | exact dec_told.mono _ _
      | exact LeO.none _
      | refine LeO.ite ?_ ?_
      | refine LeO.bind ?_ (fun _ => ?_)
theorem dec_TakeNum.scope_body {P : Program} {fn : Func} {R : Ending → World → Prop} {c : Code} {a : Act} {w : World} (h : c.wp P (bodyPost P fn R) a w) : (Code.scope c).wp P (bodyPost P fn R) a w := by
  refine wp_scope_straight ?_
  have e : Exit.noGoto (bodyPost P fn R) = bodyPost P fn R := by
    funext e a w
    cases e <;> rfl
  rw [e]
  exact h

/-! ### dec_TakeText (function 36): what it is -/
def dec_TakeText.j0 : Nat → Int → ByteArray → Bool → Option (ByteArray × ByteArray × Int)
  | 0, _, _, _ => none
  | k + 1, x7, x8, x20 => if x20 = true then (some ((⟨#[]⟩ : ByteArray), (⟨#[]⟩ : ByteArray), 4)) else (if x7 > (IntKind.u64.wrap ((x8.size : Int))) then (some ((⟨#[]⟩ : ByteArray), (⟨#[]⟩ : ByteArray), 2)) else (if 0 ≤ x7 then (if x7 ≤ (x8.size : Int) then (some (x8.extract 0 (x7 : Int).toNat, x8.extract (x7 : Int).toNat x8.size, 0)) else (none)) else (none)))
def dec_TakeText.f (k : Nat) (a0 : ByteArray) (a1 : Int) : Option (ByteArray × ByteArray × Int) := (dec_TakeNum.f k a0).bind fun bt119 => (if bt119.2.2 = 0 then (if a1 < 0 then (dec_TakeText.j0 k bt119.1 bt119.2.1 true) else (dec_TakeText.j0 k bt119.1 bt119.2.1 (decide (bt119.1 > (IntKind.u64.wrap (a1)))))) else (some ((⟨#[]⟩ : ByteArray), (⟨#[]⟩ : ByteArray), bt119.2.2)))
theorem dec_TakeText.mono_l : ∀ k, (∀ y0 y1 y2, LeO (dec_TakeText.j0 k y0 y1 y2) (dec_TakeText.j0 (k + 1) y0 y1 y2))
  | 0 => fun _ _ _ r h => by simp [dec_TakeText.j0] at h
  | k + 1 => by
    have ih0 := dec_TakeText.mono_l k
    · intro y0 y1 y2
      unfold dec_TakeText.j0
      repeat' first
      | (with_reducible exact ih0 _ _ _)
      | (with_reducible exact dec_TakeNum.mono _ _)
      | (with_reducible exact LeO.refl _)
      | (with_reducible exact LeO.none _)
      | (with_reducible refine LeO.ite ?_ ?_)
      | (with_reducible refine LeO.bind ?_ (fun _ => ?_))
      | exact ih0 _ _ _
      | exact dec_TakeNum.mono _ _
      | exact LeO.none _
      | refine LeO.ite ?_ ?_
      | refine LeO.bind ?_ (fun _ => ?_)
theorem dec_TakeText.mono : ∀ a0 a1 k, LeO (dec_TakeText.f k a0 a1) (dec_TakeText.f (k + 1) a0 a1) := by
  intro a0 a1 k
  have ih0 := dec_TakeText.mono_l k
  unfold dec_TakeText.f
  repeat' first
      | (with_reducible exact ih0 _ _ _)
      | (with_reducible exact dec_TakeNum.mono _ _)
      | (with_reducible exact LeO.refl _)
      | (with_reducible exact LeO.none _)
      | (with_reducible refine LeO.ite ?_ ?_)
      | (with_reducible refine LeO.bind ?_ (fun _ => ?_))
      | exact ih0 _ _ _
      | exact dec_TakeNum.mono _ _
      | exact LeO.none _
      | refine LeO.ite ?_ ?_
      | refine LeO.bind ?_ (fun _ => ?_)

/-! ### sum_Open (function 34): what it is -/
def sum_Open.f (k : Nat) (a0 : ByteArray) (a1 : Int) : Option (ByteArray × ByteArray × Int) := (dec_TakeText.f k a0 a1).bind fun bt122 => (if bt122.2.2 = 0 then ((dec_TakeNum.f k bt122.2.1).bind fun bt125 => (if bt125.2.2 = 0 then ((sum_Of.f bt122.1).bind fun t128 => (if bt125.1 = (IntKind.u64.wrap (t128)) then (some (bt122.1, bt125.2.1, 0)) else (some ((⟨#[]⟩ : ByteArray), (⟨#[]⟩ : ByteArray), 10)))) else (some ((⟨#[]⟩ : ByteArray), (⟨#[]⟩ : ByteArray), bt125.2.2)))) else (some ((⟨#[]⟩ : ByteArray), (⟨#[]⟩ : ByteArray), bt122.2.2)))
theorem sum_Open.mono : ∀ a0 a1 k, LeO (sum_Open.f k a0 a1) (sum_Open.f (k + 1) a0 a1) := by
  intro a0 a1 k
  unfold sum_Open.f
  repeat' first
      | (with_reducible exact dec_TakeNum.mono _ _)
      | (with_reducible exact dec_TakeText.mono _ _ _)
      | (with_reducible exact LeO.refl _)
      | (with_reducible exact LeO.none _)
      | (with_reducible refine LeO.ite ?_ ?_)
      | (with_reducible refine LeO.bind ?_ (fun _ => ?_))
      | exact dec_TakeNum.mono _ _
      | exact dec_TakeText.mono _ _ _
      | exact LeO.none _
      | refine LeO.ite ?_ ?_
      | refine LeO.bind ?_ (fun _ => ?_)

/-! ### run_Take (function 12): what it is -/
mutual
def run_Take.j0 : Nat → ByteArray → Int → Bool → Option ((List (S62)) × Int)
  | 0, _, _, _ => none
  | k + 1, x4, x7, x35 => if x35 = true then (some (([] : List (S62)), 3)) else (run_Take.l0 k x4 x7 ([] : List (S62)) x7 0)
def run_Take.l0 : Nat → ByteArray → Int → List (S62) → Int → Int → Option ((List (S62)) × Int)
  | 0, _, _, _, _, _ => none
  | k + 1, x4, x7, x9, x36, x37 => if x37 < x36 then ((dec_TakeText.f k x4 65536).bind fun bt136 => (if bt136.2.2 = 0 then ((dec_TakeText.f k bt136.2.1 65536).bind fun bt139 => (if bt139.2.2 = 0 then (if x9.length < 4398046511104 then (run_Take.l0 k bt139.2.1 x7 (x9 ++ [(⟨bt136.1, bt139.1⟩ : S62)]) x36 (IntKind.u64.wrap (x37 + 1))) else (none)) else (if (IntKind.u64.wrap ((x9.length : Int))) = x7 then (if x4.toList = ([] : List UInt8) then ((run_may.f k x9).bind fun t145 => (if t145 = true then (some (x9, 0)) else (some (([] : List (S62)), 3)))) else (some (([] : List (S62)), 3))) else (some (([] : List (S62)), 3))))) else (if (IntKind.u64.wrap ((x9.length : Int))) = x7 then (if x4.toList = ([] : List UInt8) then ((run_may.f k x9).bind fun t146 => (if t146 = true then (some (x9, 0)) else (some (([] : List (S62)), 3)))) else (some (([] : List (S62)), 3))) else (some (([] : List (S62)), 3))))) else (if (IntKind.u64.wrap ((x9.length : Int))) = x7 then (if x4.toList = ([] : List UInt8) then ((run_may.f k x9).bind fun t135 => (if t135 = true then (some (x9, 0)) else (some (([] : List (S62)), 3)))) else (some (([] : List (S62)), 3))) else (some (([] : List (S62)), 3)))
end
def run_Take.f (k : Nat) (a0 : ByteArray) : Option ((List (S62)) × Int) := (sum_Open.f k a0 1073741824).bind fun bt129 => ((dec_TakeNum.f k bt129.1).bind fun bt132 => (if bt129.2.2 = 0 then (if bt132.2.2 = 0 then (run_Take.j0 k bt132.2.1 bt132.1 (bt129.2.1.toList != ([] : List UInt8))) else (run_Take.j0 k bt132.2.1 bt132.1 true)) else (run_Take.j0 k bt132.2.1 bt132.1 true)))
theorem run_Take.mono_l : ∀ k, (∀ y0 y1 y2, LeO (run_Take.j0 k y0 y1 y2) (run_Take.j0 (k + 1) y0 y1 y2)) ∧ (∀ y0 y1 y2 y3 y4, LeO (run_Take.l0 k y0 y1 y2 y3 y4) (run_Take.l0 (k + 1) y0 y1 y2 y3 y4))
  | 0 => ⟨fun _ _ _ r h => by simp [run_Take.j0] at h, fun _ _ _ _ _ r h => by simp [run_Take.l0] at h⟩
  | k + 1 => by
    obtain ⟨ih0, ih1⟩ := run_Take.mono_l k
    refine ⟨?_, ?_⟩
    · intro y0 y1 y2
      unfold run_Take.j0
      repeat' first
      | (with_reducible exact ih0 _ _ _)
      | (with_reducible exact ih1 _ _ _ _ _)
      | (with_reducible exact dec_TakeNum.mono _ _)
      | (with_reducible exact dec_TakeText.mono _ _ _)
      | (with_reducible exact run_may.mono _ _)
      | (with_reducible exact sum_Open.mono _ _ _)
      | (with_reducible exact LeO.refl _)
      | (with_reducible exact LeO.none _)
      | (with_reducible refine LeO.ite ?_ ?_)
      | (with_reducible refine LeO.bind ?_ (fun _ => ?_))
      | exact ih0 _ _ _
      | exact ih1 _ _ _ _ _
      | exact dec_TakeNum.mono _ _
      | exact dec_TakeText.mono _ _ _
      | exact run_may.mono _ _
      | exact sum_Open.mono _ _ _
      | exact LeO.none _
      | refine LeO.ite ?_ ?_
      | refine LeO.bind ?_ (fun _ => ?_)
    · intro y0 y1 y2 y3 y4
      unfold run_Take.l0
      repeat' first
      | (with_reducible exact ih0 _ _ _)
      | (with_reducible exact ih1 _ _ _ _ _)
      | (with_reducible exact dec_TakeNum.mono _ _)
      | (with_reducible exact dec_TakeText.mono _ _ _)
      | (with_reducible exact run_may.mono _ _)
      | (with_reducible exact sum_Open.mono _ _ _)
      | (with_reducible exact LeO.refl _)
      | (with_reducible exact LeO.none _)
      | (with_reducible refine LeO.ite ?_ ?_)
      | (with_reducible refine LeO.bind ?_ (fun _ => ?_))
      | exact ih0 _ _ _
      | exact ih1 _ _ _ _ _
      | exact dec_TakeNum.mono _ _
      | exact dec_TakeText.mono _ _ _
      | exact run_may.mono _ _
      | exact sum_Open.mono _ _ _
      | exact LeO.none _
      | refine LeO.ite ?_ ?_
      | refine LeO.bind ?_ (fun _ => ?_)
theorem run_Take.mono : ∀ a0 k, LeO (run_Take.f k a0) (run_Take.f (k + 1) a0) := by
  intro a0 k
  obtain ⟨ih0, ih1⟩ := run_Take.mono_l k
  unfold run_Take.f
  repeat' first
      | (with_reducible exact ih0 _ _ _)
      | (with_reducible exact ih1 _ _ _ _ _)
      | (with_reducible exact dec_TakeNum.mono _ _)
      | (with_reducible exact dec_TakeText.mono _ _ _)
      | (with_reducible exact run_may.mono _ _)
      | (with_reducible exact sum_Open.mono _ _ _)
      | (with_reducible exact LeO.refl _)
      | (with_reducible exact LeO.none _)
      | (with_reducible refine LeO.ite ?_ ?_)
      | (with_reducible refine LeO.bind ?_ (fun _ => ?_))
      | exact ih0 _ _ _
      | exact ih1 _ _ _ _ _
      | exact dec_TakeNum.mono _ _
      | exact dec_TakeText.mono _ _ _
      | exact run_may.mono _ _
      | exact sum_Open.mono _ _ _
      | exact LeO.none _
      | refine LeO.ite ?_ ?_
      | refine LeO.bind ?_ (fun _ => ?_)
theorem run_Take.scope_body {P : Program} {fn : Func} {R : Ending → World → Prop} {c : Code} {a : Act} {w : World} (h : c.wp P (bodyPost P fn R) a w) : (Code.scope c).wp P (bodyPost P fn R) a w := by
  refine wp_scope_straight ?_
  have e : Exit.noGoto (bodyPost P fn R) = bodyPost P fn R := by
    funext e a w
    cases e <;> rfl
  rw [e]
  exact h

/-! ### stanchionlaw06_shown (function 10): what it is -/
def stanchionlaw06_shown.f (k : Nat)  : Option (Bool) := (run_Bytes.f k (([(⟨(⟨#[97]⟩ : ByteArray), (⟨#[49]⟩ : ByteArray)⟩ : S62)] : List (S62)))).bind fun bt150 => ((run_Take.f k bt150.1).bind fun bt152 => (if bt150.2 = 0 then (if bt152.2 = 0 then (if (bt150.1.size : Int) > 10 then (if 0 ≤ 10 then (if 10 ≤ (bt150.1.size : Int) then (if (bt150.1.extract 0 10).toList = ([56, 59, 49, 59, 49, 59, 97, 49, 59, 49] : List UInt8) then (if (bt152.1.length : Int) = 1 then (if 0 < (bt152.1.length : Int) then (some (((rd_T62 bt152.1 0).f1).toList == ([49] : List UInt8))) else (none)) else (some false)) else (some false)) else (none)) else (none)) else (some false)) else (some false)) else (some false)))
theorem stanchionlaw06_shown.mono : ∀ k, LeO (stanchionlaw06_shown.f k ) (stanchionlaw06_shown.f (k + 1) ) := by
  intro  k
  unfold stanchionlaw06_shown.f
  repeat' first
      | (with_reducible exact run_Bytes.mono _ _)
      | (with_reducible exact run_Take.mono _ _)
      | (with_reducible exact LeO.refl _)
      | (with_reducible exact LeO.none _)
      | (with_reducible refine LeO.ite ?_ ?_)
      | (with_reducible refine LeO.bind ?_ (fun _ => ?_))
      | exact run_Bytes.mono _ _
      | exact run_Take.mono _ _
      | exact LeO.none _
      | refine LeO.ite ?_ ?_
      | refine LeO.bind ?_ (fun _ => ?_)

/-! ### stanchionref05_Same (function 13): what it is -/
def stanchionref05_Same.l0 : Nat → List (S62) → List (S62) → Int → Option (Bool)
  | 0, _, _, _ => none
  | k + 1, x0, x1, x5 => if x5 < (x0.length : Int) then (if 0 ≤ x5 then (if x5 < (x1.length : Int) then (if (!((((rd_T62 x0 x5).f0).toList) == (((rd_T62 x1 x5).f0).toList)) || (!((((rd_T62 x0 x5).f1).toList) == (((rd_T62 x1 x5).f1).toList)))) = true then (some false) else (stanchionref05_Same.l0 k x0 x1 (wrap64 (x5 + 1)))) else (none)) else (none)) else (some true)
def stanchionref05_Same.f (k : Nat) (l0 : List (S62)) (l1 : List (S62)) : Option (Bool) := if (l0.length : Int) = (l1.length : Int) then (stanchionref05_Same.l0 k l0 l1 0) else (some false)
/-! ### run_Merge: function 22 -/
/-- The last one of a key. -/
def lastW : List S57 → List UInt8 → Option S57
  | [], _ => none
  | x :: xs, s => match lastW xs s with
    | some y => some y
    | none => if x.f0.toList = s then some x else none
/-- Those for whose keys no later one is there. -/
def lasts : List S57 → List S57
  | [] => []
  | x :: xs => if xs.any (fun y => y.f0.toList == x.f0.toList) then lasts xs else x :: lasts xs
def leW (x y : S57) : Bool := !Op.bytesLess y.f0.toList x.f0.toList
def run_Merge.f (l0 l1 : List S57) : Option (List S57) := if l0.length + l1.length ≤ 1000000 then (if (l0 ++ l1).all (fun x => decide (x.f0.size ≤ 9223372036854775807)) = true then some ((lasts (l0 ++ l1)).mergeSort leW) else none) else none

/-! ### stanchionref05_Writes (function 23): what it is -/
def stanchionref05_Writes.l0 : Nat → List (S57) → List (S57) → Int → Option (Bool)
  | 0, _, _, _ => none
  | k + 1, x0, x1, x5 => if x5 < (x0.length : Int) then (if 0 ≤ x5 then (if x5 < (x1.length : Int) then (if (!((((rd_T57 x0 x5).f0).toList) == (((rd_T57 x1 x5).f0).toList)) || (!((((rd_T57 x0 x5).f1).toList) == (((rd_T57 x1 x5).f1).toList)) || (!(((rd_T57 x0 x5).f2) == ((rd_T57 x1 x5).f2))))) = true then (some false) else (stanchionref05_Writes.l0 k x0 x1 (wrap64 (x5 + 1)))) else (none)) else (none)) else (some true)
def stanchionref05_Writes.f (k : Nat) (l0 : List (S57)) (l1 : List (S57)) : Option (Bool) := if (l0.length : Int) = (l1.length : Int) then (stanchionref05_Writes.l0 k l0 l1 0) else (some false)
/-! ### stanchionref01_Less (function 54): what it is -/
mutual
def stanchionref01_Less.l0 : Nat → ByteArray → ByteArray → Int → Option (Bool)
  | 0, _, _, _ => none
  | k + 1, x0, x1, x5 => if x5 < (x0.size : Int) then (stanchionref01_Less.j1 k x0 x1 x5 (decide (x5 < (x1.size : Int)))) else (stanchionref01_Less.j1 k x0 x1 x5 false)
def stanchionref01_Less.j1 : Nat → ByteArray → ByteArray → Int → Bool → Option (Bool)
  | 0, _, _, _, _ => none
  | k + 1, x0, x1, x5, x15 => if x15 = true then (if 0 ≤ x5 then (if x5 < (x0.size : Int) then (if x5 < (x1.size : Int) then (if (bt x0 x5) = (bt x1 x5) then (stanchionref01_Less.l0 k x0 x1 (wrap64 (x5 + 1))) else (some (decide ((bt x0 x5) < (bt x1 x5))))) else (none)) else (none)) else (none)) else (some (decide ((x0.size : Int) < (x1.size : Int))))
end
def stanchionref01_Less.f (k : Nat) (a0 : ByteArray) (a1 : ByteArray) : Option (Bool) := stanchionref01_Less.l0 k a0 a1 0
/-! ### stanchionref06_Merge (function 24): what it is -/
mutual
def stanchionref06_Merge.l0 : Nat → List (S57) → List (S57) → Int → Option ((List (S57)))
  | 0, _, _, _ => none
  | k + 1, x5, x6, x7 => if x7 < (x5.length : Int) then (stanchionref06_Merge.l1 k x5 x6 x7 true (wrap64 (x7 + 1))) else (some x6)
def stanchionref06_Merge.l1 : Nat → List (S57) → List (S57) → Int → Bool → Int → Option ((List (S57)))
  | 0, _, _, _, _, _ => none
  | k + 1, x5, x6, x7, x8, x9 => if x9 < (x5.length : Int) then (if x8 = true then (if 0 ≤ x9 then (if 0 ≤ x7 then (if x7 < (x5.length : Int) then (stanchionref06_Merge.l1 k x5 x6 x7 (((rd_T57 x5 x9).f0).toList != ((rd_T57 x5 x7).f0).toList) (wrap64 (x9 + 1))) else (none)) else (none)) else (none)) else (stanchionref06_Merge.l1 k x5 x6 x7 false (wrap64 (x9 + 1)))) else (if x8 = true then (stanchionref06_Merge.l2 k x5 x6 x7 0) else (stanchionref06_Merge.l0 k x5 x6 (wrap64 (x7 + 1))))
def stanchionref06_Merge.l2 : Nat → List (S57) → List (S57) → Int → Int → Option ((List (S57)))
  | 0, _, _, _, _ => none
  | k + 1, x5, x6, x7, x10 => if x10 < (x6.length : Int) then (if 0 ≤ x10 then (if 0 ≤ x7 then (if x7 < (x5.length : Int) then ((stanchionref01_Less.f k ((rd_T57 x6 x10).f0) ((rd_T57 x5 x7).f0)).bind fun t175 => (if t175 = true then (stanchionref06_Merge.l2 k x5 x6 x7 (wrap64 (x10 + 1))) else ((some (([] : List (S57)) : List (S57))).bind fun y176 => (if x10 ≤ (x6.length : Int) then ((some (x6.take (x10 : Int).toNat : List (S57))).bind fun y179 => (if y176.length + y179.length < 3518437208883 then ((some (y176 ++ y179 : List (S57))).bind fun y183 => (if y183.length < 3518437208883 then ((some (y183 ++ [(⟨(rd_T57 x5 x7).f0, (rd_T57 x5 x7).f1, (rd_T57 x5 x7).f2⟩ : S57)] : List (S57))).bind fun y187 => ((some (x6.drop (x10 : Int).toNat : List (S57))).bind fun y190 => (if y187.length + y190.length < 3518437208883 then (stanchionref06_Merge.l0 k x5 (y187 ++ y190) (wrap64 (x7 + 1))) else (none)))) else (none))) else (none))) else (none))))) else (none)) else (none)) else (none)) else ((some (([] : List (S57)) : List (S57))).bind fun y197 => (if 0 ≤ x10 then (if x10 ≤ (x6.length : Int) then ((some (x6.take (x10 : Int).toNat : List (S57))).bind fun y200 => (if y197.length + y200.length < 3518437208883 then ((some (y197 ++ y200 : List (S57))).bind fun y204 => (if 0 ≤ x7 then (if x7 < (x5.length : Int) then (if y204.length < 3518437208883 then ((some (y204 ++ [(⟨(rd_T57 x5 x7).f0, (rd_T57 x5 x7).f1, (rd_T57 x5 x7).f2⟩ : S57)] : List (S57))).bind fun y208 => ((some (x6.drop (x10 : Int).toNat : List (S57))).bind fun y211 => (if y208.length + y211.length < 3518437208883 then (stanchionref06_Merge.l0 k x5 (y208 ++ y211) (wrap64 (x7 + 1))) else (none)))) else (none)) else (none)) else (none))) else (none))) else (none)) else (none)))
end
def stanchionref06_Merge.f (k : Nat) (l0 : List (S57)) (l1 : List (S57)) : Option ((List (S57))) := (some (([] : List (S57)) : List (S57))).bind fun y162 => (if y162.length + l0.length < 3518437208883 then ((some (y162 ++ l0 : List (S57))).bind fun y165 => (if y165.length + l1.length < 3518437208883 then (stanchionref06_Merge.l0 k (y165 ++ l1) ([] : List (S57)) 0) else (none))) else (none))
/-! ### api_Pair_82 (function 82): what it is -/
def api_Pair_82.f (l0 : List (S62)) : Option ((List (S62))) := (some (([] : List (S62)) : List (S62))).bind fun y218 => (if y218.length + l0.length < 4398046511104 then (some (y218 ++ l0)) else (none))

/-! ### table_at: function 111 -/
def table_at.f (l0 : List S62) (a1 : ByteArray) : Option Int := some (ixOf (fun x => x.f0.toList == a1.toList) l0)


/-! ### table_Put: function 104 -/
def gtK62 (key : ByteArray) (x : S62) : Bool := !Op.bytesLess x.f0.toList key.toList && !x.f0.toList == key.toList
def eqK62 (key : ByteArray) (x : S62) : Bool := x.f0.toList == key.toList
def putL62 (l : List S62) (key val : ByteArray) : List S62 :=
  if 0 ≤ ixOf (eqK62 key) l then l.set (ixOf (eqK62 key) l).toNat ⟨key, val⟩
  else if ixOf (gtK62 key) l < 0 then l ++ [⟨key, val⟩]
  else l.take (ixOf (gtK62 key) l).toNat ++ ⟨key, val⟩ :: l.drop (ixOf (gtK62 key) l).toNat
def table_Put.f (l0 : List S62) (a1 a2 : ByteArray) : Option (List S62) := (api_Pair_82.f l0).bind fun y => if y.length < 4398046511104 then some (putL62 y a1 a2) else none


/-! ### table_Drop: function 105 -/
def dropL62 (l : List S62) (key : ByteArray) : List S62 := l.filter (fun x => !eqK62 key x)
def table_Drop.f (l0 : List S62) (a1 : ByteArray) : Option (List S62) := (api_Pair_82.f l0).bind fun y => some (dropL62 y a1)

/-! ### table_Apply: function 55 -/
def applyF62 : List S62 → List S57 → Option (List S62)
  | l, [] => some l
  | l, x :: ws => (if x.f2 = true then table_Drop.f l x.f0 else table_Put.f l x.f0 x.f1).bind fun y => applyF62 y ws
def table_Apply.f (l0 : List S62) (l1 : List S57) : Option (List S62) := (api_Pair_82.f l0).bind fun y => applyF62 y l1

/-! ### run_Fold (function 25): what it is -/
def run_Fold.f (l0 : List (S57)) : Option ((List (S62))) := (table_Apply.f ([] : List (S62)) l0).bind fun t224 => (some t224)

/-! ### stanchionref05_Drop (function 56): what it is -/
def stanchionref05_Drop.l0 : Nat → List (S62) → ByteArray → List (S62) → Int → Option ((List (S62)))
  | 0, _, _, _, _ => none
  | k + 1, x0, x1, x5, x6 => if x6 < (x0.length : Int) then (if 0 ≤ x6 then (if ((rd_T62 x0 x6).f0).toList = x1.toList then (stanchionref05_Drop.l0 k x0 x1 x5 (wrap64 (x6 + 1))) else (if x5.length < 4398046511104 then (stanchionref05_Drop.l0 k x0 x1 (x5 ++ [(⟨(rd_T62 x0 x6).f0, (rd_T62 x0 x6).f1⟩ : S62)]) (wrap64 (x6 + 1))) else (none))) else (none)) else (some x5)
def stanchionref05_Drop.f (k : Nat) (l0 : List (S62)) (a1 : ByteArray) : Option ((List (S62))) := stanchionref05_Drop.l0 k l0 a1 ([] : List (S62)) 0
/-! ### stanchionref05_Find (function 85): what it is -/
def stanchionref05_Find.l0 : Nat → List (S62) → ByteArray → Int → Option (ByteArray × Bool)
  | 0, _, _, _ => none
  | k + 1, x0, x1, x6 => if x6 < (x0.length : Int) then (if 0 ≤ x6 then (if ((rd_T62 x0 x6).f0).toList = x1.toList then (some ((rd_T62 x0 x6).f1, true)) else (stanchionref05_Find.l0 k x0 x1 (wrap64 (x6 + 1)))) else (none)) else (some ((⟨#[]⟩ : ByteArray), false))
def stanchionref05_Find.f (k : Nat) (l0 : List (S62)) (a1 : ByteArray) : Option (ByteArray × Bool) := stanchionref05_Find.l0 k l0 a1 0
/-! ### stanchionref05_Put (function 57): what it is -/
mutual
def stanchionref05_Put.l0 : Nat → List (S62) → ByteArray → ByteArray → Bool → List (S62) → Bool → Int → Option ((List (S62)))
  | 0, _, _, _, _, _, _, _ => none
  | k + 1, x0, x1, x2, x8, x9, x10, x11 => if x11 < (x0.length : Int) then (if x10 = true then (stanchionref05_Put.j1 k x0 x1 x2 x8 x9 x10 x11 false) else (if x8 = true then (if 0 ≤ x11 then (if ((rd_T62 x0 x11).f0).toList = x1.toList then (stanchionref05_Put.j1 k x0 x1 x2 x8 x9 x10 x11 true) else (stanchionref05_Put.j1 k x0 x1 x2 x8 x9 x10 x11 false)) else (none)) else (if 0 ≤ x11 then ((stanchionref01_Less.f k x1 ((rd_T62 x0 x11).f0)).bind fun t241 => (stanchionref05_Put.j1 k x0 x1 x2 x8 x9 x10 x11 t241)) else (none)))) else (if x10 = true then (some x9) else (if x9.length < 4398046511104 then (some (x9 ++ [(⟨x1, x2⟩ : S62)])) else (none)))
def stanchionref05_Put.j1 : Nat → List (S62) → ByteArray → ByteArray → Bool → List (S62) → Bool → Int → Bool → Option ((List (S62)))
  | 0, _, _, _, _, _, _, _, _ => none
  | k + 1, x0, x1, x2, x8, x9, x10, x11, x50 => if x50 = true then (if x9.length < 4398046511104 then ((some (x9 ++ [(⟨x1, x2⟩ : S62)] : List (S62))).bind fun y242 => (if x8 = true then (stanchionref05_Put.l0 k x0 x1 x2 x8 y242 true (wrap64 (x11 + 1))) else (if 0 ≤ x11 then (if x11 < (x0.length : Int) then (if y242.length < 4398046511104 then (stanchionref05_Put.l0 k x0 x1 x2 x8 (y242 ++ [(⟨(rd_T62 x0 x11).f0, (rd_T62 x0 x11).f1⟩ : S62)]) true (wrap64 (x11 + 1))) else (none)) else (none)) else (none)))) else (none)) else (if 0 ≤ x11 then (if x11 < (x0.length : Int) then (if x9.length < 4398046511104 then (stanchionref05_Put.l0 k x0 x1 x2 x8 (x9 ++ [(⟨(rd_T62 x0 x11).f0, (rd_T62 x0 x11).f1⟩ : S62)]) x10 (wrap64 (x11 + 1))) else (none)) else (none)) else (none))
end
def stanchionref05_Put.f (k : Nat) (l0 : List (S62)) (a1 : ByteArray) (a2 : ByteArray) : Option ((List (S62))) := (stanchionref05_Find.f k l0 a1).bind fun bt234 => (stanchionref05_Put.l0 k l0 a1 a2 bt234.2 ([] : List (S62)) false 0)
end Go.Proofs.Ytbhkopbalhhpgaa.PM
