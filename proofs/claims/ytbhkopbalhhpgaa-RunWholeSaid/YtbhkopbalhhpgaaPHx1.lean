-- Made by a program of this workplace out of the translation (wip/tools in the repo). Not trusted: Lean checks it.
import Derived.Test.YtbhkopbalhhpgaaPHx0
namespace Go.Proofs.Ytbhkopbalhhpgaa.PH
open Go.RowKit Go.Proofs.YtbhkopbalhhpgaaW.PrintWords Go.Proofs.YtbhkopbalhhpgaaW.PrintLast Go.Proofs.YtbhkopbalhhpgaaW.PrintMore
attribute [local go_sem] max2_int min2_int max_two min_two max_three min_three max_four min_four   -- for this text's walks alone
set_option linter.unusedVariables false
set_option linter.unusedSimpArgs false

/-! ### run_may_1 (function 58): what it is -/
def run_may_1.f (a0_0 : ByteArray) (a0_1 : ByteArray) : Option (Bool) := if (a0_0.size : Int) > 65536 then (some true) else (some (decide ((a0_1.size : Int) > 65536)))

/-! ### table_Right (function 59): what it is -/
def table_Right.l0 : Nat → List (S62) → Int → Option (Bool)
  | 0, _, _ => none
  | k + 1, x0, x3 => if x3 < (x0.length : Int) then (if 0 ≤ (wrap64 (x3 - 1)) then (if (wrap64 (x3 - 1)) < (x0.length : Int) then (if 0 ≤ x3 then (if ((Op.bytesLess (((rd_T62 x0 (wrap64 (x3 - 1))).f0).toList) (((rd_T62 x0 x3).f0).toList)) = true) then (table_Right.l0 k x0 (wrap64 (x3 + 1))) else (some false)) else (none)) else (none)) else (none)) else (some true)
def table_Right.f (k : Nat) (l0 : List (S62)) : Option (Bool) := table_Right.l0 k l0 1
theorem table_Right.mono_l : ∀ k, (∀ y0 y1, LeO (table_Right.l0 k y0 y1) (table_Right.l0 (k + 1) y0 y1))
  | 0 => fun _ _ r h => by simp [table_Right.l0] at h
  | k + 1 => by
    have ih0 := table_Right.mono_l k
    · intro y0 y1
      unfold table_Right.l0
      repeat' first
      | (with_reducible exact ih0 _ _)
      | (with_reducible exact LeO.refl _)
      | (with_reducible exact LeO.none _)
      | (with_reducible refine LeO.ite ?_ ?_)
      | (with_reducible refine LeO.bind ?_ (fun _ => ?_))
      | exact ih0 _ _
      | exact LeO.none _
      | refine LeO.ite ?_ ?_
      | refine LeO.bind ?_ (fun _ => ?_)
theorem table_Right.mono : ∀ a0 k, LeO (table_Right.f k a0) (table_Right.f (k + 1) a0) := by
  intro a0 k
  have ih0 := table_Right.mono_l k
  unfold table_Right.f
  repeat' first
      | (with_reducible exact ih0 _ _)
      | (with_reducible exact LeO.refl _)
      | (with_reducible exact LeO.none _)
      | (with_reducible refine LeO.ite ?_ ?_)
      | (with_reducible refine LeO.bind ?_ (fun _ => ?_))
      | exact ih0 _ _
      | exact LeO.none _
      | refine LeO.ite ?_ ?_
      | refine LeO.bind ?_ (fun _ => ?_)

/-! ### api_Pair_86: function 86 -/
def ixOf {α : Type} (p : α → Bool) (l : List α) : Int := if l.findIdx p < l.length then ((l.findIdx p : Nat) : Int) else -1
theorem ixOf_hit {α : Type} (p : α → Bool) (l : List α) (d : α) (k : Nat) (h : k < l.length) (hk : p (l.getD k d) = true) (hn : ∀ j, j < k → p (l.getD j d) = false) : ixOf p l = (k : Int) := by
  have e : l.findIdx p = k := by
    rw [List.findIdx_eq h]
    refine ⟨by rw [List.getD_eq_getElem?_getD, List.getElem?_eq_getElem h] at hk; exact hk, fun j hj => ?_⟩
    have := hn j hj
    rw [List.getD_eq_getElem?_getD, List.getElem?_eq_getElem (by omega)] at this
    exact this
  unfold ixOf
  rw [e, if_pos h]
theorem ixOf_miss {α : Type} (p : α → Bool) (l : List α) (d : α) (hn : ∀ j, j < l.length → p (l.getD j d) = false) : ixOf p l = -1 := by
  unfold ixOf
  rw [if_neg]
  intro h
  have h1 := List.findIdx_getElem (w := h) (p := p) (xs := l)
  have h2 := hn _ h
  rw [List.getD_eq_getElem?_getD, List.getElem?_eq_getElem h] at h2
  have h3 : p l[l.findIdx p] = false := h2
  rw [h3] at h1
  cases h1
/-! ### run_may: function 28 -/
def run_may_has.f (l0 : List (S62)) : Option (Bool) := some (l0.any (fun x => (run_may_1.f x.f0 x.f1).getD false))
def run_may.f (k : Nat) (l0 : List (S62)) : Option (Bool) := (table_Right.f k l0).bind fun t104 => (if t104 = true then ((run_may_has.f l0).bind fun t105 => (some (!t105))) else (some false))
theorem run_may.mono : ∀ a0 k, LeO (run_may.f k a0) (run_may.f (k + 1) a0) := by
  intro a0 k
  unfold run_may.f
  repeat' first
      | (with_reducible exact table_Right.mono _ _)
      | (with_reducible exact LeO.refl _)
      | (with_reducible exact LeO.none _)
      | (with_reducible refine LeO.ite ?_ ?_)
      | (with_reducible refine LeO.bind ?_ (fun _ => ?_))
      | exact table_Right.mono _ _
      | exact LeO.none _
      | refine LeO.ite ?_ ?_
      | refine LeO.bind ?_ (fun _ => ?_)

/-! ### dec_Num: function 30 -/
def dg : Nat → Nat → List UInt8 → List UInt8
  | 0, _, acc => acc
  | k + 1, v, acc => if v / 10 = 0 then UInt8.ofNat (48 + v % 10) :: acc else dg k (v / 10) (UInt8.ofNat (48 + v % 10) :: acc)
def numB (v : Nat) : ByteArray := ⟨(dg 20 v [59]).toArray⟩
def dec_Num.f (a0 : Int) : Option ByteArray := if 0 ≤ a0 then (if a0 < 18446744073709551616 then some (numB a0.toNat) else none) else none

/-! ### dec_Text (function 31): what it is -/
def dec_Text.f (a0 : ByteArray) : Option (ByteArray) := (dec_Num.f (IntKind.u64.wrap ((a0.size : Int)))).bind fun t106 => (if t106.size + a0.size ≤ 9223372036854775807 then (some (t106 ++ a0)) else (none))

/-! ### sum_Of: function 62 -/
def sumS (p : Int × Int) (x : Int) : Int × Int :=
  ((p.1 + x) % 4294967296 % 65521, (p.2 + (p.1 + x) % 4294967296 % 65521) % 4294967296 % 65521)
def sumT (s : ByteArray) : Nat → Int × Int
  | 0 => (1, 0)
  | n + 1 => sumS (sumT s n) (bt s (n : Int))
def sumJ (p : Int × Int) : Int := bits .or .u32 (p.2 * 65536 % 4294967296) p.1
def sum_Of.f (a0 : ByteArray) : Option Int := if a0.size < 4611686018427387904 then some (sumJ (sumT a0 a0.size)) else none

/-! ### sum_Seal (function 32): what it is -/
def sum_Seal.f (a0 : ByteArray) : Option (ByteArray) := (dec_Text.f a0).bind fun t107 => ((sum_Of.f a0).bind fun t108 => ((dec_Num.f (IntKind.u64.wrap (t108))).bind fun t109 => (if t107.size + t109.size ≤ 9223372036854775807 then (some (t107 ++ t109)) else (none))))

/-! ### run_Bytes: function 11 -/
def run_Bytes.l0 : Nat → ByteArray → List (S62) → Int → Int → Option (ByteArray × Int)
  | 0, _, _, _, _ => none
  | k + 1, x4, x15, x16, x17 => if x17 < x16 then (if 0 ≤ x17 then (if x17 < (x15.length : Int) then ((dec_Text.f ((rd_T62 x15 x17).f0)).bind fun t114 => ((dec_Text.f ((rd_T62 x15 x17).f1)).bind fun t115 => (if t114.size + t115.size ≤ 9223372036854775807 then (if x4.size + (t114 ++ t115).size ≤ 140737488355328 then (run_Bytes.l0 k (x4 ++ (t114 ++ t115)) x15 x16 (wrap64 (x17 + 1))) else (none)) else (none)))) else (none)) else (none)) else ((sum_Seal.f x4).bind fun t116 => (some (t116, 0)))
def run_Bytes.f (k : Nat) (l0 : List (S62)) : Option (ByteArray × Int) := (run_may.f k l0).bind fun t110 => (if t110 = true then ((dec_Num.f (IntKind.u64.wrap ((l0.length : Int)))).bind fun t111 => (if 0 + t111.size ≤ 140737488355328 then (run_Bytes.l0 k ((⟨#[]⟩ : ByteArray) ++ t111) l0 (l0.length : Int) 0) else (none))) else (some ((⟨#[]⟩ : ByteArray), 1)))
theorem run_Bytes.mono_l : ∀ k, (∀ y0 y1 y2 y3, LeO (run_Bytes.l0 k y0 y1 y2 y3) (run_Bytes.l0 (k + 1) y0 y1 y2 y3))
  | 0 => fun _ _ _ _ r h => by simp [run_Bytes.l0] at h
  | k + 1 => by
    have ih0 := run_Bytes.mono_l k
    · intro y0 y1 y2 y3
      unfold run_Bytes.l0
      repeat' first
      | (with_reducible exact ih0 _ _ _ _)
      | (with_reducible exact run_may.mono _ _)
      | (with_reducible exact LeO.refl _)
      | (with_reducible exact LeO.none _)
      | (with_reducible refine LeO.ite ?_ ?_)
      | (with_reducible refine LeO.bind ?_ (fun _ => ?_))
      | exact ih0 _ _ _ _
      | exact run_may.mono _ _
      | exact LeO.none _
      | refine LeO.ite ?_ ?_
      | refine LeO.bind ?_ (fun _ => ?_)
theorem run_Bytes.mono : ∀ a0 k, LeO (run_Bytes.f k a0) (run_Bytes.f (k + 1) a0) := by
  intro a0 k
  have ih0 := run_Bytes.mono_l k
  unfold run_Bytes.f
  repeat' first
      | (with_reducible exact ih0 _ _ _ _)
      | (with_reducible exact run_may.mono _ _)
      | (with_reducible exact LeO.refl _)
      | (with_reducible exact LeO.none _)
      | (with_reducible refine LeO.ite ?_ ?_)
      | (with_reducible refine LeO.bind ?_ (fun _ => ?_))
      | exact ih0 _ _ _ _
      | exact run_may.mono _ _
      | exact LeO.none _
      | refine LeO.ite ?_ ?_
      | refine LeO.bind ?_ (fun _ => ?_)

/-! ### dec_told (function 63): what it is -/
def dec_told.l0 : Nat → ByteArray → Int → Int → Int → Option (Int × Bool)
  | 0, _, _, _, _ => none
  | k + 1, x0, x4, x8, x9 => if x9 < x8 then (if 0 ≤ x9 then (if x9 < (x0.size : Int) then (if x4 > ((18446744073709551615 - (((bt x0 x9) - 48) % 256)) / 10) then (some (0, false)) else (dec_told.l0 k x0 (IntKind.u64.wrap ((IntKind.u64.wrap (10 * x4)) + (((bt x0 x9) - 48) % 256))) x8 (wrap64 (x9 + 1)))) else (none)) else (none)) else (some (x4, true))
def dec_told.f (k : Nat) (a0 : ByteArray) : Option (Int × Bool) := dec_told.l0 k a0 0 (a0.size : Int) 0
theorem dec_told.mono_l : ∀ k, (∀ y0 y1 y2 y3, LeO (dec_told.l0 k y0 y1 y2 y3) (dec_told.l0 (k + 1) y0 y1 y2 y3))
  | 0 => fun _ _ _ _ r h => by simp [dec_told.l0] at h
  | k + 1 => by
    have ih0 := dec_told.mono_l k
    · intro y0 y1 y2 y3
      unfold dec_told.l0
      repeat' first
      | (with_reducible exact ih0 _ _ _ _)
      | (with_reducible exact LeO.refl _)
      | (with_reducible exact LeO.none _)
      | (with_reducible refine LeO.ite ?_ ?_)
      | (with_reducible refine LeO.bind ?_ (fun _ => ?_))
      | exact ih0 _ _ _ _
      | exact LeO.none _
      | refine LeO.ite ?_ ?_
      | refine LeO.bind ?_ (fun _ => ?_)
theorem dec_told.mono : ∀ a0 k, LeO (dec_told.f k a0) (dec_told.f (k + 1) a0) := by
  intro a0 k
  have ih0 := dec_told.mono_l k
  unfold dec_told.f
  repeat' first
      | (with_reducible exact ih0 _ _ _ _)
      | (with_reducible exact LeO.refl _)
      | (with_reducible exact LeO.none _)
      | (with_reducible refine LeO.ite ?_ ?_)
      | (with_reducible refine LeO.bind ?_ (fun _ => ?_))
      | exact ih0 _ _ _ _
      | exact LeO.none _
      | refine LeO.ite ?_ ?_
      | refine LeO.bind ?_ (fun _ => ?_)

/-! ### dec_TakeNum (function 35): what it is -/
mutual
def dec_TakeNum.j1 : Nat → ByteArray → Int → Option (Int × ByteArray × Int)
  | 0, _, _ => none
  | k + 1, x0, x5 => if x5 > 20 then (some (0, (⟨#[]⟩ : ByteArray), 3)) else (if 0 ≤ x5 then (if x5 ≤ (x0.size : Int) then ((dec_told.f k (x0.extract 0 (x5 : Int).toNat)).bind fun bt117 => (if x5 > 1 then (if 0 < (x0.size : Int) then (dec_TakeNum.j2 k x0 x5 bt117.1 bt117.2 ((bt x0 0) == 48)) else (none)) else (dec_TakeNum.j2 k x0 x5 bt117.1 bt117.2 false))) else (none)) else (none))
def dec_TakeNum.j2 : Nat → ByteArray → Int → Int → Bool → Bool → Option (Int × ByteArray × Int)
  | 0, _, _, _, _, _ => none
  | k + 1, x0, x5, x6, x7, x32 => if x32 = true then (some (0, (⟨#[]⟩ : ByteArray), 3)) else (if x7 = true then (if x5 < (x0.size : Int) then (if x5 = 0 then (dec_TakeNum.j3 k x0 x5 x6 true) else (if 0 ≤ x5 then (dec_TakeNum.j3 k x0 x5 x6 ((bt x0 x5) != 59)) else (none))) else (dec_TakeNum.j3 k x0 x5 x6 false)) else (some (0, (⟨#[]⟩ : ByteArray), 3)))
def dec_TakeNum.j3 : Nat → ByteArray → Int → Int → Bool → Option (Int × ByteArray × Int)
  | 0, _, _, _, _ => none
  | k + 1, x0, x5, x6, x43 => if x43 = true then (some (0, (⟨#[]⟩ : ByteArray), 3)) else (if x5 = (x0.size : Int) then (some (0, (⟨#[]⟩ : ByteArray), 2)) else (if 0 ≤ (wrap64 (x5 + 1)) then (if (wrap64 (x5 + 1)) ≤ (x0.size : Int) then (some (x6, x0.extract ((wrap64 (x5 + 1)) : Int).toNat x0.size, 0)) else (none)) else (none)))
def dec_TakeNum.l0 : Nat → ByteArray → Int → Option (Int × ByteArray × Int)
  | 0, _, _ => none
  | k + 1, x0, x5 => if x5 < (x0.size : Int) then (if 0 ≤ x5 then (if (bt x0 x5) < 48 then (dec_TakeNum.j1 k x0 x5) else (if (bt x0 x5) > 57 then (dec_TakeNum.j1 k x0 x5) else (dec_TakeNum.l0 k x0 (wrap64 (x5 + 1))))) else (none)) else (dec_TakeNum.j1 k x0 x5)
end
def dec_TakeNum.f (k : Nat) (a0 : ByteArray) : Option (Int × ByteArray × Int) := dec_TakeNum.l0 k a0 0
theorem dec_TakeNum.mono_l : ∀ k, (∀ y0 y1, LeO (dec_TakeNum.j1 k y0 y1) (dec_TakeNum.j1 (k + 1) y0 y1)) ∧ (∀ y0 y1 y2 y3 y4, LeO (dec_TakeNum.j2 k y0 y1 y2 y3 y4) (dec_TakeNum.j2 (k + 1) y0 y1 y2 y3 y4)) ∧ (∀ y0 y1 y2 y3, LeO (dec_TakeNum.j3 k y0 y1 y2 y3) (dec_TakeNum.j3 (k + 1) y0 y1 y2 y3)) ∧ (∀ y0 y1, LeO (dec_TakeNum.l0 k y0 y1) (dec_TakeNum.l0 (k + 1) y0 y1))
  | 0 => ⟨fun _ _ r h => by simp [dec_TakeNum.j1] at h, fun _ _ _ _ _ r h => by simp [dec_TakeNum.j2] at h, fun _ _ _ _ r h => by simp [dec_TakeNum.j3] at h, fun _ _ r h => by simp [dec_TakeNum.l0] at h⟩
  | k + 1 => by
    obtain ⟨ih0, ih1, ih2, ih3⟩ := dec_TakeNum.mono_l k
    refine ⟨?_, ?_, ?_, ?_⟩
    · intro y0 y1
      unfold dec_TakeNum.j1
      repeat' first
      | (with_reducible exact ih0 _ _)
      | (with_reducible exact ih1 _ _ _ _ _)
      | (with_reducible exact ih2 _ _ _ _)
      | (with_reducible exact ih3 _ _)
      | (with_reducible exact dec_told.mono _ _)
      | (with_reducible exact LeO.refl _)
      | (with_reducible exact LeO.none _)
      | (with_reducible refine LeO.ite ?_ ?_)
      | (with_reducible refine LeO.bind ?_ (fun _ => ?_))
      | exact ih0 _ _
      | exact ih1 _ _ _ _ _
      | exact ih2 _ _ _ _
      | exact ih3 _ _
      | exact dec_told.mono _ _
      | exact LeO.none _
      | refine LeO.ite ?_ ?_
      | refine LeO.bind ?_ (fun _ => ?_)
    · intro y0 y1 y2 y3 y4
      unfold dec_TakeNum.j2
      repeat' first
      | (with_reducible exact ih0 _ _)
      | (with_reducible exact ih1 _ _ _ _ _)
      | (with_reducible exact ih2 _ _ _ _)
      | (with_reducible exact ih3 _ _)
      | (with_reducible exact dec_told.mono _ _)
      | (with_reducible exact LeO.refl _)
      | (with_reducible exact LeO.none _)
      | (with_reducible refine LeO.ite ?_ ?_)
      | (with_reducible refine LeO.bind ?_ (fun _ => ?_))
      | exact ih0 _ _
      | exact ih1 _ _ _ _ _
      | exact ih2 _ _ _ _
      | exact ih3 _ _
      | exact dec_told.mono _ _
      | exact LeO.none _
      | refine LeO.ite ?_ ?_
      | refine LeO.bind ?_ (fun _ => ?_)
    · intro y0 y1 y2 y3
      unfold dec_TakeNum.j3
      repeat' first
      | (with_reducible exact ih0 _ _)
      | (with_reducible exact ih1 _ _ _ _ _)
      | (with_reducible exact ih2 _ _ _ _)
      | (with_reducible exact ih3 _ _)
      | (with_reducible exact dec_told.mono _ _)
      | (with_reducible exact LeO.refl _)
      | (with_reducible exact LeO.none _)
      | (with_reducible refine LeO.ite ?_ ?_)
      | (with_reducible refine LeO.bind ?_ (fun _ => ?_))
      | exact ih0 _ _
      | exact ih1 _ _ _ _ _
      | exact ih2 _ _ _ _
      | exact ih3 _ _
      | exact dec_told.mono _ _
      | exact LeO.none _
      | refine LeO.ite ?_ ?_
      | refine LeO.bind ?_ (fun _ => ?_)
    · intro y0 y1
      unfold dec_TakeNum.l0
      repeat' first
      | (with_reducible exact ih0 _ _)
      | (with_reducible exact ih1 _ _ _ _ _)
      | (with_reducible exact ih2 _ _ _ _)
      | (with_reducible exact ih3 _ _)
      | (with_reducible exact dec_told.mono _ _)
      | (with_reducible exact LeO.refl _)
      | (with_reducible exact LeO.none _)
      | (with_reducible refine LeO.ite ?_ ?_)
      | (with_reducible refine LeO.bind ?_ (fun _ => ?_))
      | exact ih0 _ _
      | exact ih1 _ _ _ _ _
      | exact ih2 _ _ _ _
      | exact ih3 _ _
      | exact dec_told.mono _ _
      | exact LeO.none _
      | refine LeO.ite ?_ ?_
      | refine LeO.bind ?_ (fun _ => ?_)
theorem dec_TakeNum.mono : ∀ a0 k, LeO (dec_TakeNum.f k a0) (dec_TakeNum.f (k + 1) a0) := by
  intro a0 k
  obtain ⟨ih0, ih1, ih2, ih3⟩ := dec_TakeNum.mono_l k
  unfold dec_TakeNum.f
  repeat' first
      | (with_reducible exact ih0 _ _)
      | (with_reducible exact ih1 _ _ _ _ _)
      | (with_reducible exact ih2 _ _ _ _)
      | (with_reducible exact ih3 _ _)
      | (with_reducible exact dec_told.mono _ _)
      | (with_reducible exact LeO.refl _)
      | (with_reducible exact LeO.none _)
      | (with_reducible refine LeO.ite ?_ ?_)
      | (with_reducible refine LeO.bind ?_ (fun _ => ?_))
      | exact ih0 _ _
      | exact ih1 _ _ _ _ _
      | exact ih2 _ _ _ _
      | exact ih3 _ _
      | exact dec_told.mono _ _
      | exact LeO.none _
      | refine LeO.ite ?_ ?_
      | refine LeO.bind ?_ (fun _ => ?_)
theorem dec_TakeNum.scope_body {P : Program} {fn : Func} {R : Ending → World → Prop} {c : Code} {a : Act} {w : World} (h : c.wp P (bodyPost P fn R) a w) : (Code.scope c).wp P (bodyPost P fn R) a w := by
  refine wp_scope_straight ?_
  have e : Exit.noGoto (bodyPost P fn R) = bodyPost P fn R := by
    funext e a w
    cases e <;> rfl
  rw [e]
  exact h

/-! ### dec_TakeText (function 36): what it is -/
def dec_TakeText.j0 : Nat → Int → ByteArray → Bool → Option (ByteArray × ByteArray × Int)
  | 0, _, _, _ => none
  | k + 1, x7, x8, x20 => if x20 = true then (some ((⟨#[]⟩ : ByteArray), (⟨#[]⟩ : ByteArray), 4)) else (if x7 > (IntKind.u64.wrap ((x8.size : Int))) then (some ((⟨#[]⟩ : ByteArray), (⟨#[]⟩ : ByteArray), 2)) else (if 0 ≤ x7 then (if x7 ≤ (x8.size : Int) then (some (x8.extract 0 (x7 : Int).toNat, x8.extract (x7 : Int).toNat x8.size, 0)) else (none)) else (none)))
def dec_TakeText.f (k : Nat) (a0 : ByteArray) (a1 : Int) : Option (ByteArray × ByteArray × Int) := (dec_TakeNum.f k a0).bind fun bt119 => (if bt119.2.2 = 0 then (if a1 < 0 then (dec_TakeText.j0 k bt119.1 bt119.2.1 true) else (dec_TakeText.j0 k bt119.1 bt119.2.1 (decide (bt119.1 > (IntKind.u64.wrap (a1)))))) else (some ((⟨#[]⟩ : ByteArray), (⟨#[]⟩ : ByteArray), bt119.2.2)))
theorem dec_TakeText.mono_l : ∀ k, (∀ y0 y1 y2, LeO (dec_TakeText.j0 k y0 y1 y2) (dec_TakeText.j0 (k + 1) y0 y1 y2))
  | 0 => fun _ _ _ r h => by simp [dec_TakeText.j0] at h
  | k + 1 => by
    have ih0 := dec_TakeText.mono_l k
    · intro y0 y1 y2
      unfold dec_TakeText.j0
      repeat' first
      | (with_reducible exact ih0 _ _ _)
      | (with_reducible exact dec_TakeNum.mono _ _)
      | (with_reducible exact LeO.refl _)
      | (with_reducible exact LeO.none _)
      | (with_reducible refine LeO.ite ?_ ?_)
      | (with_reducible refine LeO.bind ?_ (fun _ => ?_))
      | exact ih0 _ _ _
      | exact dec_TakeNum.mono _ _
      | exact LeO.none _
      | refine LeO.ite ?_ ?_
      | refine LeO.bind ?_ (fun _ => ?_)
theorem dec_TakeText.mono : ∀ a0 a1 k, LeO (dec_TakeText.f k a0 a1) (dec_TakeText.f (k + 1) a0 a1) := by
  intro a0 a1 k
  have ih0 := dec_TakeText.mono_l k
  unfold dec_TakeText.f
  repeat' first
      | (with_reducible exact ih0 _ _ _)
      | (with_reducible exact dec_TakeNum.mono _ _)
      | (with_reducible exact LeO.refl _)
      | (with_reducible exact LeO.none _)
      | (with_reducible refine LeO.ite ?_ ?_)
      | (with_reducible refine LeO.bind ?_ (fun _ => ?_))
      | exact ih0 _ _ _
      | exact dec_TakeNum.mono _ _
      | exact LeO.none _
      | refine LeO.ite ?_ ?_
      | refine LeO.bind ?_ (fun _ => ?_)

/-! ### sum_Open (function 34): what it is -/
def sum_Open.f (k : Nat) (a0 : ByteArray) (a1 : Int) : Option (ByteArray × ByteArray × Int) := (dec_TakeText.f k a0 a1).bind fun bt122 => (if bt122.2.2 = 0 then ((dec_TakeNum.f k bt122.2.1).bind fun bt125 => (if bt125.2.2 = 0 then ((sum_Of.f bt122.1).bind fun t128 => (if bt125.1 = (IntKind.u64.wrap (t128)) then (some (bt122.1, bt125.2.1, 0)) else (some ((⟨#[]⟩ : ByteArray), (⟨#[]⟩ : ByteArray), 10)))) else (some ((⟨#[]⟩ : ByteArray), (⟨#[]⟩ : ByteArray), bt125.2.2)))) else (some ((⟨#[]⟩ : ByteArray), (⟨#[]⟩ : ByteArray), bt122.2.2)))
theorem sum_Open.mono : ∀ a0 a1 k, LeO (sum_Open.f k a0 a1) (sum_Open.f (k + 1) a0 a1) := by
  intro a0 a1 k
  unfold sum_Open.f
  repeat' first
      | (with_reducible exact dec_TakeNum.mono _ _)
      | (with_reducible exact dec_TakeText.mono _ _ _)
      | (with_reducible exact LeO.refl _)
      | (with_reducible exact LeO.none _)
      | (with_reducible refine LeO.ite ?_ ?_)
      | (with_reducible refine LeO.bind ?_ (fun _ => ?_))
      | exact dec_TakeNum.mono _ _
      | exact dec_TakeText.mono _ _ _
      | exact LeO.none _
      | refine LeO.ite ?_ ?_
      | refine LeO.bind ?_ (fun _ => ?_)

/-! ### run_Take (function 12): what it is -/
mutual
def run_Take.j0 : Nat → ByteArray → Int → Bool → Option ((List (S62)) × Int)
  | 0, _, _, _ => none
  | k + 1, x4, x7, x35 => if x35 = true then (some (([] : List (S62)), 3)) else (run_Take.l0 k x4 x7 ([] : List (S62)) x7 0)
def run_Take.l0 : Nat → ByteArray → Int → List (S62) → Int → Int → Option ((List (S62)) × Int)
  | 0, _, _, _, _, _ => none
  | k + 1, x4, x7, x9, x36, x37 => if x37 < x36 then ((dec_TakeText.f k x4 65536).bind fun bt136 => (if bt136.2.2 = 0 then ((dec_TakeText.f k bt136.2.1 65536).bind fun bt139 => (if bt139.2.2 = 0 then (if x9.length < 4398046511104 then (run_Take.l0 k bt139.2.1 x7 (x9 ++ [(⟨bt136.1, bt139.1⟩ : S62)]) x36 (IntKind.u64.wrap (x37 + 1))) else (none)) else (if (IntKind.u64.wrap ((x9.length : Int))) = x7 then (if x4.toList = ([] : List UInt8) then ((run_may.f k x9).bind fun t145 => (if t145 = true then (some (x9, 0)) else (some (([] : List (S62)), 3)))) else (some (([] : List (S62)), 3))) else (some (([] : List (S62)), 3))))) else (if (IntKind.u64.wrap ((x9.length : Int))) = x7 then (if x4.toList = ([] : List UInt8) then ((run_may.f k x9).bind fun t146 => (if t146 = true then (some (x9, 0)) else (some (([] : List (S62)), 3)))) else (some (([] : List (S62)), 3))) else (some (([] : List (S62)), 3))))) else (if (IntKind.u64.wrap ((x9.length : Int))) = x7 then (if x4.toList = ([] : List UInt8) then ((run_may.f k x9).bind fun t135 => (if t135 = true then (some (x9, 0)) else (some (([] : List (S62)), 3)))) else (some (([] : List (S62)), 3))) else (some (([] : List (S62)), 3)))
end
def run_Take.f (k : Nat) (a0 : ByteArray) : Option ((List (S62)) × Int) := (sum_Open.f k a0 1073741824).bind fun bt129 => ((dec_TakeNum.f k bt129.1).bind fun bt132 => (if bt129.2.2 = 0 then (if bt132.2.2 = 0 then (run_Take.j0 k bt132.2.1 bt132.1 (bt129.2.1.toList != ([] : List UInt8))) else (run_Take.j0 k bt132.2.1 bt132.1 true)) else (run_Take.j0 k bt132.2.1 bt132.1 true)))
theorem run_Take.mono_l : ∀ k, (∀ y0 y1 y2, LeO (run_Take.j0 k y0 y1 y2) (run_Take.j0 (k + 1) y0 y1 y2)) ∧ (∀ y0 y1 y2 y3 y4, LeO (run_Take.l0 k y0 y1 y2 y3 y4) (run_Take.l0 (k + 1) y0 y1 y2 y3 y4))
  | 0 => ⟨fun _ _ _ r h => by simp [run_Take.j0] at h, fun _ _ _ _ _ r h => by simp [run_Take.l0] at h⟩
  | k + 1 => by
    obtain ⟨ih0, ih1⟩ := run_Take.mono_l k
    refine ⟨?_, ?_⟩
    · intro y0 y1 y2
      unfold run_Take.j0
      repeat' first
      | (with_reducible exact ih0 _ _ _)
      | (with_reducible exact ih1 _ _ _ _ _)
      | (with_reducible exact dec_TakeNum.mono _ _)
      | (with_reducible exact dec_TakeText.mono _ _ _)
      | (with_reducible exact run_may.mono _ _)
      | (with_reducible exact sum_Open.mono _ _ _)
      | (with_reducible exact LeO.refl _)
      | (with_reducible exact LeO.none _)
      | (with_reducible refine LeO.ite ?_ ?_)
      | (with_reducible refine LeO.bind ?_ (fun _ => ?_))
      | exact ih0 _ _ _
      | exact ih1 _ _ _ _ _
      | exact dec_TakeNum.mono _ _
      | exact dec_TakeText.mono _ _ _
      | exact run_may.mono _ _
      | exact sum_Open.mono _ _ _
      | exact LeO.none _
      | refine LeO.ite ?_ ?_
      | refine LeO.bind ?_ (fun _ => ?_)
    · intro y0 y1 y2 y3 y4
      unfold run_Take.l0
      repeat' first
      | (with_reducible exact ih0 _ _ _)
      | (with_reducible exact ih1 _ _ _ _ _)
      | (with_reducible exact dec_TakeNum.mono _ _)
      | (with_reducible exact dec_TakeText.mono _ _ _)
      | (with_reducible exact run_may.mono _ _)
      | (with_reducible exact sum_Open.mono _ _ _)
      | (with_reducible exact LeO.refl _)
      | (with_reducible exact LeO.none _)
      | (with_reducible refine LeO.ite ?_ ?_)
      | (with_reducible refine LeO.bind ?_ (fun _ => ?_))
      | exact ih0 _ _ _
      | exact ih1 _ _ _ _ _
      | exact dec_TakeNum.mono _ _
      | exact dec_TakeText.mono _ _ _
      | exact run_may.mono _ _
      | exact sum_Open.mono _ _ _
      | exact LeO.none _
      | refine LeO.ite ?_ ?_
      | refine LeO.bind ?_ (fun _ => ?_)
theorem run_Take.mono : ∀ a0 k, LeO (run_Take.f k a0) (run_Take.f (k + 1) a0) := by
  intro a0 k
  obtain ⟨ih0, ih1⟩ := run_Take.mono_l k
  unfold run_Take.f
  repeat' first
      | (with_reducible exact ih0 _ _ _)
      | (with_reducible exact ih1 _ _ _ _ _)
      | (with_reducible exact dec_TakeNum.mono _ _)
      | (with_reducible exact dec_TakeText.mono _ _ _)
      | (with_reducible exact run_may.mono _ _)
      | (with_reducible exact sum_Open.mono _ _ _)
      | (with_reducible exact LeO.refl _)
      | (with_reducible exact LeO.none _)
      | (with_reducible refine LeO.ite ?_ ?_)
      | (with_reducible refine LeO.bind ?_ (fun _ => ?_))
      | exact ih0 _ _ _
      | exact ih1 _ _ _ _ _
      | exact dec_TakeNum.mono _ _
      | exact dec_TakeText.mono _ _ _
      | exact run_may.mono _ _
      | exact sum_Open.mono _ _ _
      | exact LeO.none _
      | refine LeO.ite ?_ ?_
      | refine LeO.bind ?_ (fun _ => ?_)
theorem run_Take.scope_body {P : Program} {fn : Func} {R : Ending → World → Prop} {c : Code} {a : Act} {w : World} (h : c.wp P (bodyPost P fn R) a w) : (Code.scope c).wp P (bodyPost P fn R) a w := by
  refine wp_scope_straight ?_
  have e : Exit.noGoto (bodyPost P fn R) = bodyPost P fn R := by
    funext e a w
    cases e <;> rfl
  rw [e]
  exact h

/-! ### stanchionlaw06_shown (function 10): what it is -/
def stanchionlaw06_shown.f (k : Nat)  : Option (Bool) := (run_Bytes.f k (([(⟨(⟨#[97]⟩ : ByteArray), (⟨#[49]⟩ : ByteArray)⟩ : S62)] : List (S62)))).bind fun bt150 => ((run_Take.f k bt150.1).bind fun bt152 => (if bt150.2 = 0 then (if bt152.2 = 0 then (if (bt150.1.size : Int) > 10 then (if 0 ≤ 10 then (if 10 ≤ (bt150.1.size : Int) then (if (bt150.1.extract 0 10).toList = ([56, 59, 49, 59, 49, 59, 97, 49, 59, 49] : List UInt8) then (if (bt152.1.length : Int) = 1 then (if 0 < (bt152.1.length : Int) then (some (((rd_T62 bt152.1 0).f1).toList == ([49] : List UInt8))) else (none)) else (some false)) else (some false)) else (none)) else (none)) else (some false)) else (some false)) else (some false)))
theorem stanchionlaw06_shown.mono : ∀ k, LeO (stanchionlaw06_shown.f k ) (stanchionlaw06_shown.f (k + 1) ) := by
  intro  k
  unfold stanchionlaw06_shown.f
  repeat' first
      | (with_reducible exact run_Bytes.mono _ _)
      | (with_reducible exact run_Take.mono _ _)
      | (with_reducible exact LeO.refl _)
      | (with_reducible exact LeO.none _)
      | (with_reducible refine LeO.ite ?_ ?_)
      | (with_reducible refine LeO.bind ?_ (fun _ => ?_))
      | exact run_Bytes.mono _ _
      | exact run_Take.mono _ _
      | exact LeO.none _
      | refine LeO.ite ?_ ?_
      | refine LeO.bind ?_ (fun _ => ?_)

/-! ### stanchionref03_Crash (function 14): what it is -/
mutual
def stanchionref03_Crash.l0 : Nat → List Int → Int → List (S38) → Int → Int → Bool → List (S38) → Int → Int → Bool → Option ((List (S38)) × Int × Int × Bool)
  | 0, _, _, _, _, _, _, _, _, _, _ => none
  | k + 1, x1, x6, x158000, x158001, x158002, x158003, x160000, x160001, x160002, x160003 => if x6 < (x158000.length : Int) then (if 0 ≤ x6 then (if x6 < (x1.length : Int) then (stanchionref03_Crash.j1 k x1 x6 0 (decide ((rd x1 x6) > 0)) x158000 x158001 x158002 x158003 x160000 x160001 x160002 x160003 ((rd_T38 x158000 x6).f0) ((rd_T38 x158000 x6).f1) ((rd_T38 x158000 x6).f2)) else (stanchionref03_Crash.j1 k x1 x6 0 false x158000 x158001 x158002 x158003 x160000 x160001 x160002 x160003 ((rd_T38 x158000 x6).f0) ((rd_T38 x158000 x6).f1) ((rd_T38 x158000 x6).f2))) else (none)) else (some (x160000, x160001, x160002, x160003))
def stanchionref03_Crash.j1 : Nat → List Int → Int → Int → Bool → List (S38) → Int → Int → Bool → List (S38) → Int → Int → Bool → ByteArray → ByteArray → ByteArray → Option ((List (S38)) × Int × Int × Bool)
  | 0, _, _, _, _, _, _, _, _, _, _, _, _, _, _, _ => none
  | k + 1, x1, x6, x8, x34, x158000, x158001, x158002, x158003, x160000, x160001, x160002, x160003, x162000, x162001, x162002 => if x34 = true then (if 0 ≤ x6 then (if x6 < (x1.length : Int) then (if (rd x1 x6) > (x162002.size : Int) then (if 0 ≤ (x162002.size : Int) then (if (x162002.size : Int) ≤ (x162002.size : Int) then (if x162001.size + (x162002.extract 0 ((x162002.size : Int) : Int).toNat).size ≤ 9223372036854775807 then (if x160000.length < 2932031007402 then (stanchionref03_Crash.l0 k x1 (wrap64 (x6 + 1)) x158000 x158001 x158002 x158003 (x160000 ++ [(⟨x162000, x162001 ++ (x162002.extract 0 ((x162002.size : Int) : Int).toNat), (⟨#[]⟩ : ByteArray)⟩ : S38)]) (wrap64 ((wrap64 (x160001 + (x162002.size : Int))) - (x162002.size : Int))) x160002 x160003) else (none)) else (none)) else (none)) else (none)) else (if 0 ≤ (rd x1 x6) then (if (rd x1 x6) ≤ (x162002.size : Int) then (if x162001.size + (x162002.extract 0 ((rd x1 x6) : Int).toNat).size ≤ 9223372036854775807 then (if x160000.length < 2932031007402 then (stanchionref03_Crash.l0 k x1 (wrap64 (x6 + 1)) x158000 x158001 x158002 x158003 (x160000 ++ [(⟨x162000, x162001 ++ (x162002.extract 0 ((rd x1 x6) : Int).toNat), (⟨#[]⟩ : ByteArray)⟩ : S38)]) (wrap64 ((wrap64 (x160001 + (x162002.size : Int))) - (rd x1 x6))) x160002 x160003) else (none)) else (none)) else (none)) else (none))) else (none)) else (none)) else (if x8 > (x162002.size : Int) then (if 0 ≤ (x162002.size : Int) then (if (x162002.size : Int) ≤ (x162002.size : Int) then (if x162001.size + (x162002.extract 0 ((x162002.size : Int) : Int).toNat).size ≤ 9223372036854775807 then (if x160000.length < 2932031007402 then (stanchionref03_Crash.l0 k x1 (wrap64 (x6 + 1)) x158000 x158001 x158002 x158003 (x160000 ++ [(⟨x162000, x162001 ++ (x162002.extract 0 ((x162002.size : Int) : Int).toNat), (⟨#[]⟩ : ByteArray)⟩ : S38)]) (wrap64 ((wrap64 (x160001 + (x162002.size : Int))) - (x162002.size : Int))) x160002 x160003) else (none)) else (none)) else (none)) else (none)) else (if 0 ≤ x8 then (if x8 ≤ (x162002.size : Int) then (if x162001.size + (x162002.extract 0 (x8 : Int).toNat).size ≤ 9223372036854775807 then (if x160000.length < 2932031007402 then (stanchionref03_Crash.l0 k x1 (wrap64 (x6 + 1)) x158000 x158001 x158002 x158003 (x160000 ++ [(⟨x162000, x162001 ++ (x162002.extract 0 (x8 : Int).toNat), (⟨#[]⟩ : ByteArray)⟩ : S38)]) (wrap64 ((wrap64 (x160001 + (x162002.size : Int))) - x8)) x160002 x160003) else (none)) else (none)) else (none)) else (none)))
end
def stanchionref03_Crash.f (k : Nat) (l0_0 : List (S38)) (a0_1 : Int) (a0_2 : Int) (a0_3 : Bool) (l1 : List Int) : Option ((List (S38)) × Int × Int × Bool) := stanchionref03_Crash.l0 k l1 0 l0_0 a0_1 a0_2 a0_3 ([] : List (S38)) a0_1 (-1) false
/-! ### stanchionref03_Arm (function 15): what it is -/
def stanchionref03_Arm.f (l0_0 : List (S38)) (a0_1 : Int) (a0_2 : Int) (a0_3 : Bool) (a1 : Int) : Option ((List (S38)) × Int × Int × Bool) := if a1 < 0 then (some (l0_0, a0_1, (-1), a0_3)) else (some (l0_0, a0_1, a1, a0_3))

/-! ### stanchionref03_at (function 37): what it is -/
def stanchionref03_at.l0 : Nat → ByteArray → Int → List (S38) → Int → Int → Bool → Option (Int)
  | 0, _, _, _, _, _, _ => none
  | k + 1, x1, x5, x179000, x179001, x179002, x179003 => if x5 < (x179000.length : Int) then (if 0 ≤ x5 then (if ((rd_T38 x179000 x5).f0).toList = x1.toList then (some x5) else (stanchionref03_at.l0 k x1 (wrap64 (x5 + 1)) x179000 x179001 x179002 x179003)) else (none)) else (some (-1))
def stanchionref03_at.f (k : Nat) (l0_0 : List (S38)) (a0_1 : Int) (a0_2 : Int) (a0_3 : Bool) (a1 : ByteArray) : Option (Int) := stanchionref03_at.l0 k a1 0 l0_0 a0_1 a0_2 a0_3
/-! ### stanchionref03_Find (function 16): what it is -/
def stanchionref03_Find.f (k : Nat) (l0_0 : List (S38)) (a0_1 : Int) (a0_2 : Int) (a0_3 : Bool) (a1 : ByteArray) : Option (ByteArray × ByteArray × ByteArray × Bool) := (stanchionref03_at.f k l0_0 a0_1 a0_2 a0_3 a1).bind fun t182 => (if t182 < 0 then (some ((⟨#[]⟩ : ByteArray), (⟨#[]⟩ : ByteArray), (⟨#[]⟩ : ByteArray), false)) else (if 0 ≤ t182 then (if t182 < (l0_0.length : Int) then (some ((rd_T38 l0_0 t182).f0, (rd_T38 l0_0 t182).f1, (rd_T38 l0_0 t182).f2, true)) else (none)) else (none)))
/-! ### disk_at: function 64 -/
def disk_at_ix.f (l0 : List (S38)) (a1 : ByteArray) : Option (Int) := some (ixOf (fun x => x.f0.toList == a1.toList) l0)
def disk_at.f (l0_0 : List (S38)) (a0_1 : Int) (a0_2 : Int) (a0_3 : Bool) (a1 : ByteArray) : Option (Int) := (disk_at_ix.f l0_0 a1).bind fun t186 => (some t186)

/-! ### disk_Find (function 38): what it is -/
def disk_Find.f (l0_0 : List (S38)) (a0_1 : Int) (a0_2 : Int) (a0_3 : Bool) (a1 : ByteArray) : Option (ByteArray × ByteArray × ByteArray × Bool) := (disk_at.f l0_0 a0_1 a0_2 a0_3 a1).bind fun t189 => (if t189 < 0 then (some ((⟨#[]⟩ : ByteArray), (⟨#[]⟩ : ByteArray), (⟨#[]⟩ : ByteArray), false)) else (if 0 ≤ t189 then (if t189 < (l0_0.length : Int) then (some ((rd_T38 l0_0 t189).f0, (rd_T38 l0_0 t189).f1, (rd_T38 l0_0 t189).f2, true)) else (none)) else (none)))

/-! ### disk_change (function 65): what it is -/
def disk_change.f (l0_0 : List (S38)) (a0_1 : Int) (a0_2 : Int) (a0_3 : Bool) : Option ((List (S38)) × Int × Int × Bool × Bool) := if a0_2 = 0 then (some (l0_0, a0_1, a0_2, true, false)) else (if a0_2 > 0 then (some (l0_0, a0_1, wrap64 (a0_2 - 1), a0_3, true)) else (some (l0_0, a0_1, a0_2, a0_3, true)))

/-! ### disk_size (function 68): what it is -/
def disk_size.f (a0_0 : ByteArray) (a0_1 : ByteArray) (a0_2 : ByteArray) : Option (Int) := some (wrap64 ((a0_1.size : Int) + (a0_2.size : Int)))

/-! ### api_File_69 (function 69): what it is -/
def api_File_69.f (l0 : List (S38)) : Option ((List (S38))) := (some (([] : List (S38)) : List (S38))).bind fun y194 => (if y194.length + l0.length < 2932031007402 then (some (y194 ++ l0)) else (none))

/-! ### api_File_91: function 91 -/
def api_File_91.f (l0 : List S38) (a1 a2 : Int) : Option (List S38) := if 0 ≤ a1 then (if a1 < (l0.length : Int) then (if a2 = a1 + 1 then some (l0.eraseIdx a1.toNat) else none) else none) else none

/-! ### disk_without (function 66): what it is -/
def disk_without.f (l0_0 : List (S38)) (a0_1 : Int) (a0_2 : Int) (a0_3 : Bool) (a1 : Int) : Option ((List (S38)) × Int × Int × Bool) := if 0 ≤ a1 then (if a1 < (l0_0.length : Int) then ((disk_size.f ((rd_T38 l0_0 a1).f0) ((rd_T38 l0_0 a1).f1) ((rd_T38 l0_0 a1).f2)).bind fun t203 => ((api_File_69.f l0_0).bind fun t204 => ((api_File_91.f t204 a1 (wrap64 (a1 + 1))).bind fun t207 => (some (t207, wrap64 (a0_1 + t203), a0_2, a0_3))))) else (none)) else (none)

/-! ### disk_Delete (function 39): what it is -/
def disk_Delete.f (l0_0 : List (S38)) (a0_1 : Int) (a0_2 : Int) (a0_3 : Bool) (a1 : ByteArray) : Option ((List (S38)) × Int × Int × Bool × Int) := if a0_3 = true then (some (l0_0, a0_1, a0_2, a0_3, 6)) else ((disk_at.f l0_0 a0_1 a0_2 a0_3 a1).bind fun t212 => (if t212 < 0 then (some (l0_0, a0_1, a0_2, a0_3, 7)) else ((disk_change.f l0_0 a0_1 a0_2 a0_3).bind fun bt213 => (if bt213.2.2.2.2 = true then ((disk_at.f bt213.1 bt213.2.1 bt213.2.2.1 bt213.2.2.2.1 a1).bind fun t220 => ((disk_without.f bt213.1 bt213.2.1 bt213.2.2.1 bt213.2.2.2.1 t220).bind fun bt221 => (some (bt221.1, bt221.2.1, bt221.2.2.1, bt221.2.2.2, 0)))) else (some (bt213.1, bt213.2.1, bt213.2.2.1, bt213.2.2.2.1, 6))))))

/-! ### disk_named (function 67): what it is -/
def disk_named.f (a0 : ByteArray) : Option (Bool) := if (a0.size : Int) ≥ 1 then (some (decide ((a0.size : Int) ≤ 16))) else (some false)

/-! ### api_File_70 (function 70): what it is -/
def api_File_70.f (l0 : List (S38)) (a1 : Int) (a2_0 : ByteArray) (a2_1 : ByteArray) (a2_2 : ByteArray) : Option ((List (S38))) := (api_File_69.f l0).bind fun t228 => (if 0 ≤ a1 then (if a1 < (t228.length : Int) then (some (t228.set (a1 : Int).toNat (⟨a2_0, a2_1, a2_2⟩ : S38))) else (none)) else (none))

/-! ### disk_Append (function 40): what it is -/
mutual
def disk_Append.j0 : Nat → ByteArray → ByteArray → Bool → Bool → List (S38) → Int → Int → Bool → ByteArray → ByteArray → ByteArray → Option ((List (S38)) × Int × Int × Bool × Int)
  | 0, _, _, _, _, _, _, _, _, _, _, _ => none
  | k + 1, x1, x2, x9, x25, x233000, x233001, x233002, x233003, x239000, x239001, x239002 => if x25 = true then (some (x233000, x233001, x233002, x233003, 5)) else (if (x2.size : Int) > x233001 then (some (x233000, x233001, x233002, x233003, 5)) else ((disk_size.f x239000 x239001 x239002).bind fun t240 => (if (wrap64 (t240 + (x2.size : Int))) > 65536 then (some (x233000, x233001, x233002, x233003, 4)) else (if x9 = true then (disk_Append.j1 k x1 x2 x233000 x233001 x233002 x233003) else ((api_File_69.f x233000).bind fun t241 => (if t241.length < 2932031007402 then (disk_Append.j1 k x1 x2 (t241 ++ [(⟨x1, (⟨#[]⟩ : ByteArray), (⟨#[]⟩ : ByteArray)⟩ : S38)]) x233001 x233002 x233003) else (none)))))))
def disk_Append.j1 : Nat → ByteArray → ByteArray → List (S38) → Int → Int → Bool → Option ((List (S38)) × Int × Int × Bool × Int)
  | 0, _, _, _, _, _, _ => none
  | k + 1, x1, x2, x233000, x233001, x233002, x233003 => if x233002 ≥ 0 then (disk_Append.j2 k x1 x2 x2 (decide (x233002 < (x2.size : Int))) x233000 x233001 x233002 x233003) else (disk_Append.j2 k x1 x2 x2 false x233000 x233001 x233002 x233003)
def disk_Append.j2 : Nat → ByteArray → ByteArray → ByteArray → Bool → List (S38) → Int → Int → Bool → Option ((List (S38)) × Int × Int × Bool × Int)
  | 0, _, _, _, _, _, _, _, _ => none
  | k + 1, x1, x2, x10, x71, x233000, x233001, x233002, x233003 => if x71 = true then (if 0 ≤ x233002 then (if x233002 ≤ (x2.size : Int) then (disk_Append.j3 k x1 x2 (x2.extract 0 (x233002 : Int).toNat) x233000 x233001 x233002 x233003) else (none)) else (none)) else (disk_Append.j3 k x1 x2 x10 x233000 x233001 x233002 x233003)
def disk_Append.j3 : Nat → ByteArray → ByteArray → ByteArray → List (S38) → Int → Int → Bool → Option ((List (S38)) × Int × Int × Bool × Int)
  | 0, _, _, _, _, _, _, _ => none
  | k + 1, x1, x2, x10, x233000, x233001, x233002, x233003 => (disk_at.f x233000 x233001 x233002 x233003 x1).bind fun t247 => (if 0 ≤ t247 then (if t247 < (x233000.length : Int) then (if ((rd_T38 x233000 t247).f2).size + x10.size ≤ 9223372036854775807 then ((api_File_70.f x233000 t247 ((rd_T38 x233000 t247).f0) ((rd_T38 x233000 t247).f1) (((rd_T38 x233000 t247).f2) ++ x10)).bind fun t249 => (if x233002 ≥ 0 then (if (x10.size : Int) < (x2.size : Int) then (some (t249, wrap64 (x233001 - (x10.size : Int)), wrap64 (x233002 - (x10.size : Int)), true, 6)) else (some (t249, wrap64 (x233001 - (x10.size : Int)), wrap64 (x233002 - (x10.size : Int)), x233003, 0))) else (if (x10.size : Int) < (x2.size : Int) then (some (t249, wrap64 (x233001 - (x10.size : Int)), x233002, true, 6)) else (some (t249, wrap64 (x233001 - (x10.size : Int)), x233002, x233003, 0))))) else (none)) else (none)) else (none))
end
def disk_Append.f (k : Nat) (l0_0 : List (S38)) (a0_1 : Int) (a0_2 : Int) (a0_3 : Bool) (a1 : ByteArray) (a2 : ByteArray) : Option ((List (S38)) × Int × Int × Bool × Int) := (disk_Find.f l0_0 a0_1 a0_2 a0_3 a1).bind fun bt234 => (if a0_3 = true then (some (l0_0, a0_1, a0_2, a0_3, 6)) else ((disk_named.f a1).bind fun t239 => (if t239 = true then (if bt234.2.2.2 = true then (disk_Append.j0 k a1 a2 bt234.2.2.2 false l0_0 a0_1 a0_2 a0_3 bt234.1 bt234.2.1 bt234.2.2.1) else (disk_Append.j0 k a1 a2 bt234.2.2.2 (decide ((l0_0.length : Int) ≥ 64)) l0_0 a0_1 a0_2 a0_3 bt234.1 bt234.2.1 bt234.2.2.1)) else (some (l0_0, a0_1, a0_2, a0_3, 1)))))
/-! ### disk_Sync (function 41): what it is -/
def disk_Sync.f (l0_0 : List (S38)) (a0_1 : Int) (a0_2 : Int) (a0_3 : Bool) (a1 : ByteArray) : Option ((List (S38)) × Int × Int × Bool × Int) := (disk_at.f l0_0 a0_1 a0_2 a0_3 a1).bind fun t254 => (if a0_3 = true then (some (l0_0, a0_1, a0_2, a0_3, 6)) else (if t254 < 0 then (some (l0_0, a0_1, a0_2, a0_3, 7)) else (if 0 ≤ t254 then (if t254 < (l0_0.length : Int) then (if ((rd_T38 l0_0 t254).f1).size + ((rd_T38 l0_0 t254).f2).size ≤ 9223372036854775807 then ((api_File_70.f l0_0 t254 ((rd_T38 l0_0 t254).f0) (((rd_T38 l0_0 t254).f1) ++ ((rd_T38 l0_0 t254).f2)) (⟨#[]⟩ : ByteArray)).bind fun t257 => (some (t257, a0_1, a0_2, a0_3, 0))) else (none)) else (none)) else (none))))

/-! ### disk_Rename (function 42): what it is -/
def disk_Rename.f (l0_0 : List (S38)) (a0_1 : Int) (a0_2 : Int) (a0_3 : Bool) (a1 : ByteArray) (a2 : ByteArray) : Option ((List (S38)) × Int × Int × Bool × Int) := if a0_3 = true then (some (l0_0, a0_1, a0_2, a0_3, 6)) else ((disk_named.f a2).bind fun t262 => (if t262 = true then ((disk_at.f l0_0 a0_1 a0_2 a0_3 a1).bind fun t263 => (if t263 < 0 then (some (l0_0, a0_1, a0_2, a0_3, 7)) else (if a1.toList = a2.toList then (some (l0_0, a0_1, a0_2, a0_3, 0)) else ((disk_change.f l0_0 a0_1 a0_2 a0_3).bind fun bt264 => (if bt264.2.2.2.2 = true then ((disk_at.f bt264.1 bt264.2.1 bt264.2.2.1 bt264.2.2.2.1 a2).bind fun t271 => (if t271 ≥ 0 then ((disk_without.f bt264.1 bt264.2.1 bt264.2.2.1 bt264.2.2.2.1 t271).bind fun bt272 => ((disk_at.f bt272.1 bt272.2.1 bt272.2.2.1 bt272.2.2.2 a1).bind fun t278 => (if 0 ≤ t278 then (if t278 < (bt272.1.length : Int) then ((api_File_70.f bt272.1 t278 a2 ((rd_T38 bt272.1 t278).f1) ((rd_T38 bt272.1 t278).f2)).bind fun t281 => (some (t281, bt272.2.1, bt272.2.2.1, bt272.2.2.2, 0))) else (none)) else (none)))) else ((disk_at.f bt264.1 bt264.2.1 bt264.2.2.1 bt264.2.2.2.1 a1).bind fun t284 => (if 0 ≤ t284 then (if t284 < (bt264.1.length : Int) then ((api_File_70.f bt264.1 t284 a2 ((rd_T38 bt264.1 t284).f1) ((rd_T38 bt264.1 t284).f2)).bind fun t287 => (some (t287, bt264.2.1, bt264.2.2.1, bt264.2.2.2.1, 0))) else (none)) else (none))))) else (some (bt264.1, bt264.2.1, bt264.2.2.1, bt264.2.2.2.1, 6))))))) else (some (l0_0, a0_1, a0_2, a0_3, 1))))

/-! ### run_Lay (function 17): what it is -/
def run_Lay.j0 : Nat → ByteArray → ByteArray → ByteArray → List (S38) → Int → Int → Bool → Option ((List (S38)) × Int × Int × Bool × Int)
  | 0, _, _, _, _, _, _, _ => none
  | k + 1, x1, x2, x8, x291000, x291001, x291002, x291003 => (disk_Append.f k x291000 x291001 x291002 x291003 x8 x2).bind fun bt305 => (if bt305.2.2.2.2 = 0 then ((disk_Sync.f bt305.1 bt305.2.1 bt305.2.2.1 bt305.2.2.2.1 x8).bind fun bt312 => (if bt312.2.2.2.2 = 0 then ((disk_Rename.f bt312.1 bt312.2.1 bt312.2.2.1 bt312.2.2.2.1 x8 x1).bind fun bt319 => (some (bt319.1, bt319.2.1, bt319.2.2.1, bt319.2.2.2.1, bt319.2.2.2.2))) else (some (bt312.1, bt312.2.1, bt312.2.2.1, bt312.2.2.2.1, bt312.2.2.2.2)))) else (some (bt305.1, bt305.2.1, bt305.2.2.1, bt305.2.2.2.1, bt305.2.2.2.2)))
def run_Lay.f (k : Nat) (l0_0 : List (S38)) (a0_1 : Int) (a0_2 : Int) (a0_3 : Bool) (a1 : ByteArray) (a2 : ByteArray) : Option ((List (S38)) × Int × Int × Bool × Int) := if 2 + a1.size ≤ 9223372036854775807 then ((disk_Find.f l0_0 a0_1 a0_2 a0_3 ((⟨#[110, 46]⟩ : ByteArray) ++ a1)).bind fun bt292 => (if bt292.2.2.2 = true then ((disk_Delete.f l0_0 a0_1 a0_2 a0_3 ((⟨#[110, 46]⟩ : ByteArray) ++ a1)).bind fun bt297 => (if bt297.2.2.2.2 = 0 then (run_Lay.j0 k a1 a2 ((⟨#[110, 46]⟩ : ByteArray) ++ a1) bt297.1 bt297.2.1 bt297.2.2.1 bt297.2.2.2.1) else (some (bt297.1, bt297.2.1, bt297.2.2.1, bt297.2.2.2.1, bt297.2.2.2.2)))) else (run_Lay.j0 k a1 a2 ((⟨#[110, 46]⟩ : ByteArray) ++ a1) l0_0 a0_1 a0_2 a0_3))) else (none)
/-! ### stanchionlaw06_RunWhole (function 4): what it is -/
mutual
def stanchionlaw06_RunWhole.l0 : Nat → ByteArray → ByteArray → Int → List Int → Bool → Int → List (S38) → Int → Int → Bool → Option (Bool)
  | 0, _, _, _, _, _, _, _, _, _, _ => none
  | k + 1, x4, x5, x6, x7, x8, x9, x328000, x328001, x328002, x328003 => if x9 < (x328000.length : Int) then (stanchionlaw06_RunWhole.l1 k x4 x5 x6 x7 x8 x9 0 x328000 x328001 x328002 x328003) else ((stanchionref03_Crash.f k x328000 x328001 x328002 x328003 ([] : List Int)).bind fun bt331 => ((stanchionref03_Arm.f bt331.1 bt331.2.1 bt331.2.2.1 bt331.2.2.2 x6).bind fun bt337 => ((stanchionref03_Find.f k bt337.1 bt337.2.1 bt337.2.2.1 bt337.2.2.2 x4).bind fun bt343 => ((run_Lay.f k bt337.1 bt337.2.1 bt337.2.2.1 bt337.2.2.2 x4 x5).bind fun bt348 => ((stanchionref03_Crash.f k bt348.1 bt348.2.1 bt348.2.2.1 bt348.2.2.2.1 x7).bind fun bt356 => ((stanchionref03_Find.f k bt356.1 bt356.2.1 bt356.2.2.1 bt356.2.2.2 x4).bind fun bt362 => (if bt348.2.2.2.2 = 0 then (if x8 = true then (if bt362.2.2.2 = true then (some (bt362.2.1.toList == x5.toList)) else (some false)) else (some false)) else (if x8 = true then (if (bt362.2.2.2 == bt343.2.2.2) = true then (some (bt362.2.1.toList == bt343.2.1.toList)) else (some false)) else (some false)))))))))
def stanchionlaw06_RunWhole.l1 : Nat → ByteArray → ByteArray → Int → List Int → Bool → Int → Int → List (S38) → Int → Int → Bool → Option (Bool)
  | 0, _, _, _, _, _, _, _, _, _, _, _ => none
  | k + 1, x4, x5, x6, x7, x8, x9, x10, x328000, x328001, x328002, x328003 => if x10 < x9 then (if 0 ≤ x9 then (if x9 < (x328000.length : Int) then (if 0 ≤ x10 then (if x10 < (x328000.length : Int) then (if ((rd_T38 x328000 x9).f0).toList = ((rd_T38 x328000 x10).f0).toList then (some x8) else (stanchionlaw06_RunWhole.l1 k x4 x5 x6 x7 x8 x9 (wrap64 (x10 + 1)) x328000 x328001 x328002 x328003)) else (none)) else (none)) else (none)) else (none)) else (stanchionlaw06_RunWhole.l0 k x4 x5 x6 x7 x8 (wrap64 (x9 + 1)) x328000 x328001 x328002 x328003)
end
def stanchionlaw06_RunWhole.f (k : Nat) (l0_0 : List (S38)) (a0_1 : Int) (a0_2 : Int) (a0_3 : Bool) (a0_4 : ByteArray) (a0_5 : ByteArray) (a0_6 : Int) (l0_7 : List Int) : Option (Bool) := (stanchionlaw06_shown.f k).bind fun t328 => (stanchionlaw06_RunWhole.l0 k a0_4 a0_5 a0_6 l0_7 t328 0 l0_0 a0_1 a0_2 a0_3)
/-! ### run_may_1: function 58 -/
set_option maxHeartbeats 8000000 in
set_option maxRecDepth 100000 in
theorem run_may_1.calls (a0_0 : ByteArray) (a0_1 : ByteArray) (r : Bool) (w : World) (h : run_may_1.f a0_0 a0_1 = some r) :
    Calls Try.prog 58 #[.agg #[.string a0_0, .string a0_1]] w fun e w' => e = .returned (.bool r) ∧ Below w.heap.size w w' := by
  have hu62 := Try.underlying62
  have HB := Aside0.mk (Below.refl w.heap.size w)
  have H : (if (a0_0.size : Int) > 65536 then (some true) else (some (decide ((a0_1.size : Int) > 65536)))) = some r := h
  clear h
  by_cases c2 : (a0_0.size : Int) > 65536
  · rw [if_pos c2] at H
    have c2b0 : decide (65536 < (a0_0.size : Int)) = true := decide_eq_true c2
    have c2b1 : decide (65536 < a0_0.size) = true := decide_eq_true (by omega)
    clear c2
    obtain rfl := Option.some.inj H
    go_enter Try.func58, Try.ntmps58
    go_wp2_with (first | ((with_reducible refine gate_dst (N := 1) rfl ?_); (try (refine gate_guard (by rfl) ?_; dsimp only)); refine box_event ?hg (N := 1) ?hd (cs := #[.string a0_0, .string a0_1]) (t := 62) ?hr ?_; (case hd => rfl); (case hg => rfl); (case hr => first | (go_simp; done) | (go_simp; rfl)); intro gb101 hg w3 hbox hb; have n0_ := Aside0.mk (below_step (by repeat (first | (with_reducible first | exact HB.out | apply below_alloc | apply pw_below_drewN | apply below_drew1) | exact HB.out)) hb); have n1_ := Aside0.mk (hbox); have n2_ := Aside0.mk ((by rw [hg]; exact (below_size (by repeat (first | (with_reducible first | exact HB.out | apply below_alloc | apply pw_below_drewN | apply below_drew1) | exact HB.out))) : w.heap.size ≤ gb101)); have n3_ := Aside0.mk ((by rw [hg]; exact (below_size (by repeat (first | (with_reducible first | exact HB.out | apply below_alloc | apply pw_below_drewN | apply below_drew1) | exact HB.out))) : w.heap.size ≤ gb101)); clear HB; have HB := n0_; have BK101 := n1_; have GW101 := n2_; have GE101 := n3_; clear n0_ n1_ n2_ n3_; clear hb hbox hg; have hcz4_0 : w3.cell? ⟨gb101, 0, none⟩ = some (.string a0_0) := (blk_cell BK101.out 0).trans rfl; have hcz4_1 : w3.cell? ⟨gb101, 1, none⟩ = some (.string a0_1) := (blk_cell BK101.out 1).trans rfl; have hfz4_0 := blk_frozen BK101.out 0; have hfz4_1 := blk_frozen BK101.out 1))
    go_ret
    exact ⟨by first | rfl | (simp [errW_none, errW_some] <;> rfl) | (simp [*, errW_none, errW_some] <;> rfl) | (simp [*, errW_none, errW_some]; generalize ByteArray.toList _ = q_; cases q_ <;> rfl), by repeat (first | (with_reducible first | exact HB.out | apply below_alloc | apply pw_below_drewN | apply below_drew1 | refine below_set ?_ GE101.out) | exact HB.out)⟩
  · rw [if_neg c2] at H
    have c2b0 : decide (65536 < (a0_0.size : Int)) = false := decide_eq_false c2
    have c2b1 : decide (65536 < a0_0.size) = false := decide_eq_false (by omega)
    clear c2
    obtain rfl := Option.some.inj H
    go_enter Try.func58, Try.ntmps58
    go_wp2_with (first | ((with_reducible refine gate_dst (N := 1) rfl ?_); (try (refine gate_guard (by rfl) ?_; dsimp only)); refine box_event ?hg (N := 1) ?hd (cs := #[.string a0_0, .string a0_1]) (t := 62) ?hr ?_; (case hd => rfl); (case hg => rfl); (case hr => first | (go_simp; done) | (go_simp; rfl)); intro gb101 hg w5 hbox hb; have n0_ := Aside0.mk (below_step (by repeat (first | (with_reducible first | exact HB.out | apply below_alloc | apply pw_below_drewN | apply below_drew1) | exact HB.out)) hb); have n1_ := Aside0.mk (hbox); have n2_ := Aside0.mk ((by rw [hg]; exact (below_size (by repeat (first | (with_reducible first | exact HB.out | apply below_alloc | apply pw_below_drewN | apply below_drew1) | exact HB.out))) : w.heap.size ≤ gb101)); have n3_ := Aside0.mk ((by rw [hg]; exact (below_size (by repeat (first | (with_reducible first | exact HB.out | apply below_alloc | apply pw_below_drewN | apply below_drew1) | exact HB.out))) : w.heap.size ≤ gb101)); clear HB; have HB := n0_; have BK101 := n1_; have GW101 := n2_; have GE101 := n3_; clear n0_ n1_ n2_ n3_; clear hb hbox hg; have hcz6_0 : w5.cell? ⟨gb101, 0, none⟩ = some (.string a0_0) := (blk_cell BK101.out 0).trans rfl; have hcz6_1 : w5.cell? ⟨gb101, 1, none⟩ = some (.string a0_1) := (blk_cell BK101.out 1).trans rfl; have hfz6_0 := blk_frozen BK101.out 0; have hfz6_1 := blk_frozen BK101.out 1))
    go_ret
    exact ⟨by first | rfl | (simp [errW_none, errW_some] <;> rfl) | (simp [*, errW_none, errW_some] <;> rfl) | (simp [*, errW_none, errW_some]; generalize ByteArray.toList _ = q_; cases q_ <;> rfl), by repeat (first | (with_reducible first | exact HB.out | apply below_alloc | apply pw_below_drewN | apply below_drew1 | refine below_set ?_ GE101.out) | exact HB.out)⟩

end Go.Proofs.Ytbhkopbalhhpgaa.PH
