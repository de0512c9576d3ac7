-- Made by a program of this workplace out of the translation (wip/tools in the repo). Not trusted: Lean checks it.
import Derived.Test.YtbhkopbalhhpgaaPYx0
import Derived.Test.YtbhkopbalhhpgaaSq
namespace Go.Proofs.Ytbhkopbalhhpgaa.PY
open Go.RowKit Go.Proofs.YtbhkopbalhhpgaaW.PrintWords Go.Proofs.YtbhkopbalhhpgaaW.PrintLast Go.Proofs.YtbhkopbalhhpgaaW.PrintMore
attribute [local go_sem] max2_int min2_int max_two min_two max_three min_three max_four min_four   -- for this text's walks alone
set_option linter.unusedVariables false
set_option linter.unusedSimpArgs false

/-! ### run_may_1 (function 58): what it is -/
def run_may_1.f (aA : ByteArray) (aB : ByteArray) : Option (Bool) := if (aA.size : Int) > 65536 then (some true) else (some (decide ((aB.size : Int) > 65536)))

/-! ### table_Right (function 59): what it is -/
def table_Right.l0 : Nat → List (S62) → Int → Option (Bool)
  | 0, _, _ => none
  | k + 1, x0, x3 => if x3 < (x0.length : Int) then (if 0 ≤ (wrap64 (x3 - 1)) then (if (wrap64 (x3 - 1)) < (x0.length : Int) then (if 0 ≤ x3 then (if ((Op.bytesLess (((rd_T62 x0 (wrap64 (x3 - 1))).f0).toList) (((rd_T62 x0 x3).f0).toList)) = true) then (table_Right.l0 k x0 (wrap64 (x3 + 1))) else (some false)) else (none)) else (none)) else (none)) else (some true)
def table_Right.f (k : Nat) (l0 : List (S62)) : Option (Bool) := table_Right.l0 k l0 1
theorem table_Right.mono_l : ∀ k, (∀ y0 y1, LeO (table_Right.l0 k y0 y1) (table_Right.l0 (k + 1) y0 y1))
 | 0 => fun _ _ r h => by simp [table_Right.l0] at h
 | k + 1 => by
  have ih0 := table_Right.mono_l k
  ·intro y0 y1
   unfold table_Right.l0
   repeat' first
   | (with_reducible exact ih0 _ _)
   | (with_reducible exact LeO.refl _)
   | (with_reducible exact LeO.none _)
   | (with_reducible refine LeO.ite ?_ ?_)
   | (with_reducible refine LeO.bind ?_ (fun _ => ?_))
theorem table_Right.mono : ∀ a0 k, LeO (table_Right.f k a0) (table_Right.f (k + 1) a0) := by
 intro a0 k
 have ih0 := table_Right.mono_l k
 unfold table_Right.f
 repeat' first
   | (with_reducible exact ih0 _ _)
   | (with_reducible exact LeO.refl _)
   | (with_reducible exact LeO.none _)
   | (with_reducible refine LeO.ite ?_ ?_)
   | (with_reducible refine LeO.bind ?_ (fun _ => ?_))

/-! ### api_Pair_86: function 86 -/
def ixOf {α : Type} (p : α → Bool) (l : List α) : Int := if l.findIdx p < l.length then ((l.findIdx p : Nat) : Int) else -1
theorem ixOf_hit {α : Type} (p : α → Bool) (l : List α) (d : α) (k : Nat) (h : k < l.length) (hk : p (l.getD k d) = true) (hn : ∀ j, j < k → p (l.getD j d) = false) : ixOf p l = (k : Int) := by
 have e : l.findIdx p = k := by
  rw [List.findIdx_eq h]
  refine ⟨by rw [List.getD_eq_getElem?_getD, List.getElem?_eq_getElem h] at hk; exact hk, fun j hj => ?_⟩
  have := hn j hj
  rw [List.getD_eq_getElem?_getD, List.getElem?_eq_getElem (by omega)] at this
  exact this
 unfold ixOf
 rw [e, if_pos h]
theorem ixOf_miss {α : Type} (p : α → Bool) (l : List α) (d : α) (hn : ∀ j, j < l.length → p (l.getD j d) = false) : ixOf p l = -1 := by
 unfold ixOf
 rw [if_neg]
 intro h
 have h1 := List.findIdx_getElem (w := h) (p := p) (xs := l)
 have h2 := hn _ h
 rw [List.getD_eq_getElem?_getD, List.getElem?_eq_getElem h] at h2
 have h3 : p l[l.findIdx p] = false := h2
 rw [h3] at h1
 cases h1
/-! ### run_may: function 28 -/
def run_may_has.f (l0 : List (S62)) : Option (Bool) := some (l0.any (fun x => (run_may_1.f x.f0 x.f1).getD false))
def run_may.f (k : Nat) (l0 : List (S62)) : Option (Bool) := (table_Right.f k l0).bind fun aA => (if aA = true then ((run_may_has.f l0).bind fun aB => (some (!aB))) else (some false))
theorem run_may.mono : ∀ a0 k, LeO (run_may.f k a0) (run_may.f (k + 1) a0) := by
 intro a0 k
 unfold run_may.f
 repeat' first
   | (with_reducible exact table_Right.mono _ _)
   | (with_reducible exact LeO.refl _)
   | (with_reducible exact LeO.none _)
   | (with_reducible refine LeO.ite ?_ ?_)
   | (with_reducible refine LeO.bind ?_ (fun _ => ?_))

/-! ### dec_Num: function 30 -/
def dg : Nat → Nat → List UInt8 → List UInt8
  | 0, _, acc => acc
  | k + 1, v, acc => if v / 10 = 0 then UInt8.ofNat (48 + v % 10) :: acc else dg k (v / 10) (UInt8.ofNat (48 + v % 10) :: acc)
def numB (v : Nat) : ByteArray := ⟨(dg 20 v [59]).toArray⟩
def dec_Num.f (a0 : Int) : Option ByteArray := if 0 ≤ a0 then (if a0 < 18446744073709551616 then some (numB a0.toNat) else none) else none

/-! ### dec_Text (function 31): what it is -/
def dec_Text.f (a0 : ByteArray) : Option (ByteArray) := (dec_Num.f (IntKind.u64.wrap ((a0.size : Int)))).bind fun aA => (if aA.size + a0.size ≤ 9223372036854775807 then (some (aA ++ a0)) else (none))

/-! ### sum_Of: function 62 -/
def sumS (p : Int × Int) (x : Int) : Int × Int :=
  ((p.1 + x) % 4294967296 % 65521, (p.2 + (p.1 + x) % 4294967296 % 65521) % 4294967296 % 65521)
def sumT (s : ByteArray) : Nat → Int × Int
  | 0 => (1, 0)
  | n + 1 => sumS (sumT s n) (bt s (n : Int))
def sumJ (p : Int × Int) : Int := bits .or .u32 (p.2 * 65536 % 4294967296) p.1
def sum_Of.f (a0 : ByteArray) : Option Int := if a0.size < 4611686018427387904 then some (sumJ (sumT a0 a0.size)) else none

/-! ### sum_Seal (function 32): what it is -/
def sum_Seal.f (a0 : ByteArray) : Option (ByteArray) := (dec_Text.f a0).bind fun aA => ((sum_Of.f a0).bind fun aC => ((dec_Num.f (IntKind.u64.wrap (aC))).bind fun aB => (if aA.size + aB.size ≤ 9223372036854775807 then (some (aA ++ aB)) else (none))))

/-! ### run_Bytes: function 11 -/
def run_Bytes.l0 : Nat → ByteArray → List (S62) → Int → Int → Option (ByteArray × Int)
  | 0, _, _, _, _ => none
  | k + 1, x4, aD, aF, aC => if aC < aF then (if 0 ≤ aC then (if aC < (aD.length : Int) then ((dec_Text.f ((rd_T62 aD aC).f0)).bind fun aA => ((dec_Text.f ((rd_T62 aD aC).f1)).bind fun aB => (if aA.size + aB.size ≤ 9223372036854775807 then (if x4.size + (aA ++ aB).size ≤ 140737488355328 then (run_Bytes.l0 k (x4 ++ (aA ++ aB)) aD aF (wrap64 (aC + 1))) else (none)) else (none)))) else (none)) else (none)) else ((sum_Seal.f x4).bind fun aE => (some (aE, 0)))
def run_Bytes.f (k : Nat) (l0 : List (S62)) : Option (ByteArray × Int) := (run_may.f k l0).bind fun aB => (if aB = true then ((dec_Num.f (IntKind.u64.wrap ((l0.length : Int)))).bind fun aA => (if 0 + aA.size ≤ 140737488355328 then (run_Bytes.l0 k ((⟨#[]⟩ : ByteArray) ++ aA) l0 (l0.length : Int) 0) else (none))) else (some ((⟨#[]⟩ : ByteArray), 1)))
theorem run_Bytes.mono_l : ∀ k, (∀ y0 y1 y2 y3, LeO (run_Bytes.l0 k y0 y1 y2 y3) (run_Bytes.l0 (k + 1) y0 y1 y2 y3))
 | 0 => fun _ _ _ _ r h => by simp [run_Bytes.l0] at h
 | k + 1 => by
  have ih0 := run_Bytes.mono_l k
  ·intro y0 y1 y2 y3
   unfold run_Bytes.l0
   repeat' first
   | (with_reducible exact ih0 _ _ _ _)
   | (with_reducible exact run_may.mono _ _)
   | (with_reducible exact LeO.refl _)
   | (with_reducible exact LeO.none _)
   | (with_reducible refine LeO.ite ?_ ?_)
   | (with_reducible refine LeO.bind ?_ (fun _ => ?_))
theorem run_Bytes.mono : ∀ a0 k, LeO (run_Bytes.f k a0) (run_Bytes.f (k + 1) a0) := by
 intro a0 k
 have ih0 := run_Bytes.mono_l k
 unfold run_Bytes.f
 repeat' first
   | (with_reducible exact ih0 _ _ _ _)
   | (with_reducible exact run_may.mono _ _)
   | (with_reducible exact LeO.refl _)
   | (with_reducible exact LeO.none _)
   | (with_reducible refine LeO.ite ?_ ?_)
   | (with_reducible refine LeO.bind ?_ (fun _ => ?_))

/-! ### dec_told (function 63): what it is -/
def dec_told.l0 : Nat → ByteArray → Int → Int → Int → Option (Int × Bool)
  | 0, _, _, _, _ => none
  | k + 1, x0, x4, x8, x9 => if x9 < x8 then (if 0 ≤ x9 then (if x9 < (x0.size : Int) then (if x4 > ((18446744073709551615 - (((bt x0 x9) - 48) % 256)) / 10) then (some (0, false)) else (dec_told.l0 k x0 (IntKind.u64.wrap ((IntKind.u64.wrap (10 * x4)) + (((bt x0 x9) - 48) % 256))) x8 (wrap64 (x9 + 1)))) else (none)) else (none)) else (some (x4, true))
def dec_told.f (k : Nat) (a0 : ByteArray) : Option (Int × Bool) := dec_told.l0 k a0 0 (a0.size : Int) 0
theorem dec_told.mono_l : ∀ k, (∀ y0 y1 y2 y3, LeO (dec_told.l0 k y0 y1 y2 y3) (dec_told.l0 (k + 1) y0 y1 y2 y3))
 | 0 => fun _ _ _ _ r h => by simp [dec_told.l0] at h
 | k + 1 => by
  have ih0 := dec_told.mono_l k
  ·intro y0 y1 y2 y3
   unfold dec_told.l0
   repeat' first
   | (with_reducible exact ih0 _ _ _ _)
   | (with_reducible exact LeO.refl _)
   | (with_reducible exact LeO.none _)
   | (with_reducible refine LeO.ite ?_ ?_)
   | (with_reducible refine LeO.bind ?_ (fun _ => ?_))
theorem dec_told.mono : ∀ a0 k, LeO (dec_told.f k a0) (dec_told.f (k + 1) a0) := by
 intro a0 k
 have ih0 := dec_told.mono_l k
 unfold dec_told.f
 repeat' first
   | (with_reducible exact ih0 _ _ _ _)
   | (with_reducible exact LeO.refl _)
   | (with_reducible exact LeO.none _)
   | (with_reducible refine LeO.ite ?_ ?_)
   | (with_reducible refine LeO.bind ?_ (fun _ => ?_))

/-! ### dec_TakeNum (function 35): what it is -/
mutual
def dec_TakeNum.j1 : Nat → ByteArray → Int → Option (Int × ByteArray × Int)
  | 0, _, _ => none
  | k + 1, x0, x5 => if x5 > 20 then (some (0, (⟨#[]⟩ : ByteArray), 3)) else (if 0 ≤ x5 then (if x5 ≤ (x0.size : Int) then ((dec_told.f k (x0.extract 0 (x5 : Int).toNat)).bind fun aA => (if x5 > 1 then (if 0 < (x0.size : Int) then (dec_TakeNum.j2 k x0 x5 aA.1 aA.2 ((bt x0 0) == 48)) else (none)) else (dec_TakeNum.j2 k x0 x5 aA.1 aA.2 false))) else (none)) else (none))
def dec_TakeNum.j2 : Nat → ByteArray → Int → Int → Bool → Bool → Option (Int × ByteArray × Int)
  | 0, _, _, _, _, _ => none
  | k + 1, x0, x5, x6, x7, aA => if aA = true then (some (0, (⟨#[]⟩ : ByteArray), 3)) else (if x7 = true then (if x5 < (x0.size : Int) then (if x5 = 0 then (dec_TakeNum.j3 k x0 x5 x6 true) else (if 0 ≤ x5 then (dec_TakeNum.j3 k x0 x5 x6 ((bt x0 x5) != 59)) else (none))) else (dec_TakeNum.j3 k x0 x5 x6 false)) else (some (0, (⟨#[]⟩ : ByteArray), 3)))
def dec_TakeNum.j3 : Nat → ByteArray → Int → Int → Bool → Option (Int × ByteArray × Int)
  | 0, _, _, _, _ => none
  | k + 1, x0, x5, x6, aA => if aA = true then (some (0, (⟨#[]⟩ : ByteArray), 3)) else (if x5 = (x0.size : Int) then (some (0, (⟨#[]⟩ : ByteArray), 2)) else (if 0 ≤ (wrap64 (x5 + 1)) then (if (wrap64 (x5 + 1)) ≤ (x0.size : Int) then (some (x6, x0.extract ((wrap64 (x5 + 1)) : Int).toNat x0.size, 0)) else (none)) else (none)))
def dec_TakeNum.l0 : Nat → ByteArray → Int → Option (Int × ByteArray × Int)
  | 0, _, _ => none
  | k + 1, x0, x5 => if x5 < (x0.size : Int) then (if 0 ≤ x5 then (if (bt x0 x5) < 48 then (dec_TakeNum.j1 k x0 x5) else (if (bt x0 x5) > 57 then (dec_TakeNum.j1 k x0 x5) else (dec_TakeNum.l0 k x0 (wrap64 (x5 + 1))))) else (none)) else (dec_TakeNum.j1 k x0 x5)
end
def dec_TakeNum.f (k : Nat) (a0 : ByteArray) : Option (Int × ByteArray × Int) := dec_TakeNum.l0 k a0 0
theorem dec_TakeNum.mono_l : ∀ k, (∀ y0 y1, LeO (dec_TakeNum.j1 k y0 y1) (dec_TakeNum.j1 (k + 1) y0 y1)) ∧ (∀ y0 y1 y2 y3 y4, LeO (dec_TakeNum.j2 k y0 y1 y2 y3 y4) (dec_TakeNum.j2 (k + 1) y0 y1 y2 y3 y4)) ∧ (∀ y0 y1 y2 y3, LeO (dec_TakeNum.j3 k y0 y1 y2 y3) (dec_TakeNum.j3 (k + 1) y0 y1 y2 y3)) ∧ (∀ y0 y1, LeO (dec_TakeNum.l0 k y0 y1) (dec_TakeNum.l0 (k + 1) y0 y1))
 | 0 => ⟨fun _ _ r h => by simp [dec_TakeNum.j1] at h, fun _ _ _ _ _ r h => by simp [dec_TakeNum.j2] at h, fun _ _ _ _ r h => by simp [dec_TakeNum.j3] at h, fun _ _ r h => by simp [dec_TakeNum.l0] at h⟩
 | k + 1 => by
  obtain ⟨aA, aB, aC, aD⟩ := dec_TakeNum.mono_l k
  refine ⟨?_, ?_, ?_, ?_⟩
  ·intro y0 y1
   unfold dec_TakeNum.j1
   repeat' first
   | (with_reducible exact aA _ _)
   | (with_reducible exact aB _ _ _ _ _)
   | (with_reducible exact aC _ _ _ _)
   | (with_reducible exact aD _ _)
   | (with_reducible exact dec_told.mono _ _)
   | (with_reducible exact LeO.refl _)
   | (with_reducible exact LeO.none _)
   | (with_reducible refine LeO.ite ?_ ?_)
   | (with_reducible refine LeO.bind ?_ (fun _ => ?_))
  ·intro y0 y1 y2 y3 y4
   unfold dec_TakeNum.j2
   repeat' first
   | (with_reducible exact aA _ _)
   | (with_reducible exact aB _ _ _ _ _)
   | (with_reducible exact aC _ _ _ _)
   | (with_reducible exact aD _ _)
   | (with_reducible exact dec_told.mono _ _)
   | (with_reducible exact LeO.refl _)
   | (with_reducible exact LeO.none _)
   | (with_reducible refine LeO.ite ?_ ?_)
   | (with_reducible refine LeO.bind ?_ (fun _ => ?_))
  ·intro y0 y1 y2 y3
   unfold dec_TakeNum.j3
   repeat' first
   | (with_reducible exact aA _ _)
   | (with_reducible exact aB _ _ _ _ _)
   | (with_reducible exact aC _ _ _ _)
   | (with_reducible exact aD _ _)
   | (with_reducible exact dec_told.mono _ _)
   | (with_reducible exact LeO.refl _)
   | (with_reducible exact LeO.none _)
   | (with_reducible refine LeO.ite ?_ ?_)
   | (with_reducible refine LeO.bind ?_ (fun _ => ?_))
  ·intro y0 y1
   unfold dec_TakeNum.l0
   repeat' first
   | (with_reducible exact aA _ _)
   | (with_reducible exact aB _ _ _ _ _)
   | (with_reducible exact aC _ _ _ _)
   | (with_reducible exact aD _ _)
   | (with_reducible exact dec_told.mono _ _)
   | (with_reducible exact LeO.refl _)
   | (with_reducible exact LeO.none _)
   | (with_reducible refine LeO.ite ?_ ?_)
   | (with_reducible refine LeO.bind ?_ (fun _ => ?_))
theorem dec_TakeNum.mono : ∀ a0 k, LeO (dec_TakeNum.f k a0) (dec_TakeNum.f (k + 1) a0) := by
 intro a0 k
 obtain ⟨ih0, ih1, ih2, ih3⟩ := dec_TakeNum.mono_l k
 unfold dec_TakeNum.f
 repeat' first
   | (with_reducible exact ih0 _ _)
   | (with_reducible exact ih1 _ _ _ _ _)
   | (with_reducible exact ih2 _ _ _ _)
   | (with_reducible exact ih3 _ _)
   | (with_reducible exact dec_told.mono _ _)
   | (with_reducible exact LeO.refl _)
   | (with_reducible exact LeO.none _)
   | (with_reducible refine LeO.ite ?_ ?_)
   | (with_reducible refine LeO.bind ?_ (fun _ => ?_))
theorem dec_TakeNum.scope_body {P : Program} {fn : Func} {R : Ending → World → Prop} {c : Code} {a : Act} {w : World} (h : c.wp P (bodyPost P fn R) a w) : (Code.scope c).wp P (bodyPost P fn R) a w := by
 refine wp_scope_straight ?_
 have e : Exit.noGoto (bodyPost P fn R) = bodyPost P fn R := by
  funext e a w
  cases e <;> rfl
 rw [e]
 exact h

/-! ### dec_TakeText (function 36): what it is -/
def dec_TakeText.j0 : Nat → Int → ByteArray → Bool → Option (ByteArray × ByteArray × Int)
  | 0, _, _, _ => none
  | k + 1, x7, x8, aA => if aA = true then (some ((⟨#[]⟩ : ByteArray), (⟨#[]⟩ : ByteArray), 4)) else (if x7 > (IntKind.u64.wrap ((x8.size : Int))) then (some ((⟨#[]⟩ : ByteArray), (⟨#[]⟩ : ByteArray), 2)) else (if 0 ≤ x7 then (if x7 ≤ (x8.size : Int) then (some (x8.extract 0 (x7 : Int).toNat, x8.extract (x7 : Int).toNat x8.size, 0)) else (none)) else (none)))
def dec_TakeText.f (k : Nat) (a0 : ByteArray) (a1 : Int) : Option (ByteArray × ByteArray × Int) := (dec_TakeNum.f k a0).bind fun aA => (if aA.2.2 = 0 then (if a1 < 0 then (dec_TakeText.j0 k aA.1 aA.2.1 true) else (dec_TakeText.j0 k aA.1 aA.2.1 (decide (aA.1 > (IntKind.u64.wrap (a1)))))) else (some ((⟨#[]⟩ : ByteArray), (⟨#[]⟩ : ByteArray), aA.2.2)))
theorem dec_TakeText.mono_l : ∀ k, (∀ y0 y1 y2, LeO (dec_TakeText.j0 k y0 y1 y2) (dec_TakeText.j0 (k + 1) y0 y1 y2))
 | 0 => fun _ _ _ r h => by simp [dec_TakeText.j0] at h
 | k + 1 => by
  have ih0 := dec_TakeText.mono_l k
  ·intro y0 y1 y2
   unfold dec_TakeText.j0
   repeat' first
   | (with_reducible exact ih0 _ _ _)
   | (with_reducible exact dec_TakeNum.mono _ _)
   | (with_reducible exact LeO.refl _)
   | (with_reducible exact LeO.none _)
   | (with_reducible refine LeO.ite ?_ ?_)
   | (with_reducible refine LeO.bind ?_ (fun _ => ?_))
theorem dec_TakeText.mono : ∀ a0 a1 k, LeO (dec_TakeText.f k a0 a1) (dec_TakeText.f (k + 1) a0 a1) := by
 intro a0 a1 k
 have ih0 := dec_TakeText.mono_l k
 unfold dec_TakeText.f
 repeat' first
   | (with_reducible exact ih0 _ _ _)
   | (with_reducible exact dec_TakeNum.mono _ _)
   | (with_reducible exact LeO.refl _)
   | (with_reducible exact LeO.none _)
   | (with_reducible refine LeO.ite ?_ ?_)
   | (with_reducible refine LeO.bind ?_ (fun _ => ?_))

/-! ### sum_Open (function 34): what it is -/
def sum_Open.f (k : Nat) (a0 : ByteArray) (a1 : Int) : Option (ByteArray × ByteArray × Int) := (dec_TakeText.f k a0 a1).bind fun aA => (if aA.2.2 = 0 then ((dec_TakeNum.f k aA.2.1).bind fun aB => (if aB.2.2 = 0 then ((sum_Of.f aA.1).bind fun aC => (if aB.1 = (IntKind.u64.wrap (aC)) then (some (aA.1, aB.2.1, 0)) else (some ((⟨#[]⟩ : ByteArray), (⟨#[]⟩ : ByteArray), 10)))) else (some ((⟨#[]⟩ : ByteArray), (⟨#[]⟩ : ByteArray), aB.2.2)))) else (some ((⟨#[]⟩ : ByteArray), (⟨#[]⟩ : ByteArray), aA.2.2)))
theorem sum_Open.mono : ∀ a0 a1 k, LeO (sum_Open.f k a0 a1) (sum_Open.f (k + 1) a0 a1) := by
 intro a0 a1 k
 unfold sum_Open.f
 repeat' first
   | (with_reducible exact dec_TakeNum.mono _ _)
   | (with_reducible exact dec_TakeText.mono _ _ _)
   | (with_reducible exact LeO.refl _)
   | (with_reducible exact LeO.none _)
   | (with_reducible refine LeO.ite ?_ ?_)
   | (with_reducible refine LeO.bind ?_ (fun _ => ?_))

/-! ### run_Take (function 12): what it is -/
mutual
def run_Take.j0 : Nat → ByteArray → Int → Bool → Option ((List (S62)) × Int)
  | 0, _, _, _ => none
  | k + 1, x4, x7, aA => if aA = true then (some (([] : List (S62)), 3)) else (run_Take.l0 k x4 x7 ([] : List (S62)) x7 0)
def run_Take.l0 : Nat → ByteArray → Int → List (S62) → Int → Int → Option ((List (S62)) × Int)
  | 0, _, _, _, _, _ => none
  | k + 1, x4, x7, x9, aF, aG => if aG < aF then ((dec_TakeText.f k x4 65536).bind fun aA => (if aA.2.2 = 0 then ((dec_TakeText.f k aA.2.1 65536).bind fun aB => (if aB.2.2 = 0 then (if x9.length < 4398046511104 then (run_Take.l0 k aB.2.1 x7 (x9 ++ [(⟨aA.1, aB.1⟩ : S62)]) aF (IntKind.u64.wrap (aG + 1))) else (none)) else (if (IntKind.u64.wrap ((x9.length : Int))) = x7 then (if x4.toList = ([] : List UInt8) then ((run_may.f k x9).bind fun aC => (if aC = true then (some (x9, 0)) else (some (([] : List (S62)), 3)))) else (some (([] : List (S62)), 3))) else (some (([] : List (S62)), 3))))) else (if (IntKind.u64.wrap ((x9.length : Int))) = x7 then (if x4.toList = ([] : List UInt8) then ((run_may.f k x9).bind fun aD => (if aD = true then (some (x9, 0)) else (some (([] : List (S62)), 3)))) else (some (([] : List (S62)), 3))) else (some (([] : List (S62)), 3))))) else (if (IntKind.u64.wrap ((x9.length : Int))) = x7 then (if x4.toList = ([] : List UInt8) then ((run_may.f k x9).bind fun aE => (if aE = true then (some (x9, 0)) else (some (([] : List (S62)), 3)))) else (some (([] : List (S62)), 3))) else (some (([] : List (S62)), 3)))
end
def run_Take.f (k : Nat) (a0 : ByteArray) : Option ((List (S62)) × Int) := (sum_Open.f k a0 1073741824).bind fun aB => ((dec_TakeNum.f k aB.1).bind fun aA => (if aB.2.2 = 0 then (if aA.2.2 = 0 then (run_Take.j0 k aA.2.1 aA.1 (aB.2.1.toList != ([] : List UInt8))) else (run_Take.j0 k aA.2.1 aA.1 true)) else (run_Take.j0 k aA.2.1 aA.1 true)))
theorem run_Take.mono_l : ∀ k, (∀ y0 y1 y2, LeO (run_Take.j0 k y0 y1 y2) (run_Take.j0 (k + 1) y0 y1 y2)) ∧ (∀ y0 y1 y2 y3 y4, LeO (run_Take.l0 k y0 y1 y2 y3 y4) (run_Take.l0 (k + 1) y0 y1 y2 y3 y4))
 | 0 => ⟨fun _ _ _ r h => by simp [run_Take.j0] at h, fun _ _ _ _ _ r h => by simp [run_Take.l0] at h⟩
 | k + 1 => by
  obtain ⟨ih0, ih1⟩ := run_Take.mono_l k
  refine ⟨?_, ?_⟩
  ·intro y0 y1 y2
   unfold run_Take.j0
   repeat' first
   | (with_reducible exact ih0 _ _ _)
   | (with_reducible exact ih1 _ _ _ _ _)
   | (with_reducible exact dec_TakeNum.mono _ _)
   | (with_reducible exact dec_TakeText.mono _ _ _)
   | (with_reducible exact run_may.mono _ _)
   | (with_reducible exact sum_Open.mono _ _ _)
   | (with_reducible exact LeO.refl _)
   | (with_reducible exact LeO.none _)
   | (with_reducible refine LeO.ite ?_ ?_)
   | (with_reducible refine LeO.bind ?_ (fun _ => ?_))
  ·intro y0 y1 y2 y3 y4
   unfold run_Take.l0
   repeat' first
   | (with_reducible exact ih0 _ _ _)
   | (with_reducible exact ih1 _ _ _ _ _)
   | (with_reducible exact dec_TakeNum.mono _ _)
   | (with_reducible exact dec_TakeText.mono _ _ _)
   | (with_reducible exact run_may.mono _ _)
   | (with_reducible exact sum_Open.mono _ _ _)
   | (with_reducible exact LeO.refl _)
   | (with_reducible exact LeO.none _)
   | (with_reducible refine LeO.ite ?_ ?_)
   | (with_reducible refine LeO.bind ?_ (fun _ => ?_))
theorem run_Take.mono : ∀ a0 k, LeO (run_Take.f k a0) (run_Take.f (k + 1) a0) := by
 intro a0 k
 obtain ⟨ih0, ih1⟩ := run_Take.mono_l k
 unfold run_Take.f
 repeat' first
   | (with_reducible exact ih0 _ _ _)
   | (with_reducible exact ih1 _ _ _ _ _)
   | (with_reducible exact dec_TakeNum.mono _ _)
   | (with_reducible exact dec_TakeText.mono _ _ _)
   | (with_reducible exact run_may.mono _ _)
   | (with_reducible exact sum_Open.mono _ _ _)
   | (with_reducible exact LeO.refl _)
   | (with_reducible exact LeO.none _)
   | (with_reducible refine LeO.ite ?_ ?_)
   | (with_reducible refine LeO.bind ?_ (fun _ => ?_))
theorem run_Take.scope_body {P : Program} {fn : Func} {R : Ending → World → Prop} {c : Code} {a : Act} {w : World} (h : c.wp P (bodyPost P fn R) a w) : (Code.scope c).wp P (bodyPost P fn R) a w := by
 refine wp_scope_straight ?_
 have e : Exit.noGoto (bodyPost P fn R) = bodyPost P fn R := by
  funext e a w
  cases e <;> rfl
 rw [e]
 exact h

/-! ### stanchionlaw06_shown (function 10): what it is -/
def stanchionlaw06_shown.f (k : Nat)  : Option (Bool) := (run_Bytes.f k (([(⟨(⟨#[97]⟩ : ByteArray), (⟨#[49]⟩ : ByteArray)⟩ : S62)] : List (S62)))).bind fun aA => ((run_Take.f k aA.1).bind fun aB => (if aA.2 = 0 then (if aB.2 = 0 then (if (aA.1.size : Int) > 10 then (if 0 ≤ 10 then (if 10 ≤ (aA.1.size : Int) then (if (aA.1.extract 0 10).toList = ([56, 59, 49, 59, 49, 59, 97, 49, 59, 49] : List UInt8) then (if (aB.1.length : Int) = 1 then (if 0 < (aB.1.length : Int) then (some (((rd_T62 aB.1 0).f1).toList == ([49] : List UInt8))) else (none)) else (some false)) else (some false)) else (none)) else (none)) else (some false)) else (some false)) else (some false)))
theorem stanchionlaw06_shown.mono : ∀ k, LeO (stanchionlaw06_shown.f k ) (stanchionlaw06_shown.f (k + 1) ) := by
 intro  k
 unfold stanchionlaw06_shown.f
 repeat' first
   | (with_reducible exact run_Bytes.mono _ _)
   | (with_reducible exact run_Take.mono _ _)
   | (with_reducible exact LeO.refl _)
   | (with_reducible exact LeO.none _)
   | (with_reducible refine LeO.ite ?_ ?_)
   | (with_reducible refine LeO.bind ?_ (fun _ => ?_))

/-! ### stanchionref05_Same (function 13): what it is -/
def stanchionref05_Same.l0 : Nat → List (S62) → List (S62) → Int → Option (Bool)
  | 0, _, _, _ => none
  | k + 1, x0, x1, x5 => if x5 < (x0.length : Int) then (if 0 ≤ x5 then (if x5 < (x1.length : Int) then (if (!((((rd_T62 x0 x5).f0).toList) == (((rd_T62 x1 x5).f0).toList)) || (!((((rd_T62 x0 x5).f1).toList) == (((rd_T62 x1 x5).f1).toList)))) = true then (some false) else (stanchionref05_Same.l0 k x0 x1 (wrap64 (x5 + 1)))) else (none)) else (none)) else (some true)
def stanchionref05_Same.f (k : Nat) (l0 : List (S62)) (l1 : List (S62)) : Option (Bool) := if (l0.length : Int) = (l1.length : Int) then (stanchionref05_Same.l0 k l0 l1 0) else (some false)
/-! ### disk_at: function 64 -/
def disk_at_ix.f (l0 : List (S38)) (a1 : ByteArray) : Option (Int) := some (ixOf (fun x => x.f0.toList == a1.toList) l0)
def disk_at.f (aA : List (S38)) (aC : Int) (aD : Int) (aE : Bool) (a1 : ByteArray) : Option (Int) := (disk_at_ix.f aA a1).bind fun aB => (some aB)

/-! ### disk_Find (function 38): what it is -/
def disk_Find.f (aB : List (S38)) (aC : Int) (aD : Int) (aE : Bool) (a1 : ByteArray) : Option (ByteArray × ByteArray × ByteArray × Bool) := (disk_at.f aB aC aD aE a1).bind fun aA => (if aA < 0 then (some ((⟨#[]⟩ : ByteArray), (⟨#[]⟩ : ByteArray), (⟨#[]⟩ : ByteArray), false)) else (if 0 ≤ aA then (if aA < (aB.length : Int) then (some ((rd_T38 aB aA).f0, (rd_T38 aB aA).f1, (rd_T38 aB aA).f2, true)) else (none)) else (none)))

/-! ### disk_change (function 65): what it is -/
def disk_change.f (aB : List (S38)) (aC : Int) (aA : Int) (aD : Bool) : Option ((List (S38)) × Int × Int × Bool × Bool) := if aA = 0 then (some (aB, aC, aA, true, false)) else (if aA > 0 then (some (aB, aC, wrap64 (aA - 1), aD, true)) else (some (aB, aC, aA, aD, true)))

/-! ### disk_size (function 68): what it is -/
def disk_size.f (aC : ByteArray) (aA : ByteArray) (aB : ByteArray) : Option (Int) := some (wrap64 ((aA.size : Int) + (aB.size : Int)))

/-! ### api_File_69 (function 69): what it is -/
def api_File_69.f (l0 : List (S38)) : Option ((List (S38))) := (some (([] : List (S38)) : List (S38))).bind fun aA => (if aA.length + l0.length < 2932031007402 then (some (aA ++ l0)) else (none))

/-! ### api_File_91: function 91 -/
def api_File_91.f (l0 : List S38) (a1 a2 : Int) : Option (List S38) := if 0 ≤ a1 then (if a1 < (l0.length : Int) then (if a2 = a1 + 1 then some (l0.eraseIdx a1.toNat) else none) else none) else none

/-! ### disk_without (function 66): what it is -/
def disk_without.f (aA : List (S38)) (aB : Int) (aC : Int) (aD : Bool) (a1 : Int) : Option ((List (S38)) × Int × Int × Bool) := if 0 ≤ a1 then (if a1 < (aA.length : Int) then ((disk_size.f ((rd_T38 aA a1).f0) ((rd_T38 aA a1).f1) ((rd_T38 aA a1).f2)).bind fun aE => ((api_File_69.f aA).bind fun aF => ((api_File_91.f aF a1 (wrap64 (a1 + 1))).bind fun aG => (some (aG, wrap64 (aB + aE), aC, aD))))) else (none)) else (none)

/-! ### disk_Delete (function 39): what it is -/
def disk_Delete.f (aD : List (S38)) (aE : Int) (aF : Int) (aC : Bool) (a1 : ByteArray) : Option ((List (S38)) × Int × Int × Bool × Int) := if aC = true then (some (aD, aE, aF, aC, 6)) else ((disk_at.f aD aE aF aC a1).bind fun aG => (if aG < 0 then (some (aD, aE, aF, aC, 7)) else ((disk_change.f aD aE aF aC).bind fun aA => (if aA.2.2.2.2 = true then ((disk_at.f aA.1 aA.2.1 aA.2.2.1 aA.2.2.2.1 a1).bind fun aH => ((disk_without.f aA.1 aA.2.1 aA.2.2.1 aA.2.2.2.1 aH).bind fun aB => (some (aB.1, aB.2.1, aB.2.2.1, aB.2.2.2, 0)))) else (some (aA.1, aA.2.1, aA.2.2.1, aA.2.2.2.1, 6))))))

/-! ### disk_named (function 67): what it is -/
def disk_named.f (a0 : ByteArray) : Option (Bool) := if (a0.size : Int) ≥ 1 then (some (decide ((a0.size : Int) ≤ 16))) else (some false)

/-! ### api_File_70 (function 70): what it is -/
def api_File_70.f (l0 : List (S38)) (a1 : Int) (aB : ByteArray) (aC : ByteArray) (aD : ByteArray) : Option ((List (S38))) := (api_File_69.f l0).bind fun aA => (if 0 ≤ a1 then (if a1 < (aA.length : Int) then (some (aA.set (a1 : Int).toNat (⟨aB, aC, aD⟩ : S38))) else (none)) else (none))

/-! ### disk_Append (function 40): what it is -/
mutual
def disk_Append.j0 : Nat → ByteArray → ByteArray → Bool → Bool → List (S38) → Int → Int → Bool → ByteArray → ByteArray → ByteArray → Option ((List (S38)) × Int × Int × Bool × Int)
  | 0, _, _, _, _, _, _, _, _, _, _, _ => none
  | k + 1, x1, x2, x9, aJ, aB, aA, aC, aD, aE, aF, aG => if aJ = true then (some (aB, aA, aC, aD, 5)) else (if (x2.size : Int) > aA then (some (aB, aA, aC, aD, 5)) else ((disk_size.f aE aF aG).bind fun aI => (if (wrap64 (aI + (x2.size : Int))) > 65536 then (some (aB, aA, aC, aD, 4)) else (if x9 = true then (disk_Append.j1 k x1 x2 aB aA aC aD) else ((api_File_69.f aB).bind fun aH => (if aH.length < 2932031007402 then (disk_Append.j1 k x1 x2 (aH ++ [(⟨x1, (⟨#[]⟩ : ByteArray), (⟨#[]⟩ : ByteArray)⟩ : S38)]) aA aC aD) else (none)))))))
def disk_Append.j1 : Nat → ByteArray → ByteArray → List (S38) → Int → Int → Bool → Option ((List (S38)) × Int × Int × Bool × Int)
  | 0, _, _, _, _, _, _ => none
  | k + 1, x1, x2, aB, aC, aA, aD => if aA ≥ 0 then (disk_Append.j2 k x1 x2 x2 (decide (aA < (x2.size : Int))) aB aC aA aD) else (disk_Append.j2 k x1 x2 x2 false aB aC aA aD)
def disk_Append.j2 : Nat → ByteArray → ByteArray → ByteArray → Bool → List (S38) → Int → Int → Bool → Option ((List (S38)) × Int × Int × Bool × Int)
  | 0, _, _, _, _, _, _, _, _ => none
  | k + 1, x1, x2, aE, aF, aB, aC, aA, aD => if aF = true then (if 0 ≤ aA then (if aA ≤ (x2.size : Int) then (disk_Append.j3 k x1 x2 (x2.extract 0 (aA : Int).toNat) aB aC aA aD) else (none)) else (none)) else (disk_Append.j3 k x1 x2 aE aB aC aA aD)
def disk_Append.j3 : Nat → ByteArray → ByteArray → ByteArray → List (S38) → Int → Int → Bool → Option ((List (S38)) × Int × Int × Bool × Int)
  | 0, _, _, _, _, _, _, _ => none
  | k + 1, x1, x2, aF, aA, aC, aB, aD => (disk_at.f aA aC aB aD x1).bind fun aE => (if 0 ≤ aE then (if aE < (aA.length : Int) then (if ((rd_T38 aA aE).f2).size + aF.size ≤ 9223372036854775807 then ((api_File_70.f aA aE ((rd_T38 aA aE).f0) ((rd_T38 aA aE).f1) (((rd_T38 aA aE).f2) ++ aF)).bind fun aG => (if aB ≥ 0 then (if (aF.size : Int) < (x2.size : Int) then (some (aG, wrap64 (aC - (aF.size : Int)), wrap64 (aB - (aF.size : Int)), true, 6)) else (some (aG, wrap64 (aC - (aF.size : Int)), wrap64 (aB - (aF.size : Int)), aD, 0))) else (if (aF.size : Int) < (x2.size : Int) then (some (aG, wrap64 (aC - (aF.size : Int)), aB, true, 6)) else (some (aG, wrap64 (aC - (aF.size : Int)), aB, aD, 0))))) else (none)) else (none)) else (none))
end
def disk_Append.f (k : Nat) (aB : List (S38)) (aD : Int) (aE : Int) (aC : Bool) (a1 : ByteArray) (a2 : ByteArray) : Option ((List (S38)) × Int × Int × Bool × Int) := (disk_Find.f aB aD aE aC a1).bind fun aA => (if aC = true then (some (aB, aD, aE, aC, 6)) else ((disk_named.f a1).bind fun aF => (if aF = true then (if aA.2.2.2 = true then (disk_Append.j0 k a1 a2 aA.2.2.2 false aB aD aE aC aA.1 aA.2.1 aA.2.2.1) else (disk_Append.j0 k a1 a2 aA.2.2.2 (decide ((aB.length : Int) ≥ 64)) aB aD aE aC aA.1 aA.2.1 aA.2.2.1)) else (some (aB, aD, aE, aC, 1)))))
/-! ### disk_Sync (function 41): what it is -/
def disk_Sync.f (aA : List (S38)) (aD : Int) (aE : Int) (aC : Bool) (a1 : ByteArray) : Option ((List (S38)) × Int × Int × Bool × Int) := (disk_at.f aA aD aE aC a1).bind fun aB => (if aC = true then (some (aA, aD, aE, aC, 6)) else (if aB < 0 then (some (aA, aD, aE, aC, 7)) else (if 0 ≤ aB then (if aB < (aA.length : Int) then (if ((rd_T38 aA aB).f1).size + ((rd_T38 aA aB).f2).size ≤ 9223372036854775807 then ((api_File_70.f aA aB ((rd_T38 aA aB).f0) (((rd_T38 aA aB).f1) ++ ((rd_T38 aA aB).f2)) (⟨#[]⟩ : ByteArray)).bind fun aF => (some (aF, aD, aE, aC, 0))) else (none)) else (none)) else (none))))

/-! ### disk_Rename (function 42): what it is -/
def disk_Rename.f (aD : List (S38)) (aE : Int) (aF : Int) (aC : Bool) (a1 : ByteArray) (a2 : ByteArray) : Option ((List (S38)) × Int × Int × Bool × Int) := if aC = true then (some (aD, aE, aF, aC, 6)) else ((disk_named.f a2).bind fun aJ => (if aJ = true then ((disk_at.f aD aE aF aC a1).bind fun aK => (if aK < 0 then (some (aD, aE, aF, aC, 7)) else (if a1.toList = a2.toList then (some (aD, aE, aF, aC, 0)) else ((disk_change.f aD aE aF aC).bind fun aA => (if aA.2.2.2.2 = true then ((disk_at.f aA.1 aA.2.1 aA.2.2.1 aA.2.2.2.1 a2).bind fun aI => (if aI ≥ 0 then ((disk_without.f aA.1 aA.2.1 aA.2.2.1 aA.2.2.2.1 aI).bind fun aB => ((disk_at.f aB.1 aB.2.1 aB.2.2.1 aB.2.2.2 a1).bind fun aG => (if 0 ≤ aG then (if aG < (aB.1.length : Int) then ((api_File_70.f aB.1 aG a2 ((rd_T38 aB.1 aG).f1) ((rd_T38 aB.1 aG).f2)).bind fun aL => (some (aL, aB.2.1, aB.2.2.1, aB.2.2.2, 0))) else (none)) else (none)))) else ((disk_at.f aA.1 aA.2.1 aA.2.2.1 aA.2.2.2.1 a1).bind fun aH => (if 0 ≤ aH then (if aH < (aA.1.length : Int) then ((api_File_70.f aA.1 aH a2 ((rd_T38 aA.1 aH).f1) ((rd_T38 aA.1 aH).f2)).bind fun aM => (some (aM, aA.2.1, aA.2.2.1, aA.2.2.2.1, 0))) else (none)) else (none))))) else (some (aA.1, aA.2.1, aA.2.2.1, aA.2.2.2.1, 6))))))) else (some (aD, aE, aF, aC, 1))))

/-! ### run_Lay (function 17): what it is -/
def run_Lay.j0 : Nat → ByteArray → ByteArray → ByteArray → List (S38) → Int → Int → Bool → Option ((List (S38)) × Int × Int × Bool × Int)
  | 0, _, _, _, _, _, _, _ => none
  | k + 1, x1, x2, x8, aD, aE, aF, aG => (disk_Append.f k aD aE aF aG x8 x2).bind fun aA => (if aA.2.2.2.2 = 0 then ((disk_Sync.f aA.1 aA.2.1 aA.2.2.1 aA.2.2.2.1 x8).bind fun aB => (if aB.2.2.2.2 = 0 then ((disk_Rename.f aB.1 aB.2.1 aB.2.2.1 aB.2.2.2.1 x8 x1).bind fun aC => (some (aC.1, aC.2.1, aC.2.2.1, aC.2.2.2.1, aC.2.2.2.2))) else (some (aB.1, aB.2.1, aB.2.2.1, aB.2.2.2.1, aB.2.2.2.2)))) else (some (aA.1, aA.2.1, aA.2.2.1, aA.2.2.2.1, aA.2.2.2.2)))
def run_Lay.f (k : Nat) (aB : List (S38)) (aC : Int) (aD : Int) (aE : Bool) (a1 : ByteArray) (a2 : ByteArray) : Option ((List (S38)) × Int × Int × Bool × Int) := if 2 + a1.size ≤ 9223372036854775807 then ((disk_Find.f aB aC aD aE ((⟨#[110, 46]⟩ : ByteArray) ++ a1)).bind fun aF => (if aF.2.2.2 = true then ((disk_Delete.f aB aC aD aE ((⟨#[110, 46]⟩ : ByteArray) ++ a1)).bind fun aA => (if aA.2.2.2.2 = 0 then (run_Lay.j0 k a1 a2 ((⟨#[110, 46]⟩ : ByteArray) ++ a1) aA.1 aA.2.1 aA.2.2.1 aA.2.2.2.1) else (some (aA.1, aA.2.1, aA.2.2.1, aA.2.2.2.1, aA.2.2.2.2)))) else (run_Lay.j0 k a1 a2 ((⟨#[110, 46]⟩ : ByteArray) ++ a1) aB aC aD aE))) else (none)
/-! ### stanchionref03_at (function 37): what it is -/
def stanchionref03_at.l0 : Nat → ByteArray → Int → List (S38) → Int → Int → Bool → Option (Int)
  | 0, _, _, _, _, _, _ => none
  | k + 1, x1, x5, aA, aB, aC, aD => if x5 < (aA.length : Int) then (if 0 ≤ x5 then (if ((rd_T38 aA x5).f0).toList = x1.toList then (some x5) else (stanchionref03_at.l0 k x1 (wrap64 (x5 + 1)) aA aB aC aD)) else (none)) else (some (-1))
def stanchionref03_at.f (k : Nat) (aA : List (S38)) (aB : Int) (aC : Int) (aD : Bool) (a1 : ByteArray) : Option (Int) := stanchionref03_at.l0 k a1 0 aA aB aC aD
/-! ### stanchionref03_Find (function 16): what it is -/
def stanchionref03_Find.f (k : Nat) (aB : List (S38)) (aC : Int) (aD : Int) (aE : Bool) (a1 : ByteArray) : Option (ByteArray × ByteArray × ByteArray × Bool) := (stanchionref03_at.f k aB aC aD aE a1).bind fun aA => (if aA < 0 then (some ((⟨#[]⟩ : ByteArray), (⟨#[]⟩ : ByteArray), (⟨#[]⟩ : ByteArray), false)) else (if 0 ≤ aA then (if aA < (aB.length : Int) then (some ((rd_T38 aB aA).f0, (rd_T38 aB aA).f1, (rd_T38 aB aA).f2, true)) else (none)) else (none)))
/-! ### stanchionref03_power (function 71): what it is -/
def stanchionref03_power.f (aB : List (S38)) (aC : Int) (aA : Int) (aD : Bool) : Option ((List (S38)) × Int × Int × Bool × Bool) := if aA = 0 then (some (aB, aC, aA, true, false)) else (if aA > 0 then (some (aB, aC, wrap64 (aA - 1), aD, true)) else (some (aB, aC, aA, aD, true)))

/-! ### stanchionref03_less (function 72): what it is -/
def stanchionref03_less.f (aA : List (S38)) (aF : Int) (aG : Int) (aH : Bool) (a1 : Int) : Option ((List (S38)) × Int × Int × Bool) := if 0 ≤ a1 then (if a1 < (aA.length : Int) then ((some (([] : List (S38)) : List (S38))).bind fun aB => (if a1 ≤ (aA.length : Int) then ((some (aA.take (a1 : Int).toNat : List (S38))).bind fun aC => (if aB.length + aC.length < 2932031007402 then ((some (aB ++ aC : List (S38))).bind fun aD => (if 0 ≤ (wrap64 (a1 + 1)) then (if (wrap64 (a1 + 1)) ≤ (aA.length : Int) then ((some (aA.drop ((wrap64 (a1 + 1)) : Int).toNat : List (S38))).bind fun aE => (if aD.length + aE.length < 2932031007402 then (some ((aD ++ aE), wrap64 ((wrap64 (aF + (((rd_T38 aA a1).f1).size : Int))) + (((rd_T38 aA a1).f2).size : Int)), aG, aH)) else (none))) else (none)) else (none))) else (none))) else (none))) else (none)) else (none)

/-! ### stanchionref03_Delete (function 43): what it is -/
def stanchionref03_Delete.f (k : Nat) (aD : List (S38)) (aE : Int) (aF : Int) (aC : Bool) (a1 : ByteArray) : Option ((List (S38)) × Int × Int × Bool × Int) := if aC = true then (some (aD, aE, aF, aC, 6)) else ((stanchionref03_at.f k aD aE aF aC a1).bind fun aG => (if aG < 0 then (some (aD, aE, aF, aC, 7)) else ((stanchionref03_power.f aD aE aF aC).bind fun aA => (if aA.2.2.2.2 = true then ((stanchionref03_at.f k aA.1 aA.2.1 aA.2.2.1 aA.2.2.2.1 a1).bind fun aH => ((stanchionref03_less.f aA.1 aA.2.1 aA.2.2.1 aA.2.2.2.1 aH).bind fun aB => (some (aB.1, aB.2.1, aB.2.2.1, aB.2.2.2, 0)))) else (some (aA.1, aA.2.1, aA.2.2.1, aA.2.2.2.1, 6))))))
/-! ### stanchionref03_with (function 73): what it is -/
def stanchionref03_with.f (aA : List (S38)) (aD : Int) (aE : Int) (aF : Bool) (a1 : Int) (aG : ByteArray) (aH : ByteArray) (aI : ByteArray) : Option ((List (S38)) × Int × Int × Bool) := (some (([] : List (S38)) : List (S38))).bind fun aB => (if aB.length + aA.length < 2932031007402 then ((some (aB ++ aA : List (S38))).bind fun aC => (if 0 ≤ a1 then (if a1 < (aC.length : Int) then (some ((aC.set (a1 : Int).toNat (⟨aG, aH, aI⟩ : S38)), aD, aE, aF)) else (none)) else (none))) else (none))

end Go.Proofs.Ytbhkopbalhhpgaa.PY
