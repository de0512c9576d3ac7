-- Made by a program of this workplace out of the translation (wip/tools in the repo). Not trusted: Lean checks it.
import Derived.Test.YtbhkopbalhhpgaaPNx0
namespace Go.Proofs.Ytbhkopbalhhpgaa.PN
open Go.RowKit Go.Proofs.YtbhkopbalhhpgaaW.PrintWords Go.Proofs.YtbhkopbalhhpgaaW.PrintLast Go.Proofs.YtbhkopbalhhpgaaW.PrintMore
attribute [local go_sem] max2_int min2_int max_two min_two max_three min_three max_four min_four   -- for this text's walks alone
set_option linter.unusedVariables false
set_option linter.unusedSimpArgs false

/-! ### run_may_1 (function 58): what it is -/
def run_may_1.f (a0_0 : ByteArray) (a0_1 : ByteArray) : Option (Bool) := if (a0_0.size : Int) > 65536 then (some true) else (some (decide ((a0_1.size : Int) > 65536)))

/-! ### table_Right (function 59): what it is -/
def table_Right.l0 : Nat → List (S62) → Int → Option (Bool)
  | 0, _, _ => none
  | k + 1, x0, x3 => if x3 < (x0.length : Int) then (if 0 ≤ (wrap64 (x3 - 1)) then (if (wrap64 (x3 - 1)) < (x0.length : Int) then (if 0 ≤ x3 then (if ((Op.bytesLess (((rd_T62 x0 (wrap64 (x3 - 1))).f0).toList) (((rd_T62 x0 x3).f0).toList)) = true) then (table_Right.l0 k x0 (wrap64 (x3 + 1))) else (some false)) else (none)) else (none)) else (none)) else (some true)
def table_Right.f (k : Nat) (l0 : List (S62)) : Option (Bool) := table_Right.l0 k l0 1
theorem table_Right.mono_l : ∀ k, (∀ y0 y1, LeO (table_Right.l0 k y0 y1) (table_Right.l0 (k + 1) y0 y1))
  | 0 => fun _ _ r h => by simp [table_Right.l0] at h
  | k + 1 => by
    have ih0 := table_Right.mono_l k
    · intro y0 y1
      unfold table_Right.l0
      repeat' first
      | (with_reducible exact ih0 _ _)
      | (with_reducible exact LeO.refl _)
      | (with_reducible exact LeO.none _)
      | (with_reducible refine LeO.ite ?_ ?_)
      | (with_reducible refine LeO.bind ?_ (fun _ => ?_))
      | exact ih0 _ _
      | exact LeO.none _
      | refine LeO.ite ?_ ?_
      | refine LeO.bind ?_ (fun _ => ?_)
theorem table_Right.mono : ∀ a0 k, LeO (table_Right.f k a0) (table_Right.f (k + 1) a0) := by
  intro a0 k
  have ih0 := table_Right.mono_l k
  unfold table_Right.f
  repeat' first
      | (with_reducible exact ih0 _ _)
      | (with_reducible exact LeO.refl _)
      | (with_reducible exact LeO.none _)
      | (with_reducible refine LeO.ite ?_ ?_)
      | (with_reducible refine LeO.bind ?_ (fun _ => ?_))
      | exact ih0 _ _
      | exact LeO.none _
      | refine LeO.ite ?_ ?_
      | refine LeO.bind ?_ (fun _ => ?_)

/-! ### api_Pair_86: function 86 -/
def ixOf {α : Type} (p : α → Bool) (l : List α) : Int := if l.findIdx p < l.length then ((l.findIdx p : Nat) : Int) else -1
theorem ixOf_hit {α : Type} (p : α → Bool) (l : List α) (d : α) (k : Nat) (h : k < l.length) (hk : p (l.getD k d) = true) (hn : ∀ j, j < k → p (l.getD j d) = false) : ixOf p l = (k : Int) := by
  have e : l.findIdx p = k := by
    rw [List.findIdx_eq h]
    refine ⟨by rw [List.getD_eq_getElem?_getD, List.getElem?_eq_getElem h] at hk; exact hk, fun j hj => ?_⟩
    have := hn j hj
    rw [List.getD_eq_getElem?_getD, List.getElem?_eq_getElem (by omega)] at this
    exact this
  unfold ixOf
  rw [e, if_pos h]
theorem ixOf_miss {α : Type} (p : α → Bool) (l : List α) (d : α) (hn : ∀ j, j < l.length → p (l.getD j d) = false) : ixOf p l = -1 := by
  unfold ixOf
  rw [if_neg]
  intro h
  have h1 := List.findIdx_getElem (w := h) (p := p) (xs := l)
  have h2 := hn _ h
  rw [List.getD_eq_getElem?_getD, List.getElem?_eq_getElem h] at h2
  have h3 : p l[l.findIdx p] = false := h2
  rw [h3] at h1
  cases h1
/-! ### run_may: function 28 -/
def run_may_has.f (l0 : List (S62)) : Option (Bool) := some (l0.any (fun x => (run_may_1.f x.f0 x.f1).getD false))
def run_may.f (k : Nat) (l0 : List (S62)) : Option (Bool) := (table_Right.f k l0).bind fun t104 => (if t104 = true then ((run_may_has.f l0).bind fun t105 => (some (!t105))) else (some false))
theorem run_may.mono : ∀ a0 k, LeO (run_may.f k a0) (run_may.f (k + 1) a0) := by
  intro a0 k
  unfold run_may.f
  repeat' first
      | (with_reducible exact table_Right.mono _ _)
      | (with_reducible exact LeO.refl _)
      | (with_reducible exact LeO.none _)
      | (with_reducible refine LeO.ite ?_ ?_)
      | (with_reducible refine LeO.bind ?_ (fun _ => ?_))
      | exact table_Right.mono _ _
      | exact LeO.none _
      | refine LeO.ite ?_ ?_
      | refine LeO.bind ?_ (fun _ => ?_)

/-! ### dec_Num: function 30 -/
def dg : Nat → Nat → List UInt8 → List UInt8
  | 0, _, acc => acc
  | k + 1, v, acc => if v / 10 = 0 then UInt8.ofNat (48 + v % 10) :: acc else dg k (v / 10) (UInt8.ofNat (48 + v % 10) :: acc)
def numB (v : Nat) : ByteArray := ⟨(dg 20 v [59]).toArray⟩
def dec_Num.f (a0 : Int) : Option ByteArray := if 0 ≤ a0 then (if a0 < 18446744073709551616 then some (numB a0.toNat) else none) else none

/-! ### dec_Text (function 31): what it is -/
def dec_Text.f (a0 : ByteArray) : Option (ByteArray) := (dec_Num.f (IntKind.u64.wrap ((a0.size : Int)))).bind fun t106 => (if t106.size + a0.size ≤ 9223372036854775807 then (some (t106 ++ a0)) else (none))

/-! ### sum_Of: function 62 -/
def sumS (p : Int × Int) (x : Int) : Int × Int :=
  ((p.1 + x) % 4294967296 % 65521, (p.2 + (p.1 + x) % 4294967296 % 65521) % 4294967296 % 65521)
def sumT (s : ByteArray) : Nat → Int × Int
  | 0 => (1, 0)
  | n + 1 => sumS (sumT s n) (bt s (n : Int))
def sumJ (p : Int × Int) : Int := bits .or .u32 (p.2 * 65536 % 4294967296) p.1
def sum_Of.f (a0 : ByteArray) : Option Int := if a0.size < 4611686018427387904 then some (sumJ (sumT a0 a0.size)) else none

/-! ### sum_Seal (function 32): what it is -/
def sum_Seal.f (a0 : ByteArray) : Option (ByteArray) := (dec_Text.f a0).bind fun t107 => ((sum_Of.f a0).bind fun t108 => ((dec_Num.f (IntKind.u64.wrap (t108))).bind fun t109 => (if t107.size + t109.size ≤ 9223372036854775807 then (some (t107 ++ t109)) else (none))))

/-! ### run_Bytes: function 11 -/
def run_Bytes.l0 : Nat → ByteArray → List (S62) → Int → Int → Option (ByteArray × Int)
  | 0, _, _, _, _ => none
  | k + 1, x4, x15, x16, x17 => if x17 < x16 then (if 0 ≤ x17 then (if x17 < (x15.length : Int) then ((dec_Text.f ((rd_T62 x15 x17).f0)).bind fun t114 => ((dec_Text.f ((rd_T62 x15 x17).f1)).bind fun t115 => (if t114.size + t115.size ≤ 9223372036854775807 then (if x4.size + (t114 ++ t115).size ≤ 140737488355328 then (run_Bytes.l0 k (x4 ++ (t114 ++ t115)) x15 x16 (wrap64 (x17 + 1))) else (none)) else (none)))) else (none)) else (none)) else ((sum_Seal.f x4).bind fun t116 => (some (t116, 0)))
def run_Bytes.f (k : Nat) (l0 : List (S62)) : Option (ByteArray × Int) := (run_may.f k l0).bind fun t110 => (if t110 = true then ((dec_Num.f (IntKind.u64.wrap ((l0.length : Int)))).bind fun t111 => (if 0 + t111.size ≤ 140737488355328 then (run_Bytes.l0 k ((⟨#[]⟩ : ByteArray) ++ t111) l0 (l0.length : Int) 0) else (none))) else (some ((⟨#[]⟩ : ByteArray), 1)))
theorem run_Bytes.mono_l : ∀ k, (∀ y0 y1 y2 y3, LeO (run_Bytes.l0 k y0 y1 y2 y3) (run_Bytes.l0 (k + 1) y0 y1 y2 y3))
  | 0 => fun _ _ _ _ r h => by simp [run_Bytes.l0] at h
  | k + 1 => by
    have ih0 := run_Bytes.mono_l k
    · intro y0 y1 y2 y3
      unfold run_Bytes.l0
      repeat' first
      | (with_reducible exact ih0 _ _ _ _)
      | (with_reducible exact run_may.mono _ _)
      | (with_reducible exact LeO.refl _)
      | (with_reducible exact LeO.none _)
      | (with_reducible refine LeO.ite ?_ ?_)
      | (with_reducible refine LeO.bind ?_ (fun _ => ?_))
      | exact ih0 _ _ _ _
      | exact run_may.mono _ _
      | exact LeO.none _
      | refine LeO.ite ?_ ?_
      | refine LeO.bind ?_ (fun _ => ?_)
theorem run_Bytes.mono : ∀ a0 k, LeO (run_Bytes.f k a0) (run_Bytes.f (k + 1) a0) := by
  intro a0 k
  have ih0 := run_Bytes.mono_l k
  unfold run_Bytes.f
  repeat' first
      | (with_reducible exact ih0 _ _ _ _)
      | (with_reducible exact run_may.mono _ _)
      | (with_reducible exact LeO.refl _)
      | (with_reducible exact LeO.none _)
      | (with_reducible refine LeO.ite ?_ ?_)
      | (with_reducible refine LeO.bind ?_ (fun _ => ?_))
      | exact ih0 _ _ _ _
      | exact run_may.mono _ _
      | exact LeO.none _
      | refine LeO.ite ?_ ?_
      | refine LeO.bind ?_ (fun _ => ?_)

/-! ### dec_told (function 63): what it is -/
def dec_told.l0 : Nat → ByteArray → Int → Int → Int → Option (Int × Bool)
  | 0, _, _, _, _ => none
  | k + 1, x0, x4, x8, x9 => if x9 < x8 then (if 0 ≤ x9 then (if x9 < (x0.size : Int) then (if x4 > ((18446744073709551615 - (((bt x0 x9) - 48) % 256)) / 10) then (some (0, false)) else (dec_told.l0 k x0 (IntKind.u64.wrap ((IntKind.u64.wrap (10 * x4)) + (((bt x0 x9) - 48) % 256))) x8 (wrap64 (x9 + 1)))) else (none)) else (none)) else (some (x4, true))
def dec_told.f (k : Nat) (a0 : ByteArray) : Option (Int × Bool) := dec_told.l0 k a0 0 (a0.size : Int) 0
theorem dec_told.mono_l : ∀ k, (∀ y0 y1 y2 y3, LeO (dec_told.l0 k y0 y1 y2 y3) (dec_told.l0 (k + 1) y0 y1 y2 y3))
  | 0 => fun _ _ _ _ r h => by simp [dec_told.l0] at h
  | k + 1 => by
    have ih0 := dec_told.mono_l k
    · intro y0 y1 y2 y3
      unfold dec_told.l0
      repeat' first
      | (with_reducible exact ih0 _ _ _ _)
      | (with_reducible exact LeO.refl _)
      | (with_reducible exact LeO.none _)
      | (with_reducible refine LeO.ite ?_ ?_)
      | (with_reducible refine LeO.bind ?_ (fun _ => ?_))
      | exact ih0 _ _ _ _
      | exact LeO.none _
      | refine LeO.ite ?_ ?_
      | refine LeO.bind ?_ (fun _ => ?_)
theorem dec_told.mono : ∀ a0 k, LeO (dec_told.f k a0) (dec_told.f (k + 1) a0) := by
  intro a0 k
  have ih0 := dec_told.mono_l k
  unfold dec_told.f
  repeat' first
      | (with_reducible exact ih0 _ _ _ _)
      | (with_reducible exact LeO.refl _)
      | (with_reducible exact LeO.none _)
      | (with_reducible refine LeO.ite ?_ ?_)
      | (with_reducible refine LeO.bind ?_ (fun _ => ?_))
      | exact ih0 _ _ _ _
      | exact LeO.none _
      | refine LeO.ite ?_ ?_
      | refine LeO.bind ?_ (fun _ => ?_)

/-! ### dec_TakeNum (function 35): what it is -/
mutual
def dec_TakeNum.j1 : Nat → ByteArray → Int → Option (Int × ByteArray × Int)
  | 0, _, _ => none
  | k + 1, x0, x5 => if x5 > 20 then (some (0, (⟨#[]⟩ : ByteArray), 3)) else (if 0 ≤ x5 then (if x5 ≤ (x0.size : Int) then ((dec_told.f k (x0.extract 0 (x5 : Int).toNat)).bind fun bt117 => (if x5 > 1 then (if 0 < (x0.size : Int) then (dec_TakeNum.j2 k x0 x5 bt117.1 bt117.2 ((bt x0 0) == 48)) else (none)) else (dec_TakeNum.j2 k x0 x5 bt117.1 bt117.2 false))) else (none)) else (none))
def dec_TakeNum.j2 : Nat → ByteArray → Int → Int → Bool → Bool → Option (Int × ByteArray × Int)
  | 0, _, _, _, _, _ => none
  | k + 1, x0, x5, x6, x7, x32 => if x32 = true then (some (0, (⟨#[]⟩ : ByteArray), 3)) else (if x7 = true then (if x5 < (x0.size : Int) then (if x5 = 0 then (dec_TakeNum.j3 k x0 x5 x6 true) else (if 0 ≤ x5 then (dec_TakeNum.j3 k x0 x5 x6 ((bt x0 x5) != 59)) else (none))) else (dec_TakeNum.j3 k x0 x5 x6 false)) else (some (0, (⟨#[]⟩ : ByteArray), 3)))
def dec_TakeNum.j3 : Nat → ByteArray → Int → Int → Bool → Option (Int × ByteArray × Int)
  | 0, _, _, _, _ => none
  | k + 1, x0, x5, x6, x43 => if x43 = true then (some (0, (⟨#[]⟩ : ByteArray), 3)) else (if x5 = (x0.size : Int) then (some (0, (⟨#[]⟩ : ByteArray), 2)) else (if 0 ≤ (wrap64 (x5 + 1)) then (if (wrap64 (x5 + 1)) ≤ (x0.size : Int) then (some (x6, x0.extract ((wrap64 (x5 + 1)) : Int).toNat x0.size, 0)) else (none)) else (none)))
def dec_TakeNum.l0 : Nat → ByteArray → Int → Option (Int × ByteArray × Int)
  | 0, _, _ => none
  | k + 1, x0, x5 => if x5 < (x0.size : Int) then (if 0 ≤ x5 then (if (bt x0 x5) < 48 then (dec_TakeNum.j1 k x0 x5) else (if (bt x0 x5) > 57 then (dec_TakeNum.j1 k x0 x5) else (dec_TakeNum.l0 k x0 (wrap64 (x5 + 1))))) else (none)) else (dec_TakeNum.j1 k x0 x5)
end
def dec_TakeNum.f (k : Nat) (a0 : ByteArray) : Option (Int × ByteArray × Int) := dec_TakeNum.l0 k a0 0
theorem dec_TakeNum.mono_l : ∀ k, (∀ y0 y1, LeO (dec_TakeNum.j1 k y0 y1) (dec_TakeNum.j1 (k + 1) y0 y1)) ∧ (∀ y0 y1 y2 y3 y4, LeO (dec_TakeNum.j2 k y0 y1 y2 y3 y4) (dec_TakeNum.j2 (k + 1) y0 y1 y2 y3 y4)) ∧ (∀ y0 y1 y2 y3, LeO (dec_TakeNum.j3 k y0 y1 y2 y3) (dec_TakeNum.j3 (k + 1) y0 y1 y2 y3)) ∧ (∀ y0 y1, LeO (dec_TakeNum.l0 k y0 y1) (dec_TakeNum.l0 (k + 1) y0 y1))
  | 0 => ⟨fun _ _ r h => by simp [dec_TakeNum.j1] at h, fun _ _ _ _ _ r h => by simp [dec_TakeNum.j2] at h, fun _ _ _ _ r h => by simp [dec_TakeNum.j3] at h, fun _ _ r h => by simp [dec_TakeNum.l0] at h⟩
  | k + 1 => by
    obtain ⟨ih0, ih1, ih2, ih3⟩ := dec_TakeNum.mono_l k
    refine ⟨?_, ?_, ?_, ?_⟩
    · intro y0 y1
      unfold dec_TakeNum.j1
      repeat' first
      | (with_reducible exact ih0 _ _)
      | (with_reducible exact ih1 _ _ _ _ _)
      | (with_reducible exact ih2 _ _ _ _)
      | (with_reducible exact ih3 _ _)
      | (with_reducible exact dec_told.mono _ _)
      | (with_reducible exact LeO.refl _)
      | (with_reducible exact LeO.none _)
      | (with_reducible refine LeO.ite ?_ ?_)
      | (with_reducible refine LeO.bind ?_ (fun _ => ?_))
      | exact ih0 _ _
      | exact ih1 _ _ _ _ _
      | exact ih2 _ _ _ _
      | exact ih3 _ _
      | exact dec_told.mono _ _
      | exact LeO.none _
      | refine LeO.ite ?_ ?_
      | refine LeO.bind ?_ (fun _ => ?_)
    · intro y0 y1 y2 y3 y4
      unfold dec_TakeNum.j2
      repeat' first
      | (with_reducible exact ih0 _ _)
      | (with_reducible exact ih1 _ _ _ _ _)
      | (with_reducible exact ih2 _ _ _ _)
      | (with_reducible exact ih3 _ _)
      | (with_reducible exact dec_told.mono _ _)
      | (with_reducible exact LeO.refl _)
      | (with_reducible exact LeO.none _)
      | (with_reducible refine LeO.ite ?_ ?_)
      | (with_reducible refine LeO.bind ?_ (fun _ => ?_))
      | exact ih0 _ _
      | exact ih1 _ _ _ _ _
      | exact ih2 _ _ _ _
      | exact ih3 _ _
      | exact dec_told.mono _ _
      | exact LeO.none _
      | refine LeO.ite ?_ ?_
      | refine LeO.bind ?_ (fun _ => ?_)
    · intro y0 y1 y2 y3
      unfold dec_TakeNum.j3
      repeat' first
      | (with_reducible exact ih0 _ _)
      | (with_reducible exact ih1 _ _ _ _ _)
      | (with_reducible exact ih2 _ _ _ _)
      | (with_reducible exact ih3 _ _)
      | (with_reducible exact dec_told.mono _ _)
      | (with_reducible exact LeO.refl _)
      | (with_reducible exact LeO.none _)
      | (with_reducible refine LeO.ite ?_ ?_)
      | (with_reducible refine LeO.bind ?_ (fun _ => ?_))
      | exact ih0 _ _
      | exact ih1 _ _ _ _ _
      | exact ih2 _ _ _ _
      | exact ih3 _ _
      | exact dec_told.mono _ _
      | exact LeO.none _
      | refine LeO.ite ?_ ?_
      | refine LeO.bind ?_ (fun _ => ?_)
    · intro y0 y1
      unfold dec_TakeNum.l0
      repeat' first
      | (with_reducible exact ih0 _ _)
      | (with_reducible exact ih1 _ _ _ _ _)
      | (with_reducible exact ih2 _ _ _ _)
      | (with_reducible exact ih3 _ _)
      | (with_reducible exact dec_told.mono _ _)
      | (with_reducible exact LeO.refl _)
      | (with_reducible exact LeO.none _)
      | (with_reducible refine LeO.ite ?_ ?_)
      | (with_reducible refine LeO.bind ?_ (fun _ => ?_))
      | exact ih0 _ _
      | exact ih1 _ _ _ _ _
      | exact ih2 _ _ _ _
      | exact ih3 _ _
      | exact dec_told.mono _ _
      | exact LeO.none _
      | refine LeO.ite ?_ ?_
      | refine LeO.bind ?_ (fun _ => ?_)
theorem dec_TakeNum.mono : ∀ a0 k, LeO (dec_TakeNum.f k a0) (dec_TakeNum.f (k + 1) a0) := by
  intro a0 k
  obtain ⟨ih0, ih1, ih2, ih3⟩ := dec_TakeNum.mono_l k
  unfold dec_TakeNum.f
  repeat' first
      | (with_reducible exact ih0 _ _)
      | (with_reducible exact ih1 _ _ _ _ _)
      | (with_reducible exact ih2 _ _ _ _)
      | (with_reducible exact ih3 _ _)
      | (with_reducible exact dec_told.mono _ _)
      | (with_reducible exact LeO.refl _)
      | (with_reducible exact LeO.none _)
      | (with_reducible refine LeO.ite ?_ ?_)
      | (with_reducible refine LeO.bind ?_ (fun _ => ?_))
      | exact ih0 _ _
      | exact ih1 _ _ _ _ _
      | exact ih2 _ _ _ _
      | exact ih3 _ _
      | exact dec_told.mono _ _
      | exact LeO.none _
      | refine LeO.ite ?_ ?_
      | refine LeO.bind ?_ (fun _ => ?_)
theorem dec_TakeNum.scope_body {P : Program} {fn : Func} {R : Ending → World → Prop} {c : Code} {a : Act} {w : World} (h : c.wp P (bodyPost P fn R) a w) : (Code.scope c).wp P (bodyPost P fn R) a w := by
  refine wp_scope_straight ?_
  have e : Exit.noGoto (bodyPost P fn R) = bodyPost P fn R := by
    funext e a w
    cases e <;> rfl
  rw [e]
  exact h

/-! ### dec_TakeText (function 36): what it is -/
def dec_TakeText.j0 : Nat → Int → ByteArray → Bool → Option (ByteArray × ByteArray × Int)
  | 0, _, _, _ => none
  | k + 1, x7, x8, x20 => if x20 = true then (some ((⟨#[]⟩ : ByteArray), (⟨#[]⟩ : ByteArray), 4)) else (if x7 > (IntKind.u64.wrap ((x8.size : Int))) then (some ((⟨#[]⟩ : ByteArray), (⟨#[]⟩ : ByteArray), 2)) else (if 0 ≤ x7 then (if x7 ≤ (x8.size : Int) then (some (x8.extract 0 (x7 : Int).toNat, x8.extract (x7 : Int).toNat x8.size, 0)) else (none)) else (none)))
def dec_TakeText.f (k : Nat) (a0 : ByteArray) (a1 : Int) : Option (ByteArray × ByteArray × Int) := (dec_TakeNum.f k a0).bind fun bt119 => (if bt119.2.2 = 0 then (if a1 < 0 then (dec_TakeText.j0 k bt119.1 bt119.2.1 true) else (dec_TakeText.j0 k bt119.1 bt119.2.1 (decide (bt119.1 > (IntKind.u64.wrap (a1)))))) else (some ((⟨#[]⟩ : ByteArray), (⟨#[]⟩ : ByteArray), bt119.2.2)))
theorem dec_TakeText.mono_l : ∀ k, (∀ y0 y1 y2, LeO (dec_TakeText.j0 k y0 y1 y2) (dec_TakeText.j0 (k + 1) y0 y1 y2))
  | 0 => fun _ _ _ r h => by simp [dec_TakeText.j0] at h
  | k + 1 => by
    have ih0 := dec_TakeText.mono_l k
    · intro y0 y1 y2
      unfold dec_TakeText.j0
      repeat' first
      | (with_reducible exact ih0 _ _ _)
      | (with_reducible exact dec_TakeNum.mono _ _)
      | (with_reducible exact LeO.refl _)
      | (with_reducible exact LeO.none _)
      | (with_reducible refine LeO.ite ?_ ?_)
      | (with_reducible refine LeO.bind ?_ (fun _ => ?_))
      | exact ih0 _ _ _
      | exact dec_TakeNum.mono _ _
      | exact LeO.none _
      | refine LeO.ite ?_ ?_
      | refine LeO.bind ?_ (fun _ => ?_)
theorem dec_TakeText.mono : ∀ a0 a1 k, LeO (dec_TakeText.f k a0 a1) (dec_TakeText.f (k + 1) a0 a1) := by
  intro a0 a1 k
  have ih0 := dec_TakeText.mono_l k
  unfold dec_TakeText.f
  repeat' first
      | (with_reducible exact ih0 _ _ _)
      | (with_reducible exact dec_TakeNum.mono _ _)
      | (with_reducible exact LeO.refl _)
      | (with_reducible exact LeO.none _)
      | (with_reducible refine LeO.ite ?_ ?_)
      | (with_reducible refine LeO.bind ?_ (fun _ => ?_))
      | exact ih0 _ _ _
      | exact dec_TakeNum.mono _ _
      | exact LeO.none _
      | refine LeO.ite ?_ ?_
      | refine LeO.bind ?_ (fun _ => ?_)

/-! ### sum_Open (function 34): what it is -/
def sum_Open.f (k : Nat) (a0 : ByteArray) (a1 : Int) : Option (ByteArray × ByteArray × Int) := (dec_TakeText.f k a0 a1).bind fun bt122 => (if bt122.2.2 = 0 then ((dec_TakeNum.f k bt122.2.1).bind fun bt125 => (if bt125.2.2 = 0 then ((sum_Of.f bt122.1).bind fun t128 => (if bt125.1 = (IntKind.u64.wrap (t128)) then (some (bt122.1, bt125.2.1, 0)) else (some ((⟨#[]⟩ : ByteArray), (⟨#[]⟩ : ByteArray), 10)))) else (some ((⟨#[]⟩ : ByteArray), (⟨#[]⟩ : ByteArray), bt125.2.2)))) else (some ((⟨#[]⟩ : ByteArray), (⟨#[]⟩ : ByteArray), bt122.2.2)))
theorem sum_Open.mono : ∀ a0 a1 k, LeO (sum_Open.f k a0 a1) (sum_Open.f (k + 1) a0 a1) := by
  intro a0 a1 k
  unfold sum_Open.f
  repeat' first
      | (with_reducible exact dec_TakeNum.mono _ _)
      | (with_reducible exact dec_TakeText.mono _ _ _)
      | (with_reducible exact LeO.refl _)
      | (with_reducible exact LeO.none _)
      | (with_reducible refine LeO.ite ?_ ?_)
      | (with_reducible refine LeO.bind ?_ (fun _ => ?_))
      | exact dec_TakeNum.mono _ _
      | exact dec_TakeText.mono _ _ _
      | exact LeO.none _
      | refine LeO.ite ?_ ?_
      | refine LeO.bind ?_ (fun _ => ?_)

/-! ### run_Take (function 12): what it is -/
mutual
def run_Take.j0 : Nat → ByteArray → Int → Bool → Option ((List (S62)) × Int)
  | 0, _, _, _ => none
  | k + 1, x4, x7, x35 => if x35 = true then (some (([] : List (S62)), 3)) else (run_Take.l0 k x4 x7 ([] : List (S62)) x7 0)
def run_Take.l0 : Nat → ByteArray → Int → List (S62) → Int → Int → Option ((List (S62)) × Int)
  | 0, _, _, _, _, _ => none
  | k + 1, x4, x7, x9, x36, x37 => if x37 < x36 then ((dec_TakeText.f k x4 65536).bind fun bt136 => (if bt136.2.2 = 0 then ((dec_TakeText.f k bt136.2.1 65536).bind fun bt139 => (if bt139.2.2 = 0 then (if x9.length < 4398046511104 then (run_Take.l0 k bt139.2.1 x7 (x9 ++ [(⟨bt136.1, bt139.1⟩ : S62)]) x36 (IntKind.u64.wrap (x37 + 1))) else (none)) else (if (IntKind.u64.wrap ((x9.length : Int))) = x7 then (if x4.toList = ([] : List UInt8) then ((run_may.f k x9).bind fun t145 => (if t145 = true then (some (x9, 0)) else (some (([] : List (S62)), 3)))) else (some (([] : List (S62)), 3))) else (some (([] : List (S62)), 3))))) else (if (IntKind.u64.wrap ((x9.length : Int))) = x7 then (if x4.toList = ([] : List UInt8) then ((run_may.f k x9).bind fun t146 => (if t146 = true then (some (x9, 0)) else (some (([] : List (S62)), 3)))) else (some (([] : List (S62)), 3))) else (some (([] : List (S62)), 3))))) else (if (IntKind.u64.wrap ((x9.length : Int))) = x7 then (if x4.toList = ([] : List UInt8) then ((run_may.f k x9).bind fun t135 => (if t135 = true then (some (x9, 0)) else (some (([] : List (S62)), 3)))) else (some (([] : List (S62)), 3))) else (some (([] : List (S62)), 3)))
end
def run_Take.f (k : Nat) (a0 : ByteArray) : Option ((List (S62)) × Int) := (sum_Open.f k a0 1073741824).bind fun bt129 => ((dec_TakeNum.f k bt129.1).bind fun bt132 => (if bt129.2.2 = 0 then (if bt132.2.2 = 0 then (run_Take.j0 k bt132.2.1 bt132.1 (bt129.2.1.toList != ([] : List UInt8))) else (run_Take.j0 k bt132.2.1 bt132.1 true)) else (run_Take.j0 k bt132.2.1 bt132.1 true)))
theorem run_Take.mono_l : ∀ k, (∀ y0 y1 y2, LeO (run_Take.j0 k y0 y1 y2) (run_Take.j0 (k + 1) y0 y1 y2)) ∧ (∀ y0 y1 y2 y3 y4, LeO (run_Take.l0 k y0 y1 y2 y3 y4) (run_Take.l0 (k + 1) y0 y1 y2 y3 y4))
  | 0 => ⟨fun _ _ _ r h => by simp [run_Take.j0] at h, fun _ _ _ _ _ r h => by simp [run_Take.l0] at h⟩
  | k + 1 => by
    obtain ⟨ih0, ih1⟩ := run_Take.mono_l k
    refine ⟨?_, ?_⟩
    · intro y0 y1 y2
      unfold run_Take.j0
      repeat' first
      | (with_reducible exact ih0 _ _ _)
      | (with_reducible exact ih1 _ _ _ _ _)
      | (with_reducible exact dec_TakeNum.mono _ _)
      | (with_reducible exact dec_TakeText.mono _ _ _)
      | (with_reducible exact run_may.mono _ _)
      | (with_reducible exact sum_Open.mono _ _ _)
      | (with_reducible exact LeO.refl _)
      | (with_reducible exact LeO.none _)
      | (with_reducible refine LeO.ite ?_ ?_)
      | (with_reducible refine LeO.bind ?_ (fun _ => ?_))
      | exact ih0 _ _ _
      | exact ih1 _ _ _ _ _
      | exact dec_TakeNum.mono _ _
      | exact dec_TakeText.mono _ _ _
      | exact run_may.mono _ _
      | exact sum_Open.mono _ _ _
      | exact LeO.none _
      | refine LeO.ite ?_ ?_
      | refine LeO.bind ?_ (fun _ => ?_)
    · intro y0 y1 y2 y3 y4
      unfold run_Take.l0
      repeat' first
      | (with_reducible exact ih0 _ _ _)
      | (with_reducible exact ih1 _ _ _ _ _)
      | (with_reducible exact dec_TakeNum.mono _ _)
      | (with_reducible exact dec_TakeText.mono _ _ _)
      | (with_reducible exact run_may.mono _ _)
      | (with_reducible exact sum_Open.mono _ _ _)
      | (with_reducible exact LeO.refl _)
      | (with_reducible exact LeO.none _)
      | (with_reducible refine LeO.ite ?_ ?_)
      | (with_reducible refine LeO.bind ?_ (fun _ => ?_))
      | exact ih0 _ _ _
      | exact ih1 _ _ _ _ _
      | exact dec_TakeNum.mono _ _
      | exact dec_TakeText.mono _ _ _
      | exact run_may.mono _ _
      | exact sum_Open.mono _ _ _
      | exact LeO.none _
      | refine LeO.ite ?_ ?_
      | refine LeO.bind ?_ (fun _ => ?_)
theorem run_Take.mono : ∀ a0 k, LeO (run_Take.f k a0) (run_Take.f (k + 1) a0) := by
  intro a0 k
  obtain ⟨ih0, ih1⟩ := run_Take.mono_l k
  unfold run_Take.f
  repeat' first
      | (with_reducible exact ih0 _ _ _)
      | (with_reducible exact ih1 _ _ _ _ _)
      | (with_reducible exact dec_TakeNum.mono _ _)
      | (with_reducible exact dec_TakeText.mono _ _ _)
      | (with_reducible exact run_may.mono _ _)
      | (with_reducible exact sum_Open.mono _ _ _)
      | (with_reducible exact LeO.refl _)
      | (with_reducible exact LeO.none _)
      | (with_reducible refine LeO.ite ?_ ?_)
      | (with_reducible refine LeO.bind ?_ (fun _ => ?_))
      | exact ih0 _ _ _
      | exact ih1 _ _ _ _ _
      | exact dec_TakeNum.mono _ _
      | exact dec_TakeText.mono _ _ _
      | exact run_may.mono _ _
      | exact sum_Open.mono _ _ _
      | exact LeO.none _
      | refine LeO.ite ?_ ?_
      | refine LeO.bind ?_ (fun _ => ?_)
theorem run_Take.scope_body {P : Program} {fn : Func} {R : Ending → World → Prop} {c : Code} {a : Act} {w : World} (h : c.wp P (bodyPost P fn R) a w) : (Code.scope c).wp P (bodyPost P fn R) a w := by
  refine wp_scope_straight ?_
  have e : Exit.noGoto (bodyPost P fn R) = bodyPost P fn R := by
    funext e a w
    cases e <;> rfl
  rw [e]
  exact h

/-! ### stanchionlaw06_shown (function 10): what it is -/
def stanchionlaw06_shown.f (k : Nat)  : Option (Bool) := (run_Bytes.f k (([(⟨(⟨#[97]⟩ : ByteArray), (⟨#[49]⟩ : ByteArray)⟩ : S62)] : List (S62)))).bind fun bt150 => ((run_Take.f k bt150.1).bind fun bt152 => (if bt150.2 = 0 then (if bt152.2 = 0 then (if (bt150.1.size : Int) > 10 then (if 0 ≤ 10 then (if 10 ≤ (bt150.1.size : Int) then (if (bt150.1.extract 0 10).toList = ([56, 59, 49, 59, 49, 59, 97, 49, 59, 49] : List UInt8) then (if (bt152.1.length : Int) = 1 then (if 0 < (bt152.1.length : Int) then (some (((rd_T62 bt152.1 0).f1).toList == ([49] : List UInt8))) else (none)) else (some false)) else (some false)) else (none)) else (none)) else (some false)) else (some false)) else (some false)))
theorem stanchionlaw06_shown.mono : ∀ k, LeO (stanchionlaw06_shown.f k ) (stanchionlaw06_shown.f (k + 1) ) := by
  intro  k
  unfold stanchionlaw06_shown.f
  repeat' first
      | (with_reducible exact run_Bytes.mono _ _)
      | (with_reducible exact run_Take.mono _ _)
      | (with_reducible exact LeO.refl _)
      | (with_reducible exact LeO.none _)
      | (with_reducible refine LeO.ite ?_ ?_)
      | (with_reducible refine LeO.bind ?_ (fun _ => ?_))
      | exact run_Bytes.mono _ _
      | exact run_Take.mono _ _
      | exact LeO.none _
      | refine LeO.ite ?_ ?_
      | refine LeO.bind ?_ (fun _ => ?_)

/-! ### run_Merge: function 22 -/
/-- The last one of a key. -/
def lastW : List S57 → List UInt8 → Option S57
  | [], _ => none
  | x :: xs, s => match lastW xs s with
    | some y => some y
    | none => if x.f0.toList = s then some x else none
/-- Those for whose keys no later one is there. -/
def lasts : List S57 → List S57
  | [] => []
  | x :: xs => if xs.any (fun y => y.f0.toList == x.f0.toList) then lasts xs else x :: lasts xs
def leW (x y : S57) : Bool := !Op.bytesLess y.f0.toList x.f0.toList
def run_Merge.f (l0 l1 : List S57) : Option (List S57) := if l0.length + l1.length ≤ 1000000 then (if (l0 ++ l1).all (fun x => decide (x.f0.size ≤ 9223372036854775807)) = true then some ((lasts (l0 ++ l1)).mergeSort leW) else none) else none

/-! ### stanchionlaw06_RunNewest (function 7): what it is -/
mutual
def stanchionlaw06_RunNewest.j0 : Nat → List (S57) → List (S57) → Bool → Bool → Option (Bool)
  | 0, _, _, _, _ => none
  | k + 1, x0, x1, x5, x22 => if x22 = true then (some x5) else ((some (([] : List (S57)) : List (S57))).bind fun y159 => (if y159.length + x0.length < 3518437208883 then ((some (y159 ++ x0 : List (S57))).bind fun y162 => (if y162.length + x1.length < 3518437208883 then ((run_Merge.f x0 x1).bind fun t168 => (stanchionlaw06_RunNewest.l0 k x5 (y162 ++ x1) t168 0)) else (none))) else (none)))
def stanchionlaw06_RunNewest.l0 : Nat → Bool → List (S57) → List (S57) → Int → Option (Bool)
  | 0, _, _, _, _ => none
  | k + 1, x5, x6, x7, x8 => if x8 < (x7.length : Int) then (if x8 > 0 then (if 0 ≤ (wrap64 (x8 - 1)) then (if (wrap64 (x8 - 1)) < (x7.length : Int) then (if 0 ≤ x8 then (stanchionlaw06_RunNewest.j2 k x5 x6 x7 x8 (!(Op.bytesLess (((rd_T57 x7 (wrap64 (x8 - 1))).f0).toList) (((rd_T57 x7 x8).f0).toList)))) else (none)) else (none)) else (none)) else (stanchionlaw06_RunNewest.j2 k x5 x6 x7 x8 false)) else (stanchionlaw06_RunNewest.l2 k x5 x6 x7 0)
def stanchionlaw06_RunNewest.j2 : Nat → Bool → List (S57) → List (S57) → Int → Bool → Option (Bool)
  | 0, _, _, _, _, _ => none
  | k + 1, x5, x6, x7, x8, x54 => if x54 = true then (some false) else (stanchionlaw06_RunNewest.l1 k x5 x6 x7 x8 0 (⟨#[]⟩ : ByteArray) (⟨#[]⟩ : ByteArray) false)
def stanchionlaw06_RunNewest.l1 : Nat → Bool → List (S57) → List (S57) → Int → Int → ByteArray → ByteArray → Bool → Option (Bool)
  | 0, _, _, _, _, _, _, _, _ => none
  | k + 1, x5, x6, x7, x8, x10, x174000, x174001, x174002 => if x10 < (x6.length : Int) then (if 0 ≤ x10 then (if 0 ≤ x8 then (if x8 < (x7.length : Int) then (if ((rd_T57 x6 x10).f0).toList = ((rd_T57 x7 x8).f0).toList then (stanchionlaw06_RunNewest.l1 k x5 x6 x7 x8 (wrap64 (x10 + 1)) ((rd_T57 x6 x10).f0) ((rd_T57 x6 x10).f1) ((rd_T57 x6 x10).f2)) else (stanchionlaw06_RunNewest.l1 k x5 x6 x7 x8 (wrap64 (x10 + 1)) x174000 x174001 x174002)) else (none)) else (none)) else (none)) else (if 0 ≤ x8 then (if x8 < (x7.length : Int) then (if (!(x174000.toList == (((rd_T57 x7 x8).f0).toList)) || (!(x174001.toList == (((rd_T57 x7 x8).f1).toList)) || (!(x174002 == ((rd_T57 x7 x8).f2))))) = true then (some false) else (stanchionlaw06_RunNewest.l0 k x5 x6 x7 (wrap64 (x8 + 1)))) else (none)) else (none))
def stanchionlaw06_RunNewest.l2 : Nat → Bool → List (S57) → List (S57) → Int → Option (Bool)
  | 0, _, _, _, _ => none
  | k + 1, x5, x6, x7, x11 => if x11 < (x6.length : Int) then (stanchionlaw06_RunNewest.l3 k x5 x6 x7 x11 false 0) else (some x5)
def stanchionlaw06_RunNewest.l3 : Nat → Bool → List (S57) → List (S57) → Int → Bool → Int → Option (Bool)
  | 0, _, _, _, _, _, _ => none
  | k + 1, x5, x6, x7, x11, x12, x13 => if x13 < (x7.length : Int) then (if x12 = true then (stanchionlaw06_RunNewest.l3 k x5 x6 x7 x11 true (wrap64 (x13 + 1))) else (if 0 ≤ x13 then (if 0 ≤ x11 then (if x11 < (x6.length : Int) then (stanchionlaw06_RunNewest.l3 k x5 x6 x7 x11 (((rd_T57 x7 x13).f0).toList == ((rd_T57 x6 x11).f0).toList) (wrap64 (x13 + 1))) else (none)) else (none)) else (none))) else (if x12 = true then (stanchionlaw06_RunNewest.l2 k x5 x6 x7 (wrap64 (x11 + 1))) else (some false))
end
def stanchionlaw06_RunNewest.f (k : Nat) (l0 : List (S57)) (l1 : List (S57)) : Option (Bool) := (stanchionlaw06_shown.f k).bind fun t158 => (if (l0.length : Int) > 300 then (stanchionlaw06_RunNewest.j0 k l0 l1 t158 true) else (stanchionlaw06_RunNewest.j0 k l0 l1 t158 (decide ((l1.length : Int) > 300))))
/-! ### run_may_1: function 58 -/
set_option maxHeartbeats 8000000 in
set_option maxRecDepth 100000 in
theorem run_may_1.calls (a0_0 : ByteArray) (a0_1 : ByteArray) (r : Bool) (w : World) (h : run_may_1.f a0_0 a0_1 = some r) :
    Calls Try.prog 58 #[.agg #[.string a0_0, .string a0_1]] w fun e w' => e = .returned (.bool r) ∧ Below w.heap.size w w' := by
  have hu62 := Try.underlying62
  have HB := Aside0.mk (Below.refl w.heap.size w)
  have H : (if (a0_0.size : Int) > 65536 then (some true) else (some (decide ((a0_1.size : Int) > 65536)))) = some r := h
  clear h
  by_cases c2 : (a0_0.size : Int) > 65536
  · rw [if_pos c2] at H
    have c2b0 : decide (65536 < (a0_0.size : Int)) = true := decide_eq_true c2
    have c2b1 : decide (65536 < a0_0.size) = true := decide_eq_true (by omega)
    clear c2
    obtain rfl := Option.some.inj H
    go_enter Try.func58, Try.ntmps58
    go_wp2_with (first | ((with_reducible refine gate_dst (N := 1) rfl ?_); (try (refine gate_guard (by rfl) ?_; dsimp only)); refine box_event ?hg (N := 1) ?hd (cs := #[.string a0_0, .string a0_1]) (t := 62) ?hr ?_; (case hd => rfl); (case hg => rfl); (case hr => first | (go_simp; done) | (go_simp; rfl)); intro gb101 hg w3 hbox hb; have n0_ := Aside0.mk (below_step (by repeat (first | (with_reducible first | exact HB.out | apply below_alloc | apply pw_below_drewN | apply below_drew1) | exact HB.out)) hb); have n1_ := Aside0.mk (hbox); have n2_ := Aside0.mk ((by rw [hg]; exact (below_size (by repeat (first | (with_reducible first | exact HB.out | apply below_alloc | apply pw_below_drewN | apply below_drew1) | exact HB.out))) : w.heap.size ≤ gb101)); have n3_ := Aside0.mk ((by rw [hg]; exact (below_size (by repeat (first | (with_reducible first | exact HB.out | apply below_alloc | apply pw_below_drewN | apply below_drew1) | exact HB.out))) : w.heap.size ≤ gb101)); clear HB; have HB := n0_; have BK101 := n1_; have GW101 := n2_; have GE101 := n3_; clear n0_ n1_ n2_ n3_; clear hb hbox hg; have hcz4_0 : w3.cell? ⟨gb101, 0, none⟩ = some (.string a0_0) := (blk_cell BK101.out 0).trans rfl; have hcz4_1 : w3.cell? ⟨gb101, 1, none⟩ = some (.string a0_1) := (blk_cell BK101.out 1).trans rfl; have hfz4_0 := blk_frozen BK101.out 0; have hfz4_1 := blk_frozen BK101.out 1))
    go_ret
    exact ⟨by first | rfl | (simp [errW_none, errW_some] <;> rfl) | (simp [*, errW_none, errW_some] <;> rfl) | (simp [*, errW_none, errW_some]; generalize ByteArray.toList _ = q_; cases q_ <;> rfl), by repeat (first | (with_reducible first | exact HB.out | apply below_alloc | apply pw_below_drewN | apply below_drew1 | refine below_set ?_ GE101.out) | exact HB.out)⟩
  · rw [if_neg c2] at H
    have c2b0 : decide (65536 < (a0_0.size : Int)) = false := decide_eq_false c2
    have c2b1 : decide (65536 < a0_0.size) = false := decide_eq_false (by omega)
    clear c2
    obtain rfl := Option.some.inj H
    go_enter Try.func58, Try.ntmps58
    go_wp2_with (first | ((with_reducible refine gate_dst (N := 1) rfl ?_); (try (refine gate_guard (by rfl) ?_; dsimp only)); refine box_event ?hg (N := 1) ?hd (cs := #[.string a0_0, .string a0_1]) (t := 62) ?hr ?_; (case hd => rfl); (case hg => rfl); (case hr => first | (go_simp; done) | (go_simp; rfl)); intro gb101 hg w5 hbox hb; have n0_ := Aside0.mk (below_step (by repeat (first | (with_reducible first | exact HB.out | apply below_alloc | apply pw_below_drewN | apply below_drew1) | exact HB.out)) hb); have n1_ := Aside0.mk (hbox); have n2_ := Aside0.mk ((by rw [hg]; exact (below_size (by repeat (first | (with_reducible first | exact HB.out | apply below_alloc | apply pw_below_drewN | apply below_drew1) | exact HB.out))) : w.heap.size ≤ gb101)); have n3_ := Aside0.mk ((by rw [hg]; exact (below_size (by repeat (first | (with_reducible first | exact HB.out | apply below_alloc | apply pw_below_drewN | apply below_drew1) | exact HB.out))) : w.heap.size ≤ gb101)); clear HB; have HB := n0_; have BK101 := n1_; have GW101 := n2_; have GE101 := n3_; clear n0_ n1_ n2_ n3_; clear hb hbox hg; have hcz6_0 : w5.cell? ⟨gb101, 0, none⟩ = some (.string a0_0) := (blk_cell BK101.out 0).trans rfl; have hcz6_1 : w5.cell? ⟨gb101, 1, none⟩ = some (.string a0_1) := (blk_cell BK101.out 1).trans rfl; have hfz6_0 := blk_frozen BK101.out 0; have hfz6_1 := blk_frozen BK101.out 1))
    go_ret
    exact ⟨by first | rfl | (simp [errW_none, errW_some] <;> rfl) | (simp [*, errW_none, errW_some] <;> rfl) | (simp [*, errW_none, errW_some]; generalize ByteArray.toList _ = q_; cases q_ <;> rfl), by repeat (first | (with_reducible first | exact HB.out | apply below_alloc | apply pw_below_drewN | apply below_drew1 | refine below_set ?_ GE101.out) | exact HB.out)⟩

/-! ### table_Right: function 59 -/
set_option maxHeartbeats 8000000 in
set_option maxRecDepth 100000 in
theorem table_Right.calls (k : Nat) (A0 : Option Addr) (c0 : Nat) (l0 : List (S62)) (r : Bool) (w : World) (hr0 : Kd.C k62 w A0 l0.length l0) (hc0 : l0.length ≤ c0) (h : table_Right.f k l0 = some r) :
    Calls Try.prog 59 #[.slice A0 l0.length c0] w fun e w' => e = .returned (.bool r) ∧ Drawn0 w w' := by
  have HR0 := Aside0.mk hr0
  have HC0 := Aside0.mk hc0
  clear hr0 hc0
  have H : (table_Right.l0 k l0 1) = some r := h
  clear h
  have H' := Aside0.mk H
  clear H
  go_enter Try.func59, Try.ntmps59
  go_wp2
  repeat (go_quiet (fail); try go_wp2)
  go_loopg [3] k (fun kq v3 w' => ∃ (x3_1 : Int), v3 = .int .i64 x3_1 ∧ Aside0 (table_Right.l0 kq l0 x3_1 = some r) ∧ Aside0 (kq ≤ k) ∧ Drawn0 w w')
  case atStart => exact ⟨(1), (by first | rfl | (simp; done) | (simp [*]; done)), H', ⟨Nat.le_refl _⟩, by repeat (first | exact Drawn0.refl _ | apply Drawn0.step)⟩
  case round =>
    clear H'
    obtain ⟨x3_1, rfl, HA, HK1, ⟨m1, rfl⟩⟩ := hrel
    cases gk with
    | zero => exact absurd HA.out (by simp [table_Right.l0])
    | succ k1 =>
      have H := HA.out
      clear HA
      simp only [table_Right.l0] at H
      by_cases c2 : x3_1 < (l0.length : Int)
      · rw [if_pos c2] at H
        have c2b0 : decide (x3_1 < (l0.length : Int)) = true := decide_eq_true c2
        clear c2
        obtain ⟨ji3, hji3⟩ : ∃ j_ : Int, (wrap64 (x3_1 - 1)) = j_ := ⟨_, rfl⟩
        replace H : (if 0 ≤ (ji3) then (if (ji3) < (l0.length : Int) then (if 0 ≤ x3_1 then (if ((Op.bytesLess (((rd_T62 l0 (ji3)).f0).toList) (((rd_T62 l0 x3_1).f0).toList)) = true) then (table_Right.l0 k1 l0 (wrap64 (x3_1 + 1))) else (some false)) else (none)) else (none)) else (none)) = some r := by first | (rw [hji3] at H; exact H) | (simp only [hji3] at H ⊢; exact H)
        have hji3w : (IntKind.i64.wrap (x3_1 - 1)) = ji3 := (i64_w _).trans hji3
        by_cases c4 : 0 ≤ (ji3)
        · rw [if_pos c4] at H
          have c4b0 : decide (0 ≤ (ji3)) = true := decide_eq_true c4
          clear c4
          by_cases c5 : (ji3) < (l0.length : Int)
          · rw [if_pos c5] at H
            have c5b0 : decide ((ji3) < (l0.length : Int)) = true := decide_eq_true c5
            clear c5
            by_cases c6 : 0 ≤ x3_1
            · rw [if_pos c6] at H
              have c6b0 : decide (0 ≤ x3_1) = true := decide_eq_true c6
              clear c6
              by_cases c7 : ((Op.bytesLess (((rd_T62 l0 (ji3)).f0).toList) (((rd_T62 l0 x3_1).f0).toList)) = true)
              · rw [if_pos c7] at H
                have c7b0 : (Op.bytesLess (((rd_T62 l0 (ji3)).f0).toList) (((rd_T62 l0 x3_1).f0).toList)) = true := c7
                clear c7
                have H' := Aside0.mk H
                clear H
                have p102 : 0 ≤ ((ji3) : Int) := of_decide_eq_true (by first | (with_reducible assumption) | assumption)
                have q102 : (ji3) < (l0.length : Int) := of_decide_eq_true (by first | (with_reducible assumption) | assumption)
                obtain ⟨ad102, e102, hx102_0, hx102_1⟩ := at_T62 HR0.out (ji3) p102 q102
                cases e102
                replace p102 := eq_true p102
                replace q102 := eq_true q102
                have p103 : 0 ≤ (x3_1 : Int) := of_decide_eq_true (by first | (with_reducible assumption) | assumption)
                have q103 : x3_1 < (l0.length : Int) := of_decide_eq_true (by first | (with_reducible assumption) | assumption)
                obtain ⟨ad103, e103, hx103_0, hx103_1⟩ := at_T62 HR0.out x3_1 p103 q103
                obtain rfl : ad102 = ad103 := (by injection e103)
                replace p103 := eq_true p103
                replace q103 := eq_true q103
                go_wp2
                repeat (go_quiet (fail); try go_wp2)
                go_roundg k1
                case measure => have := HK1.out; omega
                case rel => exact ⟨(wrap64 (x3_1 + 1)), (by first | rfl | (simp; done) | (simp [*]; done)), H', ⟨by have := HK1.out; omega⟩, by repeat (first | exact Drawn0.refl _ | apply Drawn0.step)⟩
              · rw [if_neg c7] at H
                have c7b0 : (Op.bytesLess (((rd_T62 l0 (ji3)).f0).toList) (((rd_T62 l0 x3_1).f0).toList)) = false := by simpa using c7
                clear c7
                obtain rfl := Option.some.inj H
                have p102 : 0 ≤ ((ji3) : Int) := of_decide_eq_true (by first | (with_reducible assumption) | assumption)
                have q102 : (ji3) < (l0.length : Int) := of_decide_eq_true (by first | (with_reducible assumption) | assumption)
                obtain ⟨ad102, e102, hx102_0, hx102_1⟩ := at_T62 HR0.out (ji3) p102 q102
                cases e102
                replace p102 := eq_true p102
                replace q102 := eq_true q102
                have p103 : 0 ≤ (x3_1 : Int) := of_decide_eq_true (by first | (with_reducible assumption) | assumption)
                have q103 : x3_1 < (l0.length : Int) := of_decide_eq_true (by first | (with_reducible assumption) | assumption)
                obtain ⟨ad103, e103, hx103_0, hx103_1⟩ := at_T62 HR0.out x3_1 p103 q103
                obtain rfl : ad102 = ad103 := (by injection e103)
                replace p103 := eq_true p103
                replace q103 := eq_true q103
                go_wp2
                repeat (go_quiet (fail); try go_wp2)
                go_ret
                exact ⟨by first | rfl | (simp; done) | (simp only [← hji3] <;> (first | rfl | simp)) | (simp [*]; done), by repeat (first | exact Drawn0.refl _ | apply Drawn0.step)⟩
            · rw [if_neg c6] at H
              exact absurd H (by simp)
          · rw [if_neg c5] at H
            exact absurd H (by simp)
        · rw [if_neg c4] at H
          exact absurd H (by simp)
      · rw [if_neg c2] at H
        have c2b0 : decide (x3_1 < (l0.length : Int)) = false := decide_eq_false c2
        clear c2
        obtain rfl := Option.some.inj H
        go_wp2
        repeat (go_quiet (fail); try go_wp2)
        go_ret
        exact ⟨by first | rfl | (simp; done) | (simp [*]; done), by repeat (first | exact Drawn0.refl _ | apply Drawn0.step)⟩

open Go.Proofs.Ytbhkopbalhhpgaa.Cp
/-! ### api_Pair_86: function 86 -/
set_option maxHeartbeats 8000000 in
set_option maxRecDepth 100000 in
theorem api_Pair_86.calls (p : S62 → Bool) (g : Nat) (lb : Array Value) (eg : ∀ args w, (callFunc g args).run Try.prog w = .ok (.enter g args) w) (A0 : Option Addr) (c0 : Nat) (l0 : List (S62)) (w : World) (hr0 : Kd.C k62 w A0 l0.length l0)
    (hp : ∀ (W : World) (x : S62), Below w.heap.size w W → Calls Try.prog g (#[.agg #[.string x.f0, .string x.f1]] ++ lb) W fun e w' => e = .returned (.bool (p x)) ∧ Below W.heap.size W w') :
    Calls Try.prog 86 #[.slice A0 l0.length c0, .func (.func g) #[] lb] w fun e w' => e = .returned (.int .i64 (ixOf p l0)) ∧ Below w.heap.size w w' := by
  have hu62 := Try.underlying62
  have HR := Aside0.mk hr0
  have HP := Aside0.mk hp
  have hmx := hr0.2.1
  clear hr0 hp
  go_enter Try.func86, Try.ntmps86
  go_wp2
  go_loopg [5, 8] l0.length (fun gg _ s8 wr => ∃ kk : Nat, kk ≤ l0.length ∧ l0.length - kk ≤ gg ∧ s8 = .int .i64 kk ∧ Aside0 (Below w.heap.size w wr) ∧ Aside0 (∀ j, j < kk → p (l0.getD j z62) = false))
  case atStart => exact ⟨0, Nat.zero_le _, by omega, rfl, ⟨Below.refl _ w⟩, ⟨fun j hj => absurd hj (Nat.not_lt_zero _)⟩⟩
  case round =>
    obtain ⟨kk, hkk, hg, rfl, HB, A⟩ := hrel
    by_cases hlt : kk < l0.length
    · have hltz : (kk : Int) < (l0.length : Int) := by omega
      obtain ⟨ad, e, hx0, hx1⟩ := at_T62 (Kd.C_below HR.out HB.out) (kk : Int) (by omega) hltz
      cases e
      simp only [Int.toNat_natCast] at hx0 hx1
      have hcall := HP.out wr (l0.getD kk z62) HB.out
      have e0 : rd_T62 l0 (kk : Int) = l0.getD kk z62 := by simp [rd_T62]
      rw [e0] at hx0 hx1
      clear e0
      obtain ⟨y, hy⟩ : ∃ y, l0.getD kk z62 = y := ⟨_, rfl⟩
      rw [hy] at hx0 hx1 hcall
      have Y := Aside0.mk hy
      clear hy
      obtain ⟨q, hq⟩ : ∃ q, p y = q := ⟨_, rfl⟩
      rw [hq] at hcall
      have Q := Aside0.mk hq
      clear hq
      cases q with
      | true =>
        go_wp2_with (go_at_fn g; refine hcall.mono ?_; rintro e w' ⟨rfl, hb'⟩)
        go_ret
        exact ⟨by rw [ixOf_hit p l0 z62 kk hlt (by rw [Y.out]; exact Q.out) A.out]; rfl, below_step HB.out hb'⟩
      | false =>
        go_wp2_with (go_at_fn g; refine hcall.mono ?_; rintro e w' ⟨rfl, hb'⟩)
        go_roundg (l0.length - (kk + 1))
        case measure => omega
        case rel =>
          refine ⟨kk + 1, by omega, by omega, by go_num, ⟨below_step HB.out hb'⟩, ⟨fun j hj => ?_⟩⟩
          by_cases e : j = kk
          · subst e; rw [Y.out]; exact Q.out
          · exact A.out j (by omega)
    · have hltz : decide ((kk : Int) < (l0.length : Int)) = false := decide_eq_false (by omega)
      have hltn : decide (kk < l0.length) = false := decide_eq_false (by omega)
      have E := Aside0.mk (show kk = l0.length by omega)
      go_wp2
      go_ret
      exact ⟨by rw [ixOf_miss p l0 z62 (fun j hj => A.out j (by have := E.out; omega))]; rfl, HB.out⟩

open Go.Proofs.Ytbhkopbalhhpgaa.Cp
/-! ### api_Pair_60: function 60 -/
theorem ixOf_any {α : Type} (p : α → Bool) (l : List α) : decide (ixOf p l ≥ 0) = l.any p := by
  unfold ixOf
  by_cases h : l.findIdx p < l.length
  · rw [if_pos h, List.any_eq_true.2 ⟨l[l.findIdx p], List.getElem_mem h, List.findIdx_getElem⟩]
    exact decide_eq_true (by omega)
  · rw [if_neg h, List.any_eq_false.2 (fun x hx hp => h (List.findIdx_lt_length_of_exists ⟨x, hx, hp⟩))]
    decide
set_option maxHeartbeats 8000000 in
theorem api_Pair_60.calls (p : S62 → Bool) (g : Nat) (lb : Array Value) (eg : ∀ args w, (callFunc g args).run Try.prog w = .ok (.enter g args) w) (A0 : Option Addr) (c0 : Nat) (l0 : List (S62)) (w : World) (hr0 : Kd.C k62 w A0 l0.length l0)
    (hp : ∀ (W : World) (x : S62), Below w.heap.size w W → Calls Try.prog g (#[.agg #[.string x.f0, .string x.f1]] ++ lb) W fun e w' => e = .returned (.bool (p x)) ∧ Below W.heap.size W w') :
    Calls Try.prog 60 #[.slice A0 l0.length c0, .func (.func g) #[] lb] w fun e w' => e = .returned (.bool (l0.any p)) ∧ Below w.heap.size w w' := by
  have HR := Aside0.mk hr0
  have HP := Aside0.mk hp
  clear hr0 hp
  go_enter Try.func60, Try.ntmps60
  go_wp2_with (go_at_call 86; (refine (api_Pair_86.calls p g lb eg A0 c0 l0 _ HR.out HP.out).mono ?_; rintro e w' ⟨rfl, hb⟩))
  go_ret
  exact ⟨by rw [← ixOf_any]; rfl, hb⟩

end Go.Proofs.Ytbhkopbalhhpgaa.PN
