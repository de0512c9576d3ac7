-- Made by a program of this workplace out of the translation (wip/tools in the repo). Not trusted: Lean checks it.
import Derived.Test.YthcdlgphabaidaaPRx0
namespace Go.Proofs.Ythcdlgphabaidaa.PR
open Go.RowKit Go.Proofs.YthcdlgphabaidaaW.PrintWords Go.Proofs.YthcdlgphabaidaaW.PrintLast Go.Proofs.YthcdlgphabaidaaW.PrintMore
attribute [local go_sem] max2_int min2_int max_two min_two max_three min_three max_four min_four   -- for this text's walks alone
set_option linter.unusedVariables false
set_option linter.unusedSimpArgs false

/-! ### batch_May_1 (function 44): what it is -/
def batch_May_1.f (a0_0 : ByteArray) (a0_1 : ByteArray) (a0_2 : Bool) : Option (Bool) := if (a0_0.size : Int) < 1 then (some true) else (if (a0_0.size : Int) > 32 then (some true) else (if (a0_1.size : Int) > 64 then (some true) else (if a0_2 = true then (some (a0_1.toList != ([] : List UInt8))) else (some false))))

/-! ### api_Write_57: function 57 -/
def ixOf {α : Type} (p : α → Bool) (l : List α) : Int := if l.findIdx p < l.length then ((l.findIdx p : Nat) : Int) else -1
theorem ixOf_hit {α : Type} (p : α → Bool) (l : List α) (d : α) (k : Nat) (h : k < l.length) (hk : p (l.getD k d) = true) (hn : ∀ j, j < k → p (l.getD j d) = false) : ixOf p l = (k : Int) := by
  have e : l.findIdx p = k := by
    rw [List.findIdx_eq h]
    refine ⟨by rw [List.getD_eq_getElem?_getD, List.getElem?_eq_getElem h] at hk; exact hk, fun j hj => ?_⟩
    have := hn j hj
    rw [List.getD_eq_getElem?_getD, List.getElem?_eq_getElem (by omega)] at this
    exact this
  unfold ixOf
  rw [e, if_pos h]
theorem ixOf_miss {α : Type} (p : α → Bool) (l : List α) (d : α) (hn : ∀ j, j < l.length → p (l.getD j d) = false) : ixOf p l = -1 := by
  unfold ixOf
  rw [if_neg]
  intro h
  have h1 := List.findIdx_getElem (w := h) (p := p) (xs := l)
  have h2 := hn _ h
  rw [List.getD_eq_getElem?_getD, List.getElem?_eq_getElem h] at h2
  have h3 : p l[l.findIdx p] = false := h2
  rw [h3] at h1
  cases h1
/-! ### batch_May: function 23 -/
def batch_May_has.f (l0 : List (S54)) : Option (Bool) := some (l0.any (fun x => (batch_May_1.f x.f0 x.f1 x.f2).getD false))
mutual
def batch_May.j0 : Nat → Bool → Int → ByteArray → List (S54) → Option (Bool)
  | 0, _, _, _, _ => none
  | k + 1, x41, x103000, x103001, x103002 => if x41 = true then (some false) else (batch_May.l0 k 1 x103000 x103001 x103002)
def batch_May.l0 : Nat → Int → Int → ByteArray → List (S54) → Option (Bool)
  | 0, _, _, _, _ => none
  | k + 1, x4, x103000, x103001, x103002 => if x4 < (x103002.length : Int) then (if 0 ≤ (wrap64 (x4 - 1)) then (if (wrap64 (x4 - 1)) < (x103002.length : Int) then (if 0 ≤ x4 then (if ((Op.bytesLess (((rd_T54 x103002 (wrap64 (x4 - 1))).f0).toList) (((rd_T54 x103002 x4).f0).toList)) = true) then (batch_May.l0 k (wrap64 (x4 + 1)) x103000 x103001 x103002) else (some false)) else (none)) else (none)) else (none)) else ((batch_May_has.f x103002).bind fun t105 => (some (!t105)))
end
def batch_May.f (k : Nat) (a0_0 : Int) (a0_1 : ByteArray) (l0_2 : List (S54)) : Option (Bool) := if a0_0 = 1 then (if (a0_1.size : Int) < 1 then (batch_May.j0 k true a0_0 a0_1 l0_2) else (if (a0_1.size : Int) > 16 then (batch_May.j0 k true a0_0 a0_1 l0_2) else (if (l0_2.length : Int) > 24 then (batch_May.j0 k true a0_0 a0_1 l0_2) else (if a0_0 = 2 then (batch_May.j0 k (decide ((l0_2.length : Int) > 0)) a0_0 a0_1 l0_2) else (batch_May.j0 k false a0_0 a0_1 l0_2))))) else (if a0_0 = 2 then (if (a0_1.size : Int) < 1 then (batch_May.j0 k true a0_0 a0_1 l0_2) else (if (a0_1.size : Int) > 16 then (batch_May.j0 k true a0_0 a0_1 l0_2) else (if (l0_2.length : Int) > 24 then (batch_May.j0 k true a0_0 a0_1 l0_2) else (batch_May.j0 k (decide ((l0_2.length : Int) > 0)) a0_0 a0_1 l0_2)))) else (batch_May.j0 k true a0_0 a0_1 l0_2))
theorem batch_May.mono_l : ∀ k, (∀ y0 y1 y2 y3, LeO (batch_May.j0 k y0 y1 y2 y3) (batch_May.j0 (k + 1) y0 y1 y2 y3)) ∧ (∀ y0 y1 y2 y3, LeO (batch_May.l0 k y0 y1 y2 y3) (batch_May.l0 (k + 1) y0 y1 y2 y3))
  | 0 => ⟨fun _ _ _ _ r h => by simp [batch_May.j0] at h, fun _ _ _ _ r h => by simp [batch_May.l0] at h⟩
  | k + 1 => by
    obtain ⟨ih0, ih1⟩ := batch_May.mono_l k
    refine ⟨?_, ?_⟩
    · intro y0 y1 y2 y3
      unfold batch_May.j0
      repeat' first
      | (with_reducible exact ih0 _ _ _ _)
      | (with_reducible exact ih1 _ _ _ _)
      | (with_reducible exact LeO.refl _)
      | (with_reducible exact LeO.none _)
      | (with_reducible refine LeO.ite ?_ ?_)
      | (with_reducible refine LeO.bind ?_ (fun _ => ?_))
      | exact ih0 _ _ _ _
      | exact ih1 _ _ _ _
      | exact LeO.none _
      | refine LeO.ite ?_ ?_
      | refine LeO.bind ?_ (fun _ => ?_)
    · intro y0 y1 y2 y3
      unfold batch_May.l0
      repeat' first
      | (with_reducible exact ih0 _ _ _ _)
      | (with_reducible exact ih1 _ _ _ _)
      | (with_reducible exact LeO.refl _)
      | (with_reducible exact LeO.none _)
      | (with_reducible refine LeO.ite ?_ ?_)
      | (with_reducible refine LeO.bind ?_ (fun _ => ?_))
      | exact ih0 _ _ _ _
      | exact ih1 _ _ _ _
      | exact LeO.none _
      | refine LeO.ite ?_ ?_
      | refine LeO.bind ?_ (fun _ => ?_)
theorem batch_May.mono : ∀ a0 a1 a2 k, LeO (batch_May.f k a0 a1 a2) (batch_May.f (k + 1) a0 a1 a2) := by
  intro a0 a1 a2 k
  obtain ⟨ih0, ih1⟩ := batch_May.mono_l k
  unfold batch_May.f
  repeat' first
      | (with_reducible exact ih0 _ _ _ _)
      | (with_reducible exact ih1 _ _ _ _)
      | (with_reducible exact LeO.refl _)
      | (with_reducible exact LeO.none _)
      | (with_reducible refine LeO.ite ?_ ?_)
      | (with_reducible refine LeO.bind ?_ (fun _ => ?_))
      | exact ih0 _ _ _ _
      | exact ih1 _ _ _ _
      | exact LeO.none _
      | refine LeO.ite ?_ ?_
      | refine LeO.bind ?_ (fun _ => ?_)

/-! ### dec_Num: function 34 -/
def dg : Nat → Nat → List UInt8 → List UInt8
  | 0, _, acc => acc
  | k + 1, v, acc => if v / 10 = 0 then UInt8.ofNat (48 + v % 10) :: acc else dg k (v / 10) (UInt8.ofNat (48 + v % 10) :: acc)
def numB (v : Nat) : ByteArray := ⟨(dg 20 v [59]).toArray⟩
def dec_Num.f (a0 : Int) : Option ByteArray := if 0 ≤ a0 then (if a0 < 18446744073709551616 then some (numB a0.toNat) else none) else none

/-! ### dec_Text (function 35): what it is -/
def dec_Text.f (a0 : ByteArray) : Option (ByteArray) := (dec_Num.f (IntKind.u64.wrap ((a0.size : Int)))).bind fun t106 => (if t106.size + a0.size ≤ 9223372036854775807 then (some (t106 ++ a0)) else (none))

/-! ### batch_Bytes: function 18 -/
def batch_Bytes.l0 : Nat → ByteArray → List (S54) → Int → Int → Option (ByteArray × Int)
  | 0, _, _, _, _ => none
  | k + 1, x4, x27, x28, x29 => if x29 < x28 then (if 0 ≤ x29 then (if x29 < (x27.length : Int) then (if (rd_T54 x27 x29).f2 = true then ((dec_Num.f 1).bind fun t114 => ((dec_Text.f ((rd_T54 x27 x29).f0)).bind fun t115 => (if t114.size + t115.size ≤ 9223372036854775807 then ((dec_Text.f ((rd_T54 x27 x29).f1)).bind fun t116 => (if (t114 ++ t115).size + t116.size ≤ 9223372036854775807 then (if x4.size + ((t114 ++ t115) ++ t116).size ≤ 140737488355328 then (batch_Bytes.l0 k (x4 ++ ((t114 ++ t115) ++ t116)) x27 x28 (wrap64 (x29 + 1))) else (none)) else (none))) else (none)))) else ((dec_Num.f 0).bind fun t117 => ((dec_Text.f ((rd_T54 x27 x29).f0)).bind fun t118 => (if t117.size + t118.size ≤ 9223372036854775807 then ((dec_Text.f ((rd_T54 x27 x29).f1)).bind fun t119 => (if (t117 ++ t118).size + t119.size ≤ 9223372036854775807 then (if x4.size + ((t117 ++ t118) ++ t119).size ≤ 140737488355328 then (batch_Bytes.l0 k (x4 ++ ((t117 ++ t118) ++ t119)) x27 x28 (wrap64 (x29 + 1))) else (none)) else (none))) else (none))))) else (none)) else (none)) else (some (x4, 0))
def batch_Bytes.f (k : Nat) (a0_0 : Int) (a0_1 : ByteArray) (l0_2 : List (S54)) : Option (ByteArray × Int) := (batch_May.f k a0_0 a0_1 l0_2).bind fun t108 => (if t108 = true then ((dec_Num.f (IntKind.u64.wrap (a0_0))).bind fun t109 => ((dec_Text.f a0_1).bind fun t110 => (if t109.size + t110.size ≤ 9223372036854775807 then ((dec_Num.f (IntKind.u64.wrap ((l0_2.length : Int)))).bind fun t111 => (if (t109 ++ t110).size + t111.size ≤ 9223372036854775807 then (if 0 + ((t109 ++ t110) ++ t111).size ≤ 140737488355328 then (batch_Bytes.l0 k ((⟨#[]⟩ : ByteArray) ++ ((t109 ++ t110) ++ t111)) l0_2 (l0_2.length : Int) 0) else (none)) else (none))) else (none)))) else (some ((⟨#[]⟩ : ByteArray), 1)))
theorem batch_Bytes.mono_l : ∀ k, (∀ y0 y1 y2 y3, LeO (batch_Bytes.l0 k y0 y1 y2 y3) (batch_Bytes.l0 (k + 1) y0 y1 y2 y3))
  | 0 => fun _ _ _ _ r h => by simp [batch_Bytes.l0] at h
  | k + 1 => by
    have ih0 := batch_Bytes.mono_l k
    · intro y0 y1 y2 y3
      unfold batch_Bytes.l0
      repeat' first
      | (with_reducible exact ih0 _ _ _ _)
      | (with_reducible exact batch_May.mono _ _ _ _)
      | (with_reducible exact LeO.refl _)
      | (with_reducible exact LeO.none _)
      | (with_reducible refine LeO.ite ?_ ?_)
      | (with_reducible refine LeO.bind ?_ (fun _ => ?_))
      | exact ih0 _ _ _ _
      | exact batch_May.mono _ _ _ _
      | exact LeO.none _
      | refine LeO.ite ?_ ?_
      | refine LeO.bind ?_ (fun _ => ?_)
theorem batch_Bytes.mono : ∀ a0 a1 a2 k, LeO (batch_Bytes.f k a0 a1 a2) (batch_Bytes.f (k + 1) a0 a1 a2) := by
  intro a0 a1 a2 k
  have ih0 := batch_Bytes.mono_l k
  unfold batch_Bytes.f
  repeat' first
      | (with_reducible exact ih0 _ _ _ _)
      | (with_reducible exact batch_May.mono _ _ _ _)
      | (with_reducible exact LeO.refl _)
      | (with_reducible exact LeO.none _)
      | (with_reducible refine LeO.ite ?_ ?_)
      | (with_reducible refine LeO.bind ?_ (fun _ => ?_))
      | exact ih0 _ _ _ _
      | exact batch_May.mono _ _ _ _
      | exact LeO.none _
      | refine LeO.ite ?_ ?_
      | refine LeO.bind ?_ (fun _ => ?_)

/-! ### stanchionlaw07_shown (function 11): what it is -/
def stanchionlaw07_shown.f (k : Nat)  : Option (Bool) := (batch_Bytes.f k 1 (⟨#[116]⟩ : ByteArray) (([(⟨(⟨#[97]⟩ : ByteArray), (⟨#[49]⟩ : ByteArray), false⟩ : S54)] : List (S54)))).bind fun bt123 => (if bt123.1.toList = ([49, 59, 49, 59, 116, 49, 59, 48, 59, 49, 59, 97, 49, 59, 49] : List UInt8) then (some (bt123.2 == 0)) else (some false))
theorem stanchionlaw07_shown.mono : ∀ k, LeO (stanchionlaw07_shown.f k ) (stanchionlaw07_shown.f (k + 1) ) := by
  intro  k
  unfold stanchionlaw07_shown.f
  repeat' first
      | (with_reducible exact batch_Bytes.mono _ _ _ _)
      | (with_reducible exact LeO.refl _)
      | (with_reducible exact LeO.none _)
      | (with_reducible refine LeO.ite ?_ ?_)
      | (with_reducible refine LeO.bind ?_ (fun _ => ?_))
      | exact batch_Bytes.mono _ _ _ _
      | exact LeO.none _
      | refine LeO.ite ?_ ?_
      | refine LeO.bind ?_ (fun _ => ?_)

/-! ### stanchionref01_Less (function 46): what it is -/
/-! ### stanchionref07_May (function 24): what it is -/
/-! ### stanchionref01_Num (function 37): what it is -/
/-! ### stanchionref01_Text (function 38): what it is -/
/-! ### stanchionref07_Bytes (function 19): what it is -/
/-! ### dec_told (function 68): what it is -/
def dec_told.l0 : Nat → ByteArray → Int → Int → Int → Option (Int × Bool)
  | 0, _, _, _, _ => none
  | k + 1, x0, x4, x8, x9 => if x9 < x8 then (if 0 ≤ x9 then (if x9 < (x0.size : Int) then (if x4 > ((18446744073709551615 - (((bt x0 x9) - 48) % 256)) / 10) then (some (0, false)) else (dec_told.l0 k x0 (IntKind.u64.wrap ((IntKind.u64.wrap (10 * x4)) + (((bt x0 x9) - 48) % 256))) x8 (wrap64 (x9 + 1)))) else (none)) else (none)) else (some (x4, true))
def dec_told.f (k : Nat) (a0 : ByteArray) : Option (Int × Bool) := dec_told.l0 k a0 0 (a0.size : Int) 0
/-! ### dec_TakeNum (function 55): what it is -/
mutual
def dec_TakeNum.j1 : Nat → ByteArray → Int → Option (Int × ByteArray × Int)
  | 0, _, _ => none
  | k + 1, x0, x5 => if x5 > 20 then (some (0, (⟨#[]⟩ : ByteArray), 3)) else (if 0 ≤ x5 then (if x5 ≤ (x0.size : Int) then ((dec_told.f k (x0.extract 0 (x5 : Int).toNat)).bind fun bt151 => (if x5 > 1 then (if 0 < (x0.size : Int) then (dec_TakeNum.j2 k x0 x5 bt151.1 bt151.2 ((bt x0 0) == 48)) else (none)) else (dec_TakeNum.j2 k x0 x5 bt151.1 bt151.2 false))) else (none)) else (none))
def dec_TakeNum.j2 : Nat → ByteArray → Int → Int → Bool → Bool → Option (Int × ByteArray × Int)
  | 0, _, _, _, _, _ => none
  | k + 1, x0, x5, x6, x7, x32 => if x32 = true then (some (0, (⟨#[]⟩ : ByteArray), 3)) else (if x7 = true then (if x5 < (x0.size : Int) then (if x5 = 0 then (dec_TakeNum.j3 k x0 x5 x6 true) else (if 0 ≤ x5 then (dec_TakeNum.j3 k x0 x5 x6 ((bt x0 x5) != 59)) else (none))) else (dec_TakeNum.j3 k x0 x5 x6 false)) else (some (0, (⟨#[]⟩ : ByteArray), 3)))
def dec_TakeNum.j3 : Nat → ByteArray → Int → Int → Bool → Option (Int × ByteArray × Int)
  | 0, _, _, _, _ => none
  | k + 1, x0, x5, x6, x43 => if x43 = true then (some (0, (⟨#[]⟩ : ByteArray), 3)) else (if x5 = (x0.size : Int) then (some (0, (⟨#[]⟩ : ByteArray), 2)) else (if 0 ≤ (wrap64 (x5 + 1)) then (if (wrap64 (x5 + 1)) ≤ (x0.size : Int) then (some (x6, x0.extract ((wrap64 (x5 + 1)) : Int).toNat x0.size, 0)) else (none)) else (none)))
def dec_TakeNum.l0 : Nat → ByteArray → Int → Option (Int × ByteArray × Int)
  | 0, _, _ => none
  | k + 1, x0, x5 => if x5 < (x0.size : Int) then (if 0 ≤ x5 then (if (bt x0 x5) < 48 then (dec_TakeNum.j1 k x0 x5) else (if (bt x0 x5) > 57 then (dec_TakeNum.j1 k x0 x5) else (dec_TakeNum.l0 k x0 (wrap64 (x5 + 1))))) else (none)) else (dec_TakeNum.j1 k x0 x5)
end
def dec_TakeNum.f (k : Nat) (a0 : ByteArray) : Option (Int × ByteArray × Int) := dec_TakeNum.l0 k a0 0
theorem dec_TakeNum.scope_body {P : Program} {fn : Func} {R : Ending → World → Prop} {c : Code} {a : Act} {w : World} (h : c.wp P (bodyPost P fn R) a w) : (Code.scope c).wp P (bodyPost P fn R) a w := by
  refine wp_scope_straight ?_
  have e : Exit.noGoto (bodyPost P fn R) = bodyPost P fn R := by
    funext e a w
    cases e <;> rfl
  rw [e]
  exact h

/-- A state of type 86 at block g of W; what its slices lead to came in by w0. -/
def IsS86 (w0 W : World) (g : Nat) (f0 : ByteArray) (f1 : Bool) : Prop := W.heap[g]? = some (.cells #[.string f0, .bool f1, .func (.func 39) #[] #[], .func (.func 40) #[] #[]] 86 (0, 0)) ∧ w0.heap.size ≤ g
theorem IsS86.grown {w0 W : World} {g : Nat} {f0 : ByteArray} {f1 : Bool} {W1 : World} {row : Option Nat} (h : IsS86 w0 W g f0 f1) (hw : W.grownBy W1 row) (hne : some g ≠ row) : IsS86 w0 W1 g f0 f1 := by
  obtain ⟨hb, hg⟩ := h
  exact ⟨blk_grown hb hw hne, hg⟩
theorem IsS86.kept {w0 W : World} {g : Nat} {f0 : ByteArray} {f1 : Bool} {W1 : World} {S : Nat → Prop} (h : IsS86 w0 W g f0 f1) (hk : Kept W W1 S) (hne : ¬ S g) : IsS86 w0 W1 g f0 f1 := by
  obtain ⟨hb, hg⟩ := h
  exact ⟨blk_kept hb hk hne, hg⟩
theorem IsS86.below {w0 W : World} {g : Nat} {f0 : ByteArray} {f1 : Bool} {W1 : World} (h : IsS86 w0 W g f0 f1) (hw : Below W.heap.size W W1) : IsS86 w0 W1 g f0 f1 := h.grown (grown_of_below hw none) (by simp)
theorem IsS86.alloc {w0 W : World} {g : Nat} {f0 : ByteArray} {f1 : Bool} (h : IsS86 w0 W g f0 f1) (o : Obj) : IsS86 w0 (W.alloc o) g f0 f1 := h.below (below_alloc (Below.refl _ _) o)
theorem IsS86.drewN {w0 W : World} {g : Nat} {f0 : ByteArray} {f1 : Bool} (h : IsS86 w0 W g f0 f1) (m : Nat) : IsS86 w0 (W.drewN m) g f0 f1 := h
theorem IsS86.drew {w0 W : World} {g : Nat} {f0 : ByteArray} {f1 : Bool} (h : IsS86 w0 W g f0 f1) : IsS86 w0 W.drew g f0 f1 := h
theorem IsS86.apart {w0 W : World} {g : Nat} {f0 : ByteArray} {f1 : Bool} {α : Type} {d : Kd α} {e : Nat} {base : Nat} {ok : Nat → Prop} {v : Value} {xs : List α} (h : IsS86 w0 W g f0 f1) (ho : d.R e W base ok v xs) (ht : ∀ q, q ∈ e :: d.E → q ≠ 86) : d.R e W base (fun k => ok k ∧ k ≠ g) v xs := by
  obtain ⟨hb, hg⟩ := h
  exact Kd.R_types ho hb ht
theorem IsS86.own_ne {w0 W : World} {g : Nat} {f0 : ByteArray} {f1 : Bool} {α : Type} {d : Kd α} {e : Nat} {base : Nat} {ok : Nat → Prop} {v : Value} {xs : List α} (h : IsS86 w0 W g f0 f1) (ho : d.R e W base ok v xs) (ht : e ≠ 86) : some g ≠ v.ownBlock := by
  obtain ⟨hb, hg⟩ := h
  exact Kd.R_ne ho hb ht
theorem IsS86.lt {w0 W : World} {g : Nat} {f0 : ByteArray} {f1 : Bool} (h : IsS86 w0 W g f0 f1) : g < W.heap.size := by
  obtain ⟨hb, hg⟩ := h
  exact blk_lt hb
theorem IsS86.ge {w0 W : World} {g : Nat} {f0 : ByteArray} {f1 : Bool} (h : IsS86 w0 W g f0 f1) : w0.heap.size ≤ g := by
  obtain ⟨hb, hg⟩ := h
  exact hg
theorem IsS86.ne_blk {w0 W : World} {g : Nat} {f0 : ByteArray} {f1 : Bool} {a : Nat} {cs : Array Value} {t : TypeId} {fr : Nat × Nat} (h : IsS86 w0 W g f0 f1) (hb2 : W.heap[a]? = some (.cells cs t fr)) (ht : t ≠ 86) : g ≠ a := by
  obtain ⟨hb, hg⟩ := h
  rintro rfl
  rw [hb] at hb2
  injection hb2 with hb2
  injection hb2 with _ ht2
  exact ht ht2.symm
theorem IsS86.far {w0 W : World} {g : Nat} {f0 : ByteArray} {f1 : Bool} {p : Addr} (h : IsS86 w0 W g f0 f1) (hne : g ≠ p.block) (u : Value) : IsS86 w0 (W.setCell p u) g f0 f1 := by
  obtain ⟨hb, hg⟩ := h
  exact ⟨blk_far hb hne u, hg⟩
theorem cellS86_0 {W : World} {g : Nat} {f0 : ByteArray} {f1 : Bool} (h : W.heap[g]? = some (.cells #[.string f0, .bool f1, .func (.func 39) #[] #[], .func (.func 40) #[] #[]] 86 (0, 0))) : W.cell? ⟨g, 0, none⟩ = some (.string f0) := (blk_cell h 0).trans rfl
theorem IsS86.set_0 {w0 W : World} {g : Nat} {f0 : ByteArray} {f1 : Bool} (h : IsS86 w0 W g f0 f1) (x : ByteArray) : IsS86 w0 (W.setCell ⟨g, 0, none⟩ (.string x)) g x f1 := by
  obtain ⟨hb, hg⟩ := h
  exact ⟨by simpa using blk_set hb 0 (.string x), hg⟩
theorem cellS86_1 {W : World} {g : Nat} {f0 : ByteArray} {f1 : Bool} (h : W.heap[g]? = some (.cells #[.string f0, .bool f1, .func (.func 39) #[] #[], .func (.func 40) #[] #[]] 86 (0, 0))) : W.cell? ⟨g, 1, none⟩ = some (.bool f1) := (blk_cell h 1).trans rfl
theorem IsS86.set_1 {w0 W : World} {g : Nat} {f0 : ByteArray} {f1 : Bool} (h : IsS86 w0 W g f0 f1) (x : Bool) : IsS86 w0 (W.setCell ⟨g, 1, none⟩ (.bool x)) g f0 x := by
  obtain ⟨hb, hg⟩ := h
  exact ⟨by simpa using blk_set hb 1 (.bool x), hg⟩
theorem IsS86.new (w0 W : World) (f0 : ByteArray) (f1 : Bool) (hB : Below w0.heap.size w0 W) : IsS86 w0 (W.alloc (.cells #[.string f0, .bool f1, .func (.func 39) #[] #[], .func (.func 40) #[] #[]] 86)) W.heap.size f0 f1 := ⟨by simpa using heap_alloc_new W _, hB.size⟩
theorem cellS86_2 {W : World} {g : Nat} {f0 : ByteArray} {f1 : Bool} (h : W.heap[g]? = some (.cells #[.string f0, .bool f1, .func (.func 39) #[] #[], .func (.func 40) #[] #[]] 86 (0, 0))) : W.cell? ⟨g, 2, none⟩ = some (.func (.func 39) #[] #[]) := (blk_cell h 2).trans rfl
theorem cellS86_3 {W : World} {g : Nat} {f0 : ByteArray} {f1 : Bool} (h : W.heap[g]? = some (.cells #[.string f0, .bool f1, .func (.func 39) #[] #[], .func (.func 40) #[] #[]] 86 (0, 0))) : W.cell? ⟨g, 3, none⟩ = some (.func (.func 40) #[] #[]) := (blk_cell h 3).trans rfl
def batch_reader.f (a0 : ByteArray) : Option (ByteArray × Bool) := some (a0, true)

/-! ### batch_num (function 39): what it is -/
def batch_num.f (k : Nat) (s0_0 : ByteArray) (s0_1 : Bool) (a1 : Int) : Option (Int × ByteArray × Bool) := (dec_TakeNum.f k s0_0).bind fun bt153 => (if s0_1 = true then (if bt153.2.2 = 0 then (if bt153.1 ≤ a1 then (some (bt153.1, bt153.2.1, decide (bt153.1 ≤ a1))) else (some (0, bt153.2.1, decide (bt153.1 ≤ a1)))) else (some (0, bt153.2.1, false))) else (some (0, bt153.2.1, false)))
/-! ### dec_TakeText (function 56): what it is -/
def dec_TakeText.j0 : Nat → Int → ByteArray → Bool → Option (ByteArray × ByteArray × Int)
  | 0, _, _, _ => none
  | k + 1, x7, x8, x20 => if x20 = true then (some ((⟨#[]⟩ : ByteArray), (⟨#[]⟩ : ByteArray), 4)) else (if x7 > (IntKind.u64.wrap ((x8.size : Int))) then (some ((⟨#[]⟩ : ByteArray), (⟨#[]⟩ : ByteArray), 2)) else (if 0 ≤ x7 then (if x7 ≤ (x8.size : Int) then (some (x8.extract 0 (x7 : Int).toNat, x8.extract (x7 : Int).toNat x8.size, 0)) else (none)) else (none)))
def dec_TakeText.f (k : Nat) (a0 : ByteArray) (a1 : Int) : Option (ByteArray × ByteArray × Int) := (dec_TakeNum.f k a0).bind fun bt156 => (if bt156.2.2 = 0 then (if a1 < 0 then (dec_TakeText.j0 k bt156.1 bt156.2.1 true) else (dec_TakeText.j0 k bt156.1 bt156.2.1 (decide (bt156.1 > (IntKind.u64.wrap (a1)))))) else (some ((⟨#[]⟩ : ByteArray), (⟨#[]⟩ : ByteArray), bt156.2.2)))
/-! ### batch_text (function 40): what it is -/
def batch_text.f (k : Nat) (s0_0 : ByteArray) (s0_1 : Bool) (a1 : Int) : Option (ByteArray × ByteArray × Bool) := (dec_TakeText.f k s0_0 a1).bind fun bt159 => (if s0_1 = true then (some (bt159.1, bt159.2.1, (bt159.2.2 == 0))) else (some (bt159.1, bt159.2.1, false)))
/-! ### batch_Take (function 20): what it is -/
def batch_Take.l0 : Nat → Int → Int → ByteArray → Bool → Int → ByteArray → List (S54) → Option (Int × ByteArray × (List (S54)) × Int)
  | 0, _, _, _, _, _, _, _ => none
  | k + 1, x30, x31, x166000, x166001, x170000, x170001, x170002 => if x31 < x30 then ((batch_num.f k x166000 x166001 1).bind fun bt176 => ((batch_text.f k bt176.2.1 bt176.2.2 32).bind fun bt180 => ((batch_text.f k bt180.2.1 bt180.2.2 64).bind fun bt183 => (if x170002.length < 3518437208883 then (batch_Take.l0 k x30 (IntKind.u64.wrap (x31 + 1)) bt183.2.1 bt183.2.2 x170000 x170001 (x170002 ++ [(⟨bt180.1, bt183.1, (bt176.1 == 1)⟩ : S54)])) else (none))))) else (if x166001 = true then (if x166000.toList = ([] : List UInt8) then ((batch_May.f k x170000 x170001 x170002).bind fun t189 => (if t189 = true then (some (x170000, x170001, x170002, 0)) else (some (0, (⟨#[]⟩ : ByteArray), ([] : List (S54)), 3)))) else (some (0, (⟨#[]⟩ : ByteArray), ([] : List (S54)), 3))) else (some (0, (⟨#[]⟩ : ByteArray), ([] : List (S54)), 3)))
def batch_Take.f (k : Nat) (a0 : ByteArray) : Option (Int × ByteArray × (List (S54)) × Int) := (batch_reader.f a0).bind fun bt163 => ((batch_num.f k bt163.1 bt163.2 2).bind fun bt166 => ((batch_text.f k bt166.2.1 bt166.2.2 16).bind fun bt170 => ((batch_num.f k bt170.2.1 bt170.2.2 24).bind fun bt173 => (batch_Take.l0 k bt173.1 0 bt173.2.1 bt173.2.2 (wrap64 (bt166.1)) bt170.1 ([] : List (S54))))))
end Go.Proofs.Ythcdlgphabaidaa.PR
