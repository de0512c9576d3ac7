-- Made by a program of this workplace out of the translation (wip/tools in the repo). Not trusted: Lean checks it.
import Derived.Test.YtbkfmicnjnklnaaPCx0
namespace Go.Proofs.Ytbkfmicnjnklnaa.PC
open Go.RowKit Go.Proofs.YtbkfmicnjnklnaaW.PrintWords Go.Proofs.YtbkfmicnjnklnaaW.PrintLast Go.Proofs.YtbkfmicnjnklnaaW.PrintMore
attribute [local go_sem] max2_int min2_int max_two min_two max_three min_three max_four min_four   -- for this text's walks alone
set_option linter.unusedVariables false
set_option linter.unusedSimpArgs false

/-! ### api_Write_26: function 26 -/
def ixOf {α : Type} (p : α → Bool) (l : List α) : Int := if l.findIdx p < l.length then ((l.findIdx p : Nat) : Int) else -1
theorem ixOf_hit {α : Type} (p : α → Bool) (l : List α) (d : α) (k : Nat) (h : k < l.length) (hk : p (l.getD k d) = true) (hn : ∀ j, j < k → p (l.getD j d) = false) : ixOf p l = (k : Int) := by
  have e : l.findIdx p = k := by
    rw [List.findIdx_eq h]
    refine ⟨by rw [List.getD_eq_getElem?_getD, List.getElem?_eq_getElem h] at hk; exact hk, fun j hj => ?_⟩
    have := hn j hj
    rw [List.getD_eq_getElem?_getD, List.getElem?_eq_getElem (by omega)] at this
    exact this
  unfold ixOf
  rw [e, if_pos h]
theorem ixOf_miss {α : Type} (p : α → Bool) (l : List α) (d : α) (hn : ∀ j, j < l.length → p (l.getD j d) = false) : ixOf p l = -1 := by
  unfold ixOf
  rw [if_neg]
  intro h
  have h1 := List.findIdx_getElem (w := h) (p := p) (xs := l)
  have h2 := hn _ h
  rw [List.getD_eq_getElem?_getD, List.getElem?_eq_getElem h] at h2
  have h3 : p l[l.findIdx p] = false := h2
  rw [h3] at h1
  cases h1
theorem ixOf_cases {α : Type} (p : α → Bool) (l : List α) : ixOf p l = -1 ∨ ∃ i : Nat, i < l.length ∧ ixOf p l = (i : Int) := by
  unfold ixOf
  split
  · exact .inr ⟨_, by assumption, rfl⟩
  · exact .inl rfl


/-! ### table_at: function 39 -/
def table_at.f (l0 : List S43) (a1 : ByteArray) : Option Int := some (ixOf (fun x => x.f0.toList == a1.toList) l0)

/-! ### table_Find (function 28): what it is -/
def table_Find.f (l0 : List (S43)) (a1 : ByteArray) : Option (ByteArray × Bool) := (table_at.f l0 a1).bind fun t101 => (if t101 < 0 then (some ((⟨#[]⟩ : ByteArray), false)) else (if 0 ≤ t101 then (if t101 < (l0.length : Int) then (some ((rd_T43 l0 t101).f1, true)) else (none)) else (none)))

/-! ### view_Get: function 11 -/
def geq33 (key : ByteArray) (x : S33) : Bool := x.f0.toList == key.toList
def view_Get.f (l0 : List S33) (l1 : List S43) (a2 : ByteArray) : Option (ByteArray × Bool) :=
  if ixOf (geq33 a2) l0 < 0 then table_Find.f l1 a2 else if (rd_T33 l0 (ixOf (geq33 a2) l0)).f2 = true then some ((⟨#[]⟩ : ByteArray), false) else some ((rd_T33 l0 (ixOf (geq33 a2) l0)).f1, true)
theorem ixOf_cases' {α : Type} (p : α → Bool) (l : List α) : ixOf p l = -1 ∨ ∃ i : Nat, i < l.length ∧ ixOf p l = (i : Int) := by
  unfold ixOf
  split
  · exact .inr ⟨_, by assumption, rfl⟩
  · exact .inl rfl

/-! ### table_Between (function 40): what it is -/
def table_Between.f (a0 : ByteArray) (a1 : ByteArray) (a2 : ByteArray) : Option (Bool) := if ((Op.bytesLess a0.toList a1.toList) = true) then (some false) else (if a2.toList = ([] : List UInt8) then (some true) else (some (Op.bytesLess a0.toList a2.toList)))

/-! ### table_Range (function 30): what it is -/
def table_Range.l0 : Nat → ByteArray → ByteArray → Int → List (S43) → List (S43) → Int → Int → Option ((List (S43)))
  | 0, _, _, _, _, _, _, _ => none
  | k + 1, x1, x2, x3, x9, x12, x13, x14 => if x14 < x13 then (if 0 ≤ x14 then (if x14 < (x12.length : Int) then (if (x9.length : Int) ≥ x3 then (some x9) else ((table_Between.f ((rd_T43 x12 x14).f0) x1 x2).bind fun t105 => (if t105 = true then (if x9.length < 4398046511104 then (table_Range.l0 k x1 x2 x3 (x9 ++ [(⟨(rd_T43 x12 x14).f0, (rd_T43 x12 x14).f1⟩ : S43)]) x12 x13 (wrap64 (x14 + 1))) else (none)) else (table_Range.l0 k x1 x2 x3 x9 x12 x13 (wrap64 (x14 + 1)))))) else (none)) else (none)) else (some x9)
def table_Range.f (k : Nat) (l0 : List (S43)) (a1 : ByteArray) (a2 : ByteArray) (a3 : Int) : Option ((List (S43))) := table_Range.l0 k a1 a2 a3 ([] : List (S43)) l0 (l0.length : Int) 0
theorem table_Range.mono_l : ∀ k, (∀ y0 y1 y2 y3 y4 y5 y6, LeO (table_Range.l0 k y0 y1 y2 y3 y4 y5 y6) (table_Range.l0 (k + 1) y0 y1 y2 y3 y4 y5 y6))
  | 0 => fun _ _ _ _ _ _ _ r h => by simp [table_Range.l0] at h
  | k + 1 => by
    have ih0 := table_Range.mono_l k
    · intro y0 y1 y2 y3 y4 y5 y6
      unfold table_Range.l0
      repeat' first
      | (with_reducible exact ih0 _ _ _ _ _ _ _)
      | (with_reducible exact LeO.refl _)
      | (with_reducible exact LeO.none _)
      | (with_reducible refine LeO.ite ?_ ?_)
      | (with_reducible refine LeO.bind ?_ (fun _ => ?_))
      | exact ih0 _ _ _ _ _ _ _
      | exact LeO.none _
      | refine LeO.ite ?_ ?_
      | refine LeO.bind ?_ (fun _ => ?_)
theorem table_Range.mono : ∀ a0 a1 a2 a3 k, LeO (table_Range.f k a0 a1 a2 a3) (table_Range.f (k + 1) a0 a1 a2 a3) := by
  intro a0 a1 a2 a3 k
  have ih0 := table_Range.mono_l k
  unfold table_Range.f
  repeat' first
      | (with_reducible exact ih0 _ _ _ _ _ _ _)
      | (with_reducible exact LeO.refl _)
      | (with_reducible exact LeO.none _)
      | (with_reducible refine LeO.ite ?_ ?_)
      | (with_reducible refine LeO.bind ?_ (fun _ => ?_))
      | exact ih0 _ _ _ _ _ _ _
      | exact LeO.none _
      | refine LeO.ite ?_ ?_
      | refine LeO.bind ?_ (fun _ => ?_)

/-! ### api_Pair_41 (function 41): what it is -/
def api_Pair_41.f (l0 : List (S43)) : Option ((List (S43))) := (some (([] : List (S43)) : List (S43))).bind fun y109 => (if y109.length + l0.length < 4398046511104 then (some (y109 ++ l0)) else (none))


/-! ### table_Put: function 50 -/
def gtK43 (key : ByteArray) (x : S43) : Bool := !Op.bytesLess x.f0.toList key.toList && !x.f0.toList == key.toList
def eqK43 (key : ByteArray) (x : S43) : Bool := x.f0.toList == key.toList
def putL43 (l : List S43) (key val : ByteArray) : List S43 :=
  if 0 ≤ ixOf (eqK43 key) l then l.set (ixOf (eqK43 key) l).toNat ⟨key, val⟩
  else if ixOf (gtK43 key) l < 0 then l ++ [⟨key, val⟩]
  else l.take (ixOf (gtK43 key) l).toNat ++ ⟨key, val⟩ :: l.drop (ixOf (gtK43 key) l).toNat
def table_Put.f (l0 : List S43) (a1 a2 : ByteArray) : Option (List S43) := (api_Pair_41.f l0).bind fun y => if y.length < 4398046511104 then some (putL43 y a1 a2) else none


/-! ### table_Drop: function 51 -/
def dropL43 (l : List S43) (key : ByteArray) : List S43 := l.filter (fun x => !eqK43 key x)
def table_Drop.f (l0 : List S43) (a1 : ByteArray) : Option (List S43) := (api_Pair_41.f l0).bind fun y => some (dropL43 y a1)

/-! ### table_Apply: function 31 -/
def applyF43 : List S43 → List S33 → Option (List S43)
  | l, [] => some l
  | l, x :: ws => (if x.f2 = true then table_Drop.f l x.f0 else table_Put.f l x.f0 x.f1).bind fun y => applyF43 y ws
def table_Apply.f (l0 : List S43) (l1 : List S33) : Option (List S43) := (api_Pair_41.f l0).bind fun y => applyF43 y l1

/-! ### view_Scan (function 14): what it is -/
def view_Scan.f (k : Nat) (l0 : List (S33)) (l1 : List (S43)) (a2 : ByteArray) (a3 : ByteArray) (a4 : Int) : Option ((List (S43))) := (table_Apply.f l1 l0).bind fun t115 => ((table_Range.f k t115 a2 a3 a4).bind fun t118 => (some t118))
theorem view_Scan.mono : ∀ a0 a1 a2 a3 a4 k, LeO (view_Scan.f k a0 a1 a2 a3 a4) (view_Scan.f (k + 1) a0 a1 a2 a3 a4) := by
  intro a0 a1 a2 a3 a4 k
  unfold view_Scan.f
  repeat' first
      | (with_reducible exact table_Range.mono _ _ _ _ _)
      | (with_reducible exact LeO.refl _)
      | (with_reducible exact LeO.none _)
      | (with_reducible refine LeO.ite ?_ ?_)
      | (with_reducible refine LeO.bind ?_ (fun _ => ?_))
      | exact table_Range.mono _ _ _ _ _
      | exact LeO.none _
      | refine LeO.ite ?_ ?_
      | refine LeO.bind ?_ (fun _ => ?_)

/-! ### api_Write_34 (function 34): what it is -/
def api_Write_34.f (l0 : List (S33)) : Option ((List (S33))) := (some (([] : List (S33)) : List (S33))).bind fun y121 => (if y121.length + l0.length < 3518437208883 then (some (y121 ++ l0)) else (none))


/-! ### view_Set: function 16 -/
def sgt33 (key : ByteArray) (x : S33) : Bool := !Op.bytesLess x.f0.toList key.toList && !x.f0.toList == key.toList
def seq33 (key : ByteArray) (x : S33) : Bool := x.f0.toList == key.toList
def setL33 (l : List S33) (x : S33) : List S33 :=
  if 0 ≤ ixOf (seq33 x.f0) l then l.set (ixOf (seq33 x.f0) l).toNat x
  else if ixOf (sgt33 x.f0) l < 0 then l ++ [x]
  else l.take (ixOf (sgt33 x.f0) l).toNat ++ x :: l.drop (ixOf (sgt33 x.f0) l).toNat
def view_Set.f (l0 : List S33) (a1_0 a1_1 : ByteArray) (a1_2 : Bool) : Option (List S33) := (api_Write_34.f l0).bind fun y => if l0.length < 3518437208880 then some (setL33 y ⟨a1_0, a1_1, a1_2⟩) else none

/-! ### stanchionlaw12_shown (function 10): what it is -/
def stanchionlaw12_shown.f (k : Nat)  : Option (Bool) := (some (([(⟨(⟨#[97]⟩ : ByteArray), (⟨#[49]⟩ : ByteArray)⟩ : S43)] : List (S43)) : List (S43))).bind fun y127 => ((view_Set.f ([] : List (S33)) (⟨#[97]⟩ : ByteArray) (⟨#[]⟩ : ByteArray) true).bind fun t130 => ((view_Get.f t130 y127 (⟨#[97]⟩ : ByteArray)).bind fun bt133 => ((view_Set.f t130 (⟨#[98]⟩ : ByteArray) (⟨#[50]⟩ : ByteArray) false).bind fun t135 => ((view_Scan.f k t135 y127 (⟨#[]⟩ : ByteArray) (⟨#[]⟩ : ByteArray) 9).bind fun t138 => (if bt133.2 = true then (some false) else (if (t138.length : Int) = 1 then (if 0 < (t138.length : Int) then (some (((rd_T43 t138 0).f0).toList == ([98] : List UInt8))) else (none)) else (some false)))))))
theorem stanchionlaw12_shown.mono : ∀ k, LeO (stanchionlaw12_shown.f k ) (stanchionlaw12_shown.f (k + 1) ) := by
  intro  k
  unfold stanchionlaw12_shown.f
  repeat' first
      | (with_reducible exact view_Scan.mono _ _ _ _ _ _)
      | (with_reducible exact LeO.refl _)
      | (with_reducible exact LeO.none _)
      | (with_reducible refine LeO.ite ?_ ?_)
      | (with_reducible refine LeO.bind ?_ (fun _ => ?_))
      | exact view_Scan.mono _ _ _ _ _ _
      | exact LeO.none _
      | refine LeO.ite ?_ ?_
      | refine LeO.bind ?_ (fun _ => ?_)

/-! ### stanchionlaw12_ViewOwn (function 4): what it is -/
def stanchionlaw12_ViewOwn.f (k : Nat) (l0_0 : List (S33)) (l0_1 : List (S43)) (a0_2 : ByteArray) (a0_3 : ByteArray) (a0_4 : Bool) (a0_5 : ByteArray) : Option (Bool) := (stanchionlaw12_shown.f k).bind fun t144 => ((view_Set.f l0_0 a0_2 a0_3 a0_4).bind fun t145 => ((view_Get.f t145 l0_1 a0_2).bind fun bt148 => ((view_Get.f t145 l0_1 a0_5).bind fun bt150 => ((view_Get.f l0_0 l0_1 a0_5).bind fun bt152 => (if (bt148.2 != (!a0_4)) = true then (some false) else (if bt148.2 = true then (if bt148.1.toList = a0_3.toList then (if t144 = true then (if a0_5.toList = a0_2.toList then (some true) else (if bt150.1.toList = bt152.1.toList then (some (bt150.2 == bt152.2)) else (some false))) else (some false)) else (some false)) else (if t144 = true then (if a0_5.toList = a0_2.toList then (some true) else (if bt150.1.toList = bt152.1.toList then (some (bt150.2 == bt152.2)) else (some false))) else (some false))))))))
theorem stanchionlaw12_ViewOwn.mono : ∀ a0 a1 a2 a3 a4 a5 k, LeO (stanchionlaw12_ViewOwn.f k a0 a1 a2 a3 a4 a5) (stanchionlaw12_ViewOwn.f (k + 1) a0 a1 a2 a3 a4 a5) := by
  intro a0 a1 a2 a3 a4 a5 k
  unfold stanchionlaw12_ViewOwn.f
  repeat' first
      | (with_reducible exact stanchionlaw12_shown.mono _)
      | (with_reducible exact LeO.refl _)
      | (with_reducible exact LeO.none _)
      | (with_reducible refine LeO.ite ?_ ?_)
      | (with_reducible refine LeO.bind ?_ (fun _ => ?_))
      | exact stanchionlaw12_shown.mono _
      | exact LeO.none _
      | refine LeO.ite ?_ ?_
      | refine LeO.bind ?_ (fun _ => ?_)

open Go.Proofs.Ytbkfmicnjnklnaa.Cp
/-! ### api_Write_26: function 26 -/
set_option maxHeartbeats 8000000 in
set_option maxRecDepth 100000 in
theorem api_Write_26.calls (p : S33 → Bool) (g : Nat) (lb : Array Value) (eg : ∀ args w, (callFunc g args).run Try.prog w = .ok (.enter g args) w) (A0 : Option Addr) (c0 : Nat) (l0 : List (S33)) (w : World) (hr0 : Kd.C k33 w A0 l0.length l0)
    (hp : ∀ (W : World) (x : S33), Below w.heap.size w W → Calls Try.prog g (#[.agg #[.string x.f0, .string x.f1, .bool x.f2]] ++ lb) W fun e w' => e = .returned (.bool (p x)) ∧ Below W.heap.size W w') :
    Calls Try.prog 26 #[.slice A0 l0.length c0, .func (.func g) #[] lb] w fun e w' => e = .returned (.int .i64 (ixOf p l0)) ∧ Below w.heap.size w w' := by
  have hu33 := Try.underlying33
  have HR := Aside0.mk hr0
  have HP := Aside0.mk hp
  have hmx := hr0.2.1
  clear hr0 hp
  go_enter Try.func26, Try.ntmps26
  go_wp2
  go_loopg [9] l0.length (fun gg s9 wr => ∃ kk : Nat, kk ≤ l0.length ∧ l0.length - kk ≤ gg ∧ s9 = .int .i64 kk ∧ Aside0 (Below w.heap.size w wr) ∧ Aside0 (∀ j, j < kk → p (l0.getD j z33) = false))
  case atStart => exact ⟨0, Nat.zero_le _, by omega, rfl, ⟨Below.refl _ w⟩, ⟨fun j hj => absurd hj (Nat.not_lt_zero _)⟩⟩
  case round =>
    obtain ⟨kk, hkk, hg, rfl, HB, A⟩ := hrel
    by_cases hlt : kk < l0.length
    · have hltz : (kk : Int) < (l0.length : Int) := by omega
      obtain ⟨ad, e, hx0, hx1, hx2⟩ := at_T33 (Kd.C_below HR.out HB.out) (kk : Int) (by omega) hltz
      cases e
      simp only [Int.toNat_natCast] at hx0 hx1 hx2
      have e0 : rd_T33 l0 (kk : Int) = l0.getD kk z33 := by simp [rd_T33]
      rw [e0] at hx0 hx1 hx2
      clear e0
      obtain ⟨y, hy⟩ : ∃ y, l0.getD kk z33 = y := ⟨_, rfl⟩
      rw [hy] at hx0 hx1 hx2
      have Y := Aside0.mk hy
      clear hy
      have hcall := HP.out (wr.alloc (.cells #[.string y.f0, .string y.f1, .bool y.f2] 33)) y (below_alloc HB.out _)
      obtain ⟨q, hq⟩ : ∃ q, p y = q := ⟨_, rfl⟩
      rw [hq] at hcall
      have Q := Aside0.mk hq
      have CL := Aside0.mk hcall
      clear hq hcall
      cases q with
      | true =>
        go_wp2_with (go_at_fn g; refine CL.out.mono ?_; rintro e w' ⟨rfl, hb'⟩)
        go_ret
        exact ⟨by rw [ixOf_hit p l0 z33 kk hlt (by rw [Y.out]; exact Q.out) A.out]; rfl, below_step (below_alloc HB.out _) hb'⟩
      | false =>
        go_wp2_with (go_at_fn g; refine CL.out.mono ?_; rintro e w' ⟨rfl, hb'⟩)
        go_roundg (l0.length - (kk + 1))
        case measure => omega
        case rel =>
          refine ⟨kk + 1, by omega, by omega, by go_num, ⟨below_step (below_alloc HB.out _) hb'⟩, ⟨fun j hj => ?_⟩⟩
          by_cases e : j = kk
          · subst e; rw [Y.out]; exact Q.out
          · exact A.out j (by omega)
    · have hltz : decide ((kk : Int) < (l0.length : Int)) = false := decide_eq_false (by omega)
      have hltn : decide (kk < l0.length) = false := decide_eq_false (by omega)
      have E := Aside0.mk (show kk = l0.length by omega)
      go_wp2
      go_ret
      exact ⟨by rw [ixOf_miss p l0 z33 (fun j hj => A.out j (by have := E.out; omega))]; rfl, HB.out⟩

open Go.Proofs.Ytbkfmicnjnklnaa.Cp
/-! ### api_Pair_48: function 48 -/
set_option maxHeartbeats 8000000 in
set_option maxRecDepth 100000 in
theorem api_Pair_48.calls (p : S43 → Bool) (g : Nat) (lb : Array Value) (eg : ∀ args w, (callFunc g args).run Try.prog w = .ok (.enter g args) w) (A0 : Option Addr) (c0 : Nat) (l0 : List (S43)) (w : World) (hr0 : Kd.C k43 w A0 l0.length l0)
    (hp : ∀ (W : World) (x : S43), Below w.heap.size w W → Calls Try.prog g (#[.agg #[.string x.f0, .string x.f1]] ++ lb) W fun e w' => e = .returned (.bool (p x)) ∧ Below W.heap.size W w') :
    Calls Try.prog 48 #[.slice A0 l0.length c0, .func (.func g) #[] lb] w fun e w' => e = .returned (.int .i64 (ixOf p l0)) ∧ Below w.heap.size w w' := by
  have hu43 := Try.underlying43
  have HR := Aside0.mk hr0
  have HP := Aside0.mk hp
  have hmx := hr0.2.1
  clear hr0 hp
  go_enter Try.func48, Try.ntmps48
  go_wp2
  go_loopg [5, 8] l0.length (fun gg _ s8 wr => ∃ kk : Nat, kk ≤ l0.length ∧ l0.length - kk ≤ gg ∧ s8 = .int .i64 kk ∧ Aside0 (Below w.heap.size w wr) ∧ Aside0 (∀ j, j < kk → p (l0.getD j z43) = false))
  case atStart => exact ⟨0, Nat.zero_le _, by omega, rfl, ⟨Below.refl _ w⟩, ⟨fun j hj => absurd hj (Nat.not_lt_zero _)⟩⟩
  case round =>
    obtain ⟨kk, hkk, hg, rfl, HB, A⟩ := hrel
    by_cases hlt : kk < l0.length
    · have hltz : (kk : Int) < (l0.length : Int) := by omega
      obtain ⟨ad, e, hx0, hx1⟩ := at_T43 (Kd.C_below HR.out HB.out) (kk : Int) (by omega) hltz
      cases e
      simp only [Int.toNat_natCast] at hx0 hx1
      have hcall := HP.out wr (l0.getD kk z43) HB.out
      have e0 : rd_T43 l0 (kk : Int) = l0.getD kk z43 := by simp [rd_T43]
      rw [e0] at hx0 hx1
      clear e0
      obtain ⟨y, hy⟩ : ∃ y, l0.getD kk z43 = y := ⟨_, rfl⟩
      rw [hy] at hx0 hx1 hcall
      have Y := Aside0.mk hy
      clear hy
      obtain ⟨q, hq⟩ : ∃ q, p y = q := ⟨_, rfl⟩
      rw [hq] at hcall
      have Q := Aside0.mk hq
      clear hq
      cases q with
      | true =>
        go_wp2_with (go_at_fn g; refine hcall.mono ?_; rintro e w' ⟨rfl, hb'⟩)
        go_ret
        exact ⟨by rw [ixOf_hit p l0 z43 kk hlt (by rw [Y.out]; exact Q.out) A.out]; rfl, below_step HB.out hb'⟩
      | false =>
        go_wp2_with (go_at_fn g; refine hcall.mono ?_; rintro e w' ⟨rfl, hb'⟩)
        go_roundg (l0.length - (kk + 1))
        case measure => omega
        case rel =>
          refine ⟨kk + 1, by omega, by omega, by go_num, ⟨below_step HB.out hb'⟩, ⟨fun j hj => ?_⟩⟩
          by_cases e : j = kk
          · subst e; rw [Y.out]; exact Q.out
          · exact A.out j (by omega)
    · have hltz : decide ((kk : Int) < (l0.length : Int)) = false := decide_eq_false (by omega)
      have hltn : decide (kk < l0.length) = false := decide_eq_false (by omega)
      have E := Aside0.mk (show kk = l0.length by omega)
      go_wp2
      go_ret
      exact ⟨by rw [ixOf_miss p l0 z43 (fun j hj => A.out j (by have := E.out; omega))]; rfl, HB.out⟩

open Go.Proofs.Ytbkfmicnjnklnaa.Cp
/-! ### table_at: function 39 -/
theorem enters49 : ∀ args w, (callFunc 49 args).run Try.prog w = .ok (.enter 49 args) w := enters_of Try.func49 (by kernel_rfl) rfl
set_option maxHeartbeats 8000000 in
theorem table_at_1.calls (x : S43) (key : ByteArray) (B : Nat) (W : World) (hc : W.cell? ⟨B, 0, none⟩ = some (.string key)) :
    Calls Try.prog 49 #[.agg #[.string x.f0, .string x.f1], .pointer (some ⟨B, 0, none⟩)] W fun e w' => e = .returned (.bool (x.f0.toList == key.toList)) ∧ Below W.heap.size W w' := by
  have hu43 := Try.underlying43
  have hB := World.block_lt_of_cell? W _ hc
  go_enter Try.func49, Try.ntmps49
  go_wp2
  go_ret
  exact ⟨rfl, (Below.refl _ _).alloc (Nat.le_refl _) _⟩
set_option maxHeartbeats 8000000 in
theorem table_at.calls (A0 : Option Addr) (c0 : Nat) (l0 : List (S43)) (a1 : ByteArray) (r : Int) (w : World) (hr0 : Kd.C k43 w A0 l0.length l0) (hc0 : l0.length ≤ c0) (h : table_at.f l0 a1 = some r) :
    Calls Try.prog 39 #[.slice A0 l0.length c0, .string a1] w fun e w' => e = .returned (.int .i64 r) ∧ Below w.heap.size w w' := by
  obtain rfl := Option.some.inj h
  have HR := Aside0.mk hr0
  clear hr0 h hc0
  go_enter Try.func39, Try.ntmps39
  go_wp2_with (go_at_call 48; (refine (api_Pair_48.calls (fun x => x.f0.toList == a1.toList) 49 #[.pointer (some ⟨w.heap.size, 0, none⟩)] enters49 A0 c0 l0 _ (Kd.C_alloc HR.out _) (fun W x hb => table_at_1.calls x a1 w.heap.size W ((hb.cell (p := ⟨w.heap.size, 0, none⟩) (by simp)).trans (by go_simp)))).mono ?_; rintro e w' ⟨rfl, hb⟩))
  go_ret
  exact ⟨rfl, ((Below.refl _ _).alloc (Nat.le_refl _) _).trans (hb.mono (by simp))⟩

/-! ### table_Find: function 28 -/
set_option maxHeartbeats 8000000 in
set_option maxRecDepth 100000 in
theorem table_Find.calls (A0 : Option Addr) (c0 : Nat) (l0 : List (S43)) (a1 : ByteArray) (r1 : ByteArray) (r2 : Bool) (w : World) (hr0 : Kd.C k43 w A0 l0.length l0) (hc0 : l0.length ≤ c0) (h : table_Find.f l0 a1 = some (r1, r2)) :
    Calls Try.prog 28 #[.slice A0 l0.length c0, .string a1] w fun e w' => e = .returned (.tuple #[.string r1, .bool r2]) ∧ Below w.heap.size w w' := by
  have HR0 := Aside0.mk hr0
  have HC0 := Aside0.mk hc0
  clear hr0 hc0
  have HB := Aside0.mk (Below.refl w.heap.size w)
  have H : ((table_at.f l0 a1).bind fun t101 => (if t101 < 0 then (some ((⟨#[]⟩ : ByteArray), false)) else (if 0 ≤ t101 then (if t101 < (l0.length : Int) then (some ((rd_T43 l0 t101).f1, true)) else (none)) else (none)))) = some (r1, r2) := h
  clear h
  replace H := Option.bind_eq_some_iff.mp H
  obtain ⟨t101, A30, H⟩ := H
  replace H : (if t101 < 0 then (some ((⟨#[]⟩ : ByteArray), false)) else (if 0 ≤ t101 then (if t101 < (l0.length : Int) then (some ((rd_T43 l0 t101).f1, true)) else (none)) else (none))) = some (r1, r2) := H
  have A3 := Aside0.mk A30
  clear A30
  by_cases c4 : t101 < 0
  · rw [if_pos c4] at H
    have c4b0 : decide (t101 < 0) = true := decide_eq_true c4
    clear c4
    simp only [Option.some.injEq, Prod.mk.injEq] at H
    obtain ⟨rfl, rfl⟩ := H
    go_enter Try.func28, Try.ntmps28
    go_wp2_with (first | ((with_reducible refine gate_callee (f := 39) rfl ?_); refine goesL_ (some 9) rfl rfl Try.func39 (by kernel_rfl) rfl #[.slice A0 l0.length c0, .string a1] rfl (by (try simp only [List.map_toArray, List.map_cons, List.map_nil]); first | done | rfl | (simp only [List.length_drop, List.length_take]; rfl)) ?_; (with_reducible refine (table_at.calls _ _ l0 a1 t101 _ ?side1 ?side2 A3.out).mono ?_); (case side1 => repeat (first | exact HR0.out | (with_reducible refine Kd.C_alloc ?_ _) | (with_reducible refine Kd.C_drewN ?_ _) | (with_reducible refine Kd.C_drew ?_))); (case side2 => exact HC0.out); rintro e w5 ⟨rfl, hb⟩; refine ⟨_, rfl, ?_⟩; have n0_ := Aside0.mk (below_step (by repeat (first | (with_reducible first | exact HB.out | apply below_alloc | apply pw_below_drewN | apply below_drew1) | exact HB.out)) hb); clear HB; have HB := n0_; clear n0_; (try clear hb); (try clear hb2); (try clear hk); (try clear hi)))
    go_ret2
    exact ⟨by first | rfl | (simp [errW_none, errW_some] <;> rfl) | (simp [*, errW_none, errW_some] <;> rfl), by repeat (first | (with_reducible first | exact HB.out | apply below_alloc | apply pw_below_drewN | apply below_drew1) | exact HB.out)⟩
  · rw [if_neg c4] at H
    have c4b0 : decide (t101 < 0) = false := decide_eq_false c4
    clear c4
    by_cases c6 : 0 ≤ t101
    · rw [if_pos c6] at H
      have c6b0 : decide (0 ≤ t101) = true := decide_eq_true c6
      clear c6
      by_cases c7 : t101 < (l0.length : Int)
      · rw [if_pos c7] at H
        have c7b0 : decide (t101 < (l0.length : Int)) = true := decide_eq_true c7
        clear c7
        simp only [Option.some.injEq, Prod.mk.injEq] at H
        obtain ⟨rfl, rfl⟩ := H
        go_enter Try.func28, Try.ntmps28
        go_wp2_with (first | ((with_reducible refine gate_callee (f := 39) rfl ?_); refine goesL_ (some 9) rfl rfl Try.func39 (by kernel_rfl) rfl #[.slice A0 l0.length c0, .string a1] rfl (by (try simp only [List.map_toArray, List.map_cons, List.map_nil]); first | done | rfl | (simp only [List.length_drop, List.length_take]; rfl)) ?_; (with_reducible refine (table_at.calls _ _ l0 a1 t101 _ ?side1 ?side2 A3.out).mono ?_); (case side1 => repeat (first | exact HR0.out | (with_reducible refine Kd.C_alloc ?_ _) | (with_reducible refine Kd.C_drewN ?_ _) | (with_reducible refine Kd.C_drew ?_))); (case side2 => exact HC0.out); rintro e w8 ⟨rfl, hb⟩; refine ⟨_, rfl, ?_⟩; have n0_ := Aside0.mk (below_step (by repeat (first | (with_reducible first | exact HB.out | apply below_alloc | apply pw_below_drewN | apply below_drew1) | exact HB.out)) hb); clear HB; have HB := n0_; clear n0_; (try clear hb); (try clear hb2); (try clear hk); (try clear hi); have p102 : 0 ≤ (t101 : Int) := of_decide_eq_true (by first | (with_reducible assumption) | assumption); have q102 : t101 < (l0.length : Int) := of_decide_eq_true (by first | (with_reducible assumption) | assumption); obtain ⟨ad102, e102, hx102_0, hx102_1⟩ := at_T43 HR0.out t101 p102 q102; cases e102; replace hx102_0 := (HB.out.cell (World.block_lt_of_cell? w _ hx102_0)).trans hx102_0; replace hx102_1 := (HB.out.cell (World.block_lt_of_cell? w _ hx102_1)).trans hx102_1; replace p102 := eq_true p102; replace q102 := eq_true q102))
        go_ret2
        exact ⟨by first | rfl | (simp [errW_none, errW_some] <;> rfl) | (simp [*, errW_none, errW_some] <;> rfl), by repeat (first | (with_reducible first | exact HB.out | apply below_alloc | apply pw_below_drewN | apply below_drew1) | exact HB.out)⟩
      · rw [if_neg c7] at H
        exact absurd H (by simp)
    · rw [if_neg c6] at H
      exact absurd H (by simp)

open Go.Proofs.Ytbkfmicnjnklnaa.Cp
/-! ### view_Get: function 11 -/
theorem enters27 : ∀ args w, (callFunc 27 args).run Try.prog w = .ok (.enter 27 args) w := enters_of Try.func27 (by kernel_rfl) rfl
set_option maxHeartbeats 8000000 in
theorem view_Get_1.calls (x : S33) (key : ByteArray) (B : Nat) (W : World) (hc : W.cell? ⟨B, 0, none⟩ = some (.string key)) :
    Calls Try.prog 27 #[.agg #[.string x.f0, .string x.f1, .bool x.f2], .pointer (some ⟨B, 0, none⟩)] W fun e w' => e = .returned (.bool (geq33 key x)) ∧ Below W.heap.size W w' := by
  have hu33 := Try.underlying33
  have hB := World.block_lt_of_cell? W _ hc
  go_enter Try.func27, Try.ntmps27
  go_wp2
  go_ret
  exact ⟨rfl, (Below.refl _ _).alloc (Nat.le_refl _) _⟩
set_option maxHeartbeats 8000000 in
theorem view_Get.calls (A0 : Option Addr) (c0 : Nat) (l0 : List (S33)) (A1 : Option Addr) (c1 : Nat) (l1 : List (S43)) (a2 : ByteArray) (r1 : ByteArray) (r2 : Bool) (w : World) (hr0 : Kd.C k33 w A0 l0.length l0) (hc0 : l0.length ≤ c0) (hr1 : Kd.C k43 w A1 l1.length l1) (hc1 : l1.length ≤ c1) (h : view_Get.f l0 l1 a2 = some (r1, r2)) :
    Calls Try.prog 11 #[.slice A0 l0.length c0, .slice A1 l1.length c1, .string a2] w fun e w' => e = .returned (.tuple #[.string r1, .bool r2]) ∧ Below w.heap.size w w' := by
  have hu33 := Try.underlying33
  obtain ⟨W1, hW1⟩ : ∃ W1, W1 = w.alloc (.cells #[.string a2] 9) := ⟨_, rfl⟩
  have hB1 : Below w.heap.size w W1 := by rw [hW1]; exact Below.alloc (Below.refl _ _) (Nat.le_refl _) _
  have hk1 : W1.cell? ⟨w.heap.size, 0, none⟩ = some (.string a2) := by rw [hW1]; go_simp
  have hR0 : Kd.C k33 W1 A0 l0.length l0 := by rw [hW1]; exact Kd.C_alloc hr0 _
  have hR1 : Kd.C k43 W1 A1 l1.length l1 := by rw [hW1]; exact Kd.C_alloc hr1 _
  have hfi := api_Write_26.calls (geq33 a2) 27 #[.pointer (some ⟨w.heap.size, 0, none⟩)] enters27 A0 c0 l0 W1 hR0 (fun W x hb => view_Get_1.calls x a2 w.heap.size W ((hb.cell (World.block_lt_of_cell? W1 _ hk1)).trans hk1))
  have FN : ∀ W2 : World, Below W1.heap.size W1 W2 → table_Find.f l1 a2 = some (r1, r2) → Calls Try.prog 28 #[.slice A1 l1.length c1, .string a2] W2 fun e w' => e = .returned (.tuple #[.string r1, .bool r2]) ∧ Below W2.heap.size W2 w' := fun W2 hb h' => table_Find.calls A1 c1 l1 a2 r1 r2 W2 (Kd.C_below hR1 hb) hc1 h'
  unfold view_Get.f at h
  rcases ixOf_cases' (geq33 a2) l0 with hE | ⟨i, hil, hE⟩
  · rw [hE, if_pos (by decide)] at h
    rw [hE] at hfi
    have IX := Aside0.mk hfi
    have FF := Aside0.mk FN
    have H := Aside0.mk h
    have B1 := Aside0.mk hB1
    have K1 := Aside0.mk hk1
    rw [hW1] at IX
    clear hfi FN h hB1 hk1 hr0 hr1 hR0 hR1 hE
    go_enter Try.func11, Try.ntmps11
    go_wp2_with (first
      | (go_at_call 26; refine IX.out.mono ?_; rintro e w2 ⟨rfl, hb⟩; rw [← hW1] at hb; have k5 : w2.cell? ⟨w.heap.size, 0, none⟩ = some (.string a2) := (hb.cell (World.block_lt_of_cell? W1 _ K1.out)).trans K1.out; have B2 := Aside0.mk hb; clear hb)
      | (go_at_call 28; refine (FF.out w2 B2.out H.out).mono ?_; rintro e w3 ⟨rfl, hb⟩; have B3 := Aside0.mk hb; clear hb))
    go_ret2
    exact ⟨rfl, below_step (below_step B1.out B2.out) B3.out⟩
  · have hng : ¬ ((i : Int) < 0) := by omega
    rw [hE, if_neg hng] at h
    rw [hE] at hfi
    have hz0 : decide ((i : Int) < 0) = false := decide_eq_false hng
    have hz1 : (0 : Int) ≤ (i : Int) := by omega
    have hz2 : (i : Int) < (l0.length : Int) := by omega
    have hmx := hR0.2.1
    have IX := Aside0.mk hfi
    have R0 := Aside0.mk hR0
    have B1 := Aside0.mk hB1
    rw [hW1] at IX
    obtain ⟨x, hx⟩ : ∃ x, rd_T33 l0 (i : Int) = x := ⟨_, rfl⟩
    rw [hx] at h
    have X := Aside0.mk hx
    clear hfi FN hB1 hk1 hr0 hr1 hR0 hR1 hE hng hx
    obtain ⟨x0, x1, x2⟩ := x
    simp only at h
    have AT : ∀ w2 : World, Below W1.heap.size W1 w2 → ∃ ad, A0 = some ad ∧ w2.cell? ⟨(ad.add (i * 3)).block, (ad.add (i * 3)).off + 1, none⟩ = some (.string x1) ∧ w2.cell? ⟨(ad.add (i * 3)).block, (ad.add (i * 3)).off + 2, none⟩ = some (.bool x2) := fun w2 hb => by
      obtain ⟨ad, e, hx0, hx1, hx2⟩ := at_T33 (Kd.C_below R0.out hb) (i : Int) hz1 hz2
      rw [X.out] at hx0 hx1 hx2
      exact ⟨ad, e, hx1, hx2⟩
    have AA := Aside0.mk AT
    clear AT
    cases x2 with
    | true =>
      rw [if_pos rfl] at h
      obtain ⟨rfl, rfl⟩ := Prod.mk.inj (Option.some.inj h)
      clear h
      go_enter Try.func11, Try.ntmps11
      go_wp2_with (go_at_call 26; refine IX.out.mono ?_; rintro e w2 ⟨rfl, hb⟩; rw [← hW1] at hb; obtain ⟨ad, rfl, h1, h2⟩ := AA.out w2 hb; have B2 := Aside0.mk hb; clear hb)
      go_ret2
      exact ⟨rfl, below_step B1.out B2.out⟩
    | false =>
      rw [if_neg (by decide)] at h
      obtain ⟨rfl, rfl⟩ := Prod.mk.inj (Option.some.inj h)
      clear h
      go_enter Try.func11, Try.ntmps11
      go_wp2_with (go_at_call 26; refine IX.out.mono ?_; rintro e w2 ⟨rfl, hb⟩; rw [← hW1] at hb; obtain ⟨ad, rfl, h1, h2⟩ := AA.out w2 hb; have B2 := Aside0.mk hb; clear hb)
      go_ret2
      exact ⟨rfl, below_step B1.out B2.out⟩

/-! ### table_Between: function 40 -/
set_option maxHeartbeats 8000000 in
set_option maxRecDepth 100000 in
theorem table_Between.calls (a0 : ByteArray) (a1 : ByteArray) (a2 : ByteArray) (r : Bool) (w : World) (h : table_Between.f a0 a1 a2 = some r) :
    Calls Try.prog 40 #[.string a0, .string a1, .string a2] w fun e w' => e = .returned (.bool r) ∧ Drawn0 w w' := by
  have H : (if ((Op.bytesLess a0.toList a1.toList) = true) then (some false) else (if a2.toList = ([] : List UInt8) then (some true) else (some (Op.bytesLess a0.toList a2.toList)))) = some r := h
  clear h
  by_cases c4 : ((Op.bytesLess a0.toList a1.toList) = true)
  · rw [if_pos c4] at H
    have c4b0 : (Op.bytesLess a0.toList a1.toList) = true := c4
    clear c4
    obtain rfl := Option.some.inj H
    go_enter Try.func40, Try.ntmps40
    go_wp2
    go_ret
    exact ⟨by first | rfl | (simp; done) | (simp [*]; done), by repeat (first | exact Drawn0.refl _ | apply Drawn0.step)⟩
  · rw [if_neg c4] at H
    have c4b0 : (Op.bytesLess a0.toList a1.toList) = false := by simpa using c4
    clear c4
    by_cases c5 : a2.toList = ([] : List UInt8)
    · rw [if_pos c5] at H
      have c5b0 : (a2.toList == ([] : List UInt8)) = true := beq_iff_eq.mpr c5
      have c5b1 : (a2.toList != ([] : List UInt8)) = false := bne_eq_false_iff_eq.mpr c5
      clear c5
      obtain rfl := Option.some.inj H
      go_enter Try.func40, Try.ntmps40
      go_wp2
      go_ret
      exact ⟨by first | rfl | (simp; done) | (simp [*]; done), by repeat (first | exact Drawn0.refl _ | apply Drawn0.step)⟩
    · rw [if_neg c5] at H
      have c5b0 : (a2.toList == ([] : List UInt8)) = false := beq_eq_false_iff_ne.mpr c5
      have c5b1 : (a2.toList != ([] : List UInt8)) = true := bne_iff_ne.mpr c5
      obtain rfl := Option.some.inj H
      go_enter Try.func40, Try.ntmps40
      go_wp2
      go_ret
      exact ⟨by first | rfl | (simp; done) | (simp [*]; done), by repeat (first | exact Drawn0.refl _ | apply Drawn0.step)⟩

/-! ### table_Range: function 30 -/
set_option maxHeartbeats 8000000 in
set_option maxRecDepth 100000 in
theorem table_Range.calls (k : Nat) (A0 : Option Addr) (c0 : Nat) (l0 : List (S43)) (a1 : ByteArray) (a2 : ByteArray) (a3 : Int) (r : List (S43)) (w : World) (hr0 : Kd.C k43 w A0 l0.length l0) (hc0 : l0.length ≤ c0) (h : table_Range.f k l0 a1 a2 a3 = some r) :
    Calls Try.prog 30 #[.slice A0 l0.length c0, .string a1, .string a2, .int .i64 a3] w fun e w' => ∃ v0_ : Value, e = .returned (v0_) ∧ Kd.R k43 43 w' w.heap.size (fun _ => True) v0_ r ∧ Below w.heap.size w w' := by
  have hu43 := Try.underlying43
  have HR0 := Aside0.mk hr0
  have HC0 := Aside0.mk hc0
  clear hr0 hc0
  have HB := Aside0.mk (Below.refl w.heap.size w)
  have H : (table_Range.l0 k a1 a2 a3 ([] : List (S43)) l0 (l0.length : Int) 0) = some r := h
  clear h
  have H' := Aside0.mk H
  clear H
  go_enter Try.func30, Try.ntmps30
  go_wp2
  go_loopg [9, 14] k (fun kq v9 v14 w' => ∃ (x9_1 : List (S43)) (x14_1 : Int), v14 = .int .i64 x14_1 ∧ Aside0 (table_Range.l0 kq a1 a2 a3 x9_1 l0 (l0.length : Int) x14_1 = some r) ∧ Aside0 (kq ≤ k) ∧ Aside0 (Kd.R k43 43 w' w.heap.size (fun _ => True) v9 x9_1) ∧ Aside0 (Below w.heap.size w w'))
  case atStart => exact ⟨(([] : List (S43))), (0), (by first | rfl | (simp; done) | (simp [*]; done)), H', ⟨Nat.le_refl _⟩, ⟨by first | exact Kd.R_nil _ _ _ _ _ | exact Kd.N_nil _ _ _ _ _ | exact Kd.V_nil _ _ _ _ _ | exact Kd.Q_nil _ _ _ _ _ | exact Kd.S_nil _ _ _ _ _⟩, ⟨by repeat (first | (with_reducible first | exact HB.out | apply below_alloc | apply pw_below_drewN | apply below_drew1) | exact HB.out)⟩⟩
  case round =>
    clear H'
    try clear p2
    try clear c3
    obtain ⟨x9_1, x14_1, rfl, HA, HK1, HO_9, HB⟩ := hrel
    cases gk with
    | zero => exact absurd HA.out (by simp [table_Range.l0])
    | succ k1 =>
      have H := HA.out
      clear HA
      simp only [table_Range.l0] at H
      by_cases c5 : x14_1 < (l0.length : Int)
      · rw [if_pos c5] at H
        have c5b0 : decide (x14_1 < (l0.length : Int)) = true := decide_eq_true c5
        clear c5
        by_cases c6 : 0 ≤ x14_1
        · rw [if_pos c6] at H
          have c6b0 : decide (0 ≤ x14_1) = true := decide_eq_true c6
          clear c6
          by_cases c7 : x14_1 < (l0.length : Int)
          · rw [if_pos c7] at H
            have c7b0 : decide (x14_1 < (l0.length : Int)) = true := decide_eq_true c7
            clear c7
            by_cases c8 : (x9_1.length : Int) ≥ a3
            · rw [if_pos c8] at H
              have c8b0 : decide (a3 ≤ (x9_1.length : Int)) = true := decide_eq_true c8
              clear c8
              obtain rfl := Option.some.inj H
              have p103 : 0 ≤ (x14_1 : Int) := of_decide_eq_true (by first | (with_reducible assumption) | assumption)
              have q103 : x14_1 < (l0.length : Int) := of_decide_eq_true (by first | (with_reducible assumption) | assumption)
              obtain ⟨ad103, e103, hx103_0, hx103_1⟩ := at_T43 HR0.out x14_1 p103 q103
              cases e103
              replace hx103_0 := (HB.out.cell (World.block_lt_of_cell? w _ hx103_0)).trans hx103_0
              replace hx103_1 := (HB.out.cell (World.block_lt_of_cell? w _ hx103_1)).trans hx103_1
              replace p103 := eq_true p103
              replace q103 := eq_true q103
              go_wp2_with (first | ((with_reducible refine gate_dst (N := 11) rfl ?_); refine box_event ?hg (N := 11) ?hd (cs := #[.string (⟨#[]⟩ : ByteArray), .string (⟨#[]⟩ : ByteArray)]) (t := 43) ?hr ?_; (case hd => rfl); (case hg => rfl); (case hr => first | (go_simp; done) | (go_simp; rfl)); intro gb104 hg w9 hbox hb; have n0_ := Aside0.mk (Kd.R_below (Kd.R_elderB (by (with_reducible repeat (first | apply Kd.R_alloc | apply Kd.R_drewN | apply Kd.R_drew)); exact HO_9.out) gb104 (Nat.le_of_eq hg.symm)) hb); have n1_ := Aside0.mk (below_step (by repeat (first | (with_reducible first | exact HB.out | apply below_alloc | apply pw_below_drewN | apply below_drew1) | exact HB.out)) hb); have n2_ := Aside0.mk (hbox); have n3_ := Aside0.mk ((by rw [hg]; exact (below_size (by repeat (first | (with_reducible first | exact HB.out | apply below_alloc | apply pw_below_drewN | apply below_drew1) | exact HB.out))) : w.heap.size ≤ gb104)); have n4_ := Aside0.mk ((by rw [hg]; exact (below_size (by repeat (first | (with_reducible first | exact HB.out | apply below_alloc | apply pw_below_drewN | apply below_drew1) | exact HB.out))) : w.heap.size ≤ gb104)); clear HO_9; clear HB; have HO_9 := n0_; have HB := n1_; have BK104 := n2_; have GW104 := n3_; have GE104 := n4_; clear n0_ n1_ n2_ n3_ n4_; clear hb hbox hg; have hcz10_0 : w9.cell? ⟨gb104, 0, none⟩ = some (.string (⟨#[]⟩ : ByteArray)) := (blk_cell BK104.out 0).trans rfl; have hcz10_1 : w9.cell? ⟨gb104, 1, none⟩ = some (.string (⟨#[]⟩ : ByteArray)) := (blk_cell BK104.out 1).trans rfl; have hfz10_0 := blk_frozen BK104.out 0; have hfz10_1 := blk_frozen BK104.out 1; obtain ⟨Ao11, co11, eo11⟩ := Kd.R_slice HO_9.out; subst eo11))
              go_ret
              exact ⟨_, by first | rfl | (simp [errW_none, errW_some] <;> rfl) | (simp [*, errW_none, errW_some] <;> rfl), by (with_reducible repeat (first | apply Kd.R_alloc | apply Kd.R_drewN | apply Kd.R_drew)); exact Kd.R_mono (Kd.R_far (p := ⟨gb104, 1, none⟩) (Kd.R_far (p := ⟨gb104, 0, none⟩) (Kd.R_mono HO_9.out (fun k_ hk => (⟨hk, hk.2⟩ : _ ∧ k_ ≠ gb104))) (fun _ hk => hk.2) (.string ((rd_T43 l0 x14_1).f0))) (fun _ hk => hk.2) (.string ((rd_T43 l0 x14_1).f1))) (fun _ hk => trivial), by repeat (first | (with_reducible first | exact HB.out | apply below_alloc | apply pw_below_drewN | apply below_drew1 | refine below_set ?_ GE104.out) | exact HB.out)⟩
            · rw [if_neg c8] at H
              have c8b0 : decide (a3 ≤ (x9_1.length : Int)) = false := decide_eq_false c8
              clear c8
              replace H := Option.bind_eq_some_iff.mp H
              obtain ⟨t105, A120, H⟩ := H
              replace H : (if t105 = true then (if x9_1.length < 4398046511104 then (table_Range.l0 k1 a1 a2 a3 (x9_1 ++ [(⟨(rd_T43 l0 x14_1).f0, (rd_T43 l0 x14_1).f1⟩ : S43)]) l0 (l0.length : Int) (wrap64 (x14_1 + 1))) else (none)) else (table_Range.l0 k1 a1 a2 a3 x9_1 l0 (l0.length : Int) (wrap64 (x14_1 + 1)))) = some r := H
              have A12 := Aside0.mk A120
              clear A120
              by_cases c13 : t105 = true
              · subst c13
                have H1 : (if x9_1.length < 4398046511104 then (table_Range.l0 k1 a1 a2 a3 (x9_1 ++ [(⟨(rd_T43 l0 x14_1).f0, (rd_T43 l0 x14_1).f1⟩ : S43)]) l0 (l0.length : Int) (wrap64 (x14_1 + 1))) else (none)) = some r := by rw [if_pos rfl] at H; exact H
                clear H
                have H := H1
                clear H1
                by_cases c14 : x9_1.length < 4398046511104
                · rw [if_pos c14] at H
                  have LMc14 := Aside0.mk c14
                  clear c14
                  obtain ⟨y106, hy106⟩ : ∃ y_ : List (S43), y_ = (x9_1 ++ [(⟨(rd_T43 l0 x14_1).f0, (rd_T43 l0 x14_1).f1⟩ : S43)]) := ⟨_, rfl⟩
                  replace H : (table_Range.l0 k1 a1 a2 a3 y106 l0 (l0.length : Int) (wrap64 (x14_1 + 1))) = some r := by first | (rw [hy106]; with_reducible exact H) | (have H2_ := (Option.bind_some _ _).symm.trans H; rw [hy106]; with_reducible exact H2_) | (have H2_ := (Option.bind_some _ _).symm.trans H; with_reducible exact H2_) | with_reducible exact H | (rw [hy106]; exact H) | exact H
                  have Ny106 := Aside0.mk hy106
                  clear hy106
                  have H' := Aside0.mk H
                  clear H
                  have p103 : 0 ≤ (x14_1 : Int) := of_decide_eq_true (by first | (with_reducible assumption) | assumption)
                  have q103 : x14_1 < (l0.length : Int) := of_decide_eq_true (by first | (with_reducible assumption) | assumption)
                  obtain ⟨ad103, e103, hx103_0, hx103_1⟩ := at_T43 HR0.out x14_1 p103 q103
                  cases e103
                  replace hx103_0 := (HB.out.cell (World.block_lt_of_cell? w _ hx103_0)).trans hx103_0
                  replace hx103_1 := (HB.out.cell (World.block_lt_of_cell? w _ hx103_1)).trans hx103_1
                  replace p103 := eq_true p103
                  replace q103 := eq_true q103
                  go_wp2_with (first | ((with_reducible refine gate_dst (N := 11) rfl ?_); refine box_event ?hg (N := 11) ?hd (cs := #[.string (⟨#[]⟩ : ByteArray), .string (⟨#[]⟩ : ByteArray)]) (t := 43) ?hr ?_; (case hd => rfl); (case hg => rfl); (case hr => first | (go_simp; done) | (go_simp; rfl)); intro gb104 hg w15 hbox hb; have n0_ := Aside0.mk (Kd.R_below (Kd.R_elderB (by (with_reducible repeat (first | apply Kd.R_alloc | apply Kd.R_drewN | apply Kd.R_drew)); exact HO_9.out) gb104 (Nat.le_of_eq hg.symm)) hb); have n1_ := Aside0.mk (below_step (by repeat (first | (with_reducible first | exact HB.out | apply below_alloc | apply pw_below_drewN | apply below_drew1) | exact HB.out)) hb); have n2_ := Aside0.mk (hbox); have n3_ := Aside0.mk ((by rw [hg]; exact (below_size (by repeat (first | (with_reducible first | exact HB.out | apply below_alloc | apply pw_below_drewN | apply below_drew1) | exact HB.out))) : w.heap.size ≤ gb104)); have n4_ := Aside0.mk ((by rw [hg]; exact (below_size (by repeat (first | (with_reducible first | exact HB.out | apply below_alloc | apply pw_below_drewN | apply below_drew1) | exact HB.out))) : w.heap.size ≤ gb104)); clear HO_9; clear HB; have HO_9 := n0_; have HB := n1_; have BK104 := n2_; have GW104 := n3_; have GE104 := n4_; clear n0_ n1_ n2_ n3_ n4_; clear hb hbox hg; have hcz16_0 : w15.cell? ⟨gb104, 0, none⟩ = some (.string (⟨#[]⟩ : ByteArray)) := (blk_cell BK104.out 0).trans rfl; have hcz16_1 : w15.cell? ⟨gb104, 1, none⟩ = some (.string (⟨#[]⟩ : ByteArray)) := (blk_cell BK104.out 1).trans rfl; have hfz16_0 := blk_frozen BK104.out 0; have hfz16_1 := blk_frozen BK104.out 1; obtain ⟨Ao17, co17, eo17⟩ := Kd.R_slice HO_9.out; subst eo17) | ((with_reducible refine gate_callee (f := 40) rfl ?_); refine goesL_ (some 26) rfl rfl Try.func40 (by kernel_rfl) rfl #[.string ((rd_T43 l0 x14_1).f0), .string a1, .string a2] rfl (by (try simp only [List.map_toArray, List.map_cons, List.map_nil]); first | done | rfl | (simp only [List.length_drop, List.length_take]; rfl)) ?_; (with_reducible refine (table_Between.calls ((rd_T43 l0 x14_1).f0) a1 a2 true _ A12.out).mono ?_); rintro e w' ⟨rfl, ⟨nd, rfl⟩⟩; refine ⟨_, rfl, ?_⟩) | ((with_reducible refine gate_builtin (b := .append) (xs := #[.tmp 27, .tmp 29]) rfl ?_); at_builtin; refine Kd.R_append k43 (w0 := w) w.heap.size rfl (.tmp 27) (.tmp 29) 23 43 (.agg #[(.string ⟨#[]⟩), (.string ⟨#[]⟩)]) 32 rfl Try.underlying23 info43 rfl (by decide) (by omega) (.slice Ao17 x9_1.length co17) x9_1 (⟨(rd_T43 l0 x14_1).f0, (rd_T43 l0 x14_1).f1⟩ : S43) [.string ((rd_T43 l0 x14_1).f0), .string ((rd_T43 l0 x14_1).f1)] (fun k_ => k_ ≠ gb104) (fun _ => False) rfl (by first | (go_simp; done) | (go_simp; rfl)) ?aP (fun _ hk => hk.elim) ?aF ?aO ?aB ?aS ?aL ?_; (case aP => exact k43_mkM _ _ _ (⟨(rd_T43 l0 x14_1).f0, (rd_T43 l0 x14_1).f1⟩ : S43)); (case aB => exact (by repeat (first | (with_reducible first | exact HB.out | apply below_alloc | apply pw_below_drewN | apply below_drew1 | refine below_set ?_ GE104.out) | exact HB.out))); (case aF => exact (fun k_ hk => Kd.freshB (g := gb104) (o := .cells #[.string ((rd_T43 l0 x14_1).f0), .string ((rd_T43 l0 x14_1).f1)] 43 (0, 0)) (by (with_reducible repeat (first | refine blk_drewN ?_ _ | refine blk_drew ?_ | refine blk_alloc ?_ _)); refine blk_put (cs := #[.string ((rd_T43 l0 x14_1).f0), .string (⟨#[]⟩ : ByteArray)]) ?_ 1 _ rfl; (with_reducible repeat (first | refine blk_drewN ?_ _ | refine blk_drew ?_ | refine blk_alloc ?_ _)); refine blk_put (cs := #[.string (⟨#[]⟩ : ByteArray), .string (⟨#[]⟩ : ByteArray)]) ?_ 0 _ rfl; (with_reducible repeat (first | refine blk_drewN ?_ _ | refine blk_drew ?_ | refine blk_alloc ?_ _)); exact BK104.out) k_ hk)); (case aO => exact (by (with_reducible repeat (first | apply Kd.R_alloc | apply Kd.R_drewN | apply Kd.R_drew)); exact Kd.R_mono (Kd.R_far (p := ⟨gb104, 1, none⟩) (Kd.R_far (p := ⟨gb104, 0, none⟩) (Kd.R_mono HO_9.out (fun k_ hk => (⟨hk, hk.2⟩ : _ ∧ k_ ≠ gb104))) (fun _ hk => hk.2) (.string ((rd_T43 l0 x14_1).f0))) (fun _ hk => hk.2) (.string ((rd_T43 l0 x14_1).f1))) (fun _ hk => hk.1.2))); (case aS => exact (below_size (by repeat (first | (with_reducible first | exact HB.out | apply below_alloc | apply pw_below_drewN | apply below_drew1 | refine below_set ?_ GE104.out) | exact HB.out)))); (case aL => have := LMc14.out; omega); intro v107 w18 ho hb hg hat; rw [← Ny106.out] at ho; have n0_ := Aside0.mk (blk_grown (g := gb104) (o := .cells #[.string ((rd_T43 l0 x14_1).f0), .string ((rd_T43 l0 x14_1).f1)] 43 (0, 0)) (by (with_reducible repeat (first | refine blk_drewN ?_ _ | refine blk_drew ?_ | refine blk_alloc ?_ _)); refine blk_put (cs := #[.string ((rd_T43 l0 x14_1).f0), .string (⟨#[]⟩ : ByteArray)]) ?_ 1 _ rfl; (with_reducible repeat (first | refine blk_drewN ?_ _ | refine blk_drew ?_ | refine blk_alloc ?_ _)); refine blk_put (cs := #[.string (⟨#[]⟩ : ByteArray), .string (⟨#[]⟩ : ByteArray)]) ?_ 0 _ rfl; (with_reducible repeat (first | refine blk_drewN ?_ _ | refine blk_drew ?_ | refine blk_alloc ?_ _)); exact BK104.out) hg (Kd.R_away HO_9.out (fun _ hk => hk.2))); have n1_ := Aside0.mk (hb); have n2_ := Aside0.mk (ho); clear BK104; clear HB; clear HO_9; have BK104 := n0_; have HB := n1_; have HO108 := n2_; clear n0_ n1_ n2_; clear ho hb hg hat))
                  go_roundg k1
                  case measure => have := HK1.out; omega
                  case rel => exact ⟨(y106), (wrap64 (x14_1 + 1)), (by first | rfl | (simp; done) | (simp [*]; done)), H', ⟨by have := HK1.out; omega⟩, ⟨by (with_reducible repeat (first | apply Kd.R_alloc | apply Kd.R_drewN | apply Kd.R_drew)); exact Kd.R_mono HO108.out (fun _ hk => trivial)⟩, ⟨by repeat (first | (with_reducible first | exact HB.out | apply below_alloc | apply pw_below_drewN | apply below_drew1 | refine below_set ?_ GE104.out) | exact HB.out)⟩⟩
                · rw [if_neg c14] at H
                  exact absurd H (by simp)
              · replace c13 := Bool.eq_false_iff.mpr c13
                subst c13
                have H1 : (table_Range.l0 k1 a1 a2 a3 x9_1 l0 (l0.length : Int) (wrap64 (x14_1 + 1))) = some r := by rw [if_neg (show ¬ (false = true) by decide)] at H; exact H
                clear H
                have H := H1
                clear H1
                have H' := Aside0.mk H
                clear H
                have p103 : 0 ≤ (x14_1 : Int) := of_decide_eq_true (by first | (with_reducible assumption) | assumption)
                have q103 : x14_1 < (l0.length : Int) := of_decide_eq_true (by first | (with_reducible assumption) | assumption)
                obtain ⟨ad103, e103, hx103_0, hx103_1⟩ := at_T43 HR0.out x14_1 p103 q103
                cases e103
                replace hx103_0 := (HB.out.cell (World.block_lt_of_cell? w _ hx103_0)).trans hx103_0
                replace hx103_1 := (HB.out.cell (World.block_lt_of_cell? w _ hx103_1)).trans hx103_1
                replace p103 := eq_true p103
                replace q103 := eq_true q103
                go_wp2_with (first | ((with_reducible refine gate_dst (N := 11) rfl ?_); refine box_event ?hg (N := 11) ?hd (cs := #[.string (⟨#[]⟩ : ByteArray), .string (⟨#[]⟩ : ByteArray)]) (t := 43) ?hr ?_; (case hd => rfl); (case hg => rfl); (case hr => first | (go_simp; done) | (go_simp; rfl)); intro gb104 hg w19 hbox hb; have n0_ := Aside0.mk (Kd.R_below (Kd.R_elderB (by (with_reducible repeat (first | apply Kd.R_alloc | apply Kd.R_drewN | apply Kd.R_drew)); exact HO_9.out) gb104 (Nat.le_of_eq hg.symm)) hb); have n1_ := Aside0.mk (below_step (by repeat (first | (with_reducible first | exact HB.out | apply below_alloc | apply pw_below_drewN | apply below_drew1) | exact HB.out)) hb); have n2_ := Aside0.mk (hbox); have n3_ := Aside0.mk ((by rw [hg]; exact (below_size (by repeat (first | (with_reducible first | exact HB.out | apply below_alloc | apply pw_below_drewN | apply below_drew1) | exact HB.out))) : w.heap.size ≤ gb104)); have n4_ := Aside0.mk ((by rw [hg]; exact (below_size (by repeat (first | (with_reducible first | exact HB.out | apply below_alloc | apply pw_below_drewN | apply below_drew1) | exact HB.out))) : w.heap.size ≤ gb104)); clear HO_9; clear HB; have HO_9 := n0_; have HB := n1_; have BK104 := n2_; have GW104 := n3_; have GE104 := n4_; clear n0_ n1_ n2_ n3_ n4_; clear hb hbox hg; have hcz20_0 : w19.cell? ⟨gb104, 0, none⟩ = some (.string (⟨#[]⟩ : ByteArray)) := (blk_cell BK104.out 0).trans rfl; have hcz20_1 : w19.cell? ⟨gb104, 1, none⟩ = some (.string (⟨#[]⟩ : ByteArray)) := (blk_cell BK104.out 1).trans rfl; have hfz20_0 := blk_frozen BK104.out 0; have hfz20_1 := blk_frozen BK104.out 1; obtain ⟨Ao21, co21, eo21⟩ := Kd.R_slice HO_9.out; subst eo21) | ((with_reducible refine gate_callee (f := 40) rfl ?_); refine goesL_ (some 26) rfl rfl Try.func40 (by kernel_rfl) rfl #[.string ((rd_T43 l0 x14_1).f0), .string a1, .string a2] rfl (by (try simp only [List.map_toArray, List.map_cons, List.map_nil]); first | done | rfl | (simp only [List.length_drop, List.length_take]; rfl)) ?_; (with_reducible refine (table_Between.calls ((rd_T43 l0 x14_1).f0) a1 a2 false _ A12.out).mono ?_); rintro e w' ⟨rfl, ⟨nd, rfl⟩⟩; refine ⟨_, rfl, ?_⟩))
                go_roundg k1
                case measure => have := HK1.out; omega
                case rel => exact ⟨(x9_1), (wrap64 (x14_1 + 1)), (by first | rfl | (simp; done) | (simp [*]; done)), H', ⟨by have := HK1.out; omega⟩, ⟨by (with_reducible repeat (first | apply Kd.R_alloc | apply Kd.R_drewN | apply Kd.R_drew)); exact Kd.R_mono (Kd.R_far (p := ⟨gb104, 1, none⟩) (Kd.R_far (p := ⟨gb104, 0, none⟩) (Kd.R_mono HO_9.out (fun k_ hk => (⟨hk, hk.2⟩ : _ ∧ k_ ≠ gb104))) (fun _ hk => hk.2) (.string ((rd_T43 l0 x14_1).f0))) (fun _ hk => hk.2) (.string ((rd_T43 l0 x14_1).f1))) (fun _ hk => trivial)⟩, ⟨by repeat (first | (with_reducible first | exact HB.out | apply below_alloc | apply pw_below_drewN | apply below_drew1 | refine below_set ?_ GE104.out) | exact HB.out)⟩⟩
          · rw [if_neg c7] at H
            exact absurd H (by simp)
        · rw [if_neg c6] at H
          exact absurd H (by simp)
      · rw [if_neg c5] at H
        have c5b0 : decide (x14_1 < (l0.length : Int)) = false := decide_eq_false c5
        clear c5
        obtain rfl := Option.some.inj H
        go_wp2
        go_ret
        exact ⟨_, by first | rfl | (simp [errW_none, errW_some] <;> rfl) | (simp [*, errW_none, errW_some] <;> rfl), by (with_reducible repeat (first | apply Kd.R_alloc | apply Kd.R_drewN | apply Kd.R_drew)); exact HO_9.out, by repeat (first | (with_reducible first | exact HB.out | apply below_alloc | apply pw_below_drewN | apply below_drew1) | exact HB.out)⟩

/-! ### api_Pair_41: function 41 -/
set_option maxHeartbeats 8000000 in
set_option maxRecDepth 100000 in
theorem api_Pair_41.calls (A0 : Option Addr) (c0 : Nat) (l0 : List (S43)) (r : List (S43)) (w : World) (hr0 : Kd.C k43 w A0 l0.length l0) (hc0 : l0.length ≤ c0) (h : api_Pair_41.f l0 = some r) :
    Calls Try.prog 41 #[.slice A0 l0.length c0] w fun e w' => ∃ v0_ : Value, e = .returned (v0_) ∧ Kd.R k43 43 w' w.heap.size (fun _ => True) v0_ r ∧ Below w.heap.size w w' := by
  have HR0 := Aside0.mk hr0
  have HC0 := Aside0.mk hc0
  clear hr0 hc0
  have HB := Aside0.mk (Below.refl w.heap.size w)
  have H : ((some (([] : List (S43)) : List (S43))).bind fun y109 => (if y109.length + l0.length < 4398046511104 then (some (y109 ++ l0)) else (none))) = some r := h
  clear h
  obtain ⟨y109, hy109⟩ : ∃ y_ : List (S43), y_ = (([] : List (S43))) := ⟨_, rfl⟩
  replace H : (if y109.length + l0.length < 4398046511104 then (some (y109 ++ l0)) else (none)) = some r := by first | (rw [hy109]; with_reducible exact H) | (have H2_ := (Option.bind_some _ _).symm.trans H; rw [hy109]; with_reducible exact H2_) | (have H2_ := (Option.bind_some _ _).symm.trans H; with_reducible exact H2_) | with_reducible exact H | (rw [hy109]; exact H) | exact H
  have Ny109 := Aside0.mk hy109
  clear hy109
  by_cases c2 : y109.length + l0.length < 4398046511104
  · rw [if_pos c2] at H
    have LMc2 := Aside0.mk c2
    clear c2
    obtain ⟨y112, hy112⟩ : ∃ y_ : List (S43), y_ = (y109 ++ l0) := ⟨_, rfl⟩
    replace H : (some y112) = some r := by first | (rw [hy112]; with_reducible exact H) | (have H2_ := (Option.bind_some _ _).symm.trans H; rw [hy112]; with_reducible exact H2_) | (have H2_ := (Option.bind_some _ _).symm.trans H; with_reducible exact H2_) | with_reducible exact H | (rw [hy112]; exact H) | exact H
    have Ny112 := Aside0.mk hy112
    clear hy112
    obtain rfl := Option.some.inj H
    have qT := fun (w : World) (a : Option Addr) (l c : Nat) => Lib.run_eql_slice_nil (P := Try.prog) w 23 43 a l c 0 0 Try.underlying23
    rcases A0 with _ | ad0
    · have hl : l0 = [] := by
        rcases l0 with _ | ⟨x_, l_⟩
        · rfl
        · obtain ⟨_, h_, _⟩ := HR0.out.2.2 (by simp)
          cases h_
      have hy := Aside0.mk (show y112 = [] by rw [Ny112.out, Ny109.out, hl]; rfl)
      clear hl
      go_enter Try.func41, Try.ntmps41
      go_wp2
      go_ret
      exact ⟨_, rfl, by rw [hy.out]; exact Kd.R_nil _ _ _ _ _, HB.out⟩
    · go_enter Try.func41, Try.ntmps41
      go_wp2_with (first | ((with_reducible refine gate_dst (N := 5) rfl ?_); refine Kd.R_lit k43 _ 43 ?hg (N := 5) ?hd (xs := ([] : List (S43))) (inner := []) (ok := fun _ => True) (okp := fun _ => True) ?hr ?hp (fun _ hk => hk) trivial (Below.refl _ _) (Nat.le_refl _) (by simp) ?_; (case hd => rfl); (case hg => rfl); (case hr => first | (go_simp; done) | (go_simp; rfl)); (case hp => exact (Reps.none _ _)); intro v110 w3 ho4 hb hg_ hnew_; clear hg_ hnew_; (first | rw [← Ny109.out] at ho4 | (simp only [Int.reduceToNat] at ho4; rw [← Ny109.out] at ho4)); have n0_ := Aside0.mk (Kd.R_lower ho4 (below_size (by repeat (first | (with_reducible first | exact HB.out | apply below_alloc | apply pw_below_drewN | apply below_drew1) | exact HB.out)))); have n1_ := Aside0.mk (below_step (by repeat (first | (with_reducible first | exact HB.out | apply below_alloc | apply pw_below_drewN | apply below_drew1) | exact HB.out)) hb); clear HB; have HO111 := n0_; have HB := n1_; clear n0_ n1_; clear hb ho4) | ((with_reducible refine gate_builtin (b := .append) (xs := #[.tmp 5, .tmp 6]) rfl ?_); at_builtin; refine Kd.R_append_rows k43 (w0 := w) w.heap.size rfl (.tmp 5) (.tmp 6) 23 43 (.agg #[(.string ⟨#[]⟩), (.string ⟨#[]⟩)]) 32 rfl Try.underlying23 info43 rfl (by decide) (by omega) v110 y109 l0 _ _ _ (fun _ => True) (fun _ => False) rfl rfl ?aO ?aR (fun _ _ h => h) (fun _ h => h.elim) ?aF ?aB ?aS ?aL ?_; (case aR => repeat (first | exact (Kd.C_below HR0.out HB.out) | (with_reducible refine Kd.C_alloc ?_ _) | (with_reducible refine Kd.C_drewN ?_ _) | (with_reducible refine Kd.C_drew ?_))); (case aB => exact (by repeat (first | (with_reducible first | exact HB.out | apply below_alloc | apply pw_below_drewN | apply below_drew1) | exact HB.out))); (case aF => exact (fun _ _ => trivial)); (case aO => exact (by (with_reducible repeat (first | apply Kd.R_alloc | apply Kd.R_drewN | apply Kd.R_drew)); exact HO111.out)); (case aS => exact (below_size (by repeat (first | (with_reducible first | exact HB.out | apply below_alloc | apply pw_below_drewN | apply below_drew1) | exact HB.out)))); (case aL => have := LMc2.out; omega); intro v113 w5 ho hb hg hat; rw [← Ny112.out] at ho; have n0_ := Aside0.mk (hb); have n1_ := Aside0.mk (ho); clear HB; clear HO111; have HB := n0_; have HO114 := n1_; clear n0_ n1_; clear ho hb hg hat))
      go_ret
      exact ⟨_, by first | rfl | (simp [errW_none, errW_some] <;> rfl) | (simp [*, errW_none, errW_some] <;> rfl), by (with_reducible repeat (first | apply Kd.R_alloc | apply Kd.R_drewN | apply Kd.R_drew)); exact HO114.out, by repeat (first | (with_reducible first | exact HB.out | apply below_alloc | apply pw_below_drewN | apply below_drew1) | exact HB.out)⟩
  · rw [if_neg c2] at H
    exact absurd H (by simp)

-- function 58: no road meets it

-- function 61: no road meets it

-- function 60: no road meets it

-- function 59: no road meets it

open Go.Proofs.Ytbkfmicnjnklnaa.Cp
/-! ### api_Pair_54: function 54 -/
def flc43 (x : S43) : List Value := [.string x.f0, .string x.f1]
theorem flc43_len (x : S43) : (flc43 x).length = 2 := rfl
theorem flc43_one (xs : List S43) : ∀ v ∈ xs.flatMap flc43, v.oneCell' = true := by
  intro v hv
  obtain ⟨x, _, hx⟩ := List.mem_flatMap.1 hv
  simp only [flc43, List.mem_cons, List.not_mem_nil, or_false] at hx
  rcases hx with rfl | rfl <;> rfl
theorem own43 {w : World} {base : Nat} {ok : Nat → Prop} {v : Value} {xs : List S43} (h : Kd.R k43 43 w base ok v xs) : (∀ k, v.ownBlock = some k → ok k) ∧ w.ownsRow base 43 2 v xs.length (xs.flatMap flc43) := R_flat flc43 (fun _ _ h => k43_openM h) h
theorem row43 {w : World} {base : Nat} {ok : Nat → Prop} {v : Value} {xs : List S43} (h0 : ∀ k, v.ownBlock = some k → ok k) (h : w.ownsRow base 43 2 v xs.length (xs.flatMap flc43)) : Kd.R k43 43 w base ok v xs := flat_R flc43 (fun x => k43_mkM _ _ _ x) (fun _ => rfl) h0 h
theorem row_form43 {w : World} {base : Nat} {ok : Nat → Prop} {v : Value} {xs : List S43} (h : Kd.R k43 43 w base ok v xs) (hn : 0 < xs.length) : ∃ g c, v = .slice (some ⟨g, 0, none⟩) xs.length c ∧ xs.length ≤ c ∧ Kd.C k43 w (some ⟨g, 0, none⟩) xs.length xs := by
  obtain ⟨A, c, rfl, hc, hC⟩ := Kd.R_reads h
  obtain ⟨_, _, h2⟩ := own43 h
  rcases h2 with ⟨_, h0⟩ | ⟨g, c', cur, e, _⟩
  · omega
  · injection e with e1 e2 e3
    subst e1
    exact ⟨g, c, rfl, hc, hC⟩
theorem row_C43 {w : World} {base g n c : Nat} {ok : Nat → Prop} {xs : List S43} (h : Kd.R k43 43 w base ok (.slice (some ⟨g, 0, none⟩) n c) xs) : Kd.C k43 w (some ⟨g, 0, none⟩) n xs := by
  obtain ⟨A, c, e, hc, hC⟩ := Kd.R_reads h
  injection e with e1 e2 e3
  subst e1; subst e2
  exact hC
theorem row_old43 {w : World} {g n : Nat} {xs : List S43} (h : Kd.C k43 w (some ⟨g, 0, none⟩) n xs) (i : Nat) (hi : i < n) : ∃ c : List Value, c.length = 2 ∧ ∀ j u, c[j]? = some u → w.cell? ⟨g, (i : Int).toNat * 2 + j, none⟩ = some u := by
  obtain ⟨ad, c, e, _, hK, hc0⟩ := Kd.C_get h z43 (i : Int) (by omega) (by omega)
  cases e
  refine ⟨c, by rw [k43_open hK]; rfl, fun j u hj => ?_⟩
  have := hc0 j u hj
  rw [Addr.add_lit, Nat.zero_add] at this
  exact this
set_option maxHeartbeats 8000000 in
set_option maxRecDepth 100000 in
theorem api_Pair_54.room (g b i n c : Nat) (cur : Array Value) (vs : List Value) (w : World) (hi : i < n) (hroom : n + 1 ≤ c) (hc63 : c ≤ 9223372036854775807) (hcur : cur.size = c * 2) (hvl : vs.length = 2)
    (hg : w.heap[g]? = some (.cells cur 43 (0, 0))) (hb : w.heap[b]? = some (.cells vs.toArray 43 (0, 0))) (hne : b ≠ g) (h1c : ∀ v ∈ cur.toList.take (n * 2), v.oneCell' = true) (h1v : ∀ v ∈ vs, v.oneCell' = true) :
    Calls Try.prog 54 #[.slice (some ⟨g, 0, none⟩) n c, .int .i64 i, .slice (some ⟨b, 0, none⟩) 1 1] w fun e w' => ∃ cur2 : List Value,
      e = .returned (.slice (some ⟨g, 0, none⟩) (n + 1) c) ∧ w' = w.drew.setRow g cur2.toArray ∧ cur2.length = cur.size ∧ cur2.take ((n + 1) * 2) = (cur.toList.take (n * 2)).take (i * 2) ++ vs ++ (cur.toList.take (n * 2)).drop (i * 2) := by
  have hu43 := Try.underlying43
  have hsz : (Try.prog.info? 43).map (·.size) = some 2 := by
    obtain ⟨i0, hi0, h0, h1, h2⟩ := info_parts info43
    rw [hi0]; simp [h1]
  obtain ⟨cs, hcs⟩ : ∃ cs, cs = (cur.toList.drop (i * 2)).take ((n - i) * 2) := ⟨_, rfl⟩
  obtain ⟨cur1, hcur1⟩ : ∃ cur1, cur1 = cur.toList.take ((i + 1) * 2) ++ cs ++ cur.toList.drop ((i + 1) * 2 + cs.length) := ⟨_, rfl⟩
  obtain ⟨cur2, hcur2⟩ : ∃ cur2, cur2 = cur1.take (i * 2) ++ vs ++ cur1.drop (i * 2 + vs.length) := ⟨_, rfl⟩
  obtain ⟨lcs, l1, l2, hins⟩ := ins_room cur.toList vs i n 2 (by omega) hvl (by rw [Array.length_toList]; omega) cs cur1 cur2 hcs hcur1 hcur2
  have lt : cur.toList.length = cur.size := Array.length_toList
  have l1 : cur1.length = cur.size := l1.trans lt
  have l2 : cur2.length = cur.size := l2.trans lt
  clear lt
  have f1 : (i + 1) * 2 + (n - i) * 2 ≤ cur.size := by omega
  have f2 : i * 2 + 2 ≤ cur1.toArray.size := by rw [List.size_toArray, l1]; omega
  have hov : ∀ lb cb, (callFunc 58 #[.slice (some ⟨b, 0, none⟩) 1 1, .slice (some ⟨g, (i + 1) * 2, none⟩) lb cb]).run Try.prog w = .ok (.value (.bool false)) w := fun lb cb => by
    rw [run_callFunc_extern Try.func58 (by kernel_rfl) (by kernel_rfl) (by kernel_rfl) (e := Extern.SlicesOverlaps.overlaps #[23, 23] #[4]) (by kernel_rfl),
      Lib.run_overlaps_apart w 23 4 43 Try.underlying23 2 (fun _ => by kernel_rfl) ⟨b, 0, none⟩ ⟨g, (i + 1) * 2, none⟩ 1 1 lb cb hne 43 43 vs.toArray.size cur.size (shape_of_blk hb) (shape_of_blk hg) (by omega) (frozen_of_blk hb 0) (frozen_of_blk hb _)]
    rfl
  have hcp1 : ∀ ty dc sc, (Builtin.copy_ #[23, 23] ty #[.slice (some ⟨g, (i + 1) * 2, none⟩) (n - i) dc, .slice (some ⟨g, i * 2, none⟩) (n + 1 - i) sc]).run Try.prog w.drew = .ok (goInt (Nat.min (n + 1 - i) (n - i))) (w.drew.setRow g cur1.toArray) := fun ty dc sc => by
    have h := run_copy_rowK (P := Try.prog) w.drew 23 23 ty 43 g ((i + 1) * 2) (n - i) dc ⟨g, i * 2, none⟩ (n + 1 - i) sc cur 43 cs 2 Try.underlying23 hsz hg
      (by rw [lcs, show Nat.min (n + 1 - i) (n - i) = n - i by simp only [Nat.min_def]; split <;> omega])
      (fun j v hj => by
        rw [Addr.add_lit]
        show w.cell? _ = _
        rw [cell_of_blk hg, ← Array.getElem?_toList]
        rw [hcs, List.getElem?_take] at hj
        split at hj
        · rw [List.getElem?_drop] at hj; exact hj
        · cases hj)
      (by rw [lcs]; exact f1)
      (fun v hv => h1c v (by
        rw [hcs] at hv
        have h2 : (cur.toList.drop (i * 2)).take ((n - i) * 2) = (cur.toList.take (n * 2)).drop (i * 2) := by rw [List.drop_take]; congr 1; omega
        rw [h2] at hv
        exact List.mem_of_mem_drop hv))
    rw [← hcur1] at h
    exact h
  have hg1 : ∀ W : World, W = w.drew.setRow g cur1.toArray → W.heap[g]? = some (.cells cur1.toArray 43 (0, 0)) := fun W hW => by rw [hW]; exact setRow_heap w.drew g cur _ 43 _ hg
  have hb1 : ∀ W : World, W = w.drew.setRow g cur1.toArray → W.heap[b]? = some (.cells vs.toArray 43 (0, 0)) := fun W hW => by rw [hW, setRow_other w.drew g _ _ hne]; exact hb
  have hcp2 : ∀ ty dc, (Builtin.copy_ #[23, 23] ty #[.slice (some ⟨g, i * 2, none⟩) (n + 1 - i) dc, .slice (some ⟨b, 0, none⟩) 1 1]).run Try.prog (w.drew.setRow g cur1.toArray) = .ok (goInt (Nat.min 1 (n + 1 - i))) (w.drew.setRow g cur2.toArray) := fun ty dc => by
    have h := run_copy_rowK (P := Try.prog) (w.drew.setRow g cur1.toArray) 23 23 ty 43 g (i * 2) (n + 1 - i) dc ⟨b, 0, none⟩ 1 1 cur1.toArray 43 vs 2 Try.underlying23 hsz (hg1 _ rfl)
      (by rw [hvl, show Nat.min 1 (n + 1 - i) = 1 by simp only [Nat.min_def]; split <;> omega])
      (fun j v hj => by
        rw [Addr.add_lit, cell_of_blk (hb1 _ rfl)]
        simpa using hj)
      (by rw [hvl]; exact f2) h1v
    rw [setRow_setRow, List.toList_toArray, ← hcur2] at h
    exact h
  have hdn : n + 1 - (i + 1) = n - i := by omega
  have hw1 : IntKind.i64.wrap ((i : Int) + 1) = (i : Int) + 1 := by rw [IntKind.wrap_i64]; omega
  have hw2 : IntKind.i64.wrap ((n : Int) + 1) = (n : Int) + 1 := by rw [IntKind.wrap_i64]; omega
  have hb0 : (0 : Int) ≤ (i : Int) + 1 := by omega
  have hin : i ≤ n := by omega
  have htn : ((i : Int) + 1).toNat = i + 1 := by omega
  have htn2 : ((n : Int) + 1).toNat = n + 1 := by omega
  have hz2 : ((i : Int) == (n : Int)) = false := by simp; omega
  have hz3 : decide ((c : Int) < (n : Int) + 1) = false := decide_eq_false (by omega)
  have hb2 : ¬ (c = i + 1) := by omega
  have hb3 : (i : Int) + 1 ≤ (n : Int) + 1 := by omega
  have hb4 : ¬ (c = i) := by omega
  have hb5 : (n : Int) + 1 ≤ (c : Int) := by omega
  have hb6 : (0 : Int) ≤ (n : Int) + 1 := by omega
  have hb7 : (i : Int) ≤ (n : Int) + 1 := by omega
  have X1 := Aside0.mk hcur1
  have X2 := Aside0.mk hcur2
  have X3 := Aside0.mk hcs
  have X4 := Aside0.mk lcs
  have X5 := Aside0.mk l1
  have X6 := Aside0.mk l2
  have X7 := Aside0.mk hins
  have X8 := Aside0.mk hcur
  have X9 := Aside0.mk hdn
  clear f1 f2 hcur1 hcur2 hcs lcs l1 l2 hins hg1 hb1 hcur hdn
  go_enter Try.func54, Try.ntmps54
  go_wp2_with (simp only [hov])
  go_region_law (refine step_copy_run rfl _ _ 23 23 rfl _ _ (by simp [Act.eval, Act.put]) (by simp [Act.eval, Act.put]) (hcp1 _ _ _) ?_)
  go_wp2_with (at_builtin; refine wpList_copy_run _ rfl _ _ 23 23 rfl _ _ rfl rfl (hcp2 _ _) ?_)
  go_ret
  exact ⟨cur2, rfl, rfl, X6.out, X7.out⟩
set_option maxHeartbeats 8000000 in
set_option maxRecDepth 100000 in
theorem api_Pair_54.grow (g b i n c : Nat) (cur : Array Value) (vs : List Value) (w : World) (hi : i < n) (hnc : n ≤ c) (hroom : c < n + 1) (hbig : (n + 1) * 32 ≤ 140737488355328) (hcur : cur.size = c * 2) (hvl : vs.length = 2)
    (hg : w.heap[g]? = some (.cells cur 43 (0, 0))) (hb : w.heap[b]? = some (.cells vs.toArray 43 (0, 0))) (hne : b ≠ g) (h1c : ∀ v ∈ cur.toList.take (n * 2), v.oneCell' = true) (h1v : ∀ v ∈ vs, v.oneCell' = true) :
    Calls Try.prog 54 #[.slice (some ⟨g, 0, none⟩) n c, .int .i64 i, .slice (some ⟨b, 0, none⟩) 1 1] w fun e w' => ∃ (G : Nat) (cur2 : List Value),
      e = .returned (.slice (some ⟨w.heap.size, 0, none⟩) (n + 1) G) ∧ n + 1 ≤ G ∧ G ≤ maxLen ∧ (∃ W : World, W.heap.size = w.heap.size + 1 ∧ Below w.heap.size w W ∧ W.heap[w.heap.size]? = some (.cells cur2.toArray 43 (0, 0)) ∧ w' = W) ∧ cur2.length = G * 2 ∧ cur2.take ((n + 1) * 2) = (cur.toList.take (n * 2)).take (i * 2) ++ vs ++ (cur.toList.take (n * 2)).drop (i * 2) := by
  have hu43 := Try.underlying43
  obtain ⟨i0, hi0, hz0, hzs, hzb⟩ := info_parts info43
  have hsz : (Try.prog.info? 43).map (·.size) = some 2 := by rw [hi0]; simp [hzs]
  have hgw : g < w.heap.size := (Array.getElem?_eq_some_iff.1 hg).1
  have hbw : b < w.heap.size := (Array.getElem?_eq_some_iff.1 hb).1
  have hkk : (n : Int) + 1 - (i : Int) = ((n + 1 - i : Nat) : Int) := by omega
  have hik : i + (n + 1 - i) = n + 1 := by omega
  have hold : (Builtin.firstCells i0.size i (.slice (some ⟨g, 0, none⟩) i c)).run Try.prog w.drew = .ok (cur.toList.take (i * 2)).toArray w.drew := by
    rw [hzs]
    exact run_firstCells_some w.drew 2 i ⟨g, 0, none⟩ i c (cur.toList.take (i * 2)) (by rw [List.length_take, Array.length_toList]; omega) (fun j v hj => by
      rw [Addr.add_lit]
      show w.cell? _ = _
      rw [cell_of_blk hg, ← Array.getElem?_toList, Nat.zero_add]
      rw [List.getElem?_take] at hj
      split at hj
      · exact hj
      · cases hj)
  obtain ⟨G, hG⟩ : ∃ G, G = grownCap w (n + 1) c 43 := ⟨_, rfl⟩
  obtain ⟨Z, hZ⟩ : ∃ Z, Z = ((.agg #[(.string ⟨#[]⟩), (.string ⟨#[]⟩)]) : Value) := ⟨_, rfl⟩
  have hzc : Z.cells.size = 2 := by rw [hZ]; rfl
  rw [← hZ] at hz0
  obtain ⟨ROW, hROW⟩ : ∃ ROW : Array Value, ROW = (cur.toList.take (i * 2)).toArray ++ Builtin.zeroCells Z.cells (n + 1 - i) ++ Builtin.zeroCells Z.cells (G - (n + 1)) := ⟨_, rfl⟩
  have hrz : ∀ ty, (Builtin.append_ #[23, 3] ty #[.slice (some ⟨g, 0, none⟩) i c, .int .i64 ((n : Int) + 1 - (i : Int))]).run Try.prog w =
      .ok (.slice (some ⟨w.heap.size, 0, none⟩) (n + 1) G) (w.drew.alloc (.cells ROW 43)) := fun ty => by
    have h := Lib.run_append_grow_zeros w 23 3 ty 43 i0 Z .i64 .i64 Try.underlying23 Try.underlying3 hi0 hz0 (some ⟨g, 0, none⟩) i c (cur.toList.take (i * 2)) hold (n + 1 - i) (by omega) (by omega) (by omega) (by omega) (by rw [hzb]; omega) (by rw [hzb, hik]; exact growslice_fits hroom hbig)
    rw [hik, ← hG, ← hROW] at h
    rw [hkk]
    exact h
  have hGn : n + 1 ≤ G := by rw [hG]; exact grownCap_ge w _ _ _
  have hGm : G ≤ maxLen := by rw [hG]; exact grownCap_le_maxLen w _ _ _ (by unfold maxLen; omega)
  have hG63 : G ≤ 9223372036854775807 := by have := hGm; unfold maxLen at this; omega
  have hRsz : ROW.size = G * 2 := by
    rw [hROW, Array.size_append, Array.size_append, zero_size, zero_size, hzc, List.size_toArray, List.length_take, Array.length_toList]
    omega
  have hRA : ROW.toList.take (i * 2) = cur.toList.take (i * 2) := by
    rw [hROW, Array.toList_append, Array.toList_append, List.append_assoc]
    exact List.take_left' (by simp only [List.length_take, Array.length_toList]; omega)
  obtain ⟨RA, hcA⟩ : ∃ RA, RA = ROW.toList.take (i * 2) ++ vs ++ ROW.toList.drop (i * 2 + vs.length) := ⟨_, rfl⟩
  obtain ⟨cs, hcs⟩ : ∃ cs, cs = (cur.toList.drop (i * 2)).take ((n - i) * 2) := ⟨_, rfl⟩
  obtain ⟨RB, hcB⟩ : ∃ RB, RB = RA.take ((i + 1) * 2) ++ cs ++ RA.drop ((i + 1) * 2 + cs.length) := ⟨_, rfl⟩
  have lR : ROW.toList.length = G * 2 := Array.length_toList.trans hRsz
  obtain ⟨lcs, l1, l2, hins⟩ := ins_grow cur.toList vs ROW.toList i n 2 (by omega) hvl (by rw [Array.length_toList]; omega) (by rw [lR]; omega) hRA cs RA RB hcs hcA hcB
  have l1 : RA.length = G * 2 := l1.trans lR
  have l2 : RB.length = G * 2 := l2.trans lR
  have f1 : i * 2 + 2 ≤ ROW.size := by omega
  have f2 : (i + 1) * 2 + (n - i) * 2 ≤ RA.toArray.size := by
    rw [show RA.toArray.size = RA.length from rfl, l1]
    omega
  have hN : ∀ W : World, W.heap = (w.alloc (.cells ROW 43)).heap → W.heap[w.heap.size]? = some (.cells ROW 43 (0, 0)) := fun W hW => by rw [hW]; exact heap_alloc_new w _
  have hold2 : ∀ k, k < w.heap.size → (w.alloc (.cells ROW 43)).heap[k]? = w.heap[k]? := fun k hk => heap_alloc_old w _ hk
  have hcpA : ∀ (W : World), W.heap = (w.alloc (.cells ROW 43)).heap → ∀ ty dc, (Builtin.copy_ #[23, 23] ty #[.slice (some ⟨w.heap.size, i * 2, none⟩) (n + 1 - i) dc, .slice (some ⟨b, 0, none⟩) 1 1]).run Try.prog W = .ok (goInt (Nat.min 1 (n + 1 - i))) (W.setRow w.heap.size RA.toArray) := fun W hW ty dc => by
    have h := run_copy_rowK (P := Try.prog) W 23 23 ty 43 w.heap.size (i * 2) (n + 1 - i) dc ⟨b, 0, none⟩ 1 1 ROW 43 vs 2 Try.underlying23 hsz (hN W hW)
      (by rw [hvl, show Nat.min 1 (n + 1 - i) = 1 by simp only [Nat.min_def]; split <;> omega])
      (fun j v hj => by
        have hb2 : W.heap[b]? = some (.cells vs.toArray 43 (0, 0)) := by rw [hW, hold2 b hbw]; exact hb
        rw [Addr.add_lit, cell_of_blk hb2]
        simpa using hj)
      (by rw [hvl]; exact f1) h1v
    rw [← hcA] at h
    exact h
  have hcpB : ∀ (W : World), W.heap = ((w.alloc (.cells ROW 43)).setRow w.heap.size RA.toArray).heap → ∀ ty dc sc, (Builtin.copy_ #[23, 23] ty #[.slice (some ⟨w.heap.size, (i + 1) * 2, none⟩) (n - i) dc, .slice (some ⟨g, i * 2, none⟩) (n - i) sc]).run Try.prog W = .ok (goInt (Nat.min (n - i) (n - i))) (W.setRow w.heap.size RB.toArray) := fun W hW ty dc sc => by
    have hNW : W.heap[w.heap.size]? = some (.cells RA.toArray 43 (0, 0)) := by rw [hW]; exact setRow_heap _ _ ROW _ 43 _ (hN _ rfl)
    have hgW : W.heap[g]? = some (.cells cur 43 (0, 0)) := by rw [hW, setRow_other _ _ _ _ (by omega), hold2 g hgw]; exact hg
    have h := run_copy_rowK (P := Try.prog) W 23 23 ty 43 w.heap.size ((i + 1) * 2) (n - i) dc ⟨g, i * 2, none⟩ (n - i) sc RA.toArray 43 cs 2 Try.underlying23 hsz hNW
      (by rw [lcs]; congr 1; simp only [Nat.min_def]; split <;> rfl)
      (fun j v hj => by
        rw [Addr.add_lit, cell_of_blk hgW, ← Array.getElem?_toList]
        rw [hcs, List.getElem?_take] at hj
        split at hj
        · rw [List.getElem?_drop] at hj; exact hj
        · cases hj)
      (by rw [lcs]; exact f2)
      (fun v hv => h1c v (by
        rw [hcs] at hv
        have h2 : (cur.toList.drop (i * 2)).take ((n - i) * 2) = (cur.toList.take (n * 2)).drop (i * 2) := by rw [List.drop_take]; congr 1; omega
        rw [h2] at hv
        exact List.mem_of_mem_drop hv))
    rw [List.toList_toArray, ← hcB] at h
    exact h
  have hA2 := hcpA ((w.alloc (.cells ROW 43)).drew) rfl
  have hB2 := hcpB (((w.alloc (.cells ROW 43)).drew.setRow w.heap.size RA.toArray).drew) rfl
  clear hcpA hcpB
  have hw1 : IntKind.i64.wrap ((i : Int) + 1) = (i : Int) + 1 := by rw [IntKind.wrap_i64]; omega
  have hw2 : IntKind.i64.wrap ((n : Int) + 1) = (n : Int) + 1 := by rw [IntKind.wrap_i64]; omega
  have hb0 : (0 : Int) ≤ (i : Int) + 1 := by omega
  have hin : i ≤ n := by omega
  have htn : ((i : Int) + 1).toNat = i + 1 := by omega
  have hz2 : ((i : Int) == (n : Int)) = false := by simp; omega
  have hz3 : decide ((c : Int) < (n : Int) + 1) = true := decide_eq_true (by omega)
  have hb2 : ¬ (G = i + 1) := by omega
  have hb3 : (i : Int) + 1 ≤ (n : Int) + 1 := by omega
  have hb4 : ¬ (c = i) := by omega
  have hb5 : ¬ (G = i) := by omega
  have hb7 : (i : Int) ≤ (n : Int) + 1 := by omega
  have hb8 : (i : Int) ≤ (n : Int) := by omega
  have X1 := Aside0.mk hins
  have X2 := Aside0.mk l2
  have X3 := Aside0.mk hN
  have X4 := Aside0.mk hold2
  have X5 := Aside0.mk hGm
  clear hins l1 l2 lR lcs hcs hcA hcB hRA hRsz hROW hG hkk hik hold f1 f2 hN hold2 hzc hZ hz0 hGm hzs hzb
  go_enter Try.func54, Try.ntmps54
  go_wp2_with (first
    | (at_builtin; refine wpList_append_run _ rfl _ _ _ _ rfl _ _ rfl rfl (hrz _) ?_)
    | (at_builtin; refine wpList_copy_run _ rfl _ _ 23 23 rfl _ _ rfl rfl (hA2 _ _) ?_))
  go_region_law (refine step_copy_run rfl _ _ 23 23 rfl _ _ (by simp [Act.eval, Act.put]) (by simp [Act.eval, Act.put]) (hB2 _ _ _) ?_)
  go_wp2
  go_ret
  exact ⟨G, RB, rfl, hGn, X5.out, ⟨_, by simp [World.setRow], below_setRow (Below.drew (below_setRow (Below.drew (Below.alloc (Below.refl _ _) (Nat.le_refl _) _)) (Nat.le_refl _) _)) (Nat.le_refl _) _, setRow_heap _ _ RA.toArray _ 43 _ (setRow_heap (w.alloc (.cells ROW 43)).drew _ ROW _ 43 _ (heap_alloc_new w _)), rfl⟩, X2.out, X1.out⟩
theorem api_Pair_54.calls (base b i : Nat) (u : Value) (l0 : List S43) (x : S43) (w0 w : World) (hr : Kd.R k43 43 w base (fun _ => True) u l0) (hi : i < l0.length) (hbig : (l0.length + 1) * 32 ≤ 140737488355328)
    (hb : w.heap[b]? = some (.cells (flc43 x).toArray 43 (0, 0))) (hne : some b ≠ u.ownBlock) (HB : Below base w0 w) (hbase : base ≤ w.heap.size) :
    Calls Try.prog 54 #[u, .int .i64 i, .slice (some ⟨b, 0, none⟩) 1 1] w fun e w' => ∃ v', e = .returned v' ∧ Kd.R k43 43 w' base (fun _ => True) v' (l0.take i ++ x :: l0.drop i) ∧ Below base w0 w' := by
  obtain ⟨-, h1, h2⟩ := own43 hr
  have hlen : (l0.take i ++ x :: l0.drop i).length = l0.length + 1 := by simp only [List.length_append, List.length_cons, List.length_take, List.length_drop]; omega
  have hfl : (l0.take i ++ x :: l0.drop i).flatMap flc43 = ((l0.flatMap flc43).take (i * 2)) ++ flc43 x ++ ((l0.flatMap flc43).drop (i * 2)) := by
    rw [flat_take flc43 flc43_len, flat_drop flc43 flc43_len, List.flatMap_append, List.flatMap_cons, List.append_assoc]
  rcases h2 with ⟨_, h0⟩ | ⟨g, c, cur, rfl, hg, hh, hnc, hcm, hcs, htk⟩
  · omega
  have hcm' : c ≤ 9223372036854775807 := by unfold maxLen at hcm; omega
  have h1c : ∀ v ∈ cur.toList.take (l0.length * 2), v.oneCell' = true := by rw [htk]; exact flc43_one l0
  have h1v : ∀ v ∈ flc43 x, v.oneCell' = true := by have := flc43_one [x]; simpa using this
  have hbg : b ≠ g := fun e => hne (by rw [e]; rfl)
  have lt2 : l0.length * 2 = (l0.flatMap flc43).length := (flat_len flc43 flc43_len l0).symm
  by_cases hroom : l0.length + 1 ≤ c
  · refine (api_Pair_54.room g b i l0.length c cur (flc43 x) w hi hroom hcm' hcs rfl hh hb hbg h1c h1v).mono ?_
    rintro e w' ⟨cur2, rfl, rfl, hl2, ht2⟩
    refine ⟨_, rfl, row43 (fun _ _ => trivial) ⟨?_, .inr ⟨g, c, cur2.toArray, ?_, hg, setRow_heap w.drew g cur _ 43 _ hh, ?_, hcm, ?_, ?_⟩⟩, ?_⟩
    · exact flat_len flc43 flc43_len _
    · rw [hlen]
    · rw [hlen]; exact hroom
    · rw [List.size_toArray, hl2, hcs]
    · rw [hlen, List.toList_toArray, ht2, hfl, htk]
    · exact HB.trans (below_setRow (Below.drew (Below.refl _ _)) hg _)
  · refine (api_Pair_54.grow g b i l0.length c cur (flc43 x) w hi hnc (by omega) hbig hcs rfl hh hb hbg h1c h1v).mono ?_
    rintro e w' ⟨G, cur2, rfl, hG, hGm, ⟨W, hWs, hWb, hWh, rfl⟩, hl2, ht2⟩
    refine ⟨_, rfl, row43 (fun _ _ => trivial) ⟨?_, .inr ⟨w.heap.size, G, cur2.toArray, ?_, hbase, hWh, ?_, hGm, ?_, ?_⟩⟩, ?_⟩
    · exact flat_len flc43 flc43_len _
    · rw [hlen]
    · rw [hlen]; exact hG
    · rw [List.size_toArray, hl2]
    · rw [hlen, List.toList_toArray, ht2, hfl, htk]
    · exact HB.trans (hWb.mono hbase)

end Go.Proofs.Ytbkfmicnjnklnaa.PC
