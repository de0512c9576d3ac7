/- What the table functions of the program come to in plain words: strings' order, search, put, drop, writes, range; what keeps a row right. -/
import Derived.Test.YtbhkopbalhhpgaaPYx3
import Derived.Test.YtbhkopbalhhpgaaPYx4
import Derived.Test.YtbhkopbalhhpgaaPYx5
import Derived.Laws.Strings
import Derived.WideShapes
import Derived.Laws.BitsLemmas
namespace Go.Proofs.Ytbhkopbalhhpgaa.PY
open Go.RowKit Go.Proofs.YtbhkopbalhhpgaaW.PrintWords
set_option linter.unusedVariables false
set_option linter.unusedSimpArgs false

theorem str_data (a : ByteArray) : a.toList = a.data.toList := ByteArray.toList_eq a
theorem str_ext {a b : ByteArray} (h : a.toList = b.toList) : a = b := WideShapes.bytes_inj (by rw [← str_data, ← str_data]; exact h)
theorem str_len (a : ByteArray) : a.toList.length = a.size := by rw [str_data, Array.length_toList]; rfl
theorem bl_trans : ∀ x y z, Op.bytesLess x y = true → Op.bytesLess y z = true → Op.bytesLess x z = true
 | x, [], z, h, _ => by simp [Op.bytesLess] at h
 | x, b :: y, [], _, h => by simp [Op.bytesLess] at h
 | [], b :: y, c :: z, _, _ => rfl
 | a :: x, b :: y, c :: z, h1, h2 => by
  simp only [Op.bytesLess, Bool.or_eq_true, decide_eq_true_eq, Bool.and_eq_true, beq_iff_eq, UInt8.lt_iff_toNat_lt] at h1 h2 ⊢
  rcases h1 with h1 | ⟨rfl, h1⟩
  ·rcases h2 with h2 | ⟨rfl, h2⟩
   ·exact .inl (by omega)
   ·exact .inl h1
  ·rcases h2 with h2 | ⟨rfl, h2⟩
   ·exact .inl h2
   ·exact .inr ⟨rfl, bl_trans x y z h1 h2⟩
theorem bl_total : ∀ x y, Op.bytesLess x y = false → Op.bytesLess y x = false → x = y
 | [], [], _, _ => rfl
 | [], b :: y, h, _ => by simp [Op.bytesLess] at h
 | a :: x, [], _, h => by simp [Op.bytesLess] at h
 | a :: x, b :: y, h1, h2 => by
  simp only [Op.bytesLess, Bool.or_eq_false_iff, decide_eq_false_iff_not, Bool.and_eq_false_iff, beq_eq_false_iff_ne, UInt8.lt_iff_toNat_lt] at h1 h2
  have e : a = b := UInt8.toNat_inj.1 (by omega)
  subst e
  rw [bl_total x y (h1.2.elim (fun h => absurd rfl h) id) (h2.2.elim (fun h => absurd rfl h) id)]
def ltS (a b : ByteArray) : Bool := Op.bytesLess a.toList b.toList
theorem ltS_trans {a b c : ByteArray} (h : ltS a b = true) (h2 : ltS b c = true) : ltS a c = true := bl_trans _ _ _ h h2
theorem ltS_total {a b : ByteArray} (h : ltS a b = false) (h2 : ltS b a = false) : a = b := str_ext (bl_total _ _ h h2)
theorem lt_of_lt_le {a b c : ByteArray} (h : ltS a b = true) (h2 : ltS c b = false) : ltS a c = true := by
 cases e : ltS b c with
 | true => exact ltS_trans h e
 | false => rw [ltS_total h2 e]; exact h
theorem le_trans {a b c : ByteArray} (h : ltS b a = false) (h2 : ltS c b = false) : ltS c a = false := by
 cases e : ltS c a with
 | false => rfl
 | true => have := lt_of_lt_le e h; rw [h2] at this; cases this
theorem bt_get (a : ByteArray) (i : Nat) (h : i < a.toList.length) : bt a (i : Int) = ((a.toList[i]).toNat : Int) := by
 have h' : i < a.size := by rw [← str_len]; exact h
 unfold bt
 rw [dif_pos (by simpa using h')]
 have : a.toList[i] = a[i] := by
  simp only [str_data]
  rfl
 rw [this]
 rfl
theorem wrap_succ (i : Nat) (h : i < 4611686018427387904) : wrap64 ((i : Int) + 1) = ((i + 1 : Nat) : Int) := by unfold wrap64; omega
theorem ix_hit {α : Type} (p : α → Bool) (A : List α) (x : α) (C : List α) (hA : ∀ y ∈ A, p y = false) (hx : p x = true) : ixOf p (A ++ x :: C) = (A.length : Int) := by
 have e : (A ++ x :: C).findIdx p = A.length := by
  rw [List.findIdx_append, if_neg]
  ·simp [List.findIdx_cons, hx]
  ·rw [List.findIdx_lt_length]
   rintro ⟨y, hy, hp⟩
   rw [hA y hy] at hp; cases hp
 unfold ixOf
 rw [e, if_pos (by simp)]
theorem ix_miss {α : Type} (p : α → Bool) (l : List α) (h : ∀ y ∈ l, p y = false) : ixOf p l = -1 := by
 unfold ixOf
 rw [if_neg]
 rw [List.findIdx_lt_length]
 rintro ⟨y, hy, hp⟩
 rw [h y hy] at hp; cases hp
theorem ix_split {α : Type} (p : α → Bool) : ∀ l : List α, (∀ y ∈ l, p y = false) ∨ ∃ A x C, l = A ++ x :: C ∧ (∀ y ∈ A, p y = false) ∧ p x = true
 | [] => .inl (fun y hy => by cases hy)
 | x :: l => by
  cases hx : p x with
  | true => exact .inr ⟨[], x, l, rfl, (fun y hy => by cases hy), hx⟩
  | false =>
   rcases ix_split p l with h | ⟨A, y, C, rfl, hA, hy⟩
   ·exact .inl (fun y hy => (List.mem_cons.1 hy).elim (fun e => e ▸ hx) (h y))
   ·exact .inr ⟨x :: A, y, C, rfl, fun z hz => (List.mem_cons.1 hz).elim (fun e => e ▸ hx) (hA z), hy⟩
theorem ev_eq {α : Type} {g : Nat → Option α} {r s : α} (h : Ev g r) (e : r = s) : Ev g s := e ▸ h
def isD (b : UInt8) : Bool := decide (48 ≤ b.toNat) && decide (b.toNat ≤ 57)
def valD : List UInt8 → Nat → Option Nat
  | [], v => some v
  | b :: r, v => if 18446744073709551616 ≤ 10 * v + (b.toNat - 48) then none else valD r (10 * v + (b.toNat - 48))
def mkB (l : List UInt8) : ByteArray := ⟨l.toArray⟩
theorem mkB_list (l : List UInt8) : (mkB l).toList = l := by rw [str_data]; rfl
theorem mkB_self (s : ByteArray) : mkB s.toList = s := str_ext (mkB_list _)
theorem mkB_size (l : List UInt8) : (mkB l).size = l.length := by rw [← str_len, mkB_list]
theorem ext_list (s : ByteArray) (i j : Nat) : (s.extract i j).toList = (s.toList.drop i).take (j - i) := by
 rw [str_data, str_data, ByteArray.data_extract, Array.toList_extract, List.extract]
theorem ext_drop (s : ByteArray) (i : Nat) : s.extract i s.size = mkB (s.toList.drop i) := by
 refine str_ext ?_
 rw [ext_list, mkB_list, List.take_of_length_le (by rw [List.length_drop, str_len]; exact Nat.le_refl _)]
theorem ext_take (s : ByteArray) (i : Nat) : s.extract 0 i = mkB (s.toList.take i) := by
 refine str_ext ?_
 rw [ext_list, mkB_list]; rfl
theorem app_list (a b : ByteArray) : (a ++ b).toList = a.toList ++ b.toList := by
 rw [str_data, str_data, str_data, ByteArray.data_append, Array.toList_append]
def nd (l : List UInt8) : Nat := (l.takeWhile isD).length
def fin (l : List UInt8) : Option Nat → Nat × List UInt8 × Int
  | none => (0, [], 3)
  | some v => if l.length ≤ nd l then (0, [], 2) else if l[nd l]? = some 59 ∧ nd l ≠ 0 then (v, l.drop (nd l + 1), 0) else (0, [], 3)
theorem fin_some (l : List UInt8) (v : Nat) : fin l (some v) = if l.length ≤ nd l then (0, [], 2) else if l[nd l]? = some 59 ∧ nd l ≠ 0 then (v, l.drop (nd l + 1), 0) else (0, [], 3) := rfl
def tn (l : List UInt8) : Nat × List UInt8 × Int :=
  if 20 < nd l ∨ (1 < nd l ∧ l.head? = some 48) then (0, [], 3) else fin l (valD (l.take (nd l)) 0)
abbrev toB (x : Nat × List UInt8 × Int) : Int × ByteArray × Int := ((x.1 : Int), mkB x.2.1, x.2.2)
def tnB (s : ByteArray) : Int × ByteArray × Int := toB (tn s.toList)
theorem nd_le : ∀ l : List UInt8, nd l ≤ l.length
 | [] => Nat.le_refl _
 | b :: r => by
  unfold nd
  rw [List.takeWhile_cons]
  have := nd_le r
  unfold nd at this
  split
  ·simp only [List.length_cons]; omega
  ·simp
theorem nd_digits : ∀ (l : List UInt8) (x : UInt8), x ∈ l.take (nd l) → isD x = true
 | [], x, h => by simp [nd] at h
 | b :: r, x, h => by
  unfold nd at h
  rw [List.takeWhile_cons] at h
  split at h
  ·rename_i hb
   rw [List.length_cons, List.take_succ_cons] at h
   rcases List.mem_cons.1 h with rfl | h
   ·exact hb
   ·exact nd_digits r x h
  ·simp at h
theorem isD_nat {b : UInt8} (h : isD b = true) : 48 ≤ b.toNat ∧ b.toNat ≤ 57 := by
 unfold isD at h
 simpa using h
theorem isD_not {b : UInt8} (h : isD b = false) : b.toNat < 48 ∨ 57 < b.toNat := by
 unfold isD at h
 simp only [Bool.and_eq_false_iff, decide_eq_false_iff_not] at h
 omega
theorem u64w (v : Int) : IntKind.u64.wrap v = v % 18446744073709551616 := rfl
theorem bt0 (s : ByteArray) (h : 0 < s.toList.length) : (bt s 0 == 48) = decide (s.toList.head? = some 48) := by
 have e := bt_get s 0 h
 have e2 : bt s 0 = bt s ((0 : Nat) : Int) := rfl
 rw [e2, e, List.head?_eq_getElem?, List.getElem?_eq_getElem h]
 by_cases hq : s.toList[0] = 48
 ·rw [hq]; rfl
 ·have hn : ¬ (((s.toList[0]).toNat : Int) = 48) := fun he => hq (UInt8.toNat_inj.1 (by have : (48 : UInt8).toNat = 48 := rfl; omega))
  rw [beq_eq_false_iff_ne.2 hn]
  simp [hq]
theorem bt59 (s : ByteArray) (n : Nat) (h : n < s.toList.length) : (bt s (n : Int) = 59) ↔ s.toList[n]? = some 59 := by
 rw [bt_get s n h, List.getElem?_eq_getElem h, Option.some.injEq]
 constructor
 ·intro he; exact UInt8.toNat_inj.1 (by have : (59 : UInt8).toNat = 59 := rfl; omega)
 ·intro he; rw [he]; rfl
theorem told_l0 (x : ByteArray) (hd : ∀ b ∈ x.toList, isD b = true) (hl : x.toList.length < 4611686018427387904) : ∀ (n i v : Nat), x.toList.length - i ≤ n → i ≤ x.toList.length → v < 18446744073709551616 →
  Ev (fun k => dec_told.l0 k x (v : Int) (x.size : Int) (i : Int)) (match valD (x.toList.drop i) v with | none => (0, false) | some u => ((u : Int), true)) := by
 have hz := str_len x
 intro n
 have done : ∀ i v : Nat, x.toList.length ≤ i → Ev (fun k => dec_told.l0 k x (v : Int) (x.size : Int) (i : Int)) (match valD (x.toList.drop i) v with | none => (0, false) | some u => ((u : Int), true)) := fun i v h => by
  rw [List.drop_of_length_le h]
  exact Ev.step (f := fun k => some ((v : Int), true)) (fun k => by simp only [dec_told.l0]; rw [if_neg (by omega)]) (Ev.now _)
 induction n with
 | zero => intro i v hn hi hv; exact done i v (by omega)
 | succ n ih =>
  intro i v hn hi hv
  rcases Nat.lt_or_ge i x.toList.length with h | h
  ·rw [List.drop_eq_getElem_cons h]
   obtain ⟨b, hb⟩ : ∃ b, b = x.toList[i] := ⟨_, rfl⟩
   have hD := isD_nat (hd _ (List.getElem_mem h))
   have hbt := bt_get x i h
   rw [← hb] at hD hbt ⊢
   have hdd : ((bt x (i : Int)) - 48) % 256 = ((b.toNat - 48 : Nat) : Int) := by rw [hbt]; omega
   unfold valD
   by_cases ho : 18446744073709551616 ≤ 10 * v + (b.toNat - 48)
   ·rw [if_pos ho]
    refine Ev.step (f := fun k => some (0, false)) (fun k => ?_) (Ev.now _)
    simp only [dec_told.l0]
    rw [if_pos (by omega), if_pos (by omega), if_pos (by omega), hdd, if_pos (by omega)]
   ·rw [if_neg ho]
    refine Ev.step (f := fun k => dec_told.l0 k x ((10 * v + (b.toNat - 48) : Nat) : Int) (x.size : Int) ((i + 1 : Nat) : Int)) (fun k => ?_) (ih (i + 1) _ (by omega) h (by omega))
    simp only [dec_told.l0]
    rw [if_pos (by omega), if_pos (by omega), if_pos (by omega), hdd, if_neg (by omega), wrap_succ i (by omega), u64w, u64w]
    congr 1
    omega
  ·exact done i v h
theorem dec_l0 (s : ByteArray) (R : Int × ByteArray × Int) (hl : s.toList.length < 4611686018427387904) (hj : Ev (fun k => dec_TakeNum.j1 k s ((nd s.toList : Nat) : Int)) R) : ∀ (n i : Nat), s.toList.length - i ≤ n → i ≤ s.toList.length →
  nd s.toList = i + ((s.toList.drop i).takeWhile isD).length → Ev (fun k => dec_TakeNum.l0 k s (i : Int)) R := by
 have hz := str_len s
 intro n
 have done : ∀ i : Nat, s.toList.length ≤ i → nd s.toList = i + ((s.toList.drop i).takeWhile isD).length → Ev (fun k => dec_TakeNum.l0 k s (i : Int)) R := fun i h e => by
  rw [List.drop_of_length_le h] at e
  have e : nd s.toList = i := by simpa using e
  rw [e] at hj
  exact Ev.step (fun k => by simp only [dec_TakeNum.l0]; rw [if_neg (by omega)]) hj
 induction n with
 | zero => intro i hn hi e; exact done i (by omega) e
 | succ n ih =>
  intro i hn hi e
  rcases Nat.lt_or_ge i s.toList.length with h | h
  ·have hbt := bt_get s i h
   rw [List.drop_eq_getElem_cons h, List.takeWhile_cons] at e
   by_cases hb : isD (s.toList[i]) = true
   ·rw [if_pos hb, List.length_cons] at e
    have hD := isD_nat hb
    refine Ev.step (f := fun k => dec_TakeNum.l0 k s ((i + 1 : Nat) : Int)) (fun k => ?_) (ih (i + 1) (by omega) h (by omega))
    simp only [dec_TakeNum.l0]
    rw [if_pos (by omega), if_pos (by omega), hbt, if_neg (by omega), if_neg (by omega), wrap_succ i (by omega)]
   ·rw [if_neg hb] at e
    have e : nd s.toList = i := by simpa using e
    rw [e] at hj
    have hD := isD_not (by simpa using hb)
    refine Ev.step (fun k => ?_) hj
    simp only [dec_TakeNum.l0]
    rw [if_pos (by omega), if_pos (by omega), hbt]
    by_cases h1 : (((s.toList[i]).toNat : Nat) : Int) < 48
    ·rw [if_pos h1]
    ·rw [if_neg h1, if_pos (by omega)]
  ·exact done i h e
theorem takeNum_ev (s : ByteArray) (hl : s.toList.length < 4611686018427387904) : Ev (fun k => dec_TakeNum.f k s) (tnB s) := by
 have hz := str_len s
 have hn := nd_le s.toList
 unfold dec_TakeNum.f
 refine dec_l0 s _ hl ?_ s.toList.length 0 (by omega) (by omega) (by simp [nd])
 unfold tnB tn
 by_cases h20 : 20 < nd s.toList
 ·rw [if_pos (.inl h20)]
  exact Ev.step (f := fun k => some (0, (⟨#[]⟩ : ByteArray), 3)) (fun k => by simp only [dec_TakeNum.j1]; rw [if_pos (by omega)]) (Ev.now _)
 ·have hx : s.extract 0 ((nd s.toList : Nat) : Int).toNat = mkB (s.toList.take (nd s.toList)) := by rw [Int.toNat_natCast, ext_take]
  have htold : Ev (fun k => dec_told.f k (mkB (s.toList.take (nd s.toList)))) (match valD (s.toList.take (nd s.toList)) 0 with | none => (0, false) | some u => ((u : Int), true)) := by
   unfold dec_told.f
   have := told_l0 (mkB (s.toList.take (nd s.toList))) (fun b hb => nd_digits _ _ (by rwa [mkB_list] at hb)) (by rw [mkB_list, List.length_take]; omega) (s.toList.take (nd s.toList)).length 0 0 (by rw [mkB_list]; omega) (by omega) (by omega)
   rw [List.drop_zero, mkB_list] at this
   exact this
  have j2z : ∀ (v : Int) (is : Bool), Ev (fun k => dec_TakeNum.j2 k s ((nd s.toList : Nat) : Int) v is true) (toB (0, [], 3)) := fun v is =>
   Ev.step (f := fun k => some (0, (⟨#[]⟩ : ByteArray), 3)) (fun k => by simp only [dec_TakeNum.j2]; rw [if_pos trivial]) (Ev.now _)
  have j2f : ∀ (v : Int), Ev (fun k => dec_TakeNum.j2 k s ((nd s.toList : Nat) : Int) v false false) (toB (0, [], 3)) := fun v =>
   Ev.step (f := fun k => some (0, (⟨#[]⟩ : ByteArray), 3)) (fun k => by simp only [dec_TakeNum.j2]; rw [if_neg (by decide), if_neg (by decide)]) (Ev.now _)
  have j2t : ∀ u : Nat, Ev (fun k => dec_TakeNum.j2 k s ((nd s.toList : Nat) : Int) (u : Int) true false) (toB (fin s.toList (some u))) := fun u => by
   have j3t : Ev (fun k => dec_TakeNum.j3 k s ((nd s.toList : Nat) : Int) (u : Int) true) (toB (0, [], 3)) :=
    Ev.step (f := fun k => some (0, (⟨#[]⟩ : ByteArray), 3)) (fun k => by simp only [dec_TakeNum.j3]; rw [if_pos trivial]) (Ev.now _)
   rw [fin_some]
   rcases Nat.lt_or_ge (nd s.toList) s.toList.length with h | h
   ·rw [if_neg (by omega)]
    by_cases h0 : nd s.toList = 0
    ·rw [if_neg (fun q => q.2 h0)]
     refine Ev.step (fun k => ?_) j3t
     simp only [dec_TakeNum.j2]
     rw [if_neg (by decide), if_pos trivial, if_pos (by omega), if_pos (by omega)]
    ·by_cases h59 : s.toList[nd s.toList]? = some 59
     ·rw [if_pos ⟨h59, h0⟩]
      refine Ev.step (f := fun k => dec_TakeNum.j3 k s ((nd s.toList : Nat) : Int) (u : Int) false) (fun k => ?_) (Ev.step (f := fun k => some ((u : Int), mkB (s.toList.drop (nd s.toList + 1)), 0)) (fun k => ?_) (Ev.now _))
      ·simp only [dec_TakeNum.j2]
       rw [if_neg (by decide), if_pos trivial, if_pos (by omega), if_neg (by omega), if_pos (by omega), (bt59 s _ h).2 h59]
       rfl
      ·simp only [dec_TakeNum.j3]
       rw [if_neg (by decide), if_neg (by omega), wrap_succ _ (by omega), if_pos (by omega), if_pos (by omega), Int.toNat_natCast, ext_drop]
     ·rw [if_neg (fun q => h59 q.1)]
      refine Ev.step (fun k => ?_) j3t
      simp only [dec_TakeNum.j2]
      have hb : (bt s ((nd s.toList : Nat) : Int) != 59) = true := bne_iff_ne.2 (fun e => h59 ((bt59 s _ h).1 e))
      rw [if_neg (by decide), if_pos trivial, if_pos (by omega), if_neg (by omega), if_pos (by omega), hb]
   ·rw [if_pos h]
    refine Ev.step (f := fun k => dec_TakeNum.j3 k s ((nd s.toList : Nat) : Int) (u : Int) false) (fun k => ?_) (Ev.step (f := fun k => some (0, (⟨#[]⟩ : ByteArray), 2)) (fun k => ?_) (Ev.now _))
    ·simp only [dec_TakeNum.j2]
     rw [if_neg (by decide), if_pos trivial, if_neg (by omega)]
    ·simp only [dec_TakeNum.j3]
     rw [if_neg (by decide), if_pos (by omega)]
  have hfin : ∀ z : Bool, Ev (fun k => (dec_told.f k (mkB (s.toList.take (nd s.toList)))).bind fun bt151 => dec_TakeNum.j2 k s ((nd s.toList : Nat) : Int) bt151.1 bt151.2 z)
    (if z = true then toB (0, [], 3) else toB (fin s.toList (valD (s.toList.take (nd s.toList)) 0))) := fun z => by
   refine Ev.bind htold ?_
   cases hv : valD (s.toList.take (nd s.toList)) 0 with
   | none =>
    cases z with
    | true => rw [if_pos rfl]; exact j2z _ _
    | false => rw [if_neg (by decide)]; exact j2f _
   | some u =>
    cases z with
    | true => rw [if_pos rfl]; exact j2z _ _
    | false => rw [if_neg (by decide)]; exact j2t u
  by_cases h1 : 1 < nd s.toList
  ·have := hfin (decide (s.toList.head? = some 48))
   refine Ev.step (f := fun k => (dec_told.f k (mkB (s.toList.take (nd s.toList)))).bind fun bt151 => dec_TakeNum.j2 k s ((nd s.toList : Nat) : Int) bt151.1 bt151.2 (decide (s.toList.head? = some 48))) (fun k => ?_) (ev_eq this ?_)
   ·simp only [dec_TakeNum.j1]
    rw [if_neg (by omega), if_pos (by omega), if_pos (by omega), hx]
    simp only [if_pos (show ((nd s.toList : Nat) : Int) > 1 by omega), if_pos (show (0 : Int) < (s.size : Int) by omega), bt0 s (show 0 < s.toList.length by omega)]
   ·by_cases hh : s.toList.head? = some 48
    ·rw [if_pos (decide_eq_true hh), if_pos (.inr ⟨h1, hh⟩)]
    ·rw [if_neg (by simp [hh]), if_neg (fun q => q.elim h20 (fun q => hh q.2))]
  ·have := hfin false
   refine Ev.step (f := fun k => (dec_told.f k (mkB (s.toList.take (nd s.toList)))).bind fun bt151 => dec_TakeNum.j2 k s ((nd s.toList : Nat) : Int) bt151.1 bt151.2 false) (fun k => ?_) (ev_eq this ?_)
   ·simp only [dec_TakeNum.j1]
    rw [if_neg (by omega), if_pos (by omega), if_pos (by omega), hx]
    simp only [if_neg (show ¬ ((nd s.toList : Nat) : Int) > 1 by omega)]
   ·rw [if_neg (by decide), if_neg (fun q => q.elim h20 (fun q => h1 q.1))]
def tt (l : List UInt8) (most : Nat) : List UInt8 × List UInt8 × Int :=
  if (tn l).2.2 = 0 then (if most < (tn l).1 then ([], [], 4) else if (tn l).2.1.length < (tn l).1 then ([], [], 2) else ((tn l).2.1.take (tn l).1, (tn l).2.1.drop (tn l).1, 0)) else ([], [], (tn l).2.2)
abbrev toBB (x : List UInt8 × List UInt8 × Int) : ByteArray × ByteArray × Int := (mkB x.1, mkB x.2.1, x.2.2)
theorem fin_len (l : List UInt8) (o : Option Nat) : (fin l o).2.1.length ≤ l.length := by
 cases o with
 | none => exact Nat.zero_le _
 | some v =>
  rw [fin_some]
  split
  ·exact Nat.zero_le _
  ·split
   ·simp only [List.length_drop]; omega
   ·exact Nat.zero_le _
theorem tn_len (l : List UInt8) : (tn l).2.1.length ≤ l.length := by
 unfold tn
 split
 ·exact Nat.zero_le _
 ·exact fin_len _ _
theorem tt_len (l : List UInt8) (m : Nat) : (tt l m).2.1.length ≤ l.length := by
 have := tn_len l
 unfold tt
 split
 ·split
  ·exact Nat.zero_le _
  ·split
   ·exact Nat.zero_le _
   ·simp only [List.length_drop]; omega
 ·exact Nat.zero_le _
theorem mk_take (r : List UInt8) (n : Nat) : (mkB r).extract 0 n = mkB (r.take n) := by rw [ext_take, mkB_list]
theorem mk_drop (r : List UInt8) (n : Nat) : (mkB r).extract n (mkB r).size = mkB (r.drop n) := by rw [ext_drop, mkB_list]
theorem tn_ev (l : List UInt8) (hl : l.length < 4611686018427387904) : Ev (fun k => dec_TakeNum.f k (mkB l)) (toB (tn l)) := by
 have := takeNum_ev (mkB l) (by rw [mkB_list]; exact hl)
 unfold tnB at this
 rwa [mkB_list] at this
theorem tt_ev (l : List UInt8) (m : Nat) (hl : l.length < 4611686018427387904) (hm : m < 4611686018427387904) : Ev (fun k => dec_TakeText.f k (mkB l) (m : Int)) (toBB (tt l m)) := by
 have hr := tn_len l
 unfold dec_TakeText.f
 refine Ev.bind (tn_ev l hl) ?_
 unfold tt
 obtain ⟨⟨v, r, e⟩, hx⟩ : ∃ x, x = tn l := ⟨_, rfl⟩
 rw [← hx] at hr ⊢
 have hr : r.length ≤ l.length := hr
 simp only [toB]
 by_cases he : e = 0
 ·have hw : IntKind.u64.wrap (m : Int) = (m : Int) := by rw [u64w]; omega
  have hw2 : IntKind.u64.wrap ((mkB r).size : Int) = (r.length : Int) := by rw [u64w, mkB_size]; omega
  simp only [if_pos he, if_neg (show ¬ ((m : Int) < 0) by omega), hw]
  by_cases h4 : m < v
  ·rw [if_pos h4, decide_eq_true (show (v : Int) > (m : Int) by omega)]
   exact Ev.step (f := fun k => some ((⟨#[]⟩ : ByteArray), (⟨#[]⟩ : ByteArray), 4)) (fun k => by simp only [dec_TakeText.j0]; rw [if_pos trivial]) (Ev.now _)
  ·rw [if_neg h4, decide_eq_false (show ¬ (v : Int) > (m : Int) by omega)]
   by_cases h2 : r.length < v
   ·rw [if_pos h2]
    refine Ev.step (f := fun k => some ((⟨#[]⟩ : ByteArray), (⟨#[]⟩ : ByteArray), 2)) (fun k => ?_) (Ev.now _)
    simp only [dec_TakeText.j0]
    rw [if_neg (by decide), hw2, if_pos (by omega)]
   ·rw [if_neg h2]
    refine Ev.step (f := fun k => some (mkB (r.take v), mkB (r.drop v), 0)) (fun k => ?_) (Ev.now _)
    simp only [dec_TakeText.j0]
    rw [if_neg (by decide), hw2, if_neg (by omega), if_pos (by omega), if_pos (by rw [mkB_size]; omega), Int.toNat_natCast, mk_take, mk_drop]
 ·simp only [if_neg he]
  exact Ev.now _
def tT (l : List UInt8) (m : Nat) : Option (List UInt8 × List UInt8) := if (tt l m).2.2 = 0 then some ((tt l m).1, (tt l m).2.1) else none
theorem tT_none {l : List UInt8} {m : Nat} (h : tT l m = none) : ¬ (tt l m).2.2 = 0 := fun q => by unfold tT at h; rw [if_pos q] at h; cases h
theorem tT_some {l : List UInt8} {m : Nat} {t r : List UInt8} (h : tT l m = some (t, r)) : (tt l m).2.2 = 0 ∧ (tt l m).1 = t ∧ (tt l m).2.1 = r := by
 unfold tT at h
 split at h
 ·rename_i q
  injection h with h
  injection h with h1 h2
  exact ⟨q, h1, h2⟩
 ·cases h
theorem rdR_get (xs : List S62) (i : Nat) (h : i < xs.length) : rd_T62 xs (i : Int) = xs[i] := by simp [rd_T62, List.getD_eq_getElem?_getD, h]
/- may -/
def riR : List S62 → Bool
  | [] => true
  | [_] => true
  | x :: y :: r => ltS x.f0 y.f0 && riR (y :: r)
theorem riR_l0 : ∀ (n : Nat) (l : List S62) (i : Nat), 0 < i → l.length - i ≤ n → l.length < 4611686018427387904 → Ev (fun k => table_Right.l0 k l (i : Int)) (riR (l.drop (i - 1))) := by
 intro n
 have fin : ∀ (l : List S62) (i : Nat), 0 < i → ¬ i < l.length → Ev (fun k => table_Right.l0 k l (i : Int)) (riR (l.drop (i - 1))) := by
  intro l i h0 hn
  refine Ev.step (f := fun k => some true) (fun k => by simp only [table_Right.l0]; rw [if_neg (by omega)]) ?_
  have e : riR (l.drop (i - 1)) = true := by
   have hd : (l.drop (i - 1)).length ≤ 1 := by rw [List.length_drop]; omega
   match h : l.drop (i - 1), hd with
   | [], _ => rfl
   | [_], _ => rfl
  rw [e]
  exact Ev.now _
 induction n with
 | zero => intro l i h0 hn hl; exact fin l i h0 (by omega)
 | succ n ih =>
  intro l i h0 hn hl
  by_cases hi : i < l.length
  ·have hw : wrap64 ((i : Int) - 1) = ((i - 1 : Nat) : Int) := by unfold wrap64; omega
   have h1 : i - 1 < l.length := by omega
   have e : riR (l.drop (i - 1)) = (ltS (l[i - 1]).f0 (l[i]).f0 && riR (l.drop i)) := by
    rw [List.drop_eq_getElem_cons h1, show i - 1 + 1 = i by omega, List.drop_eq_getElem_cons hi]
    rfl
   rw [e]
   refine Ev.step (f := fun k => if ltS (l[i - 1]).f0 (l[i]).f0 = true then table_Right.l0 k l ((i + 1 : Nat) : Int) else some false) (fun k => ?_) ?_
   ·simp only [table_Right.l0]
    rw [if_pos (by omega), hw, if_pos (by omega), if_pos (by omega), if_pos (by omega), rdR_get _ _ h1, rdR_get _ _ hi, wrap_succ i (by omega)]
    rfl
   ·cases ltS (l[i - 1]).f0 (l[i]).f0 with
    | true =>
     rw [Bool.true_and]
     simp only [if_pos]
     have := ih l (i + 1) (by omega) (by omega) hl
     rwa [Nat.add_sub_cancel] at this
    | false => exact Ev.now _
  ·exact fin l i h0 hi
theorem right_ev' (l : List S62) (hl : l.length < 4611686018427387904) : Ev (fun k => table_Right.f k l) (riR l) := riR_l0 l.length l 1 (by omega) (by omega) hl
def longR (x : S62) : Bool := (run_may_1.f x.f0 x.f1).getD false
def mayR (l : List S62) : Bool := if riR l = true then !(l.any longR) else false
theorem mayR_ev (l : List S62) (hl : l.length < 4611686018427387904) : Ev (fun k => run_may.f k l) (mayR l) := by
 unfold run_may.f
 refine Ev.bind (right_ev' l hl) ?_
 unfold mayR
 cases riR l with
 | true =>
  simp only [if_pos]
  exact Ev.now _
 | false => exact Ev.now _
/- the sum; seal and open -/
def sv (s : ByteArray) : Nat := (IntKind.u64.wrap (sumJ (sumT s s.size))).toNat
theorem sv_eq (s : ByteArray) : IntKind.u64.wrap (sumJ (sumT s s.size)) = ((sv s : Nat) : Int) := by
 unfold sv
 rw [u64w]
 omega
def openL (l : List UInt8) (m : Nat) : List UInt8 × List UInt8 × Int :=
  if (tt l m).2.2 = 0 then (if (tn (tt l m).2.1).2.2 = 0 then (if (tn (tt l m).2.1).1 = sv (mkB (tt l m).1) then ((tt l m).1, (tn (tt l m).2.1).2.1, 0) else ([], [], 10)) else ([], [], (tn (tt l m).2.1).2.2)) else ([], [], (tt l m).2.2)
theorem tt_len1 (l : List UInt8) (m : Nat) : (tt l m).1.length ≤ l.length := by
 have := tn_len l
 unfold tt
 split
 ·split
  ·exact Nat.zero_le _
  ·split
   ·exact Nat.zero_le _
   ·simp only [List.length_take]; omega
 ·exact Nat.zero_le _
theorem openL_len (l : List UInt8) (m : Nat) : (openL l m).1.length ≤ l.length := by
 have := tt_len1 l m
 unfold openL
 split
 ·split
  ·split
   ·exact this
   ·exact Nat.zero_le _
  ·exact Nat.zero_le _
 ·exact Nat.zero_le _
theorem open_ev (l : List UInt8) (m : Nat) (hl : l.length < 4611686018427387904) (hm : m < 4611686018427387904) : Ev (fun k => sum_Open.f k (mkB l) (m : Int)) (toBB (openL l m)) := by
 have h1 := tt_len l m; have h2 := tt_len1 l m
 unfold sum_Open.f
 refine Ev.bind (tt_ev l m hl hm) ?_
 unfold openL
 obtain ⟨⟨t, r, e⟩, hx⟩ : ∃ x, x = tt l m := ⟨_, rfl⟩
 rw [← hx] at h1 h2 ⊢
 have h1 : r.length ≤ l.length := h1
 have h2 : t.length ≤ l.length := h2
 simp only [toBB]
 by_cases he : e = 0
 ·simp only [if_pos he]
  refine Ev.bind (tn_ev r (by omega)) ?_
  obtain ⟨⟨v, r2, e2⟩, hy⟩ : ∃ y, y = tn r := ⟨_, rfl⟩
  rw [← hy]
  simp only [toB]
  by_cases he2 : e2 = 0
  ·simp only [if_pos he2, sum_Of.f, if_pos (show (mkB t).size < 4611686018427387904 by rw [mkB_size]; omega), Option.bind_some, sv_eq]
   by_cases hv : v = sv (mkB t)
   ·simp only [if_pos hv, if_pos (show (v : Int) = ((sv (mkB t) : Nat) : Int) by omega)]
    exact Ev.now _
   ·simp only [if_neg hv, if_neg (show ¬ (v : Int) = ((sv (mkB t) : Nat) : Int) by omega)]
    exact Ev.now _
  ·simp only [if_neg he2]
   exact Ev.now _
 ·simp only [if_neg he]
  exact Ev.now _
/- the row of bytes -/
def loopR : Nat → List UInt8 → List S62 → List UInt8 × List S62
  | 0, t, l => (t, l)
  | c + 1, t, l => match tT t 65536 with
    | none => (t, l)
    | some a => match tT a.2 65536 with
      | none => (t, l)
      | some b => loopR c b.2 (l ++ [⟨mkB a.1, mkB b.1⟩])
def endR (n : Nat) (e : List UInt8 × List S62) : List S62 × Int := if e.2.length = n then (if e.1 = [] then (if mayR e.2 = true then (e.2, 0) else ([], 3)) else ([], 3)) else ([], 3)
theorem mkB_nil (l : List UInt8) : ((mkB l).toList = ([] : List UInt8)) ↔ l = [] := by rw [mkB_list]
theorem fin_ev (t : List UInt8) (n : Nat) (l : List S62) (hl : l.length < 4398046511105) :
  Ev (fun k => (if (IntKind.u64.wrap ((l.length : Int))) = (n : Int) then (if (mkB t).toList = ([] : List UInt8) then ((run_may.f k l).bind fun t145 => (if t145 = true then (some (l, (0 : Int))) else (some (([] : List (S62)), 3)))) else (some (([] : List (S62)), 3))) else (some (([] : List (S62)), 3)))) (endR n (t, l)) := by
 have hw : IntKind.u64.wrap (l.length : Int) = (l.length : Int) := by rw [u64w]; omega
 rw [hw]
 unfold endR
 by_cases h1 : l.length = n
 ·simp only [if_pos h1, if_pos (show (l.length : Int) = (n : Int) by omega)]
  by_cases h2 : t = []
  ·simp only [if_pos h2, if_pos ((mkB_nil t).2 h2)]
   refine Ev.bind (mayR_ev l (by omega)) ?_
   by_cases h3 : mayR l = true
   ·simp only [if_pos h3]; exact Ev.now _
   ·simp only [if_neg h3]; exact Ev.now _
  ·simp only [if_neg h2, if_neg (fun q => h2 ((mkB_nil t).1 q))]; exact Ev.now _
 ·simp only [if_neg h1, if_neg (show ¬ (l.length : Int) = (n : Int) by omega)]; exact Ev.now _
theorem tn_lt (l : List UInt8) (h : (tn l).2.2 = 0) : (tn l).2.1.length < l.length := by
 unfold tn at h ⊢
 split at h
 ·exact absurd h (by decide)
 ·rename_i hc
  rw [if_neg hc]
  cases hv : valD (l.take (nd l)) 0 with
  | none => rw [hv] at h; exact absurd (show (3 : Int) = 0 from h) (by decide)
  | some v =>
   rw [hv, fin_some] at h
   rw [fin_some]
   split at h
   ·exact absurd h (by decide)
   ·rename_i hl
    split at h
    ·rename_i h59
     rw [if_neg hl, if_pos h59]
     simp only [List.length_drop]
     omega
    ·exact absurd h (by decide)
theorem tT_lt {l : List UInt8} {m : Nat} {t r : List UInt8} (h : tT l m = some (t, r)) : r.length < l.length := by
 obtain ⟨h1, h2, h3⟩ := tT_some h
 rw [← h3]
 unfold tt at h1 ⊢
 by_cases he : (tn l).2.2 = 0
 ·have := tn_lt l he
  rw [if_pos he] at h1 ⊢
  by_cases h4 : m < (tn l).1
  ·rw [if_pos h4] at h1; exact absurd h1 (by decide)
  ·rw [if_neg h4] at h1 ⊢
   by_cases h5 : (tn l).2.1.length < (tn l).1
   ·rw [if_pos h5] at h1; exact absurd h1 (by decide)
   ·rw [if_neg h5]
    simp only [List.length_drop]
    omega
 ·rw [if_neg he] at h1; exact absurd h1 he
theorem rtake_l0 : ∀ (c n i : Nat) (t : List UInt8) (l : List S62), n - i = c → i ≤ n → n < 18446744073709551616 → l.length + t.length < 4398046511104 →
  Ev (fun k => run_Take.l0 k (mkB t) (n : Int) l (n : Int) (i : Int)) (endR n (loopR c t l)) := by
 intro c
 induction c with
 | zero =>
  intro n i t l hn hi h64 hl
  refine Ev.step (f := ?ff) (fun k => ?h1) ?h2
  case h1 =>
   simp only [run_Take.l0]
   rw [if_neg (by omega)]
  exact fin_ev t n l (by omega)
 | succ c ih =>
  intro n i t l hn hi h64 hl
  have hw : IntKind.u64.wrap ((i : Int) + 1) = ((i + 1 : Nat) : Int) := by rw [u64w]; omega
  refine Ev.step (f := ?ff2) (fun k => ?h3) ?h4
  case h3 =>
   simp only [run_Take.l0]
   rw [if_pos (by omega)]
  refine Ev.bind (tt_ev t 65536 (by omega) (by omega)) ?_
  cases ha : tT t 65536 with
  | none =>
   have e : loopR (c + 1) t l = (t, l) := by simp only [loopR, ha]
   rw [e]
   simp only [toBB, if_neg (tT_none ha)]
   exact fin_ev t n l (by omega)
  | some a =>
   obtain ⟨x, r⟩ := a
   obtain ⟨h1, h2, h3⟩ := tT_some ha
   have hr := tT_lt ha
   simp only [toBB, if_pos h1, h2, h3]
   refine Ev.bind (tt_ev r 65536 (by omega) (by omega)) ?_
   cases hb : tT r 65536 with
   | none =>
    have e : loopR (c + 1) t l = (t, l) := by simp only [loopR, ha, hb]
    rw [e]
    simp only [toBB, if_neg (tT_none hb)]
    exact fin_ev t n l (by omega)
   | some b =>
    obtain ⟨y, r2⟩ := b
    obtain ⟨k1, k2, k3⟩ := tT_some hb
    have hr2 := tT_lt hb
    have e : loopR (c + 1) t l = loopR c r2 (l ++ [⟨mkB x, mkB y⟩]) := by simp only [loopR, ha, hb]
    rw [e]
    simp only [toBB, if_pos k1, k2, k3, if_pos (show l.length < 4398046511104 by omega), hw]
    exact ih n (i + 1) r2 _ (by omega) (by omega) h64 (by rw [List.length_append, List.length_singleton]; omega)
theorem valD_lt : ∀ (l : List UInt8) (v u : Nat), v < 18446744073709551616 → valD l v = some u → u < 18446744073709551616
 | [], v, u, hv, h => by
  unfold valD at h
  injection h with h
  omega
 | b :: r, v, u, hv, h => by
  unfold valD at h
  split at h
  ·cases h
  ·exact valD_lt r _ u (by omega) h
theorem tn_val (l : List UInt8) : (tn l).1 < 18446744073709551616 := by
 unfold tn
 split
 ·decide
 ·cases hv : valD (l.take (nd l)) 0 with
  | none => exact (by decide : 0 < 18446744073709551616)
  | some v =>
   have := valD_lt _ _ _ (by decide) hv
   rw [fin_some]
   split
   ·exact (by decide : 0 < 18446744073709551616)
   ·split
    ·exact this
    ·exact (by decide : 0 < 18446744073709551616)
def takeQ (l : List UInt8) : List S62 × Int :=
  if (openL l 1073741824).2.2 = 0 ∧ (tn (openL l 1073741824).1).2.2 = 0 ∧ (openL l 1073741824).2.1 = [] then endR (tn (openL l 1073741824).1).1 (loopR (tn (openL l 1073741824).1).1 (tn (openL l 1073741824).1).2.1 []) else ([], 3)
/- a row's bytes -/
theorem sameR_l0 : ∀ (n : Nat) (l : List S62) (i : Nat), l.length - i ≤ n → l.length < 4611686018427387904 → Ev (fun k => stanchionref05_Same.l0 k l l (i : Int)) true := by
 intro n
 induction n with
 | zero => intro l i hn hl; exact Ev.step (f := fun k => some true) (fun k => by simp only [stanchionref05_Same.l0]; rw [if_neg (by omega)]) (Ev.now _)
 | succ n ih =>
  intro l i hn hl
  by_cases hi : i < l.length
  ·refine Ev.step (f := fun k => stanchionref05_Same.l0 k l l ((i + 1 : Nat) : Int)) (fun k => ?_) (ih l (i + 1) (by omega) hl)
   simp only [stanchionref05_Same.l0]
   rw [if_pos (by omega), if_pos (by omega), if_pos (by omega), if_neg (by simp), wrap_succ i (by omega)]
  ·exact Ev.step (f := fun k => some true) (fun k => by simp only [stanchionref05_Same.l0]; rw [if_neg (by omega)]) (Ev.now _)
theorem sameR_ev (l : List S62) (hl : l.length < 4611686018427387904) : Ev (fun k => stanchionref05_Same.f k l l) true := by
 refine Ev.congr (fun k => ?_) (sameR_l0 l.length l 0 (by omega) hl)
 unfold stanchionref05_Same.f
 rw [if_pos rfl]
 rfl
theorem rshown_ev : Ev (fun k => stanchionlaw06_shown.f k) true := Ev.of stanchionlaw06_shown.mono (k := 100) (by decide +kernel)
theorem ref_l1 (s : ByteArray) (hl : s.toList.length < 4611686018427387904) : ∀ (n i v : Nat), nd s.toList - i ≤ n → i ≤ nd s.toList → v < 18446744073709551616 →
  Ev (fun k => stanchionref01_TakeNum.l1 k s ((nd s.toList : Nat) : Int) (v : Int) (i : Int)) (toB (fin s.toList (valD ((s.toList.take (nd s.toList)).drop i) v))) := by
 have hz := str_len s
 have hn := nd_le s.toList
 have ht : (s.toList.take (nd s.toList)).length = nd s.toList := by rw [List.length_take]; omega
 intro n
 have done : ∀ i v : Nat, nd s.toList = i → Ev (fun k => stanchionref01_TakeNum.l1 k s ((nd s.toList : Nat) : Int) (v : Int) (i : Int)) (toB (fin s.toList (valD ((s.toList.take (nd s.toList)).drop i) v))) := fun i v h => by
  rw [List.drop_of_length_le (by omega)]
  unfold valD
  rw [fin_some]
  rcases Nat.lt_or_ge (nd s.toList) s.toList.length with h2 | h2
  ·rw [if_neg (by omega)]
   by_cases h59 : s.toList[nd s.toList]? = some 59
   ·by_cases h0 : nd s.toList = 0
    ·rw [if_neg (fun q => q.2 h0)]
     refine Ev.step (f := fun k => some (0, (⟨#[]⟩ : ByteArray), 3)) (fun k => ?_) (Ev.now _)
     simp only [stanchionref01_TakeNum.l1]
     rw [if_neg (by omega), if_neg (by omega), if_pos (by omega), if_pos (by omega), if_pos ((bt59 s _ h2).2 h59), if_pos (by omega)]
    ·rw [if_pos ⟨h59, h0⟩]
     refine Ev.step (f := fun k => some ((v : Int), mkB (s.toList.drop (nd s.toList + 1)), 0)) (fun k => ?_) (Ev.now _)
     simp only [stanchionref01_TakeNum.l1]
     rw [if_neg (by omega), if_neg (by omega), if_pos (by omega), if_pos (by omega), if_pos ((bt59 s _ h2).2 h59), if_neg (by omega), wrap_succ _ (by omega), if_pos (by omega), if_pos (by omega), Int.toNat_natCast, ext_drop]
   ·rw [if_neg (fun q => h59 q.1)]
    refine Ev.step (f := fun k => some (0, (⟨#[]⟩ : ByteArray), 3)) (fun k => ?_) (Ev.now _)
    simp only [stanchionref01_TakeNum.l1]
    rw [if_neg (by omega), if_neg (by omega), if_pos (by omega), if_pos (by omega), if_neg (fun e => h59 ((bt59 s _ h2).1 e))]
  ·rw [if_pos h2]
   refine Ev.step (f := fun k => some (0, (⟨#[]⟩ : ByteArray), 2)) (fun k => ?_) (Ev.now _)
   simp only [stanchionref01_TakeNum.l1]
   rw [if_neg (by omega), if_pos (by omega)]
 induction n with
 | zero => intro i v hn hi hv; exact done i v (by omega)
 | succ n ih =>
  intro i v hn2 hi hv
  rcases Nat.lt_or_ge i (nd s.toList) with h | h
  ·have hi2 : i < (s.toList.take (nd s.toList)).length := by omega
   rw [List.drop_eq_getElem_cons hi2]
   obtain ⟨b, hb⟩ : ∃ b, b = (s.toList.take (nd s.toList))[i] := ⟨_, rfl⟩
   have hD := isD_nat (nd_digits _ _ (List.getElem_mem hi2))
   have hbt := bt_get s i (by omega)
   rw [← List.getElem_take (h := hi2), ← hb] at hbt
   rw [← hb] at hD ⊢
   have hdd : ((bt s (i : Int)) - 48) % 256 = ((b.toNat - 48 : Nat) : Int) := by rw [hbt]; omega
   unfold valD
   by_cases ho : 18446744073709551616 ≤ 10 * v + (b.toNat - 48)
   ·rw [if_pos ho]
    refine Ev.step (f := fun k => some (0, (⟨#[]⟩ : ByteArray), 3)) (fun k => ?_) (Ev.now _)
    simp only [stanchionref01_TakeNum.l1]
    rw [if_pos (by omega), if_pos (by omega), if_pos (by omega), hdd]
    by_cases h1 : (v : Int) > 1844674407370955161
    ·rw [if_pos h1]
    ·rw [if_neg h1, if_pos (by omega), if_pos (by omega)]
   ·rw [if_neg ho]
    refine Ev.step (f := fun k => stanchionref01_TakeNum.l1 k s ((nd s.toList : Nat) : Int) ((10 * v + (b.toNat - 48) : Nat) : Int) ((i + 1 : Nat) : Int)) (fun k => ?_) (ih (i + 1) _ (by omega) h (by omega))
    simp only [stanchionref01_TakeNum.l1]
    have hw : IntKind.u64.wrap (IntKind.u64.wrap (10 * (v : Int)) + ((b.toNat - 48 : Nat) : Int)) = ((10 * v + (b.toNat - 48) : Nat) : Int) := by rw [u64w, u64w]; omega
    rw [if_pos (by omega), if_pos (by omega), if_pos (by omega), hdd, if_neg (by omega), wrap_succ i (by omega), hw]
    by_cases h1 : (v : Int) = 1844674407370955161
    ·rw [if_pos h1, if_neg (by omega)]
    ·rw [if_neg h1]
  ·exact done i v (by omega)
theorem ref_l0 (s : ByteArray) (R : Int × ByteArray × Int) (hl : s.toList.length < 4611686018427387904) (hj : Ev (fun k => stanchionref01_TakeNum.j1 k s ((nd s.toList : Nat) : Int)) R) : ∀ (n i : Nat), s.toList.length - i ≤ n → i ≤ s.toList.length →
  nd s.toList = i + ((s.toList.drop i).takeWhile isD).length → Ev (fun k => stanchionref01_TakeNum.l0 k s (i : Int)) R := by
 have hz := str_len s
 intro n
 have done : ∀ i : Nat, s.toList.length ≤ i → nd s.toList = i + ((s.toList.drop i).takeWhile isD).length → Ev (fun k => stanchionref01_TakeNum.l0 k s (i : Int)) R := fun i h e => by
  rw [List.drop_of_length_le h] at e
  have e : nd s.toList = i := by simpa using e
  rw [e] at hj
  exact Ev.step (fun k => by simp only [stanchionref01_TakeNum.l0]; rw [if_neg (by omega)]) hj
 induction n with
 | zero => intro i hn hi e; exact done i (by omega) e
 | succ n ih =>
  intro i hn hi e
  rcases Nat.lt_or_ge i s.toList.length with h | h
  ·have hbt := bt_get s i h
   rw [List.drop_eq_getElem_cons h, List.takeWhile_cons] at e
   by_cases hb : isD (s.toList[i]) = true
   ·rw [if_pos hb, List.length_cons] at e
    have hD := isD_nat hb
    refine Ev.step (f := fun k => stanchionref01_TakeNum.l0 k s ((i + 1 : Nat) : Int)) (fun k => ?_) (ih (i + 1) (by omega) h (by omega))
    simp only [stanchionref01_TakeNum.l0]
    rw [if_pos (by omega), if_pos (by omega), hbt, if_pos (by omega), if_pos (by omega), wrap_succ i (by omega)]
   ·rw [if_neg hb] at e
    have e : nd s.toList = i := by simpa using e
    rw [e] at hj
    have hD := isD_not (by simpa using hb)
    refine Ev.step (fun k => ?_) hj
    simp only [stanchionref01_TakeNum.l0]
    rw [if_pos (by omega), if_pos (by omega), hbt]
    by_cases h1 : (((s.toList[i]).toNat : Nat) : Int) ≥ 48
    ·rw [if_pos h1, if_neg (by omega)]
    ·rw [if_neg h1]
  ·exact done i h e
theorem rtakeNum_ev (s : ByteArray) (hl : s.toList.length < 4611686018427387904) : Ev (fun k => stanchionref01_TakeNum.f k s) (tnB s) := by
 have hz := str_len s
 have hn := nd_le s.toList
 unfold stanchionref01_TakeNum.f
 refine ref_l0 s _ hl ?_ s.toList.length 0 (by omega) (by omega) (by simp [nd])
 have j2t : Ev (fun k => stanchionref01_TakeNum.j2 k s ((nd s.toList : Nat) : Int) true) (toB (0, [], 3)) :=
  Ev.step (f := fun k => some (0, (⟨#[]⟩ : ByteArray), 3)) (fun k => by simp only [stanchionref01_TakeNum.j2]; rw [if_pos trivial]) (Ev.now _)
 have j2f : Ev (fun k => stanchionref01_TakeNum.j2 k s ((nd s.toList : Nat) : Int) false) (toB (fin s.toList (valD (s.toList.take (nd s.toList)) 0))) := by
  have := ref_l1 s hl (nd s.toList) 0 0 (by omega) (by omega) (by omega)
  rw [List.drop_zero] at this
  exact Ev.step (fun k => by simp only [stanchionref01_TakeNum.j2]; rw [if_neg (by decide)]; rfl) this
 unfold tnB tn
 by_cases h20 : 20 < nd s.toList
 ·rw [if_pos (.inl h20)]
  exact Ev.step (fun k => by simp only [stanchionref01_TakeNum.j1]; rw [if_pos (by omega)]) j2t
 ·by_cases h1 : 1 < nd s.toList
  ·by_cases hh : s.toList.head? = some 48
   ·rw [if_pos (.inr ⟨h1, hh⟩)]
    refine Ev.step (fun k => ?_) j2t
    simp only [stanchionref01_TakeNum.j1]
    rw [if_neg (by omega), if_pos (by omega), if_pos (by omega), bt0 s (by omega), decide_eq_true hh]
   ·rw [if_neg (fun q => q.elim h20 (fun q => hh q.2))]
    refine Ev.step (fun k => ?_) j2f
    simp only [stanchionref01_TakeNum.j1]
    rw [if_neg (by omega), if_pos (by omega), if_pos (by omega), bt0 s (by omega), decide_eq_false hh]
  ·rw [if_neg (fun q => q.elim h20 (fun q => h1 q.1))]
   refine Ev.step (fun k => ?_) j2f
   simp only [stanchionref01_TakeNum.j1]
   rw [if_neg (by omega), if_neg (by omega)]
theorem rtn_ev (l : List UInt8) (hl : l.length < 4611686018427387904) : Ev (fun k => stanchionref01_TakeNum.f k (mkB l)) (toB (tn l)) := by
 have := rtakeNum_ev (mkB l) (by rw [mkB_list]; exact hl)
 unfold tnB at this
 rwa [mkB_list] at this
theorem rtt_ev (l : List UInt8) (m : Nat) (hl : l.length < 4611686018427387904) (hm : m < 4611686018427387904) : Ev (fun k => stanchionref01_TakeText.f k (mkB l) (m : Int)) (toBB (tt l m)) := by
 have hr := tn_len l
 unfold stanchionref01_TakeText.f
 refine Ev.bind (rtn_ev l hl) ?_
 unfold tt
 obtain ⟨⟨v, r, e⟩, hx⟩ : ∃ x, x = tn l := ⟨_, rfl⟩
 rw [← hx] at hr ⊢
 have hr : r.length ≤ l.length := hr
 simp only [toB]
 by_cases he : e = 0
 ·have hw : IntKind.u64.wrap (m : Int) = (m : Int) := by rw [u64w]; omega
  have hw2 : IntKind.u64.wrap ((mkB r).size : Int) = (r.length : Int) := by rw [u64w, mkB_size]; omega
  simp only [if_pos he, if_neg (show ¬ ((m : Int) < 0) by omega), hw]
  by_cases h4 : m < v
  ·rw [if_pos h4, decide_eq_true (show (v : Int) > (m : Int) by omega)]
   exact Ev.step (f := fun k => some ((⟨#[]⟩ : ByteArray), (⟨#[]⟩ : ByteArray), 4)) (fun k => by simp only [stanchionref01_TakeText.j0]; rw [if_pos trivial]) (Ev.now _)
  ·rw [if_neg h4, decide_eq_false (show ¬ (v : Int) > (m : Int) by omega)]
   by_cases h2 : r.length < v
   ·rw [if_pos h2]
    refine Ev.step (f := fun k => some ((⟨#[]⟩ : ByteArray), (⟨#[]⟩ : ByteArray), 2)) (fun k => ?_) (Ev.now _)
    simp only [stanchionref01_TakeText.j0]
    rw [if_neg (by decide), hw2, if_pos (by omega)]
   ·rw [if_neg h2]
    refine Ev.step (f := fun k => some (mkB (r.take v), mkB (r.drop v), 0)) (fun k => ?_) (Ev.now _)
    simp only [stanchionref01_TakeText.j0]
    rw [if_neg (by decide), hw2, if_neg (by omega), if_pos (by omega), if_pos (by rw [mkB_size]; omega), Int.toNat_natCast, mk_take, mk_drop]
 ·simp only [if_neg he]
  exact Ev.now _
theorem less_l0 : ∀ (n : Nat) (a b : ByteArray) (i : Nat), a.size - i ≤ n → i ≤ a.size → i ≤ b.size → a.size < 4611686018427387904 →
  Ev (fun k => stanchionref01_Less.l0 k a b (i : Int)) (Op.bytesLess (a.toList.drop i) (b.toList.drop i)) := by
 intro n
 induction n with
 | zero =>
  intro a b i hn ha hb hs
  have hi : i = a.size := by omega
  refine Ev.step (f := fun k => stanchionref01_Less.j1 k a b (i : Int) false) (fun k => by simp only [stanchionref01_Less.l0]; rw [if_neg (by omega)]) ?_
  refine Ev.step (f := fun k => some (decide ((a.size : Int) < (b.size : Int)))) (fun k => by simp only [stanchionref01_Less.j1]; rfl) ?_
  have e : Op.bytesLess (a.toList.drop i) (b.toList.drop i) = decide ((a.size : Int) < (b.size : Int)) := by
   rw [List.drop_of_length_le (l := a.toList) (by rw [str_len]; omega)]
   rcases Nat.lt_or_ge i b.size with h | h
   ·rw [List.drop_eq_getElem_cons (by rw [str_len]; exact h)]
    exact (decide_eq_true (by omega)).symm
   ·rw [List.drop_of_length_le (by rw [str_len]; omega)]
    exact (decide_eq_false (by omega)).symm
  rw [e]
  exact Ev.now _
 | succ n ih =>
  intro a b i hn ha hb hs
  rcases Nat.lt_or_ge i a.size with hi | hi
  ·rcases Nat.lt_or_ge i b.size with hj | hj
   ·refine Ev.step (f := fun k => stanchionref01_Less.j1 k a b (i : Int) true) (fun k => by simp only [stanchionref01_Less.l0]; rw [if_pos (by omega), decide_eq_true (by omega)]) ?_
    have ga : i < a.toList.length := by rw [str_len]; exact hi
    have gb : i < b.toList.length := by rw [str_len]; exact hj
    rw [List.drop_eq_getElem_cons ga, List.drop_eq_getElem_cons gb]
    refine Ev.step (f := fun k => if (bt a i) = (bt b i) then stanchionref01_Less.l0 k a b ((i + 1 : Nat) : Int) else some (decide ((bt a i) < (bt b i)))) (fun k => ?_) ?_
    ·simp only [stanchionref01_Less.j1]
     rw [if_pos trivial, if_pos (by omega), if_pos (by omega), if_pos (by omega), show wrap64 ((i : Int) + 1) = ((i + 1 : Nat) : Int) by unfold wrap64; omega]
    ·rw [bt_get a i ga, bt_get b i gb]
     by_cases e : a.toList[i] = b.toList[i]
     ·simp only [if_pos (show ((a.toList[i]).toNat : Int) = ((b.toList[i]).toNat : Int) by rw [e])]
      have : Op.bytesLess (a.toList[i] :: a.toList.drop (i + 1)) (b.toList[i] :: b.toList.drop (i + 1)) = Op.bytesLess (a.toList.drop (i + 1)) (b.toList.drop (i + 1)) := by
       rw [← e]; simp [Op.bytesLess]
      rw [this]
      exact ih a b (i + 1) (by omega) (by omega) (by omega) hs
     ·have ne : ¬ ((a.toList[i]).toNat : Int) = ((b.toList[i]).toNat : Int) := fun h => e (UInt8.toNat_inj.1 (by omega))
      simp only [if_neg ne]
      have : Op.bytesLess (a.toList[i] :: a.toList.drop (i + 1)) (b.toList[i] :: b.toList.drop (i + 1)) = decide (((a.toList[i]).toNat : Int) < ((b.toList[i]).toNat : Int)) := by
       simp [Op.bytesLess, e, UInt8.lt_iff_toNat_lt]
      rw [this]
      exact Ev.now _
   ·refine Ev.step (f := fun k => stanchionref01_Less.j1 k a b (i : Int) false) (fun k => by simp only [stanchionref01_Less.l0]; rw [if_pos (by omega), decide_eq_false (by omega)]) ?_
    refine Ev.step (f := fun k => some (decide ((a.size : Int) < (b.size : Int)))) (fun k => by simp only [stanchionref01_Less.j1]; rfl) ?_
    have e : Op.bytesLess (a.toList.drop i) (b.toList.drop i) = decide ((a.size : Int) < (b.size : Int)) := by
     rw [List.drop_of_length_le (l := b.toList) (by rw [str_len]; omega)]
     simp only [Op.bytesLess]
     exact (decide_eq_false (by omega)).symm
    rw [e]
    exact Ev.now _
  ·refine Ev.step (f := fun k => stanchionref01_Less.j1 k a b (i : Int) false) (fun k => by simp only [stanchionref01_Less.l0]; rw [if_neg (by omega)]) ?_
   refine Ev.step (f := fun k => some (decide ((a.size : Int) < (b.size : Int)))) (fun k => by simp only [stanchionref01_Less.j1]; rfl) ?_
   have e : Op.bytesLess (a.toList.drop i) (b.toList.drop i) = decide ((a.size : Int) < (b.size : Int)) := by
    rw [List.drop_of_length_le (l := a.toList) (by rw [str_len]; omega)]
    rcases Nat.lt_or_ge i b.size with h | h
    ·rw [List.drop_eq_getElem_cons (by rw [str_len]; exact h)]
     exact (decide_eq_true (by omega)).symm
    ·rw [List.drop_of_length_le (by rw [str_len]; omega)]
     exact (decide_eq_false (by omega)).symm
   rw [e]
   exact Ev.now _
theorem less_ev (a b : ByteArray) (hs : a.size < 4611686018427387904) : Ev (fun k => stanchionref01_Less.f k a b) (ltS a b) := by
 have := less_l0 a.size a b 0 (by omega) (by omega) (by omega) hs
 exact this
theorem rr_l0 : ∀ (n : Nat) (l : List S62) (i : Nat), 0 < i → l.length - i ≤ n → l.length < 4611686018427387904 → (∀ x ∈ l, x.f0.size < 4611686018427387904) → Ev (fun k => stanchionref05_Right.l0 k l (i : Int)) (riR (l.drop (i - 1))) := by
 intro n
 induction n with
 | zero =>
  intro l i h0 hn hl hb
  refine Ev.step (f := fun k => some true) (fun k => by simp only [stanchionref05_Right.l0]; rw [if_neg (by omega)]) ?_
  have e : riR (l.drop (i - 1)) = true := by
   have hd : (l.drop (i - 1)).length ≤ 1 := by rw [List.length_drop]; omega
   match h : l.drop (i - 1), hd with
   | [], _ => rfl
   | [_], _ => rfl
  rw [e]
  exact Ev.now _
 | succ n ih =>
  intro l i h0 hn hl hb
  rcases Nat.lt_or_ge i l.length with hi | hi
  ·have hw : wrap64 ((i : Int) - 1) = ((i - 1 : Nat) : Int) := by unfold wrap64; omega
   have h1 : i - 1 < l.length := by omega
   refine Ev.step (f := fun k => (stanchionref01_Less.f k (l[i - 1]).f0 (l[i]).f0).bind fun t => if t = true then stanchionref05_Right.l0 k l ((i + 1 : Nat) : Int) else some false) (fun k => ?_) ?_
   ·simp only [stanchionref05_Right.l0]
    rw [if_pos (by omega), hw, if_pos (by omega), if_pos (by omega), if_pos (by omega), rdR_get _ _ h1, rdR_get _ _ hi, wrap_succ i (by omega)]
   ·refine Ev.bind (less_ev _ _ (hb _ (List.getElem_mem h1))) ?_
    have e : riR (l.drop (i - 1)) = (ltS (l[i - 1]).f0 (l[i]).f0 && riR (l.drop i)) := by
     rw [List.drop_eq_getElem_cons h1, show i - 1 + 1 = i by omega, List.drop_eq_getElem_cons hi]
     rfl
    rw [e]
    cases ltS (l[i - 1]).f0 (l[i]).f0 with
    | true =>
     rw [Bool.true_and]
     simp only [if_pos]
     have := ih l (i + 1) (by omega) (by omega) hl hb
     rwa [Nat.add_sub_cancel] at this
    | false => exact Ev.now _
  ·refine Ev.step (f := fun k => some true) (fun k => by simp only [stanchionref05_Right.l0]; rw [if_neg (by omega)]) ?_
   have e : riR (l.drop (i - 1)) = true := by
    have hd : (l.drop (i - 1)).length ≤ 1 := by rw [List.length_drop]; omega
    match h : l.drop (i - 1), hd with
    | [], _ => rfl
    | [_], _ => rfl
   rw [e]
   exact Ev.now _
theorem rr_ev (l : List S62) (hl : l.length < 4611686018427387904) (hb : ∀ x ∈ l, x.f0.size < 4611686018427387904) : Ev (fun k => stanchionref05_Right.f k l) (riR l) := rr_l0 l.length l 1 (by omega) (by omega) hl hb
/- the sum -/
theorem bt_rng (s : ByteArray) (i : Nat) (h : i < s.size) : 0 ≤ bt s (i : Int) ∧ bt s (i : Int) < 256 := by
 rw [bt_get s i (by rw [str_len]; exact h)]
 have := UInt8.toNat_lt (s.toList[i]'(by rw [str_len]; exact h))
 omega
theorem sumT_rng (s : ByteArray) : ∀ i : Nat, i ≤ s.size → (0 ≤ (sumT s i).1 ∧ (sumT s i).1 < 65521) ∧ 0 ≤ (sumT s i).2 ∧ (sumT s i).2 < 65521
 | 0, _ => by unfold sumT; decide
 | i + 1, h => by
  have ih := sumT_rng s i (by omega)
  have hb := bt_rng s i (by omega)
  unfold sumT sumS
  simp only []
  omega
theorem rsum_l0 (s : ByteArray) (hl : s.size < 4611686018427387904) : ∀ (n i : Nat), s.size - i ≤ n → i ≤ s.size →
  Ev (fun k => stanchionref02_Of.l0 k s (sumT s i).1 (sumT s i).2 (i : Int)) (sumJ (sumT s s.size)) := by
 intro n
 have done : ∀ i : Nat, i = s.size → Ev (fun k => stanchionref02_Of.l0 k s (sumT s i).1 (sumT s i).2 (i : Int)) (sumJ (sumT s s.size)) := fun i h => by
  subst h
  have hr := sumT_rng s s.size (Nat.le_refl _)
  refine Ev.step (f := fun k => some (sumJ (sumT s s.size))) (fun k => ?_) (Ev.now _)
  simp only [stanchionref02_Of.l0]
  rw [if_neg (by omega)]
  unfold sumJ
  rw [bits_join .u32 32 (by decide) (fun m h0 h1 => by
   show m % 4294967296 = m
   omega) 16 _ _ (by omega) (by omega) (by omega) (by omega) (by omega) (by omega)]
  congr 1
  unfold wrap64
  omega
 induction n with
 | zero => intro i hn hi; exact done i (by omega)
 | succ n ih =>
  intro i hn hi
  rcases Nat.lt_or_ge i s.size with h | h
  ·have hr := sumT_rng s i hi
   have hb := bt_rng s i h
   refine Ev.step (fun k => ?_) (ih (i + 1) (by omega) h)
   have e1 : Int.tmod (wrap64 ((sumT s i).1 + wrap64 (bt s (i : Int)))) 65521 = ((sumT s i).1 + bt s (i : Int)) % 4294967296 % 65521 := by
    rw [Int.tmod_eq_emod_of_nonneg (by unfold wrap64; omega)]
    unfold wrap64
    omega
   have e2 : Int.tmod (wrap64 ((sumT s i).2 + ((sumT s i).1 + bt s (i : Int)) % 4294967296 % 65521)) 65521 = ((sumT s i).2 + ((sumT s i).1 + bt s (i : Int)) % 4294967296 % 65521) % 4294967296 % 65521 := by
    rw [Int.tmod_eq_emod_of_nonneg (by unfold wrap64; omega)]
    unfold wrap64
    omega
   simp only [stanchionref02_Of.l0]
   rw [if_pos (by omega), if_pos (by omega), e1, e2, wrap_succ i (by omega)]
   rfl
  ·exact done i (by omega)
theorem rsum_ev (s : ByteArray) (hl : s.size < 4611686018427387904) : Ev (fun k => stanchionref02_Of.f k s) (sumJ (sumT s s.size)) := by
 have := rsum_l0 s hl s.size 0 (by omega) (by omega)
 exact this
theorem ropen_ev (l : List UInt8) (m : Nat) (hl : l.length < 4611686018427387904) (hm : m < 4611686018427387904) : Ev (fun k => stanchionref02_Open.f k (mkB l) (m : Int)) (toBB (openL l m)) := by
 have h1 := tt_len l m; have h2 := tt_len1 l m
 unfold stanchionref02_Open.f
 refine Ev.bind (rtt_ev l m hl hm) ?_
 unfold openL
 obtain ⟨⟨t, r, e⟩, hx⟩ : ∃ x, x = tt l m := ⟨_, rfl⟩
 rw [← hx] at h1 h2 ⊢
 have h1 : r.length ≤ l.length := h1
 have h2 : t.length ≤ l.length := h2
 simp only [toBB]
 by_cases he : e = 0
 ·simp only [if_pos he]
  refine Ev.bind (rtn_ev r (by omega)) ?_
  obtain ⟨⟨v, r2, e2⟩, hy⟩ : ∃ y, y = tn r := ⟨_, rfl⟩
  rw [← hy]
  simp only [toB]
  by_cases he2 : e2 = 0
  ·simp only [if_pos he2]
   refine Ev.bind (rsum_ev (mkB t) (by rw [mkB_size]; omega)) ?_
   rw [sv_eq]
   by_cases hv : v = sv (mkB t)
   ·simp only [if_pos hv, if_pos (show (v : Int) = ((sv (mkB t) : Nat) : Int) by omega)]
    exact Ev.now _
   ·simp only [if_neg hv, if_neg (show ¬ (v : Int) = ((sv (mkB t) : Nat) : Int) by omega)]
    exact Ev.now _
  ·simp only [if_neg he2]
   exact Ev.now _
 ·simp only [if_neg he]
  exact Ev.now _
/- may, and the row of bytes -/
theorem rmay_l0 : ∀ (n : Nat) (l : List S62) (i : Nat), l.length - i ≤ n → i ≤ l.length → l.length < 4611686018427387904 → (∀ x ∈ l, x.f0.size < 4611686018427387904) →
  Ev (fun k => stanchionref06_may.l0 k l (i : Int)) (if (l.drop i).any longR = true then false else riR l) := by
 intro n
 have done : ∀ (l : List S62) (i : Nat), l.length ≤ i → l.length < 4611686018427387904 → (∀ x ∈ l, x.f0.size < 4611686018427387904) → Ev (fun k => stanchionref06_may.l0 k l (i : Int)) (if (l.drop i).any longR = true then false else riR l) := fun l i h hl hb => by
  rw [List.drop_of_length_le h, if_neg (by simp)]
  exact Ev.step (f := fun k => (stanchionref05_Right.f k l).bind fun t557 => some t557) (fun k => by simp only [stanchionref06_may.l0]; rw [if_neg (by omega)]) (Ev.bind (rr_ev l hl hb) (Ev.now _))
 induction n with
 | zero => intro l i hn hi hl hb; exact done l i (by omega) hl hb
 | succ n ih =>
  intro l i hn hi hl hb
  rcases Nat.lt_or_ge i l.length with h | h
  ·rw [List.drop_eq_getElem_cons h, List.any_cons]
   by_cases q1 : ((l[i]).f0.size : Int) > 65536
   ·have e : longR l[i] = true := by unfold longR run_may_1.f; rw [if_pos q1]; rfl
    rw [e, Bool.true_or, if_pos rfl]
    refine Ev.step (f := fun k => some false) (fun k => ?_) (Ev.now _)
    simp only [stanchionref06_may.l0]
    rw [if_pos (by omega), if_pos (by omega), rdR_get _ _ h, if_pos q1]
   ·by_cases q2 : ((l[i]).f1.size : Int) > 65536
    ·have e : longR l[i] = true := by unfold longR run_may_1.f; rw [if_neg q1, decide_eq_true q2]; rfl
     rw [e, Bool.true_or, if_pos rfl]
     refine Ev.step (f := fun k => some false) (fun k => ?_) (Ev.now _)
     simp only [stanchionref06_may.l0]
     rw [if_pos (by omega), if_pos (by omega), rdR_get _ _ h, if_neg q1, if_pos q2]
    ·have e : longR l[i] = false := by unfold longR run_may_1.f; rw [if_neg q1, decide_eq_false q2]; rfl
     rw [e, Bool.false_or]
     refine Ev.step (fun k => ?_) (ih l (i + 1) (by omega) h hl hb)
     simp only [stanchionref06_may.l0]
     rw [if_pos (by omega), if_pos (by omega), rdR_get _ _ h, if_neg q1, if_neg q2, wrap_succ i (by omega)]
  ·exact done l i h hl hb
theorem rmayR_ev (l : List S62) (hl : l.length < 4611686018427387904) (hb : ∀ x ∈ l, x.f0.size < 4611686018427387904) : Ev (fun k => stanchionref06_may.f k l) (mayR l) := by
 have := rmay_l0 l.length l 0 (by omega) (by omega) hl hb
 rw [List.drop_zero] at this
 refine ev_eq this ?_
 unfold mayR
 cases riR l <;> cases l.any longR <;> rfl
/-- The program's loop stops where a text isn't one, and then finds too few; the document's says so at once. -/
theorem rtakeR_l0 : ∀ (c n i : Nat) (t : List UInt8) (l : List S62), n - i = c → i ≤ n → l.length = i → n < 18446744073709551616 → l.length + t.length < 4398046511104 → (∀ x ∈ l, x.f0.size < 4611686018427387904) →
  Ev (fun k => stanchionref06_Take.l0 k (n : Int) (mkB t) l (i : Int)) (endR n (loopR c t l)) := by
 intro c
 have short : ∀ (n : Nat) (t : List UInt8) (l : List S62), l.length < n → endR n (t, l) = ([], 3) := fun n t l h => by
  unfold endR
  rw [if_neg (by simp only []; omega)]
 induction c with
 | zero =>
  intro n i t l hn hi hli h64 hl hb
  refine Ev.step (f := ?ff) (fun k => ?h1) ?h2
  case h1 =>
   simp only [stanchionref06_Take.l0]
   rw [if_neg (by omega)]
  refine Ev.bind (rmayR_ev l (by omega) hb) ?_
  unfold loopR endR
  simp only [mkB_size, if_pos (show l.length = n by omega)]
  by_cases h2 : t = []
  ·simp only [if_pos h2, h2, List.length_nil, if_neg (show ¬ ((0 : Nat) : Int) > 0 by decide)]
   by_cases h3 : mayR l = true
   ·simp only [if_pos h3]; exact Ev.now _
   ·simp only [if_neg h3]; exact Ev.now _
  ·have hp : 0 < t.length := List.length_pos_iff.2 h2
   simp only [if_neg h2, if_pos (show (t.length : Int) > 0 by omega)]; exact Ev.now _
 | succ c ih =>
  intro n i t l hn hi hli h64 hl hb
  have hw : IntKind.u64.wrap ((i : Int) + 1) = ((i + 1 : Nat) : Int) := by rw [u64w]; omega
  refine Ev.step (f := ?ff2) (fun k => ?h3) ?h4
  case h3 =>
   simp only [stanchionref06_Take.l0]
   rw [if_pos (by omega)]
  refine Ev.bind (rtt_ev t 65536 (by omega) (by omega)) ?_
  cases ha : tT t 65536 with
  | none =>
   have e : loopR (c + 1) t l = (t, l) := by simp only [loopR, ha]
   rw [e, short n t l (by omega)]
   simp only [toBB, if_neg (tT_none ha)]
   exact Ev.now _
  | some a =>
   obtain ⟨x, r⟩ := a
   obtain ⟨h1, h2, h3⟩ := tT_some ha
   have hr := tT_lt ha
   simp only [toBB, if_pos h1, h2, h3]
   refine Ev.bind (rtt_ev r 65536 (by omega) (by omega)) ?_
   cases hb2 : tT r 65536 with
   | none =>
    have e : loopR (c + 1) t l = (t, l) := by simp only [loopR, ha, hb2]
    rw [e, short n t l (by omega)]
    simp only [toBB, if_neg (tT_none hb2)]
    exact Ev.now _
   | some b =>
    obtain ⟨y, r2⟩ := b
    obtain ⟨k1, k2, k3⟩ := tT_some hb2
    have hr2 := tT_lt hb2
    have e : loopR (c + 1) t l = loopR c r2 (l ++ [⟨mkB x, mkB y⟩]) := by simp only [loopR, ha, hb2]
    have hx : x.length ≤ t.length := by rw [← h2]; exact tt_len1 t 65536
    rw [e]
    simp only [toBB, if_pos k1, k2, k3, if_pos (show l.length < 4398046511104 by omega), hw]
    refine ih n (i + 1) r2 _ (by omega) (by omega) (by rw [List.length_append, List.length_singleton]; omega) h64 (by rw [List.length_append, List.length_singleton]; omega) (fun z hz => ?_)
    rcases List.mem_append.1 hz with hz | hz
    ·exact hb z hz
    ·rw [List.mem_singleton.1 hz, mkB_size]; omega
theorem tt_most (l : List UInt8) (m : Nat) : (tt l m).1.length ≤ m := by
 unfold tt
 split
 ·split
  ·exact Nat.zero_le _
  ·split
   ·exact Nat.zero_le _
   ·simp only [List.length_take]; omega
 ·exact Nat.zero_le _
theorem openL_most (l : List UInt8) (m : Nat) : (openL l m).1.length ≤ m := by
 have := tt_most l m
 unfold openL
 split
 ·split
  ·split
   ·exact this
   ·exact Nat.zero_le _
  ·exact Nat.zero_le _
 ·exact Nat.zero_le _
/-- The row of any bytes: the program's. -/
theorem takeA_ev (l : List UInt8) (hl : l.length < 4611686018427387904) : Ev (fun k => run_Take.f k (mkB l)) (takeQ l) := by
 have h0 := openL_most l 1073741824
 have h1 := openL_len l 1073741824
 have h2 := tn_len (openL l 1073741824).1
 have h3 := tn_val (openL l 1073741824).1
 unfold run_Take.f
 refine Ev.bind (open_ev l 1073741824 (by omega) (by omega)) ?_
 unfold takeQ
 obtain ⟨⟨t, r, e⟩, hx⟩ : ∃ x, x = openL l 1073741824 := ⟨_, rfl⟩
 rw [← hx] at h0 h1 h2 h3 ⊢
 have h0 : t.length ≤ 1073741824 := h0
 have h1 : t.length ≤ l.length := h1
 have h2 : (tn t).2.1.length ≤ t.length := h2
 have h3 : (tn t).1 < 18446744073709551616 := h3
 simp only [toBB]
 refine Ev.bind (tn_ev t (by omega)) ?_
 obtain ⟨⟨n, t2, e2⟩, hy⟩ : ∃ y, y = tn t := ⟨_, rfl⟩
 rw [← hy] at h2 h3 ⊢
 have h2 : t2.length ≤ t.length := h2
 have h3 : n < 18446744073709551616 := h3
 simp only [toB]
 have bad : Ev (fun k => run_Take.j0 k (mkB t2) (n : Int) true) (([] : List S62), (3 : Int)) :=
  Ev.step (f := fun k => some (([] : List S62), (3 : Int))) (fun k => by simp only [run_Take.j0]; rw [if_pos trivial]) (Ev.now _)
 by_cases he : e = 0
 ·simp only [if_pos he]
  by_cases he2 : e2 = 0
  ·simp only [if_pos he2]
   by_cases hr : r = []
   ·rw [if_pos ⟨he, he2, hr⟩, mkB_list, hr]
    refine Ev.step (f := fun k => run_Take.l0 k (mkB t2) (n : Int) ([] : List S62) (n : Int) 0) (fun k => by simp only [run_Take.j0]; rw [if_neg (by decide)]) ?_
    exact rtake_l0 n n 0 t2 [] (by omega) (by omega) h3 (by simp only [List.length_nil]; omega)
   ·rw [if_neg (fun q => hr q.2.2), mkB_list, bne_iff_ne.2 hr]
    exact bad
  ·simp only [if_neg he2]
   rw [if_neg (fun q => he2 q.2.1)]
   exact bad
 ·simp only [if_neg he]
  rw [if_neg (fun q => he q.1)]
  exact bad
/-- The row of any bytes: the document's. -/
theorem rtakeA_ev (l : List UInt8) (hl : l.length < 4611686018427387904) : Ev (fun k => stanchionref06_Take.f k (mkB l)) (takeQ l) := by
 have h0 := openL_most l 1073741824
 have h1 := openL_len l 1073741824
 have h2 := tn_len (openL l 1073741824).1
 have h3 := tn_val (openL l 1073741824).1
 unfold stanchionref06_Take.f
 refine Ev.bind (ropen_ev l 1073741824 (by omega) (by omega)) ?_
 unfold takeQ
 obtain ⟨⟨t, r, e⟩, hx⟩ : ∃ x, x = openL l 1073741824 := ⟨_, rfl⟩
 rw [← hx] at h0 h1 h2 h3 ⊢
 have h0 : t.length ≤ 1073741824 := h0
 have h1 : t.length ≤ l.length := h1
 have h2 : (tn t).2.1.length ≤ t.length := h2
 have h3 : (tn t).1 < 18446744073709551616 := h3
 simp only [toBB]
 have bad : Ev (fun k => stanchionref06_Take.j0 k (mkB t) true) (([] : List S62), (3 : Int)) :=
  Ev.step (f := fun k => some (([] : List S62), (3 : Int))) (fun k => by simp only [stanchionref06_Take.j0]; rw [if_pos trivial]) (Ev.now _)
 by_cases he : e = 0
 ·simp only [if_pos he, mkB_size]
  by_cases hr : r = []
  ·rw [hr, decide_eq_false (show ¬ ((([] : List UInt8).length : Int) > 0) by simp)]
   refine Ev.step (f := fun k => (stanchionref01_TakeNum.f k (mkB t)).bind fun bt561 => (if bt561.2.2 = 0 then (stanchionref06_Take.l0 k bt561.1 bt561.2.1 ([] : List (S62)) 0) else (some (([] : List (S62)), 3)))) (fun k => by simp only [stanchionref06_Take.j0]; rw [if_neg (by decide)]) ?_
   refine Ev.bind (rtn_ev t (by omega)) ?_
   obtain ⟨⟨n, t2, e2⟩, hy⟩ : ∃ y, y = tn t := ⟨_, rfl⟩
   rw [← hy] at h2 h3 ⊢
   have h2 : t2.length ≤ t.length := h2
   have h3 : n < 18446744073709551616 := h3
   simp only [toB]
   by_cases he2 : e2 = 0
   ·simp only [if_pos he2]
    rw [if_pos (by first | exact ⟨he, he2, rfl⟩ | exact ⟨he, he2, trivial⟩)]
    exact rtakeR_l0 n n 0 t2 [] (by omega) (by omega) rfl h3 (by simp only [List.length_nil]; omega) (fun x hx => by cases hx)
   ·simp only [if_neg he2]
    rw [if_neg (fun q => he2 q.2.1)]
    exact Ev.now _
  ·have hp : 0 < r.length := List.length_pos_iff.2 hr
   rw [if_neg (fun q => hr q.2.2), decide_eq_true (show (r.length : Int) > 0 by omega)]
   exact bad
 ·simp only [if_neg he]
  rw [if_neg (fun q => he q.1)]
  exact bad
end Go.Proofs.Ytbhkopbalhhpgaa.PY
