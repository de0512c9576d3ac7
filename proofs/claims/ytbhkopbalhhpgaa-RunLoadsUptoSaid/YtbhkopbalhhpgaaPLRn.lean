/- Numbers and texts of bytes: what is told, and taken; what is taken stays so where bytes follow; what was told is taken as it was (Bt, Bv, Bw and PureBatchBack's, of the program's functions alone). -/
import Derived.Test.YtbhkopbalhhpgaaPLTa
namespace Go.Proofs.Ytbhkopbalhhpgaa.PL
open Go.RowKit Go.Proofs.YtbhkopbalhhpgaaW.PrintWords
set_option linter.unusedVariables false
set_option linter.unusedSimpArgs false

theorem ev_eq {α : Type} {g : Nat → Option α} {r s : α} (h : Ev g r) (e : r = s) : Ev g s := e ▸ h
def isD (b : UInt8) : Bool := decide (48 ≤ b.toNat) && decide (b.toNat ≤ 57)
def valD : List UInt8 → Nat → Option Nat
  | [], v => some v
  | b :: r, v => if 18446744073709551616 ≤ 10 * v + (b.toNat - 48) then none else valD r (10 * v + (b.toNat - 48))
def mkB (l : List UInt8) : ByteArray := ⟨l.toArray⟩
theorem mkB_list (l : List UInt8) : (mkB l).toList = l := by rw [str_data]; rfl
theorem mkB_self (s : ByteArray) : mkB s.toList = s := str_ext (mkB_list _)
theorem mkB_size (l : List UInt8) : (mkB l).size = l.length := by rw [← str_len, mkB_list]
theorem ext_list (s : ByteArray) (i j : Nat) : (s.extract i j).toList = (s.toList.drop i).take (j - i) := by
  rw [str_data, str_data, ByteArray.data_extract, Array.toList_extract, List.extract]
theorem ext_drop (s : ByteArray) (i : Nat) : s.extract i s.size = mkB (s.toList.drop i) := by
  refine str_ext ?_
  rw [ext_list, mkB_list, List.take_of_length_le (by rw [List.length_drop, str_len]; exact Nat.le_refl _)]
theorem ext_take (s : ByteArray) (i : Nat) : s.extract 0 i = mkB (s.toList.take i) := by
  refine str_ext ?_
  rw [ext_list, mkB_list]; rfl
theorem app_list (a b : ByteArray) : (a ++ b).toList = a.toList ++ b.toList := by
  rw [str_data, str_data, str_data, ByteArray.data_append, Array.toList_append]
def nd (l : List UInt8) : Nat := (l.takeWhile isD).length
def fin (l : List UInt8) : Option Nat → Nat × List UInt8 × Int
  | none => (0, [], 3)
  | some v => if l.length ≤ nd l then (0, [], 2) else if l[nd l]? = some 59 ∧ nd l ≠ 0 then (v, l.drop (nd l + 1), 0) else (0, [], 3)
theorem fin_some (l : List UInt8) (v : Nat) : fin l (some v) = if l.length ≤ nd l then (0, [], 2) else if l[nd l]? = some 59 ∧ nd l ≠ 0 then (v, l.drop (nd l + 1), 0) else (0, [], 3) := rfl
def tn (l : List UInt8) : Nat × List UInt8 × Int :=
  if 20 < nd l ∨ (1 < nd l ∧ l.head? = some 48) then (0, [], 3) else fin l (valD (l.take (nd l)) 0)
abbrev toB (x : Nat × List UInt8 × Int) : Int × ByteArray × Int := ((x.1 : Int), mkB x.2.1, x.2.2)
def tnB (s : ByteArray) : Int × ByteArray × Int := toB (tn s.toList)
theorem nd_le : ∀ l : List UInt8, nd l ≤ l.length
  | [] => Nat.le_refl _
  | b :: r => by
    unfold nd
    rw [List.takeWhile_cons]
    have := nd_le r
    unfold nd at this
    split
    · simp only [List.length_cons]; omega
    · simp
theorem nd_digits : ∀ (l : List UInt8) (x : UInt8), x ∈ l.take (nd l) → isD x = true
  | [], x, h => by simp [nd] at h
  | b :: r, x, h => by
    unfold nd at h
    rw [List.takeWhile_cons] at h
    split at h
    · rename_i hb
      rw [List.length_cons, List.take_succ_cons] at h
      rcases List.mem_cons.1 h with rfl | h
      · exact hb
      · exact nd_digits r x h
    · simp at h
theorem nd_app : ∀ (ds : List UInt8) (c : UInt8) (r : List UInt8), (∀ x ∈ ds, isD x = true) → isD c = false → nd (ds ++ c :: r) = ds.length
  | [], c, r, _, hc => by simp [nd, hc]
  | d :: ds, c, r, h, hc => by
    have ih := nd_app ds c r (fun x hx => h x (List.mem_cons_of_mem _ hx)) hc
    unfold nd at ih ⊢
    rw [List.cons_append, List.takeWhile_cons, if_pos (h d List.mem_cons_self), List.length_cons, ih, List.length_cons]
theorem isD_nat {b : UInt8} (h : isD b = true) : 48 ≤ b.toNat ∧ b.toNat ≤ 57 := by
  unfold isD at h
  simpa using h
theorem isD_not {b : UInt8} (h : isD b = false) : b.toNat < 48 ∨ 57 < b.toNat := by
  unfold isD at h
  simp only [Bool.and_eq_false_iff, decide_eq_false_iff_not] at h
  omega
theorem u64w (v : Int) : IntKind.u64.wrap v = v % 18446744073709551616 := rfl
theorem bt0 (s : ByteArray) (h : 0 < s.toList.length) : (bt s 0 == 48) = decide (s.toList.head? = some 48) := by
  have e := bt_get s 0 h
  have e2 : bt s 0 = bt s ((0 : Nat) : Int) := rfl
  rw [e2, e, List.head?_eq_getElem?, List.getElem?_eq_getElem h]
  by_cases hq : s.toList[0] = 48
  · rw [hq]; rfl
  · have hn : ¬ (((s.toList[0]).toNat : Int) = 48) := fun he => hq (UInt8.toNat_inj.1 (by have : (48 : UInt8).toNat = 48 := rfl; omega))
    rw [beq_eq_false_iff_ne.2 hn]
    simp [hq]
theorem bt59 (s : ByteArray) (n : Nat) (h : n < s.toList.length) : (bt s (n : Int) = 59) ↔ s.toList[n]? = some 59 := by
  rw [bt_get s n h, List.getElem?_eq_getElem h, Option.some.injEq]
  constructor
  · intro he; exact UInt8.toNat_inj.1 (by have : (59 : UInt8).toNat = 59 := rfl; omega)
  · intro he; rw [he]; rfl
theorem told_l0 (x : ByteArray) (hd : ∀ b ∈ x.toList, isD b = true) (hl : x.toList.length < 4611686018427387904) : ∀ (n i v : Nat), x.toList.length - i ≤ n → i ≤ x.toList.length → v < 18446744073709551616 →
    Ev (fun k => dec_told.l0 k x (v : Int) (x.size : Int) (i : Int)) (match valD (x.toList.drop i) v with | none => (0, false) | some u => ((u : Int), true)) := by
  have hz := str_len x
  intro n
  have done : ∀ i v : Nat, x.toList.length ≤ i → Ev (fun k => dec_told.l0 k x (v : Int) (x.size : Int) (i : Int)) (match valD (x.toList.drop i) v with | none => (0, false) | some u => ((u : Int), true)) := fun i v h => by
    rw [List.drop_of_length_le h]
    exact Ev.step (f := fun k => some ((v : Int), true)) (fun k => by simp only [dec_told.l0]; rw [if_neg (by omega)]) (Ev.now _)
  induction n with
  | zero => intro i v hn hi hv; exact done i v (by omega)
  | succ n ih =>
    intro i v hn hi hv
    rcases Nat.lt_or_ge i x.toList.length with h | h
    · rw [List.drop_eq_getElem_cons h]
      obtain ⟨b, hb⟩ : ∃ b, b = x.toList[i] := ⟨_, rfl⟩
      have hD := isD_nat (hd _ (List.getElem_mem h))
      have hbt := bt_get x i h
      rw [← hb] at hD hbt ⊢
      have hdd : ((bt x (i : Int)) - 48) % 256 = ((b.toNat - 48 : Nat) : Int) := by rw [hbt]; omega
      unfold valD
      by_cases ho : 18446744073709551616 ≤ 10 * v + (b.toNat - 48)
      · rw [if_pos ho]
        refine Ev.step (f := fun k => some (0, false)) (fun k => ?_) (Ev.now _)
        simp only [dec_told.l0]
        rw [if_pos (by omega), if_pos (by omega), if_pos (by omega), hdd, if_pos (by omega)]
      · rw [if_neg ho]
        refine Ev.step (f := fun k => dec_told.l0 k x ((10 * v + (b.toNat - 48) : Nat) : Int) (x.size : Int) ((i + 1 : Nat) : Int)) (fun k => ?_) (ih (i + 1) _ (by omega) h (by omega))
        simp only [dec_told.l0]
        rw [if_pos (by omega), if_pos (by omega), if_pos (by omega), hdd, if_neg (by omega), wrap_succ i (by omega), u64w, u64w]
        congr 1
        omega
    · exact done i v h
theorem dec_l0 (s : ByteArray) (R : Int × ByteArray × Int) (hl : s.toList.length < 4611686018427387904) (hj : Ev (fun k => dec_TakeNum.j1 k s ((nd s.toList : Nat) : Int)) R) : ∀ (n i : Nat), s.toList.length - i ≤ n → i ≤ s.toList.length →
    nd s.toList = i + ((s.toList.drop i).takeWhile isD).length → Ev (fun k => dec_TakeNum.l0 k s (i : Int)) R := by
  have hz := str_len s
  intro n
  have done : ∀ i : Nat, s.toList.length ≤ i → nd s.toList = i + ((s.toList.drop i).takeWhile isD).length → Ev (fun k => dec_TakeNum.l0 k s (i : Int)) R := fun i h e => by
    rw [List.drop_of_length_le h] at e
    have e : nd s.toList = i := by simpa using e
    rw [e] at hj
    exact Ev.step (fun k => by simp only [dec_TakeNum.l0]; rw [if_neg (by omega)]) hj
  induction n with
  | zero => intro i hn hi e; exact done i (by omega) e
  | succ n ih =>
    intro i hn hi e
    rcases Nat.lt_or_ge i s.toList.length with h | h
    · have hbt := bt_get s i h
      rw [List.drop_eq_getElem_cons h, List.takeWhile_cons] at e
      by_cases hb : isD (s.toList[i]) = true
      · rw [if_pos hb, List.length_cons] at e
        have hD := isD_nat hb
        refine Ev.step (f := fun k => dec_TakeNum.l0 k s ((i + 1 : Nat) : Int)) (fun k => ?_) (ih (i + 1) (by omega) h (by omega))
        simp only [dec_TakeNum.l0]
        rw [if_pos (by omega), if_pos (by omega), hbt, if_neg (by omega), if_neg (by omega), wrap_succ i (by omega)]
      · rw [if_neg hb] at e
        have e : nd s.toList = i := by simpa using e
        rw [e] at hj
        have hD := isD_not (by simpa using hb)
        refine Ev.step (fun k => ?_) hj
        simp only [dec_TakeNum.l0]
        rw [if_pos (by omega), if_pos (by omega), hbt]
        by_cases h1 : (((s.toList[i]).toNat : Nat) : Int) < 48
        · rw [if_pos h1]
        · rw [if_neg h1, if_pos (by omega)]
    · exact done i h e
theorem takeNum_ev (s : ByteArray) (hl : s.toList.length < 4611686018427387904) : Ev (fun k => dec_TakeNum.f k s) (tnB s) := by
  have hz := str_len s
  have hn := nd_le s.toList
  unfold dec_TakeNum.f
  refine dec_l0 s _ hl ?_ s.toList.length 0 (by omega) (by omega) (by simp [nd])
  unfold tnB tn
  by_cases h20 : 20 < nd s.toList
  · rw [if_pos (.inl h20)]
    exact Ev.step (f := fun k => some (0, (⟨#[]⟩ : ByteArray), 3)) (fun k => by simp only [dec_TakeNum.j1]; rw [if_pos (by omega)]) (Ev.now _)
  · have hx : s.extract 0 ((nd s.toList : Nat) : Int).toNat = mkB (s.toList.take (nd s.toList)) := by rw [Int.toNat_natCast, ext_take]
    have htold : Ev (fun k => dec_told.f k (mkB (s.toList.take (nd s.toList)))) (match valD (s.toList.take (nd s.toList)) 0 with | none => (0, false) | some u => ((u : Int), true)) := by
      unfold dec_told.f
      have := told_l0 (mkB (s.toList.take (nd s.toList))) (fun b hb => nd_digits _ _ (by rwa [mkB_list] at hb)) (by rw [mkB_list, List.length_take]; omega) (s.toList.take (nd s.toList)).length 0 0 (by rw [mkB_list]; omega) (by omega) (by omega)
      rw [List.drop_zero, mkB_list] at this
      exact this
    have j2z : ∀ (v : Int) (is : Bool), Ev (fun k => dec_TakeNum.j2 k s ((nd s.toList : Nat) : Int) v is true) (toB (0, [], 3)) := fun v is =>
      Ev.step (f := fun k => some (0, (⟨#[]⟩ : ByteArray), 3)) (fun k => by simp only [dec_TakeNum.j2]; rw [if_pos trivial]) (Ev.now _)
    have j2f : ∀ (v : Int), Ev (fun k => dec_TakeNum.j2 k s ((nd s.toList : Nat) : Int) v false false) (toB (0, [], 3)) := fun v =>
      Ev.step (f := fun k => some (0, (⟨#[]⟩ : ByteArray), 3)) (fun k => by simp only [dec_TakeNum.j2]; rw [if_neg (by decide), if_neg (by decide)]) (Ev.now _)
    have j2t : ∀ u : Nat, Ev (fun k => dec_TakeNum.j2 k s ((nd s.toList : Nat) : Int) (u : Int) true false) (toB (fin s.toList (some u))) := fun u => by
      have j3t : Ev (fun k => dec_TakeNum.j3 k s ((nd s.toList : Nat) : Int) (u : Int) true) (toB (0, [], 3)) :=
        Ev.step (f := fun k => some (0, (⟨#[]⟩ : ByteArray), 3)) (fun k => by simp only [dec_TakeNum.j3]; rw [if_pos trivial]) (Ev.now _)
      rw [fin_some]
      rcases Nat.lt_or_ge (nd s.toList) s.toList.length with h | h
      · rw [if_neg (by omega)]
        by_cases h0 : nd s.toList = 0
        · rw [if_neg (fun q => q.2 h0)]
          refine Ev.step (fun k => ?_) j3t
          simp only [dec_TakeNum.j2]
          rw [if_neg (by decide), if_pos trivial, if_pos (by omega), if_pos (by omega)]
        · by_cases h59 : s.toList[nd s.toList]? = some 59
          · rw [if_pos ⟨h59, h0⟩]
            refine Ev.step (f := fun k => dec_TakeNum.j3 k s ((nd s.toList : Nat) : Int) (u : Int) false) (fun k => ?_) (Ev.step (f := fun k => some ((u : Int), mkB (s.toList.drop (nd s.toList + 1)), 0)) (fun k => ?_) (Ev.now _))
            · simp only [dec_TakeNum.j2]
              rw [if_neg (by decide), if_pos trivial, if_pos (by omega), if_neg (by omega), if_pos (by omega), (bt59 s _ h).2 h59]
              rfl
            · simp only [dec_TakeNum.j3]
              rw [if_neg (by decide), if_neg (by omega), wrap_succ _ (by omega), if_pos (by omega), if_pos (by omega), Int.toNat_natCast, ext_drop]
          · rw [if_neg (fun q => h59 q.1)]
            refine Ev.step (fun k => ?_) j3t
            simp only [dec_TakeNum.j2]
            have hb : (bt s ((nd s.toList : Nat) : Int) != 59) = true := bne_iff_ne.2 (fun e => h59 ((bt59 s _ h).1 e))
            rw [if_neg (by decide), if_pos trivial, if_pos (by omega), if_neg (by omega), if_pos (by omega), hb]
      · rw [if_pos h]
        refine Ev.step (f := fun k => dec_TakeNum.j3 k s ((nd s.toList : Nat) : Int) (u : Int) false) (fun k => ?_) (Ev.step (f := fun k => some (0, (⟨#[]⟩ : ByteArray), 2)) (fun k => ?_) (Ev.now _))
        · simp only [dec_TakeNum.j2]
          rw [if_neg (by decide), if_pos trivial, if_neg (by omega)]
        · simp only [dec_TakeNum.j3]
          rw [if_neg (by decide), if_pos (by omega)]
    have hfin : ∀ z : Bool, Ev (fun k => (dec_told.f k (mkB (s.toList.take (nd s.toList)))).bind fun bt151 => dec_TakeNum.j2 k s ((nd s.toList : Nat) : Int) bt151.1 bt151.2 z)
        (if z = true then toB (0, [], 3) else toB (fin s.toList (valD (s.toList.take (nd s.toList)) 0))) := fun z => by
      refine Ev.bind htold ?_
      cases hv : valD (s.toList.take (nd s.toList)) 0 with
      | none =>
        cases z with
        | true => rw [if_pos rfl]; exact j2z _ _
        | false => rw [if_neg (by decide)]; exact j2f _
      | some u =>
        cases z with
        | true => rw [if_pos rfl]; exact j2z _ _
        | false => rw [if_neg (by decide)]; exact j2t u
    by_cases h1 : 1 < nd s.toList
    · have := hfin (decide (s.toList.head? = some 48))
      refine Ev.step (f := fun k => (dec_told.f k (mkB (s.toList.take (nd s.toList)))).bind fun bt151 => dec_TakeNum.j2 k s ((nd s.toList : Nat) : Int) bt151.1 bt151.2 (decide (s.toList.head? = some 48))) (fun k => ?_) (ev_eq this ?_)
      · simp only [dec_TakeNum.j1]
        rw [if_neg (by omega), if_pos (by omega), if_pos (by omega), hx]
        simp only [if_pos (show ((nd s.toList : Nat) : Int) > 1 by omega), if_pos (show (0 : Int) < (s.size : Int) by omega), bt0 s (show 0 < s.toList.length by omega)]
      · by_cases hh : s.toList.head? = some 48
        · rw [if_pos (decide_eq_true hh), if_pos (.inr ⟨h1, hh⟩)]
        · rw [if_neg (by simp [hh]), if_neg (fun q => q.elim h20 (fun q => hh q.2))]
    · have := hfin false
      refine Ev.step (f := fun k => (dec_told.f k (mkB (s.toList.take (nd s.toList)))).bind fun bt151 => dec_TakeNum.j2 k s ((nd s.toList : Nat) : Int) bt151.1 bt151.2 false) (fun k => ?_) (ev_eq this ?_)
      · simp only [dec_TakeNum.j1]
        rw [if_neg (by omega), if_pos (by omega), if_pos (by omega), hx]
        simp only [if_neg (show ¬ ((nd s.toList : Nat) : Int) > 1 by omega)]
      · rw [if_neg (by decide), if_neg (fun q => q.elim h20 (fun q => h1 q.1))]
def numL (v : Nat) : List UInt8 := dg 20 v [59]
theorem numB_eq (v : Nat) : numB v = mkB (numL v) := rfl
theorem dg_len : ∀ (k v : Nat) (acc : List UInt8), (dg k v acc).length ≤ k + acc.length
  | 0, v, acc => by unfold dg; omega
  | k + 1, v, acc => by
    unfold dg
    split
    · rw [List.length_cons]; omega
    · have := dg_len k (v / 10) (UInt8.ofNat (48 + v % 10) :: acc)
      rw [List.length_cons] at this; omega
theorem numL_len (v : Nat) : (numL v).length ≤ 21 := dg_len 20 v [59]
theorem num_eq (v : Nat) (h64 : v < 18446744073709551616) : dec_Num.f (v : Int) = some (numB v) := by
  unfold dec_Num.f
  rw [if_pos (by omega), if_pos (by omega), Int.toNat_natCast]
def textL (s : ByteArray) : List UInt8 := numL s.size ++ s.toList
theorem textL_len (s : ByteArray) : (textL s).length ≤ 21 + s.size := by
  have := numL_len s.size
  unfold textL
  rw [List.length_append, str_len]; omega
theorem text_eq (s : ByteArray) (h : s.size < 4611686018427387904) : dec_Text.f s = some (mkB (textL s)) := by
  have hn := numL_len s.size
  unfold dec_Text.f
  rw [u64w, Int.emod_eq_of_lt (by omega) (by omega), num_eq _ (by omega), Option.bind_some, if_pos (by rw [numB_eq, mkB_size]; omega)]
  congr 1
  refine str_ext ?_
  rw [app_list, numB_eq, mkB_list, mkB_list]; rfl
def tt (l : List UInt8) (most : Nat) : List UInt8 × List UInt8 × Int :=
  if (tn l).2.2 = 0 then (if most < (tn l).1 then ([], [], 4) else if (tn l).2.1.length < (tn l).1 then ([], [], 2) else ((tn l).2.1.take (tn l).1, (tn l).2.1.drop (tn l).1, 0)) else ([], [], (tn l).2.2)
abbrev toBB (x : List UInt8 × List UInt8 × Int) : ByteArray × ByteArray × Int := (mkB x.1, mkB x.2.1, x.2.2)
theorem fin_len (l : List UInt8) (o : Option Nat) : (fin l o).2.1.length ≤ l.length := by
  cases o with
  | none => exact Nat.zero_le _
  | some v =>
    rw [fin_some]
    split
    · exact Nat.zero_le _
    · split
      · simp only [List.length_drop]; omega
      · exact Nat.zero_le _
theorem tn_len (l : List UInt8) : (tn l).2.1.length ≤ l.length := by
  unfold tn
  split
  · exact Nat.zero_le _
  · exact fin_len _ _
theorem tt_len (l : List UInt8) (m : Nat) : (tt l m).2.1.length ≤ l.length := by
  have := tn_len l
  unfold tt
  split
  · split
    · exact Nat.zero_le _
    · split
      · exact Nat.zero_le _
      · simp only [List.length_drop]; omega
  · exact Nat.zero_le _
theorem mk_take (r : List UInt8) (n : Nat) : (mkB r).extract 0 n = mkB (r.take n) := by rw [ext_take, mkB_list]
theorem mk_drop (r : List UInt8) (n : Nat) : (mkB r).extract n (mkB r).size = mkB (r.drop n) := by rw [ext_drop, mkB_list]
theorem tn_ev (l : List UInt8) (hl : l.length < 4611686018427387904) : Ev (fun k => dec_TakeNum.f k (mkB l)) (toB (tn l)) := by
  have := takeNum_ev (mkB l) (by rw [mkB_list]; exact hl)
  unfold tnB at this
  rwa [mkB_list] at this
theorem tt_ev (l : List UInt8) (m : Nat) (hl : l.length < 4611686018427387904) (hm : m < 4611686018427387904) : Ev (fun k => dec_TakeText.f k (mkB l) (m : Int)) (toBB (tt l m)) := by
  have hr := tn_len l
  unfold dec_TakeText.f
  refine Ev.bind (tn_ev l hl) ?_
  unfold tt
  obtain ⟨⟨v, r, e⟩, hx⟩ : ∃ x, x = tn l := ⟨_, rfl⟩
  rw [← hx] at hr ⊢
  have hr : r.length ≤ l.length := hr
  simp only [toB]
  by_cases he : e = 0
  · have hw : IntKind.u64.wrap (m : Int) = (m : Int) := by rw [u64w]; omega
    have hw2 : IntKind.u64.wrap ((mkB r).size : Int) = (r.length : Int) := by rw [u64w, mkB_size]; omega
    simp only [if_pos he, if_neg (show ¬ ((m : Int) < 0) by omega), hw]
    by_cases h4 : m < v
    · rw [if_pos h4, decide_eq_true (show (v : Int) > (m : Int) by omega)]
      exact Ev.step (f := fun k => some ((⟨#[]⟩ : ByteArray), (⟨#[]⟩ : ByteArray), 4)) (fun k => by simp only [dec_TakeText.j0]; rw [if_pos trivial]) (Ev.now _)
    · rw [if_neg h4, decide_eq_false (show ¬ (v : Int) > (m : Int) by omega)]
      by_cases h2 : r.length < v
      · rw [if_pos h2]
        refine Ev.step (f := fun k => some ((⟨#[]⟩ : ByteArray), (⟨#[]⟩ : ByteArray), 2)) (fun k => ?_) (Ev.now _)
        simp only [dec_TakeText.j0]
        rw [if_neg (by decide), hw2, if_pos (by omega)]
      · rw [if_neg h2]
        refine Ev.step (f := fun k => some (mkB (r.take v), mkB (r.drop v), 0)) (fun k => ?_) (Ev.now _)
        simp only [dec_TakeText.j0]
        rw [if_neg (by decide), hw2, if_neg (by omega), if_pos (by omega), if_pos (by rw [mkB_size]; omega), Int.toNat_natCast, mk_take, mk_drop]
  · simp only [if_neg he]
    exact Ev.now _
def tT (l : List UInt8) (m : Nat) : Option (List UInt8 × List UInt8) := if (tt l m).2.2 = 0 then some ((tt l m).1, (tt l m).2.1) else none
theorem tT_none {l : List UInt8} {m : Nat} (h : tT l m = none) : ¬ (tt l m).2.2 = 0 := fun q => by unfold tT at h; rw [if_pos q] at h; cases h
theorem tT_some {l : List UInt8} {m : Nat} {t r : List UInt8} (h : tT l m = some (t, r)) : (tt l m).2.2 = 0 ∧ (tt l m).1 = t ∧ (tt l m).2.1 = r := by
  unfold tT at h
  split at h
  · rename_i q
    injection h with h
    injection h with h1 h2
    exact ⟨q, h1, h2⟩
  · cases h
theorem valD_app : ∀ (a b : List UInt8) (v : Nat), valD (a ++ b) v = (valD a v).bind (valD b)
  | [], b, v => rfl
  | x :: a, b, v => by
    rw [List.cons_append]
    unfold valD
    split
    · rfl
    · exact valD_app a b _
theorem dg_acc : ∀ (k v : Nat) (acc : List UInt8), dg k v acc = dg k v [] ++ acc
  | 0, v, acc => rfl
  | k + 1, v, acc => by
    unfold dg
    split
    · rfl
    · rw [dg_acc k (v / 10) (UInt8.ofNat (48 + v % 10) :: acc), dg_acc k (v / 10) [UInt8.ofNat (48 + v % 10)], List.append_assoc]; rfl
theorem dig_nat (v : Nat) : (UInt8.ofNat (48 + v % 10)).toNat = 48 + v % 10 := by
  rw [UInt8.toNat_ofNat']; omega
theorem dg_val : ∀ (k v : Nat), v < 10 ^ k → v < 18446744073709551616 → valD (dg k v []) 0 = some v
  | 0, v, h, _ => by
    have : v = 0 := by simpa using h
    subst this; rfl
  | k + 1, v, h, h64 => by
    unfold dg
    split
    · rename_i h0
      unfold valD valD
      rw [dig_nat, if_neg (by omega)]
      congr 1; omega
    · rw [dg_acc, valD_app, dg_val k (v / 10) (by rw [Nat.pow_succ] at h; omega) (by omega), Option.bind_some]
      unfold valD valD
      rw [dig_nat, if_neg (by omega)]
      congr 1; omega
theorem dg_dig : ∀ (k v : Nat), ∀ x ∈ dg k v [], isD x = true
  | 0, v, x, hx => by cases hx
  | k + 1, v, x, hx => by
    have hd : isD (UInt8.ofNat (48 + v % 10)) = true := by
      unfold isD
      rw [dig_nat]
      simp only [Bool.and_eq_true, decide_eq_true_eq]; omega
    unfold dg at hx
    split at hx
    · rw [List.mem_singleton.1 hx]; exact hd
    · rw [dg_acc] at hx
      rcases List.mem_append.1 hx with hx | hx
      · exact dg_dig k _ x hx
      · rw [List.mem_singleton.1 hx]; exact hd
theorem head_app {a b : List UInt8} (h : a ≠ []) : (a ++ b).head? = a.head? := by
  cases a with
  | nil => exact absurd rfl h
  | cons x r => rfl
theorem dg_ne (k v : Nat) (acc : List UInt8) : dg (k + 1) v acc ≠ [] := by
  unfold dg
  split
  · exact List.cons_ne_nil _ _
  · rw [dg_acc]; simp
theorem dg_head : ∀ (k v : Nat), v < 10 ^ k → (dg k v []).head? = some 48 → v = 0
  | 0, v, h, _ => by simpa using h
  | k + 1, v, h, hh => by
    unfold dg at hh
    split at hh
    · rename_i h0
      have e : UInt8.ofNat (48 + v % 10) = 48 := by simpa using hh
      have e2 := congrArg UInt8.toNat e
      rw [dig_nat] at e2
      have : (48 : UInt8).toNat = 48 := rfl
      omega
    · rename_i h0
      rw [dg_acc] at hh
      cases k with
      | zero => rw [Nat.pow_succ] at h; omega
      | succ k =>
        have hne := dg_ne k (v / 10) []
        rw [head_app hne] at hh
        have := dg_head (k + 1) (v / 10) (by rw [Nat.pow_succ] at h; omega) hh
        omega
theorem tn_num (v : Nat) (q : List UInt8) (h64 : v < 18446744073709551616) : tn (numL v ++ q) = (v, q, 0) := by
  have e : numL v ++ q = dg 20 v [] ++ 59 :: q := by unfold numL; rw [dg_acc, List.append_assoc]; rfl
  have hn : nd (dg 20 v [] ++ 59 :: q) = (dg 20 v []).length := nd_app _ _ _ (dg_dig 20 v) (by decide)
  have hl := dg_len 20 v []
  have hp : 0 < (dg 20 v []).length := List.length_pos_iff.2 (dg_ne 19 v [])
  have hc : ¬ (20 < (dg 20 v []).length ∨ (1 < (dg 20 v []).length ∧ (dg 20 v [] ++ 59 :: q).head? = some 48)) := by
    rintro (h | ⟨h1, h2⟩)
    · simp only [List.length_nil] at hl; omega
    · rw [head_app (dg_ne 19 v [])] at h2
      have := dg_head 20 v (by omega) h2
      subst this
      exact absurd h1 (by decide)
  rw [e]
  unfold tn
  rw [hn, if_neg hc, List.take_left', dg_val 20 v (by omega) h64, fin_some, hn, if_neg (by rw [List.length_append, List.length_cons]; omega), if_pos ⟨by rw [List.getElem?_append_right (Nat.le_refl _), Nat.sub_self]; rfl, by omega⟩]
  · congr 2
    rw [List.drop_append, List.drop_of_length_le (by omega)]
    simp
  · rfl
theorem tT_text (s : ByteArray) (m : Nat) (q : List UInt8) (h : s.size ≤ m) (hm : m < 18446744073709551616) : tT (textL s ++ q) m = some (s.toList, q) := by
  have e : tt (textL s ++ q) m = (s.toList, q, 0) := by
    unfold tt textL
    rw [List.append_assoc, tn_num _ _ (by omega), if_pos rfl, if_neg (by omega), if_neg (by rw [List.length_append, str_len]; omega)]
    simp only []
    rw [← str_len, List.take_left', List.drop_left'] <;> rfl
  unfold tT
  rw [e, if_pos rfl]
end Go.Proofs.Ytbhkopbalhhpgaa.PL
