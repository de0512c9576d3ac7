/- The document's table functions in plain words: order, right, same, find, range, put, drop, writes. -/
import Derived.Test.YtbkfmicnjnklnaaPBx2
import Derived.Test.YtbkfmicnjnklnaaPBTa
namespace Go.Proofs.Ytbkfmicnjnklnaa.PB
open Go.RowKit Go.Proofs.YtbkfmicnjnklnaaW.PrintWords
set_option linter.unusedVariables false
set_option linter.unusedSimpArgs false

theorem less_l0 : ∀ (n : Nat) (a b : ByteArray) (i : Nat), a.size - i ≤ n → i ≤ a.size → i ≤ b.size → a.size < 4611686018427387904 →
    Ev (fun k => stanchionref01_Less.l0 k a b (i : Int)) (Op.bytesLess (a.toList.drop i) (b.toList.drop i)) := by
  intro n
  induction n with
  | zero =>
    intro a b i hn ha hb hs
    have hi : i = a.size := by omega
    refine Ev.step (f := fun k => stanchionref01_Less.j1 k a b (i : Int) false) (fun k => by simp only [stanchionref01_Less.l0]; rw [if_neg (by omega)]) ?_
    refine Ev.step (f := fun k => some (decide ((a.size : Int) < (b.size : Int)))) (fun k => by simp only [stanchionref01_Less.j1]; rfl) ?_
    have e : Op.bytesLess (a.toList.drop i) (b.toList.drop i) = decide ((a.size : Int) < (b.size : Int)) := by
      rw [List.drop_of_length_le (l := a.toList) (by rw [str_len]; omega)]
      rcases Nat.lt_or_ge i b.size with h | h
      · rw [List.drop_eq_getElem_cons (by rw [str_len]; exact h)]
        exact (decide_eq_true (by omega)).symm
      · rw [List.drop_of_length_le (by rw [str_len]; omega)]
        exact (decide_eq_false (by omega)).symm
    rw [e]
    exact Ev.now _
  | succ n ih =>
    intro a b i hn ha hb hs
    rcases Nat.lt_or_ge i a.size with hi | hi
    · rcases Nat.lt_or_ge i b.size with hj | hj
      · refine Ev.step (f := fun k => stanchionref01_Less.j1 k a b (i : Int) true) (fun k => by simp only [stanchionref01_Less.l0]; rw [if_pos (by omega), decide_eq_true (by omega)]) ?_
        have ga : i < a.toList.length := by rw [str_len]; exact hi
        have gb : i < b.toList.length := by rw [str_len]; exact hj
        rw [List.drop_eq_getElem_cons ga, List.drop_eq_getElem_cons gb]
        refine Ev.step (f := fun k => if (bt a i) = (bt b i) then stanchionref01_Less.l0 k a b ((i + 1 : Nat) : Int) else some (decide ((bt a i) < (bt b i)))) (fun k => ?_) ?_
        · simp only [stanchionref01_Less.j1]
          rw [if_pos trivial, if_pos (by omega), if_pos (by omega), if_pos (by omega), show wrap64 ((i : Int) + 1) = ((i + 1 : Nat) : Int) by unfold wrap64; omega]
        · rw [bt_get a i ga, bt_get b i gb]
          by_cases e : a.toList[i] = b.toList[i]
          · simp only [if_pos (show ((a.toList[i]).toNat : Int) = ((b.toList[i]).toNat : Int) by rw [e])]
            have : Op.bytesLess (a.toList[i] :: a.toList.drop (i + 1)) (b.toList[i] :: b.toList.drop (i + 1)) = Op.bytesLess (a.toList.drop (i + 1)) (b.toList.drop (i + 1)) := by
              rw [← e]; simp [Op.bytesLess]
            rw [this]
            exact ih a b (i + 1) (by omega) (by omega) (by omega) hs
          · have ne : ¬ ((a.toList[i]).toNat : Int) = ((b.toList[i]).toNat : Int) := fun h => e (UInt8.toNat_inj.1 (by omega))
            simp only [if_neg ne]
            have : Op.bytesLess (a.toList[i] :: a.toList.drop (i + 1)) (b.toList[i] :: b.toList.drop (i + 1)) = decide (((a.toList[i]).toNat : Int) < ((b.toList[i]).toNat : Int)) := by
              simp [Op.bytesLess, e, UInt8.lt_iff_toNat_lt]
            rw [this]
            exact Ev.now _
      · refine Ev.step (f := fun k => stanchionref01_Less.j1 k a b (i : Int) false) (fun k => by simp only [stanchionref01_Less.l0]; rw [if_pos (by omega), decide_eq_false (by omega)]) ?_
        refine Ev.step (f := fun k => some (decide ((a.size : Int) < (b.size : Int)))) (fun k => by simp only [stanchionref01_Less.j1]; rfl) ?_
        have e : Op.bytesLess (a.toList.drop i) (b.toList.drop i) = decide ((a.size : Int) < (b.size : Int)) := by
          rw [List.drop_of_length_le (l := b.toList) (by rw [str_len]; omega)]
          simp only [Op.bytesLess]
          exact (decide_eq_false (by omega)).symm
        rw [e]
        exact Ev.now _
    · refine Ev.step (f := fun k => stanchionref01_Less.j1 k a b (i : Int) false) (fun k => by simp only [stanchionref01_Less.l0]; rw [if_neg (by omega)]) ?_
      refine Ev.step (f := fun k => some (decide ((a.size : Int) < (b.size : Int)))) (fun k => by simp only [stanchionref01_Less.j1]; rfl) ?_
      have e : Op.bytesLess (a.toList.drop i) (b.toList.drop i) = decide ((a.size : Int) < (b.size : Int)) := by
        rw [List.drop_of_length_le (l := a.toList) (by rw [str_len]; omega)]
        rcases Nat.lt_or_ge i b.size with h | h
        · rw [List.drop_eq_getElem_cons (by rw [str_len]; exact h)]
          exact (decide_eq_true (by omega)).symm
        · rw [List.drop_of_length_le (by rw [str_len]; omega)]
          exact (decide_eq_false (by omega)).symm
      rw [e]
      exact Ev.now _
theorem less_ev (a b : ByteArray) (hs : a.size < 4611686018427387904) : Ev (fun k => stanchionref01_Less.f k a b) (ltS a b) := by
  have := less_l0 a.size a b 0 (by omega) (by omega) (by omega) hs
  exact this
def insR (has : Bool) (key val : ByteArray) : List S43 → List S43
  | [] => [⟨key, val⟩]
  | x :: r => if (if has = true then eqK43 key x else ltS key x.f0) = true then (if has = true then ⟨key, val⟩ :: r else ⟨key, val⟩ :: x :: r) else x :: insR has key val r
theorem insR_hit (key val : ByteArray) : ∀ (A : List S43) (x : S43) (C : List S43), (∀ y ∈ A, eqK43 key y = false) → eqK43 key x = true → insR true key val (A ++ x :: C) = A ++ ⟨key, val⟩ :: C
  | [], x, C, _, hx => by
    show insR true key val (x :: C) = _
    unfold insR
    simp [hx]
  | a :: A, x, C, hA, hx => by
    show insR true key val (a :: (A ++ x :: C)) = _
    unfold insR
    simp only [if_pos, hA a List.mem_cons_self]
    rw [if_neg (by decide), insR_hit key val A x C (fun y hy => hA y (List.mem_cons_of_mem _ hy)) hx]
    rfl
theorem insR_gt (key val : ByteArray) : ∀ (A : List S43) (x : S43) (C : List S43), (∀ y ∈ A, ltS key y.f0 = false) → ltS key x.f0 = true → insR false key val (A ++ x :: C) = A ++ ⟨key, val⟩ :: x :: C
  | [], x, C, _, hx => by
    show insR false key val (x :: C) = _
    unfold insR
    simp [hx]
  | a :: A, x, C, hA, hx => by
    show insR false key val (a :: (A ++ x :: C)) = _
    unfold insR
    simp only [if_neg (show ¬ (false = true) by decide), hA a List.mem_cons_self]
    rw [insR_gt key val A x C (fun y hy => hA y (List.mem_cons_of_mem _ hy)) hx]
    rfl
theorem insR_end (key val : ByteArray) : ∀ (A : List S43), (∀ y ∈ A, ltS key y.f0 = false) → insR false key val A = A ++ [⟨key, val⟩]
  | [], _ => rfl
  | a :: A, hA => by
    unfold insR
    simp only [if_neg (show ¬ (false = true) by decide), hA a List.mem_cons_self]
    rw [insR_end key val A (fun y hy => hA y (List.mem_cons_of_mem _ hy))]
    rfl
theorem insR_put (l : List S43) (key val : ByteArray) : insR (findL l key).2 key val l = putL43 l key val := by
  obtain ⟨A, C, hA, hp, hs⟩ := put_shape l key
  rw [hp val]
  rcases hs with ⟨x, hx, rfl⟩ | ⟨hno, rfl, h1, h2⟩
  · have hx' := (eqK_iff key x).2 hx
    rw [findL_hit A x C key hA hx']
    exact insR_hit key val A x C hA hx'
  · rw [findL_miss _ _ hno]
    cases C with
    | nil => rw [List.append_nil]; exact insR_end key val A h1
    | cons y C' => exact insR_gt key val A y C' h1 (h2 y C' rfl)
end Go.Proofs.Ytbkfmicnjnklnaa.PB
