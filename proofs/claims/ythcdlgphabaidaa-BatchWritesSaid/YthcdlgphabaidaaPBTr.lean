/- The document's table functions in plain words: order, right, same, find, range, put, drop, writes. -/
import Derived.Test.YthcdlgphabaidaaPBx2
import Derived.Test.YthcdlgphabaidaaPBTa
namespace Go.Proofs.Ythcdlgphabaidaa.PB
open Go.RowKit Go.Proofs.YthcdlgphabaidaaW.PrintWords
set_option linter.unusedVariables false
set_option linter.unusedSimpArgs false

theorem less_l0 : ∀ (n : Nat) (a b : ByteArray) (i : Nat), a.size - i ≤ n → i ≤ a.size → i ≤ b.size → a.size < 4611686018427387904 →
    Ev (fun k => stanchionref01_Less.l0 k a b (i : Int)) (Op.bytesLess (a.toList.drop i) (b.toList.drop i)) := by
  intro n
  induction n with
  | zero =>
    intro a b i hn ha hb hs
    have hi : i = a.size := by omega
    refine Ev.step (f := fun k => stanchionref01_Less.j1 k a b (i : Int) false) (fun k => by simp only [stanchionref01_Less.l0]; rw [if_neg (by omega)]) ?_
    refine Ev.step (f := fun k => some (decide ((a.size : Int) < (b.size : Int)))) (fun k => by simp only [stanchionref01_Less.j1]; rfl) ?_
    have e : Op.bytesLess (a.toList.drop i) (b.toList.drop i) = decide ((a.size : Int) < (b.size : Int)) := by
      rw [List.drop_of_length_le (l := a.toList) (by rw [str_len]; omega)]
      rcases Nat.lt_or_ge i b.size with h | h
      · rw [List.drop_eq_getElem_cons (by rw [str_len]; exact h)]
        exact (decide_eq_true (by omega)).symm
      · rw [List.drop_of_length_le (by rw [str_len]; omega)]
        exact (decide_eq_false (by omega)).symm
    rw [e]
    exact Ev.now _
  | succ n ih =>
    intro a b i hn ha hb hs
    rcases Nat.lt_or_ge i a.size with hi | hi
    · rcases Nat.lt_or_ge i b.size with hj | hj
      · refine Ev.step (f := fun k => stanchionref01_Less.j1 k a b (i : Int) true) (fun k => by simp only [stanchionref01_Less.l0]; rw [if_pos (by omega), decide_eq_true (by omega)]) ?_
        have ga : i < a.toList.length := by rw [str_len]; exact hi
        have gb : i < b.toList.length := by rw [str_len]; exact hj
        rw [List.drop_eq_getElem_cons ga, List.drop_eq_getElem_cons gb]
        refine Ev.step (f := fun k => if (bt a i) = (bt b i) then stanchionref01_Less.l0 k a b ((i + 1 : Nat) : Int) else some (decide ((bt a i) < (bt b i)))) (fun k => ?_) ?_
        · simp only [stanchionref01_Less.j1]
          rw [if_pos trivial, if_pos (by omega), if_pos (by omega), if_pos (by omega), show wrap64 ((i : Int) + 1) = ((i + 1 : Nat) : Int) by unfold wrap64; omega]
        · rw [bt_get a i ga, bt_get b i gb]
          by_cases e : a.toList[i] = b.toList[i]
          · simp only [if_pos (show ((a.toList[i]).toNat : Int) = ((b.toList[i]).toNat : Int) by rw [e])]
            have : Op.bytesLess (a.toList[i] :: a.toList.drop (i + 1)) (b.toList[i] :: b.toList.drop (i + 1)) = Op.bytesLess (a.toList.drop (i + 1)) (b.toList.drop (i + 1)) := by
              rw [← e]; simp [Op.bytesLess]
            rw [this]
            exact ih a b (i + 1) (by omega) (by omega) (by omega) hs
          · have ne : ¬ ((a.toList[i]).toNat : Int) = ((b.toList[i]).toNat : Int) := fun h => e (UInt8.toNat_inj.1 (by omega))
            simp only [if_neg ne]
            have : Op.bytesLess (a.toList[i] :: a.toList.drop (i + 1)) (b.toList[i] :: b.toList.drop (i + 1)) = decide (((a.toList[i]).toNat : Int) < ((b.toList[i]).toNat : Int)) := by
              simp [Op.bytesLess, e, UInt8.lt_iff_toNat_lt]
            rw [this]
            exact Ev.now _
      · refine Ev.step (f := fun k => stanchionref01_Less.j1 k a b (i : Int) false) (fun k => by simp only [stanchionref01_Less.l0]; rw [if_pos (by omega), decide_eq_false (by omega)]) ?_
        refine Ev.step (f := fun k => some (decide ((a.size : Int) < (b.size : Int)))) (fun k => by simp only [stanchionref01_Less.j1]; rfl) ?_
        have e : Op.bytesLess (a.toList.drop i) (b.toList.drop i) = decide ((a.size : Int) < (b.size : Int)) := by
          rw [List.drop_of_length_le (l := b.toList) (by rw [str_len]; omega)]
          simp only [Op.bytesLess]
          exact (decide_eq_false (by omega)).symm
        rw [e]
        exact Ev.now _
    · refine Ev.step (f := fun k => stanchionref01_Less.j1 k a b (i : Int) false) (fun k => by simp only [stanchionref01_Less.l0]; rw [if_neg (by omega)]) ?_
      refine Ev.step (f := fun k => some (decide ((a.size : Int) < (b.size : Int)))) (fun k => by simp only [stanchionref01_Less.j1]; rfl) ?_
      have e : Op.bytesLess (a.toList.drop i) (b.toList.drop i) = decide ((a.size : Int) < (b.size : Int)) := by
        rw [List.drop_of_length_le (l := a.toList) (by rw [str_len]; omega)]
        rcases Nat.lt_or_ge i b.size with h | h
        · rw [List.drop_eq_getElem_cons (by rw [str_len]; exact h)]
          exact (decide_eq_true (by omega)).symm
        · rw [List.drop_of_length_le (by rw [str_len]; omega)]
          exact (decide_eq_false (by omega)).symm
      rw [e]
      exact Ev.now _
theorem less_ev (a b : ByteArray) (hs : a.size < 4611686018427387904) : Ev (fun k => stanchionref01_Less.f k a b) (ltS a b) := by
  have := less_l0 a.size a b 0 (by omega) (by omega) (by omega) hs
  exact this
theorem right_l0 : ∀ (n : Nat) (l : List S68) (i : Nat), 0 < i → l.length - i ≤ n → l.length < 4611686018427387904 → (∀ x ∈ l, x.f0.size < 4611686018427387904) → Ev (fun k => stanchionref05_Right.l0 k l (i : Int)) (rises (l.drop (i - 1))) := by
  intro n
  induction n with
  | zero =>
    intro l i h0 hn hl hb
    refine Ev.step (f := fun k => some true) (fun k => by simp only [stanchionref05_Right.l0]; rw [if_neg (by omega)]) ?_
    have e : rises (l.drop (i - 1)) = true := by
      have hd : (l.drop (i - 1)).length ≤ 1 := by rw [List.length_drop]; omega
      match h : l.drop (i - 1), hd with
      | [], _ => rfl
      | [_], _ => rfl
    rw [e]
    exact Ev.now _
  | succ n ih =>
    intro l i h0 hn hl hb
    rcases Nat.lt_or_ge i l.length with hi | hi
    · have hw : wrap64 ((i : Int) - 1) = ((i - 1 : Nat) : Int) := by unfold wrap64; omega
      have h1 : i - 1 < l.length := by omega
      refine Ev.step (f := fun k => (stanchionref01_Less.f k (l[i - 1]).f0 (l[i]).f0).bind fun t => if t = true then stanchionref05_Right.l0 k l ((i + 1 : Nat) : Int) else some false) (fun k => ?_) ?_
      · simp only [stanchionref05_Right.l0]
        rw [if_pos (by omega), hw, if_pos (by omega), if_pos (by omega), if_pos (by omega), rd_get _ _ h1, rd_get _ _ hi, wrap_succ i (by omega)]
      · refine Ev.bind (less_ev _ _ (hb _ (List.getElem_mem h1))) ?_
        have e : rises (l.drop (i - 1)) = (ltS (l[i - 1]).f0 (l[i]).f0 && rises (l.drop i)) := by
          rw [List.drop_eq_getElem_cons h1, show i - 1 + 1 = i by omega, List.drop_eq_getElem_cons hi]
          rfl
        rw [e]
        cases ltS (l[i - 1]).f0 (l[i]).f0 with
        | true =>
          rw [Bool.true_and]
          simp only [if_pos]
          have := ih l (i + 1) (by omega) (by omega) hl hb
          rwa [Nat.add_sub_cancel] at this
        | false => exact Ev.now _
    · refine Ev.step (f := fun k => some true) (fun k => by simp only [stanchionref05_Right.l0]; rw [if_neg (by omega)]) ?_
      have e : rises (l.drop (i - 1)) = true := by
        have hd : (l.drop (i - 1)).length ≤ 1 := by rw [List.length_drop]; omega
        match h : l.drop (i - 1), hd with
        | [], _ => rfl
        | [_], _ => rfl
      rw [e]
      exact Ev.now _
theorem right_ev (l : List S68) (hl : l.length < 4611686018427387904) (hb : ∀ x ∈ l, x.f0.size < 4611686018427387904) : Ev (fun k => stanchionref05_Right.f k l) (rises l) := right_l0 l.length l 1 (by omega) (by omega) hl hb
theorem rfind_l0 (key : ByteArray) : ∀ (n : Nat) (l : List S68) (i : Nat), l.length - i ≤ n → l.length < 4611686018427387904 → Ev (fun k => stanchionref05_Find.l0 k l key (i : Int)) (findL (l.drop i) key) := by
  intro n
  induction n with
  | zero =>
    intro l i hn hl
    rw [List.drop_of_length_le (by omega)]
    exact Ev.step (f := fun k => some ((⟨#[]⟩ : ByteArray), false)) (fun k => by simp only [stanchionref05_Find.l0]; rw [if_neg (by omega)]) (Ev.now _)
  | succ n ih =>
    intro l i hn hl
    rcases Nat.lt_or_ge i l.length with hi | hi
    · rw [List.drop_eq_getElem_cons hi]
      by_cases he : (l[i]).f0.toList = key.toList
      · refine Ev.step (f := fun k => some ((l[i]).f1, true)) (fun k => ?_) ?_
        · simp only [stanchionref05_Find.l0]
          rw [if_pos (by omega), if_pos (by omega), rd_get _ _ hi, if_pos he]
        · have : findL (l[i] :: l.drop (i + 1)) key = ((l[i]).f1, true) := findL_hit [] _ _ _ (fun y hy => by cases hy) (by unfold eqK68; exact beq_iff_eq.2 he)
          rw [this]; exact Ev.now _
      · refine Ev.step (f := fun k => stanchionref05_Find.l0 k l key ((i + 1 : Nat) : Int)) (fun k => ?_) ?_
        · simp only [stanchionref05_Find.l0]
          rw [if_pos (by omega), if_pos (by omega), rd_get _ _ hi, if_neg he, wrap_succ i (by omega)]
        · have : findL (l[i] :: l.drop (i + 1)) key = findL (l.drop (i + 1)) key := by
            unfold findL
            rw [List.find?_cons, show eqK68 key l[i] = false from beq_eq_false_iff_ne.2 he]
          rw [this]
          exact ih l (i + 1) (by omega) hl
    · rw [List.drop_of_length_le (by omega)]
      exact Ev.step (f := fun k => some ((⟨#[]⟩ : ByteArray), false)) (fun k => by simp only [stanchionref05_Find.l0]; rw [if_neg (by omega)]) (Ev.now _)
theorem rfind_ev (l : List S68) (key : ByteArray) (hl : l.length < 4611686018427387904) : Ev (fun k => stanchionref05_Find.f k l key) (findL l key) := rfind_l0 key l.length l 0 (by omega) hl
end Go.Proofs.Ythcdlgphabaidaa.PB
