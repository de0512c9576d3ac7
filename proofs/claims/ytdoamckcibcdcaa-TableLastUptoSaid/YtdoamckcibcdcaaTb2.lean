/- The document's table functions in plain words: find, range, put, drop. -/
import Derived.Test.YtdoamckcibcdcaaTb
import Derived.Test.YtdoamckcibcdcaaPBx3
namespace Go.Proofs.Ytdoamckcibcdcaa.PB
open Go.RowKit Go.Proofs.YtdoamckcibcdcaaW.PrintWords
set_option linter.unusedVariables false
set_option linter.unusedSimpArgs false

theorem rfind_l0 (key : ByteArray) : ∀ (n : Nat) (l : List S59) (i : Nat), l.length - i ≤ n → l.length < 4611686018427387904 → Ev (fun k => stanchionref05_Find.l0 k l key (i : Int)) (findL (l.drop i) key) := by
  intro n
  induction n with
  | zero =>
    intro l i hn hl
    rw [List.drop_of_length_le (by omega)]
    exact Ev.step (f := fun k => some ((⟨#[]⟩ : ByteArray), false)) (fun k => by simp only [stanchionref05_Find.l0]; rw [if_neg (by omega)]) (Ev.now _)
  | succ n ih =>
    intro l i hn hl
    rcases Nat.lt_or_ge i l.length with hi | hi
    · rw [List.drop_eq_getElem_cons hi]
      by_cases he : (l[i]).f0.toList = key.toList
      · refine Ev.step (f := fun k => some ((l[i]).f1, true)) (fun k => ?_) ?_
        · simp only [stanchionref05_Find.l0]
          rw [if_pos (by omega), if_pos (by omega), rd_get _ _ hi, if_pos he]
        · have : findL (l[i] :: l.drop (i + 1)) key = ((l[i]).f1, true) := findL_hit [] _ _ _ (fun y hy => by cases hy) (by unfold eqK59; exact beq_iff_eq.2 he)
          rw [this]; exact Ev.now _
      · refine Ev.step (f := fun k => stanchionref05_Find.l0 k l key ((i + 1 : Nat) : Int)) (fun k => ?_) ?_
        · simp only [stanchionref05_Find.l0]
          rw [if_pos (by omega), if_pos (by omega), rd_get _ _ hi, if_neg he, wrap_succ i (by omega)]
        · have : findL (l[i] :: l.drop (i + 1)) key = findL (l.drop (i + 1)) key := by
            unfold findL
            rw [List.find?_cons, show eqK59 key l[i] = false from beq_eq_false_iff_ne.2 he]
          rw [this]
          exact ih l (i + 1) (by omega) hl
    · rw [List.drop_of_length_le (by omega)]
      exact Ev.step (f := fun k => some ((⟨#[]⟩ : ByteArray), false)) (fun k => by simp only [stanchionref05_Find.l0]; rw [if_neg (by omega)]) (Ev.now _)
theorem rfind_ev (l : List S59) (key : ByteArray) (hl : l.length < 4611686018427387904) : Ev (fun k => stanchionref05_Find.f k l key) (findL l key) := rfind_l0 key l.length l 0 (by omega) hl
theorem tright_l0 : ∀ (n : Nat) (l : List S59) (i : Nat), 0 < i → l.length - i ≤ n → l.length < 4611686018427387904 → Ev (fun k => table_Right.l0 k l (i : Int)) (rises (l.drop (i - 1))) := by
  intro n
  have fin : ∀ (l : List S59) (i : Nat), 0 < i → ¬ i < l.length → Ev (fun k => table_Right.l0 k l (i : Int)) (rises (l.drop (i - 1))) := by
    intro l i h0 hn
    refine Ev.step (f := fun k => some true) (fun k => by simp only [table_Right.l0]; rw [if_neg (by omega)]) ?_
    have e : rises (l.drop (i - 1)) = true := by
      have hd : (l.drop (i - 1)).length ≤ 1 := by rw [List.length_drop]; omega
      match h : l.drop (i - 1), hd with
      | [], _ => rfl
      | [_], _ => rfl
    rw [e]
    exact Ev.now _
  induction n with
  | zero => intro l i h0 hn hl; exact fin l i h0 (by omega)
  | succ n ih =>
    intro l i h0 hn hl
    by_cases hi : i < l.length
    · have hw : wrap64 ((i : Int) - 1) = ((i - 1 : Nat) : Int) := by unfold wrap64; omega
      have h1 : i - 1 < l.length := by omega
      have e : rises (l.drop (i - 1)) = (ltS (l[i - 1]).f0 (l[i]).f0 && rises (l.drop i)) := by
        rw [List.drop_eq_getElem_cons h1, show i - 1 + 1 = i by omega, List.drop_eq_getElem_cons hi]
        rfl
      rw [e]
      refine Ev.step (f := fun k => if ltS (l[i - 1]).f0 (l[i]).f0 = true then table_Right.l0 k l ((i + 1 : Nat) : Int) else some false) (fun k => ?_) ?_
      · simp only [table_Right.l0]
        rw [if_pos (by omega), hw, if_pos (by omega), if_pos (by omega), if_pos (by omega), rd_get _ _ h1, rd_get _ _ hi, wrap_succ i (by omega)]
        rfl
      · cases ltS (l[i - 1]).f0 (l[i]).f0 with
        | true =>
          rw [Bool.true_and]
          simp only [if_pos]
          have := ih l (i + 1) (by omega) (by omega) hl
          rwa [Nat.add_sub_cancel] at this
        | false => exact Ev.now _
    · exact fin l i h0 hi
theorem tright_ev (l : List S59) (hl : l.length < 4611686018427387904) : Ev (fun k => table_Right.f k l) (rises l) := tright_l0 l.length l 1 (by omega) (by omega) hl
end Go.Proofs.Ytdoamckcibcdcaa.PB
