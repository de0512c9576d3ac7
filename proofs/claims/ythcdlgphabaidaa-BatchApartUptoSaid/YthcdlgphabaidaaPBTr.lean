/- The document's table functions in plain words: order, right, same, find, range, put, drop, writes. -/
import Derived.Test.YthcdlgphabaidaaPBx3
import Derived.Test.YthcdlgphabaidaaPBx4
import Derived.Test.YthcdlgphabaidaaPBx5
import Derived.Test.YthcdlgphabaidaaPBTa
namespace Go.Proofs.Ythcdlgphabaidaa.PB
open Go.RowKit Go.Proofs.YthcdlgphabaidaaW.PrintWords
set_option linter.unusedVariables false
set_option linter.unusedSimpArgs false

theorem rfind_l0 (key : ByteArray) : ∀ (n : Nat) (l : List S68) (i : Nat), l.length - i ≤ n → l.length < 4611686018427387904 → Ev (fun k => stanchionref05_Find.l0 k l key (i : Int)) (findL (l.drop i) key) := by
  intro n
  induction n with
  | zero =>
    intro l i hn hl
    rw [List.drop_of_length_le (by omega)]
    exact Ev.step (f := fun k => some ((⟨#[]⟩ : ByteArray), false)) (fun k => by simp only [stanchionref05_Find.l0]; rw [if_neg (by omega)]) (Ev.now _)
  | succ n ih =>
    intro l i hn hl
    rcases Nat.lt_or_ge i l.length with hi | hi
    · rw [List.drop_eq_getElem_cons hi]
      by_cases he : (l[i]).f0.toList = key.toList
      · refine Ev.step (f := fun k => some ((l[i]).f1, true)) (fun k => ?_) ?_
        · simp only [stanchionref05_Find.l0]
          rw [if_pos (by omega), if_pos (by omega), rd_get _ _ hi, if_pos he]
        · have : findL (l[i] :: l.drop (i + 1)) key = ((l[i]).f1, true) := findL_hit [] _ _ _ (fun y hy => by cases hy) (by unfold eqK68; exact beq_iff_eq.2 he)
          rw [this]; exact Ev.now _
      · refine Ev.step (f := fun k => stanchionref05_Find.l0 k l key ((i + 1 : Nat) : Int)) (fun k => ?_) ?_
        · simp only [stanchionref05_Find.l0]
          rw [if_pos (by omega), if_pos (by omega), rd_get _ _ hi, if_neg he, wrap_succ i (by omega)]
        · have : findL (l[i] :: l.drop (i + 1)) key = findL (l.drop (i + 1)) key := by
            unfold findL
            rw [List.find?_cons, show eqK68 key l[i] = false from beq_eq_false_iff_ne.2 he]
          rw [this]
          exact ih l (i + 1) (by omega) hl
    · rw [List.drop_of_length_le (by omega)]
      exact Ev.step (f := fun k => some ((⟨#[]⟩ : ByteArray), false)) (fun k => by simp only [stanchionref05_Find.l0]; rw [if_neg (by omega)]) (Ev.now _)
theorem rfind_ev (l : List S68) (key : ByteArray) (hl : l.length < 4611686018427387904) : Ev (fun k => stanchionref05_Find.f k l key) (findL l key) := rfind_l0 key l.length l 0 (by omega) hl
end Go.Proofs.Ythcdlgphabaidaa.PB
