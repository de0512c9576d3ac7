/- The document's table functions in plain words: order, right, same, find, range, put, drop, writes. -/
import Derived.Test.YthcdlgphabaidaaPBx3
import Derived.Test.YthcdlgphabaidaaPBx4
import Derived.Test.YthcdlgphabaidaaPBx5
import Derived.Test.YthcdlgphabaidaaPBTa
namespace Go.Proofs.Ythcdlgphabaidaa.PB
open Go.RowKit Go.Proofs.YthcdlgphabaidaaW.PrintWords
set_option linter.unusedVariables false
set_option linter.unusedSimpArgs false

theorem same_l0 : ∀ (n : Nat) (l : List S68) (i : Nat), l.length - i ≤ n → l.length < 4611686018427387904 → Ev (fun k => stanchionref05_Same.l0 k l l (i : Int)) true := by
  intro n
  induction n with
  | zero => intro l i hn hl; exact Ev.step (f := fun k => some true) (fun k => by simp only [stanchionref05_Same.l0]; rw [if_neg (by omega)]) (Ev.now _)
  | succ n ih =>
    intro l i hn hl
    rcases Nat.lt_or_ge i l.length with hi | hi
    · refine Ev.step (f := fun k => stanchionref05_Same.l0 k l l ((i + 1 : Nat) : Int)) (fun k => ?_) (ih l (i + 1) (by omega) hl)
      simp only [stanchionref05_Same.l0]
      rw [if_pos (by omega), if_pos (by omega), if_pos (by omega), if_neg (by simp), wrap_succ i (by omega)]
    · exact Ev.step (f := fun k => some true) (fun k => by simp only [stanchionref05_Same.l0]; rw [if_neg (by omega)]) (Ev.now _)
theorem same_ev (a b : List S68) (h : a = b) (hl : b.length < 4611686018427387904) : Ev (fun k => stanchionref05_Same.f k a b) true := by
  subst h
  refine Ev.congr (fun k => ?_) (same_l0 a.length a 0 (by omega) hl)
  unfold stanchionref05_Same.f
  rw [if_pos rfl]
  rfl
end Go.Proofs.Ythcdlgphabaidaa.PB
