/- What the alarm functions of the program come to, in plain words (Hp): less, put, sink, pop. -/
import Derived.Test.YtnpmjboofmdflaaPBx3
import Derived.Test.YtnpmjboofmdflaaPBx4
import Derived.Test.YtnpmjboofmdflaaPBx5
import Derived.Test.YtnpmjboofmdflaaHp
namespace Go.Proofs.Ytnpmjboofmdflaa.PB
open Go.RowKit Go.Proofs.YtnpmjboofmdflaaW.PrintWords Go.Proofs.Ytnpmjboofmdflaa.Hp

def lt (a b : S85) : Bool := decide (a.f0 < b.f0) || (decide (a.f0 = b.f0) && decide (a.f1 < b.f1))
theorem less_eq (a b : S85) : alarm_Less.f a.f0 a.f1 b.f0 b.f1 = some (lt a b) := by
  unfold alarm_Less.f lt
  by_cases h1 : a.f0 < b.f0
  · rw [if_pos h1]; simp [h1]
  · rw [if_neg h1]
    by_cases h2 : a.f0 = b.f0
    · rw [if_pos h2]; simp [h2]
    · rw [if_neg h2]; simp [h1, h2]
theorem rd_nat (xs : List S85) (i : Nat) : rd_T85 xs (i : Int) = xs.getD i z85 := by simp [rd_T85]
theorem par_eq (i : Nat) (h : 0 < i) (hb : i < 4611686018427387904) : wrap64 (Int.tdiv (wrap64 ((i : Int) - 1)) 2) = (((i - 1) / 2 : Nat) : Int) := by
  have e : wrap64 ((i : Int) - 1) = ((i - 1 : Nat) : Int) := by unfold wrap64; omega
  rw [e, Int.tdiv_eq_ediv_of_nonneg (by omega)]
  unfold wrap64
  omega
theorem clone_eq (xs : List S85) (h : xs.length < 8796093022208) : api_Alarm_68.f xs = some xs := by
  unfold api_Alarm_68.f
  simp [h]

theorem put_l0 : ∀ (n : Nat) (xs : List S85) (i : Nat), i ≤ n → i < xs.length → xs.length < 4611686018427387904 → Ev (fun k => alarm_Put.l0 k xs (i : Int)) (up lt z85 n xs i)
  | 0, xs, i, hi, hl, hb => by
    obtain rfl : i = 0 := by omega
    exact Ev.step (f := fun _ => some xs) (fun k => by simp only [alarm_Put.l0]; rw [if_neg (by simp)]) (Ev.now _)
  | n + 1, xs, i, hi, hl, hb => by
    rcases Nat.eq_zero_or_pos i with rfl | h0
    · have e : up lt z85 (n + 1) xs 0 = xs := by unfold up; rw [if_neg (by simp)]
      rw [e]
      exact Ev.step (f := fun _ => some xs) (fun k => by simp only [alarm_Put.l0]; rw [if_neg (by simp)]) (Ev.now _)
    · refine Ev.step (f := fun k => if lt (xs.getD i z85) (xs.getD ((i - 1) / 2) z85) = true then alarm_Put.l0 k (sw z85 xs i ((i - 1) / 2)) (((i - 1) / 2 : Nat) : Int) else some xs) (fun k => ?_) ?_
      · simp only [alarm_Put.l0]
        rw [if_pos (by omega), if_pos (by omega), if_pos (by omega), par_eq i h0 (by omega), if_pos (by omega), if_pos (by omega), rd_nat, rd_nat, less_eq, Option.bind_some]
        rfl
      · unfold up
        by_cases hc : lt (xs.getD i z85) (xs.getD ((i - 1) / 2) z85) = true
        · rw [if_pos ⟨h0, hc⟩]
          simp only [if_pos hc]
          exact put_l0 n _ _ (by omega) (by rw [sw_length]; omega) (by rw [sw_length]; exact hb)
        · rw [if_neg (fun h => hc h.2)]
          simp only [if_neg hc]
          exact Ev.now _

theorem put_ev (xs : List S85) (a : S85) (h : xs.length < 8796093022207) : Ev (fun k => alarm_Put.f k xs a.f0 a.f1) (put lt z85 xs a) := by
  have e : ∀ k, alarm_Put.f k xs a.f0 a.f1 = alarm_Put.l0 k (xs ++ [a]) ((xs.length : Nat) : Int) := fun k => by
    unfold alarm_Put.f
    rw [clone_eq xs (by omega), Option.bind_some, Option.bind_some]
    simp only [List.length_cons, List.length_nil]
    rw [if_pos (by omega), Option.bind_some]
    congr 1
    rw [List.length_append]
    simp only [List.length_cons, List.length_nil]
    unfold wrap64
    omega
  exact Ev.congr e (put_l0 _ _ _ (Nat.le_refl _) (by simp) (by simp; omega))

end Go.Proofs.Ytnpmjboofmdflaa.PB
