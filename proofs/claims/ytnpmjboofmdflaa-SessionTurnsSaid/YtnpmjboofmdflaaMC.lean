/- The document's alarm functions in plain words: put, pop, due, drop, the same; and whether the program says of a row that it is a heap. -/
import Derived.Test.YtnpmjboofmdflaaMB
namespace Go.Proofs.Ytnpmjboofmdflaa.PB
open Go.RowKit Go.Proofs.YtnpmjboofmdflaaW.PrintWords Go.Proofs.Ytnpmjboofmdflaa.Hp

theorem rswap_eq (xs : List S85) (i j : Nat) (hi : i < xs.length) (hj : j < xs.length) (h : xs.length < 8796093022208) : stanchionref15_swap.f xs (i : Int) (j : Int) = some (sw z85 xs i j) := by
  unfold stanchionref15_swap.f
  simp only [Option.bind_some, List.length_nil, Nat.zero_add, List.nil_append]
  rw [if_pos (by omega), if_pos (by omega), if_pos (by omega), if_pos (by omega), if_pos (by omega), if_pos (by omega), if_pos (by omega), rd_nat, rd_nat]
  rfl
theorem rput_l0 : ∀ (n : Nat) (xs : List S85) (i : Nat), i ≤ n → i < xs.length → xs.length < 8796093022208 → Ev (fun k => stanchionref15_Put.l0 k xs (i : Int)) (up lt z85 n xs i)
  | 0, xs, i, hi, hl, hb => by
    obtain rfl : i = 0 := by omega
    exact Ev.step (f := fun _ => some xs) (fun k => by simp only [stanchionref15_Put.l0]; rw [if_neg (by simp)]) (Ev.now _)
  | n + 1, xs, i, hi, hl, hb => by
    rcases Nat.eq_zero_or_pos i with rfl | h0
    · have e : up lt z85 (n + 1) xs 0 = xs := by unfold up; rw [if_neg (by simp)]
      rw [e]
      exact Ev.step (f := fun _ => some xs) (fun k => by simp only [stanchionref15_Put.l0]; rw [if_neg (by simp)]) (Ev.now _)
    · refine Ev.step (f := fun k => if lt (xs.getD i z85) (xs.getD ((i - 1) / 2) z85) = true then stanchionref15_Put.l0 k (sw z85 xs i ((i - 1) / 2)) (((i - 1) / 2 : Nat) : Int) else some xs) (fun k => ?_) ?_
      · simp only [stanchionref15_Put.l0]
        rw [if_pos (by omega), if_pos (by omega), if_pos (by omega), par_eq i h0 (by omega), if_pos (by omega), if_pos (by omega), rd_nat, rd_nat, rless_eq, Option.bind_some, rswap_eq xs i ((i - 1) / 2) hl (by omega) hb, Option.bind_some]
      · unfold up
        by_cases hc : lt (xs.getD i z85) (xs.getD ((i - 1) / 2) z85) = true
        · rw [if_pos ⟨h0, hc⟩]
          simp only [if_pos hc]
          exact rput_l0 n _ _ (by omega) (by rw [sw_length]; omega) (by rw [sw_length]; exact hb)
        · rw [if_neg (fun h => hc h.2)]
          simp only [if_neg hc]
          exact Ev.now _
theorem rput_ev (xs : List S85) (a : S85) (h : xs.length < 8796093022207) : Ev (fun k => stanchionref15_Put.f k xs a.f0 a.f1) (put lt z85 xs a) := by
  have e : ∀ k, stanchionref15_Put.f k xs a.f0 a.f1 = stanchionref15_Put.l0 k (xs ++ [a]) ((xs.length : Nat) : Int) := fun k => by
    unfold stanchionref15_Put.f
    simp only [Option.bind_some, List.length_nil, Nat.zero_add, List.nil_append]
    rw [if_pos (by omega), if_pos (by omega)]
    congr 1
    rw [List.length_append]
    simp only [List.length_cons, List.length_nil]
    unfold wrap64
    omega
  exact Ev.congr e (rput_l0 _ _ _ (Nat.le_refl _) (by simp) (by simp; omega))
theorem rdrop_l0 (id : Int) (xs : List S85) (hb : xs.length < 8796093022207) : ∀ (d i : Nat) (acc : List S85), xs.length - i = d → i ≤ xs.length → acc.length ≤ i →
    Ev (fun k => stanchionref15_Drop.l0 k xs id acc (i : Int)) (drops (xs.drop i) id acc) := by
  intro d
  induction d with
  | zero =>
    intro i acc hd hi ha
    rw [List.drop_of_length_le (by omega)]
    refine Ev.step (f := fun _ => some acc) (fun k => ?_) (Ev.now _)
    simp only [stanchionref15_Drop.l0]
    rw [if_neg (by omega)]
  | succ d ih =>
    intro i acc hd hi ha
    have w1 : wrap64 ((i : Int) + 1) = ((i + 1 : Nat) : Int) := by unfold wrap64; omega
    rw [drop_at xs i (by omega)]
    unfold drops
    by_cases hc : (xs.getD i z85).f1 = id
    · rw [if_pos hc]
      refine Ev.step (fun k => ?_) (ih (i + 1) acc (by omega) (by omega) (by omega))
      simp only [stanchionref15_Drop.l0]
      rw [if_pos (by omega), if_pos (by omega), rd_nat, if_pos hc, w1]
    · rw [if_neg hc]
      refine Ev.step (f := fun k => (stanchionref15_Put.f k acc (xs.getD i z85).f0 (xs.getD i z85).f1).bind fun t => stanchionref15_Drop.l0 k xs id t ((i + 1 : Nat) : Int)) (fun k => ?_) (Ev.bind (rput_ev acc _ (by omega)) (ih (i + 1) _ (by omega) (by omega) (by rw [put_length]; omega)))
      simp only [stanchionref15_Drop.l0]
      rw [if_pos (by omega), if_pos (by omega), rd_nat, if_neg hc, w1]
theorem rdrop_ev (xs : List S85) (id : Int) (h : xs.length < 8796093022207) : Ev (fun k => stanchionref15_Drop.f k xs id) (drops xs id []) := rdrop_l0 id xs h xs.length 0 [] (by omega) (by omega) (by simp)
end Go.Proofs.Ytnpmjboofmdflaa.PB
