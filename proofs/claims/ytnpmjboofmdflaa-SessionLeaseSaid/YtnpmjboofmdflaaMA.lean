/- What the alarm functions of the program come to, in plain words (Hp): less, put, sink, pop. -/
import Derived.Test.YtnpmjboofmdflaaPBx3
import Derived.Test.YtnpmjboofmdflaaPBx4
import Derived.Test.YtnpmjboofmdflaaPBx5
import Derived.Test.YtnpmjboofmdflaaHp
namespace Go.Proofs.Ytnpmjboofmdflaa.PB
open Go.RowKit Go.Proofs.YtnpmjboofmdflaaW.PrintWords Go.Proofs.Ytnpmjboofmdflaa.Hp

def lt (a b : S85) : Bool := decide (a.f0 < b.f0) || (decide (a.f0 = b.f0) && decide (a.f1 < b.f1))
theorem lt_iff (a b : S85) : lt a b = true ↔ a.f0 < b.f0 ∨ (a.f0 = b.f0 ∧ a.f1 < b.f1) := by simp [lt]
theorem lt_not (a b : S85) : lt a b = false ↔ ¬ (a.f0 < b.f0 ∨ (a.f0 = b.f0 ∧ a.f1 < b.f1)) := by rw [← lt_iff]; simp
theorem lt_ord : Ord lt where
  trans := fun a b c h1 h2 => by rw [lt_not] at *; omega
  asymm := fun a b h => by rw [lt_not]; rw [lt_iff] at h; omega
theorem less_eq (a b : S85) : alarm_Less.f a.f0 a.f1 b.f0 b.f1 = some (lt a b) := by
  unfold alarm_Less.f lt
  by_cases h1 : a.f0 < b.f0
  · rw [if_pos h1]; simp [h1]
  · rw [if_neg h1]
    by_cases h2 : a.f0 = b.f0
    · rw [if_pos h2]; simp [h2]
    · rw [if_neg h2]; simp [h1, h2]
theorem rd_nat (xs : List S85) (i : Nat) : rd_T85 xs (i : Int) = xs.getD i z85 := by simp [rd_T85]
theorem rd_zero (xs : List S85) : rd_T85 xs 0 = xs.getD 0 z85 := by simp [rd_T85]
theorem par_eq (i : Nat) (h : 0 < i) (hb : i < 4611686018427387904) : wrap64 (Int.tdiv (wrap64 ((i : Int) - 1)) 2) = (((i - 1) / 2 : Nat) : Int) := by
  have e : wrap64 ((i : Int) - 1) = ((i - 1 : Nat) : Int) := by unfold wrap64; omega
  rw [e, Int.tdiv_eq_ediv_of_nonneg (by omega)]
  unfold wrap64
  omega
theorem clone_eq (xs : List S85) (h : xs.length < 8796093022208) : api_Alarm_68.f xs = some xs := by
  unfold api_Alarm_68.f
  simp [h]

theorem put_l0 : ∀ (n : Nat) (xs : List S85) (i : Nat), i ≤ n → i < xs.length → xs.length < 4611686018427387904 → Ev (fun k => alarm_Put.l0 k xs (i : Int)) (up lt z85 n xs i)
  | 0, xs, i, hi, hl, hb => by
    obtain rfl : i = 0 := by omega
    exact Ev.step (f := fun _ => some xs) (fun k => by simp only [alarm_Put.l0]; rw [if_neg (by simp)]) (Ev.now _)
  | n + 1, xs, i, hi, hl, hb => by
    rcases Nat.eq_zero_or_pos i with rfl | h0
    · have e : up lt z85 (n + 1) xs 0 = xs := by unfold up; rw [if_neg (by simp)]
      rw [e]
      exact Ev.step (f := fun _ => some xs) (fun k => by simp only [alarm_Put.l0]; rw [if_neg (by simp)]) (Ev.now _)
    · refine Ev.step (f := fun k => if lt (xs.getD i z85) (xs.getD ((i - 1) / 2) z85) = true then alarm_Put.l0 k (sw z85 xs i ((i - 1) / 2)) (((i - 1) / 2 : Nat) : Int) else some xs) (fun k => ?_) ?_
      · simp only [alarm_Put.l0]
        rw [if_pos (by omega), if_pos (by omega), if_pos (by omega), par_eq i h0 (by omega), if_pos (by omega), if_pos (by omega), rd_nat, rd_nat, less_eq, Option.bind_some]
        rfl
      · unfold up
        by_cases hc : lt (xs.getD i z85) (xs.getD ((i - 1) / 2) z85) = true
        · rw [if_pos ⟨h0, hc⟩]
          simp only [if_pos hc]
          exact put_l0 n _ _ (by omega) (by rw [sw_length]; omega) (by rw [sw_length]; exact hb)
        · rw [if_neg (fun h => hc h.2)]
          simp only [if_neg hc]
          exact Ev.now _

theorem put_ev (xs : List S85) (a : S85) (h : xs.length < 8796093022207) : Ev (fun k => alarm_Put.f k xs a.f0 a.f1) (put lt z85 xs a) := by
  have e : ∀ k, alarm_Put.f k xs a.f0 a.f1 = alarm_Put.l0 k (xs ++ [a]) ((xs.length : Nat) : Int) := fun k => by
    unfold alarm_Put.f
    rw [clone_eq xs (by omega), Option.bind_some, Option.bind_some]
    simp only [List.length_cons, List.length_nil]
    rw [if_pos (by omega), Option.bind_some]
    congr 1
    rw [List.length_append]
    simp only [List.length_cons, List.length_nil]
    unfold wrap64
    omega
  exact Ev.congr e (put_l0 _ _ _ (Nat.le_refl _) (by simp) (by simp; omega))

theorem kid_eq (i q : Nat) (hb : i < 2305843009213693952) (hq : q < 3) : wrap64 (wrap64 (2 * (i : Int)) + q) = ((2 * i + q : Nat) : Int) := by
  unfold wrap64
  omega
theorem kid1 (i : Nat) (hb : i < 2305843009213693952) : wrap64 (wrap64 (2 * (i : Int)) + 1) = ((2 * i + 1 : Nat) : Int) := kid_eq i 1 hb (by omega)
theorem kid2 (i : Nat) (hb : i < 2305843009213693952) : wrap64 (wrap64 (2 * (i : Int)) + 2) = ((2 * i + 2 : Nat) : Int) := kid_eq i 2 hb (by omega)
theorem kid3 (i : Nat) (hb : i < 2305843009213693952) : wrap64 (wrap64 (wrap64 (2 * (i : Int)) + 1) + 1) = ((2 * i + 2 : Nat) : Int) := by unfold wrap64; omega

theorem sink_l0 : ∀ (n : Nat) (xs : List S85) (i : Nat), xs.length ≤ n + i → (i < xs.length ∨ i = 0) → xs.length < 1152921504606846976 → Ev (fun k => alarm_sink.l0 k xs (i : Int)) (down lt z85 n xs i) := by
  intro n
  induction n with
  | zero =>
    intro xs i hi hl hb
    have hx : xs = [] := List.eq_nil_of_length_eq_zero (by omega)
    subst hx
    obtain rfl : i = 0 := by
      rcases hl with h | h
      · exact absurd h (by simp)
      · exact h
    exact Ev.of (fun k => (alarm_sink.mono_l k).1 _ _) (k := 4) (by kernel_rfl)
  | succ n ih =>
    intro xs i hi hl hb
    have hi2 : i < 2305843009213693952 := by rcases hl with h | h <;> omega
    refine Ev.step (f := fun k => alarm_sink.j1 k xs (i : Int) ((b1 lt z85 xs i : Nat) : Int)) (fun k => ?_) ?_
    · simp only [alarm_sink.l0]
      rw [kid1 i hi2]
      unfold b1
      by_cases h1 : 2 * i + 1 < xs.length
      · rw [if_pos (by omega), if_pos (by omega), if_pos (by omega), if_pos (by omega), rd_nat, rd_nat, less_eq, Option.bind_some]
        by_cases h2 : lt (xs.getD (2 * i + 1) z85) (xs.getD i z85) = true
        · rw [if_pos h2, if_pos ⟨h1, h2⟩]
        · rw [if_neg h2, if_neg (fun h => h2 h.2)]
      · rw [if_neg (by omega), if_neg (fun h => h1 h.1)]
    · have hb1 : b1 lt z85 xs i < xs.length ∨ b1 lt z85 xs i = 0 := by
        unfold b1
        split
        · rename_i h; exact .inl h.1
        · exact hl
      refine Ev.step (f := fun k => alarm_sink.j2 k xs (i : Int) ((bst lt z85 xs i : Nat) : Int)) (fun k => ?_) ?_
      · simp only [alarm_sink.j1]
        rw [kid3 i hi2]
        unfold bst
        by_cases h1 : 2 * i + 2 < xs.length
        · rw [if_pos (by omega), if_pos (by omega), if_pos (by omega), if_pos (by omega), rd_nat, rd_nat, less_eq, Option.bind_some]
          by_cases h2 : lt (xs.getD (2 * i + 2) z85) (xs.getD (b1 lt z85 xs i) z85) = true
          · rw [if_pos h2, if_pos ⟨h1, h2⟩]
          · rw [if_neg h2, if_neg (fun h => h2 h.2)]
        · rw [if_neg (by omega), if_neg (fun h => h1 h.1)]
      · unfold down
        by_cases hbe : bst lt z85 xs i = i
        · rw [if_pos hbe, hbe]
          exact Ev.step (f := fun _ => some xs) (fun k => by simp only [alarm_sink.j2]; exact if_pos trivial) (Ev.now _)
        · rw [if_neg hbe]
          obtain ⟨hbl, _, hib, _, _⟩ := bst_child lt_ord rfl hbe
          refine Ev.step (f := fun k => alarm_sink.l0 k (sw z85 xs i (bst lt z85 xs i)) ((bst lt z85 xs i : Nat) : Int)) (fun k => ?_) ?_
          · simp only [alarm_sink.j2]
            rw [if_neg (by omega), if_pos (by omega), if_pos (by omega), if_pos (by omega), if_pos (by omega), rd_nat, rd_nat]
            rfl
          · exact ih _ _ (by rw [sw_length]; omega) (.inl (by rw [sw_length]; exact hbl)) (by rw [sw_length]; exact hb)

theorem pop_ev (xs : List S85) (h0 : 0 < xs.length) (h : xs.length < 8796093022208) : Ev (fun k => alarm_Pop.f k xs) (pop lt z85 xs, (xs.getD 0 z85).f0, (xs.getD 0 z85).f1, true) := by
  have ew : wrap64 ((xs.length : Int) - 1) = ((xs.length - 1 : Nat) : Int) := by unfold wrap64; omega
  have e : ∀ k, alarm_Pop.f k xs = (alarm_sink.f k ((xs.set 0 (xs.getD (xs.length - 1) z85)).take (xs.length - 1))).bind fun t => some (t, (xs.getD 0 z85).f0, (xs.getD 0 z85).f1, true) := fun k => by
    unfold alarm_Pop.f
    rw [if_neg (by omega), if_pos (by omega), clone_eq xs h, Option.bind_some, ew, if_pos (by omega), if_pos (by omega), if_pos (by omega), if_pos (by omega), rd_nat, rd_zero]
    simp only [Int.toNat_natCast, Int.toNat_zero]
  refine Ev.congr e (Ev.bind (a := pop lt z85 xs) ?_ (Ev.now _))
  unfold pop alarm_sink.f
  have := sink_l0 xs.length ((xs.set 0 (xs.getD (xs.length - 1) z85)).take (xs.length - 1)) 0 (by simp) (.inr rfl) (by simp; omega)
  simpa using this

end Go.Proofs.Ytnpmjboofmdflaa.PB
