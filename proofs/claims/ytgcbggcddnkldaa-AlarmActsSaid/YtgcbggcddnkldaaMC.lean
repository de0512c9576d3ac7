/- The document's alarm functions in plain words: put, pop, due, drop, the same; and whether the program says of a row that it is a heap. -/
import Derived.Test.YtgcbggcddnkldaaMB
namespace Go.Proofs.Ytgcbggcddnkldaa.PB
open Go.RowKit Go.Proofs.YtgcbggcddnkldaaW.PrintWords Go.Proofs.Ytgcbggcddnkldaa.Hp

theorem rswap_eq (xs : List S27) (i j : Nat) (hi : i < xs.length) (hj : j < xs.length) (h : xs.length < 8796093022208) : stanchionref15_swap.f xs (i : Int) (j : Int) = some (sw z27 xs i j) := by
  unfold stanchionref15_swap.f
  simp only [Option.bind_some, List.length_nil, Nat.zero_add, List.nil_append]
  rw [if_pos (by omega), if_pos (by omega), if_pos (by omega), if_pos (by omega), if_pos (by omega), if_pos (by omega), if_pos (by omega), rd_nat, rd_nat]
  rfl
theorem rput_l0 : ∀ (n : Nat) (xs : List S27) (i : Nat), i ≤ n → i < xs.length → xs.length < 8796093022208 → Ev (fun k => stanchionref15_Put.l0 k xs (i : Int)) (up lt z27 n xs i)
  | 0, xs, i, hi, hl, hb => by
    obtain rfl : i = 0 := by omega
    exact Ev.step (f := fun _ => some xs) (fun k => by simp only [stanchionref15_Put.l0]; rw [if_neg (by simp)]) (Ev.now _)
  | n + 1, xs, i, hi, hl, hb => by
    rcases Nat.eq_zero_or_pos i with rfl | h0
    · have e : up lt z27 (n + 1) xs 0 = xs := by unfold up; rw [if_neg (by simp)]
      rw [e]
      exact Ev.step (f := fun _ => some xs) (fun k => by simp only [stanchionref15_Put.l0]; rw [if_neg (by simp)]) (Ev.now _)
    · refine Ev.step (f := fun k => if lt (xs.getD i z27) (xs.getD ((i - 1) / 2) z27) = true then stanchionref15_Put.l0 k (sw z27 xs i ((i - 1) / 2)) (((i - 1) / 2 : Nat) : Int) else some xs) (fun k => ?_) ?_
      · simp only [stanchionref15_Put.l0]
        rw [if_pos (by omega), if_pos (by omega), if_pos (by omega), par_eq i h0 (by omega), if_pos (by omega), if_pos (by omega), rd_nat, rd_nat, rless_eq, Option.bind_some, rswap_eq xs i ((i - 1) / 2) hl (by omega) hb, Option.bind_some]
      · unfold up
        by_cases hc : lt (xs.getD i z27) (xs.getD ((i - 1) / 2) z27) = true
        · rw [if_pos ⟨h0, hc⟩]
          simp only [if_pos hc]
          exact rput_l0 n _ _ (by omega) (by rw [sw_length]; omega) (by rw [sw_length]; exact hb)
        · rw [if_neg (fun h => hc h.2)]
          simp only [if_neg hc]
          exact Ev.now _
theorem rput_ev (xs : List S27) (a : S27) (h : xs.length < 8796093022207) : Ev (fun k => stanchionref15_Put.f k xs a.f0 a.f1) (put lt z27 xs a) := by
  have e : ∀ k, stanchionref15_Put.f k xs a.f0 a.f1 = stanchionref15_Put.l0 k (xs ++ [a]) ((xs.length : Nat) : Int) := fun k => by
    unfold stanchionref15_Put.f
    simp only [Option.bind_some, List.length_nil, Nat.zero_add, List.nil_append]
    rw [if_pos (by omega), if_pos (by omega)]
    congr 1
    rw [List.length_append]
    simp only [List.length_cons, List.length_nil]
    unfold wrap64
    omega
  exact Ev.congr e (rput_l0 _ _ _ (Nat.le_refl _) (by simp) (by simp; omega))
theorem rpop_l0 (p q : Int) : ∀ (n : Nat) (xs : List S27) (i : Nat), xs.length ≤ n + i → i < xs.length → xs.length < 8796093022208 → Ev (fun k => stanchionref15_Pop.l0 k xs (i : Int) p q) (down lt z27 n xs i, p, q, true) := by
  intro n
  induction n with
  | zero => intro xs i hi hl hb; omega
  | succ n ih =>
    intro xs i hi hl hb
    have hi2 : i < 2305843009213693952 := by omega
    have hb1 : b1 lt z27 xs i < xs.length := by
      unfold b1
      split
      · rename_i h; exact h.1
      · exact hl
    refine Ev.step (f := fun k => stanchionref15_Pop.j1 k xs (i : Int) (i : Int) (decide (2 * i + 1 < xs.length) && lt (xs.getD (2 * i + 1) z27) (xs.getD i z27)) p q) (fun k => ?_) ?_
    · simp only [stanchionref15_Pop.l0]
      rw [kid1 i hi2]
      by_cases h1 : 2 * i + 1 < xs.length
      · rw [if_pos (by omega), if_pos (by omega), if_pos (by omega), if_pos (by omega), rd_nat, rd_nat, rless_eq, Option.bind_some, decide_eq_true h1, Bool.true_and]
      · rw [if_neg (by omega), decide_eq_false h1, Bool.false_and]
    · refine Ev.step (f := fun k => stanchionref15_Pop.j2 k xs (i : Int) ((b1 lt z27 xs i : Nat) : Int) p q) (fun k => ?_) ?_
      · simp only [stanchionref15_Pop.j1]
        rw [kid1 i hi2]
        unfold b1
        by_cases h1 : 2 * i + 1 < xs.length
        · rw [decide_eq_true h1, Bool.true_and]
          by_cases h2 : lt (xs.getD (2 * i + 1) z27) (xs.getD i z27) = true
          · rw [if_pos h2, if_pos ⟨h1, h2⟩]
          · rw [if_neg h2, if_neg (fun h => h2 h.2)]
        · rw [decide_eq_false h1, Bool.false_and, if_neg (by decide), if_neg (fun h => h1 h.1)]
      · refine Ev.step (f := fun k => stanchionref15_Pop.j3 k xs (i : Int) ((b1 lt z27 xs i : Nat) : Int) (decide (2 * i + 2 < xs.length) && lt (xs.getD (2 * i + 2) z27) (xs.getD (b1 lt z27 xs i) z27)) p q) (fun k => ?_) ?_
        · simp only [stanchionref15_Pop.j2]
          rw [kid2 i hi2]
          by_cases h1 : 2 * i + 2 < xs.length
          · rw [if_pos (by omega), if_pos (by omega), if_pos (by omega), if_pos (by omega), rd_nat, rd_nat, rless_eq, Option.bind_some, decide_eq_true h1, Bool.true_and]
          · rw [if_neg (by omega), decide_eq_false h1, Bool.false_and]
        · have bl : bst lt z27 xs i < xs.length := bst_lt hl
          refine Ev.step (f := fun k => if bst lt z27 xs i = i then some (xs, p, q, true) else stanchionref15_Pop.l0 k (sw z27 xs i (bst lt z27 xs i)) ((bst lt z27 xs i : Nat) : Int) p q) (fun k => ?_) ?_
          · simp only [stanchionref15_Pop.j3]
            rw [kid2 i hi2]
            by_cases h1 : 2 * i + 2 < xs.length ∧ lt (xs.getD (2 * i + 2) z27) (xs.getD (b1 lt z27 xs i) z27) = true
            · have e : bst lt z27 xs i = 2 * i + 2 := by unfold bst; rw [if_pos h1]
              rw [e, decide_eq_true h1.1, h1.2, Bool.true_and, if_pos rfl, if_neg (by omega), if_neg (by omega), rswap_eq xs i (2 * i + 2) hl h1.1 hb, Option.bind_some]
            · have e : bst lt z27 xs i = b1 lt z27 xs i := by unfold bst; rw [if_neg h1]
              have e2 : (decide (2 * i + 2 < xs.length) && lt (xs.getD (2 * i + 2) z27) (xs.getD (b1 lt z27 xs i) z27)) = false := by
                cases hq : (decide (2 * i + 2 < xs.length) && lt (xs.getD (2 * i + 2) z27) (xs.getD (b1 lt z27 xs i) z27)) with
                | false => rfl
                | true =>
                  rw [Bool.and_eq_true, decide_eq_true_eq] at hq
                  exact absurd hq h1
              rw [e, e2, if_neg (by decide)]
              by_cases h2 : b1 lt z27 xs i = i
              · rw [if_pos h2, if_pos (by omega)]
              · rw [if_neg h2, if_neg (by omega), rswap_eq xs i _ hl hb1 hb, Option.bind_some]
          · unfold down
            by_cases hbe : bst lt z27 xs i = i
            · simp only [if_pos hbe]
              exact Ev.now _
            · simp only [if_neg hbe]
              obtain ⟨hbl, _, hib, _, _⟩ := bst_child lt_ord rfl hbe
              exact ih _ _ (by rw [sw_length]; omega) (by rw [sw_length]; exact hbl) (by rw [sw_length]; exact hb)
theorem rpop_ev (xs : List S27) (h0 : 0 < xs.length) (h : xs.length < 8796093022208) : Ev (fun k => stanchionref15_Pop.f k xs) (pop lt z27 xs, (xs.getD 0 z27).f0, (xs.getD 0 z27).f1, true) := by
  have ew : wrap64 ((xs.length : Int) - 1) = ((xs.length - 1 : Nat) : Int) := by unfold wrap64; omega
  have hl : (xs.take (xs.length - 1)).length = xs.length - 1 := by simp
  unfold pop
  by_cases h1 : xs.length = 1
  · refine Ev.congr (f := fun k => some (xs.take 0, (xs.getD 0 z27).f0, (xs.getD 0 z27).f1, true)) (fun k => ?_) ?_
    · unfold stanchionref15_Pop.f
      simp only [Option.bind_some, List.length_nil, Nat.zero_add, List.nil_append]
      rw [if_neg (by omega), if_pos (by omega), ew, if_pos (by omega), if_pos (by omega), Int.toNat_natCast, hl, if_pos (by omega), if_pos (by omega), rd_zero, h1]
    · rw [h1]
      have e : (xs.set 0 (xs.getD (1 - 1) z27)).take (1 - 1) = [] := by simp
      rw [e, List.take_zero]
      exact Ev.now _
  · refine Ev.congr (f := fun k => stanchionref15_Pop.l0 k ((xs.set 0 (xs.getD (xs.length - 1) z27)).take (xs.length - 1)) ((0 : Nat) : Int) (xs.getD 0 z27).f0 (xs.getD 0 z27).f1) (fun k => ?_) ?_
    · unfold stanchionref15_Pop.f
      simp only [Option.bind_some, List.length_nil, Nat.zero_add, List.nil_append]
      rw [if_neg (by omega), if_pos (by omega), ew, if_pos (by omega), if_pos (by omega), Int.toNat_natCast, hl, if_pos (by omega), if_neg (by omega), if_pos (by omega), if_pos (by omega), rd_zero, rd_nat]
      congr 1
      rw [List.take_set]
      rfl
    · exact rpop_l0 _ _ xs.length _ 0 (by simp) (by simp; omega) (by simp; omega)
theorem rdue_l0 : ∀ (n : Nat) (xs : List S27) (t : Int) (out : List Int), xs.length ≤ n → xs.length + out.length < 8796093022208 → Ev (fun k => stanchionref15_Due.l0 k xs t out) (due n xs t, out ++ dueIds n xs t)
  | 0, xs, t, out, hn, hb => by
    have h0 : xs = [] := List.eq_nil_of_length_eq_zero (by omega)
    subst h0
    refine Ev.step (f := fun _ => some ([], out)) (fun k => by simp only [stanchionref15_Due.l0]; rw [if_neg (by simp)]) ?_
    simp only [due, dueIds, List.append_nil]
    exact Ev.now _
  | n + 1, xs, t, out, hn, hb => by
    unfold due dueIds
    by_cases h0 : 0 < xs.length
    · by_cases hc : (xs.getD 0 z27).f0 ≤ t
      · rw [if_pos ⟨h0, hc⟩, if_pos ⟨h0, hc⟩]
        refine Ev.step (f := fun k => (stanchionref15_Pop.f k xs).bind fun bt => stanchionref15_Due.l0 k bt.1 t (out ++ [bt.2.2.1])) (fun k => ?_) (Ev.bind (rpop_ev xs h0 (by omega)) ?_)
        · simp only [stanchionref15_Due.l0]
          rw [if_pos (by omega), if_pos (by omega), rd_zero, if_pos hc]
          simp only [if_pos (show out.length < 17592186044416 by omega)]
        · have := rdue_l0 n (pop lt z27 xs) t (out ++ [(xs.getD 0 z27).f1]) (by rw [pop_length]; omega) (by rw [pop_length]; simp; omega)
          simpa using this
      · rw [if_neg (fun h => hc h.2), if_neg (fun h => hc h.2)]
        refine Ev.step (f := fun _ => some (xs, out)) (fun k => ?_) (by simpa using Ev.now _)
        simp only [stanchionref15_Due.l0]
        rw [if_pos (by omega), if_pos (by omega), rd_zero, if_neg hc]
    · rw [if_neg (fun h => h0 h.1), if_neg (fun h => h0 h.1)]
      refine Ev.step (f := fun _ => some (xs, out)) (fun k => ?_) (by simpa using Ev.now _)
      simp only [stanchionref15_Due.l0]
      rw [if_neg (by omega)]
theorem rdue_ev (xs : List S27) (t : Int) (h : xs.length < 8796093022208) : Ev (fun k => stanchionref15_Due.f k xs t) (due xs.length xs t, dueIds xs.length xs t) := by
  have := rdue_l0 xs.length xs t [] (Nat.le_refl _) (by simpa using h)
  simpa [stanchionref15_Due.f] using this
theorem rdrop_l0 (id : Int) (xs : List S27) (hb : xs.length < 4398046511104) : ∀ (d i : Nat) (acc : List S27), xs.length - i = d → i ≤ xs.length → acc.length ≤ i →
    Ev (fun k => stanchionref15_Drop.l0 k xs id acc (i : Int)) (drops (xs.drop i) id acc) := by
  intro d
  induction d with
  | zero =>
    intro i acc hd hi ha
    rw [List.drop_of_length_le (by omega)]
    refine Ev.step (f := fun _ => some acc) (fun k => ?_) (Ev.now _)
    simp only [stanchionref15_Drop.l0]
    rw [if_neg (by omega)]
  | succ d ih =>
    intro i acc hd hi ha
    have w1 : wrap64 ((i : Int) + 1) = ((i + 1 : Nat) : Int) := by unfold wrap64; omega
    rw [drop_at xs i (by omega)]
    unfold drops
    by_cases hc : (xs.getD i z27).f1 = id
    · rw [if_pos hc]
      refine Ev.step (fun k => ?_) (ih (i + 1) acc (by omega) (by omega) (by omega))
      simp only [stanchionref15_Drop.l0]
      rw [if_pos (by omega), if_pos (by omega), rd_nat, if_pos hc, w1]
    · rw [if_neg hc]
      refine Ev.step (f := fun k => (stanchionref15_Put.f k acc (xs.getD i z27).f0 (xs.getD i z27).f1).bind fun t => stanchionref15_Drop.l0 k xs id t ((i + 1 : Nat) : Int)) (fun k => ?_) (Ev.bind (rput_ev acc _ (by omega)) (ih (i + 1) _ (by omega) (by omega) (by rw [put_length]; omega)))
      simp only [stanchionref15_Drop.l0]
      rw [if_pos (by omega), if_pos (by omega), rd_nat, if_neg hc, w1]
theorem rdrop_ev (xs : List S27) (id : Int) (h : xs.length < 4398046511104) : Ev (fun k => stanchionref15_Drop.f k xs id) (drops xs id []) := rdrop_l0 id xs h xs.length 0 [] (by omega) (by omega) (by simp)
theorem rsame_l0 : ∀ (n : Nat) (l : List S27) (i : Nat), l.length - i ≤ n → l.length < 4611686018427387904 → Ev (fun k => stanchionref15_Same.l0 k l l (i : Int)) true := by
  intro n
  induction n with
  | zero => intro l i hn hl; exact Ev.step (f := fun k => some true) (fun k => by simp only [stanchionref15_Same.l0]; rw [if_neg (by omega)]) (Ev.now _)
  | succ n ih =>
    intro l i hn hl
    rcases Nat.lt_or_ge i l.length with hi | hi
    · refine Ev.step (f := fun k => stanchionref15_Same.l0 k l l ((i + 1 : Nat) : Int)) (fun k => ?_) (ih l (i + 1) (by omega) hl)
      simp only [stanchionref15_Same.l0]
      rw [if_pos (by omega), if_pos (by omega), if_pos (by omega), if_neg (by simp), show wrap64 ((i : Int) + 1) = ((i + 1 : Nat) : Int) by unfold wrap64; omega]
    · exact Ev.step (f := fun k => some true) (fun k => by simp only [stanchionref15_Same.l0]; rw [if_neg (by omega)]) (Ev.now _)
theorem rsame_ev (a b : List S27) (h : a = b) (hl : b.length < 4611686018427387904) : Ev (fun k => stanchionref15_Same.f k a b) true := by
  subst h
  refine Ev.congr (fun k => ?_) (rsame_l0 a.length a 0 (by omega) hl)
  unfold stanchionref15_Same.f
  rw [if_pos rfl]
  rfl
theorem ints_l0 : ∀ (n : Nat) (l : List Int) (i : Nat), l.length - i ≤ n → l.length < 4611686018427387904 → Ev (fun k => stanchionref10_Ints.l0 k l l (i : Int)) true := by
  intro n
  induction n with
  | zero => intro l i hn hl; exact Ev.step (f := fun k => some true) (fun k => by simp only [stanchionref10_Ints.l0]; rw [if_neg (by omega)]) (Ev.now _)
  | succ n ih =>
    intro l i hn hl
    rcases Nat.lt_or_ge i l.length with hi | hi
    · refine Ev.step (f := fun k => stanchionref10_Ints.l0 k l l ((i + 1 : Nat) : Int)) (fun k => ?_) (ih l (i + 1) (by omega) hl)
      simp only [stanchionref10_Ints.l0]
      rw [if_pos (by omega), if_pos (by omega), if_pos (by omega), if_pos trivial, show wrap64 ((i : Int) + 1) = ((i + 1 : Nat) : Int) by unfold wrap64; omega]
    · exact Ev.step (f := fun k => some true) (fun k => by simp only [stanchionref10_Ints.l0]; rw [if_neg (by omega)]) (Ev.now _)
theorem ints_ev (a : List Int) (hl : a.length < 4611686018427387904) : Ev (fun k => stanchionref10_Ints.f k a a) true := by
  refine Ev.congr (fun k => ?_) (ints_l0 a.length a 0 (by omega) hl)
  unfold stanchionref10_Ints.f
  rw [if_pos rfl]
  rfl
theorem aheap_l0 (xs : List S27) (hb : xs.length < 1152921504606846976) : ∀ (d i : Nat), xs.length - i = d → 0 < i → (∀ k, 0 < k → k < xs.length → k < i → okAt xs k) → Ev2 (fun k => alarm_Heap.l0 k xs (i : Int)) (Heap lt z27 xs) := by
  intro d
  induction d with
  | zero =>
    intro i hd h0 hk
    refine Ev2.step (f := fun _ => some true) (fun k => ?_) (Ev2.yes (fun k h0 hl => hk k h0 hl (by omega)))
    simp only [alarm_Heap.l0]
    rw [if_neg (by omega)]
  | succ d ih =>
    intro i hd h0 hk
    have hi : i < xs.length := by omega
    refine Ev2.step (f := fun k => if lt (xs.getD i z27) (xs.getD ((i - 1) / 2) z27) = true then some false else alarm_Heap.l0 k xs ((i + 1 : Nat) : Int)) (fun k => ?_) ?_
    · simp only [alarm_Heap.l0]
      rw [if_pos (by omega), if_pos (by omega), par_eq i h0 (by omega), if_pos (by omega), if_pos (by omega), rd_nat, rd_nat, less_eq, Option.bind_some, show wrap64 ((i : Int) + 1) = ((i + 1 : Nat) : Int) by unfold wrap64; omega]
    · by_cases hc : lt (xs.getD i z27) (xs.getD ((i - 1) / 2) z27) = true
      · simp only [if_pos hc]
        refine Ev2.no (fun h => ?_)
        have := h i h0 hi
        rw [hc] at this
        cases this
      · simp only [if_neg hc]
        refine ih (i + 1) (by omega) (by omega) (fun k hk0 hl hlt => ?_)
        rcases Nat.lt_or_ge k i with h | h
        · exact hk k hk0 hl h
        · obtain rfl : k = i := by omega
          unfold okAt
          simpa using hc
theorem aheap_ev (xs : List S27) (hb : xs.length < 1152921504606846976) : Ev2 (fun k => alarm_Heap.f k xs) (Heap lt z27 xs) := aheap_l0 xs hb (xs.length - 1) 1 rfl (by omega) (fun k h0 _ h => absurd h (by omega))
end Go.Proofs.Ytgcbggcddnkldaa.PB
