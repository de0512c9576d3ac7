/- Heaps over lists, plain: rows in which no element is less than the one above it; what goes up, what goes down; which elements there are. -/
import Derived.RowKit
namespace Go.Proofs.Ytnpmjboofmdflaa.Hp
section
variable {α : Type} (lt : α → α → Bool) (d : α)

def sw (xs : List α) (i j : Nat) : List α := (xs.set i (xs.getD j d)).set j (xs.getD i d)
def up : Nat → List α → Nat → List α
  | 0, xs, _ => xs
  | n + 1, xs, i => if 0 < i ∧ lt (xs.getD i d) (xs.getD ((i - 1) / 2) d) = true then up n (sw d xs i ((i - 1) / 2)) ((i - 1) / 2) else xs
def b1 (xs : List α) (i : Nat) : Nat := if 2 * i + 1 < xs.length ∧ lt (xs.getD (2 * i + 1) d) (xs.getD i d) = true then 2 * i + 1 else i
def bst (xs : List α) (i : Nat) : Nat := if 2 * i + 2 < xs.length ∧ lt (xs.getD (2 * i + 2) d) (xs.getD (b1 lt d xs i) d) = true then 2 * i + 2 else b1 lt d xs i
def down : Nat → List α → Nat → List α
  | 0, xs, _ => xs
  | n + 1, xs, i => if bst lt d xs i = i then xs else down n (sw d xs i (bst lt d xs i)) (bst lt d xs i)
def put (xs : List α) (a : α) : List α := up lt d xs.length (xs ++ [a]) xs.length
def pop (xs : List α) : List α := down lt d xs.length ((xs.set 0 (xs.getD (xs.length - 1) d)).take (xs.length - 1)) 0
def Heap (xs : List α) : Prop := ∀ i, 0 < i → i < xs.length → lt (xs.getD i d) (xs.getD ((i - 1) / 2) d) = false

structure Ord : Prop where
  trans : ∀ a b c, lt a b = false → lt b c = false → lt a c = false
  asymm : ∀ a b, lt a b = true → lt b a = false

theorem sw_length (xs : List α) (i j : Nat) : (sw d xs i j).length = xs.length := by simp [sw]
theorem sw_get (xs : List α) {i j : Nat} (hi : i < xs.length) (hj : j < xs.length) (q : Nat) : (sw d xs i j).getD q d = if q = j then xs.getD i d else if q = i then xs.getD j d else xs.getD q d := by
  unfold sw
  simp only [List.getD_eq_getElem?_getD, List.getElem?_set, List.length_set]
  by_cases h1 : j = q
  · subst h1; simp [hj]
  · by_cases h2 : i = q
    · subst h2; simp [h1, hi, Ne.symm h1]
    · simp [h1, h2, Ne.symm h1, Ne.symm h2]
variable {lt d}
theorem up_length : ∀ (n : Nat) (xs : List α) (i : Nat), (up lt d n xs i).length = xs.length
  | 0, _, _ => rfl
  | n + 1, xs, i => by
    unfold up
    split
    · rw [up_length n, sw_length]
    · rfl
theorem down_length : ∀ (n : Nat) (xs : List α) (i : Nat), (down lt d n xs i).length = xs.length
  | 0, _, _ => rfl
  | n + 1, xs, i => by
    unfold down
    split
    · rfl
    · rw [down_length n, sw_length]
theorem put_length (xs : List α) (a : α) : (put lt d xs a).length = xs.length + 1 := by simp [put, up_length]
theorem pop_length (xs : List α) : (pop lt d xs).length = xs.length - 1 := by simp [pop, down_length]

theorem up_heap (O : Ord lt) : ∀ (n : Nat) (xs : List α) (i : Nat), i ≤ n → i < xs.length →
    (∀ j, 0 < j → j < xs.length → j ≠ i → lt (xs.getD j d) (xs.getD ((j - 1) / 2) d) = false) →
    (0 < i → ∀ j, 0 < j → j < xs.length → (j - 1) / 2 = i → lt (xs.getD j d) (xs.getD ((i - 1) / 2) d) = false) → Heap lt d (up lt d n xs i)
  | 0, xs, i, hi, _, h1, _ => fun j hj hl => h1 j hj hl (by omega)
  | n + 1, xs, i, hi, hl, h1, h2 => by
    unfold up
    split
    · rename_i hc
      obtain ⟨hi0, hlt⟩ := hc
      have hp : (i - 1) / 2 < xs.length := by omega
      have hpi : (i - 1) / 2 < i := by omega
      generalize hP : (i - 1) / 2 = p at *
      have hge := O.asymm _ _ hlt
      refine up_heap O n _ p (by omega) (by rw [sw_length]; exact hp) ?_ ?_
      · intro j hj hjl hjp
        rw [sw_length] at hjl
        rw [sw_get d xs hl hp, sw_get d xs hl hp, if_neg hjp]
        by_cases hji : j = i
        · subst hji
          rw [if_pos rfl, if_pos hP]
          exact hge
        · rw [if_neg hji]
          by_cases q1 : (j - 1) / 2 = p
          · rw [if_pos q1]
            have := h1 j hj hjl hji
            rw [q1] at this
            exact O.trans _ _ _ this hge
          · rw [if_neg q1]
            by_cases q2 : (j - 1) / 2 = i
            · rw [if_pos q2]
              exact h2 hi0 j hj hjl q2
            · rw [if_neg q2]
              exact h1 j hj hjl hji
      · intro hp0 j hj hjl hjp
        rw [sw_length] at hjl
        have hjne : j ≠ p := by omega
        have hpp : (p - 1) / 2 ≠ p := by omega
        have hppi : (p - 1) / 2 ≠ i := by omega
        rw [sw_get d xs hl hp, sw_get d xs hl hp, if_neg hjne, if_neg hpp, if_neg hppi]
        have hpar := h1 p hp0 hp (by omega)
        by_cases hji : j = i
        · rw [if_pos hji]
          exact hpar
        · rw [if_neg hji]
          have := h1 j hj hjl hji
          rw [hjp] at this
          exact O.trans _ _ _ this hpar
    · rename_i hc
      intro j hj hjl
      by_cases hji : j = i
      · subst hji
        cases hlt : lt (xs.getD j d) (xs.getD ((j - 1) / 2) d) with
        | false => rfl
        | true => exact absurd ⟨hj, hlt⟩ hc
      · exact h1 j hj hjl hji

theorem bst_self {xs : List α} {i : Nat} (hb : bst lt d xs i = i) (j : Nat) (hj : 0 < j) (hl : j < xs.length) (hp : (j - 1) / 2 = i) : lt (xs.getD j d) (xs.getD i d) = false := by
  unfold bst at hb
  split at hb
  · omega
  · rename_i hc
    have hb1 := hb
    unfold b1 at hb1
    split at hb1
    · omega
    · rename_i hc1
      rcases (by omega : j = 2 * i + 1 ∨ j = 2 * i + 2) with rfl | rfl
      · cases h : lt (xs.getD (2 * i + 1) d) (xs.getD i d) with
        | false => rfl
        | true => exact absurd ⟨hl, h⟩ hc1
      · rw [hb] at hc
        cases h : lt (xs.getD (2 * i + 2) d) (xs.getD i d) with
        | false => rfl
        | true => exact absurd ⟨hl, h⟩ hc

theorem bst_child (O : Ord lt) {xs : List α} {i b : Nat} (hb : bst lt d xs i = b) (hne : b ≠ i) :
    b < xs.length ∧ (b - 1) / 2 = i ∧ i < b ∧ lt (xs.getD b d) (xs.getD i d) = true ∧ ∀ j, 0 < j → j < xs.length → (j - 1) / 2 = i → lt (xs.getD j d) (xs.getD b d) = false := by
  have irr : ∀ a, lt a a = false := fun a => by
    cases h : lt a a with
    | false => rfl
    | true => have := O.asymm _ _ h; rw [h] at this; cases this
  unfold bst at hb
  split at hb
  · rename_i hc
    subst hb
    obtain ⟨hl, hlt⟩ := hc
    have hlt2 : lt (xs.getD (2 * i + 2) d) (xs.getD i d) = true := by
      cases h : lt (xs.getD (2 * i + 2) d) (xs.getD i d) with
      | true => rfl
      | false =>
        unfold b1 at hlt
        split at hlt
        · rename_i hc1
          have := O.trans _ _ _ h (O.asymm _ _ hc1.2)
          rw [this] at hlt
          cases hlt
        · rw [h] at hlt; cases hlt
    refine ⟨hl, by omega, by omega, hlt2, fun j hj hjl hp => ?_⟩
    rcases (by omega : j = 2 * i + 1 ∨ j = 2 * i + 2) with rfl | rfl
    · unfold b1 at hlt
      split at hlt
      · exact O.asymm _ _ hlt
      · rename_i hc1
        have h1 : lt (xs.getD (2 * i + 1) d) (xs.getD i d) = false := by
          cases h : lt (xs.getD (2 * i + 1) d) (xs.getD i d) with
          | false => rfl
          | true => exact absurd ⟨hjl, h⟩ hc1
        exact O.trans _ _ _ h1 (O.asymm _ _ hlt2)
    · exact irr _
  · rename_i hc
    unfold b1 at hb
    split at hb
    · rename_i hc1
      subst hb
      refine ⟨hc1.1, by omega, by omega, hc1.2, fun j hj hjl hp => ?_⟩
      rcases (by omega : j = 2 * i + 1 ∨ j = 2 * i + 2) with rfl | rfl
      · exact irr _
      · have e : b1 lt d xs i = 2 * i + 1 := by unfold b1; rw [if_pos hc1]
        rw [e] at hc
        cases h : lt (xs.getD (2 * i + 2) d) (xs.getD (2 * i + 1) d) with
        | false => rfl
        | true => exact absurd ⟨hjl, h⟩ hc
    · exact absurd hb.symm hne

theorem down_heap (O : Ord lt) : ∀ (n : Nat) (xs : List α) (i : Nat), xs.length ≤ n + i → 
    (∀ j, 0 < j → j < xs.length → (j - 1) / 2 ≠ i → lt (xs.getD j d) (xs.getD ((j - 1) / 2) d) = false) →
    (0 < i → ∀ j, 0 < j → j < xs.length → (j - 1) / 2 = i → lt (xs.getD j d) (xs.getD ((i - 1) / 2) d) = false) → Heap lt d (down lt d n xs i)
  | 0, xs, i, hi, h1, _ => fun j hj hl => h1 j hj hl (by have hl' : j < xs.length := hl; omega)
  | n + 1, xs, i, hi, h1, h2 => by
    unfold down
    split
    · rename_i hb
      intro j hj hjl
      by_cases hp : (j - 1) / 2 = i
      · rw [hp]; exact bst_self hb j hj hjl hp
      · exact h1 j hj hjl hp
    · rename_i hne
      generalize hB : bst lt d xs i = b at *
      obtain ⟨hbl, hbp, hib, hlt, hch⟩ := bst_child O hB hne
      have hil : i < xs.length := by omega
      refine down_heap O n _ b (by rw [sw_length]; omega) ?_ ?_
      · intro j hj hjl hjp
        rw [sw_length] at hjl
        rw [sw_get d xs hil hbl, sw_get d xs hil hbl, if_neg hjp]
        by_cases q1 : (j - 1) / 2 = i
        · rw [if_pos q1]
          by_cases q2 : j = b
          · rw [if_pos q2]; exact O.asymm _ _ hlt
          · rw [if_neg q2, if_neg (by omega)]; exact hch j hj hjl q1
        · rw [if_neg q1]
          by_cases q2 : j = b
          · subst q2; exact absurd hbp q1
          · rw [if_neg q2]
            by_cases q3 : j = i
            · rw [if_pos q3]
              subst q3
              exact h2 hj b (by omega) hbl hbp
            · rw [if_neg q3]; exact h1 j hj hjl q1
      · intro _ j hj hjl hjp
        rw [sw_length] at hjl
        rw [sw_get d xs hil hbl, sw_get d xs hil hbl, hbp, if_neg (by omega), if_neg (by omega), if_neg (by omega : i ≠ b), if_pos rfl]
        have := h1 j hj hjl (by omega)
        rw [hjp] at this
        exact this

theorem put_heap (O : Ord lt) {xs : List α} (h : Heap lt d xs) (a : α) : Heap lt d (put lt d xs a) := by
  unfold put
  refine up_heap O _ _ _ (Nat.le_refl _) (by simp) ?_ ?_
  · intro j hj hjl hne
    have hjl' : j < xs.length := by simp at hjl; omega
    have e : ∀ q, q < xs.length → (xs ++ [a]).getD q d = xs.getD q d := fun q hq => by
      rw [List.getD_eq_getElem?_getD, List.getD_eq_getElem?_getD, List.getElem?_append_left hq]
    rw [e _ hjl', e _ (by omega)]
    exact h j hj hjl'
  · intro h0 j hj hjl hp
    simp at hjl
    omega

theorem pop_heap (O : Ord lt) {xs : List α} (h : Heap lt d xs) : Heap lt d (pop lt d xs) := by
  unfold pop
  refine down_heap O _ _ _ (by simp) ?_ (fun h0 => absurd h0 (by omega))
  intro j hj hjl hne
  have hjl' : j < xs.length - 1 := by simp at hjl; omega
  have e : ∀ q, 0 < q → q < xs.length - 1 → ((xs.set 0 (xs.getD (xs.length - 1) d)).take (xs.length - 1)).getD q d = xs.getD q d := fun q h0 hq => by
    rw [List.getD_eq_getElem?_getD, List.getElem?_take, if_pos hq, List.getElem?_set, if_neg (by omega), ← List.getD_eq_getElem?_getD]
  rw [e _ hj hjl', e _ (by omega) (by omega)]
  exact h j hj (by omega)

theorem heap_root (O : Ord lt) {xs : List α} (h : Heap lt d xs) : ∀ (n i : Nat), i ≤ n → i < xs.length → lt (xs.getD i d) (xs.getD 0 d) = false
  | 0, i, hi, _ => by
    obtain rfl : i = 0 := by omega
    cases q : lt (xs.getD 0 d) (xs.getD 0 d) with
    | false => rfl
    | true => have := O.asymm _ _ q; rw [q] at this; cases this
  | n + 1, i, hi, hl => by
    rcases Nat.eq_zero_or_pos i with rfl | h0
    · exact heap_root O h n 0 (by omega) hl
    · exact O.trans _ _ _ (h i h0 hl) (heap_root O h n ((i - 1) / 2) (by omega) (by omega))

/- which elements there are: how many of each kind p -/
theorem sw_count (p : α → Bool) (xs : List α) {i j : Nat} (hi : i < xs.length) (hj : j < xs.length) : (sw d xs i j).countP p = xs.countP p := by
  unfold sw
  have e1 : xs.getD i d = xs[i] := by rw [List.getD_eq_getElem?_getD, List.getElem?_eq_getElem hi]; rfl
  have e2 : xs.getD j d = xs[j] := by rw [List.getD_eq_getElem?_getD, List.getElem?_eq_getElem hj]; rfl
  rw [e1, e2, List.countP_set (by simpa using hj), List.countP_set hi]
  have hpos : ∀ q (hq : q < xs.length), p xs[q] = true → 0 < xs.countP p := fun q hq h => List.countP_pos_iff.2 ⟨_, List.getElem_mem hq, h⟩
  by_cases hij : i = j
  · subst hij
    simp only [List.getElem_set_self]
    have := hpos i hi
    split <;> simp_all <;> omega
  · have e3 : (xs.set i xs[j])[j]'(by simpa using hj) = xs[j] := List.getElem_set_ne hij _
    rw [e3]
    have h1 := hpos i hi
    have h2 := hpos j hj
    by_cases q1 : p xs[i] = true
    · have := h1 q1
      by_cases q2 : p xs[j] = true
      · rw [if_pos q1, if_pos q2]; omega
      · rw [if_pos q1, if_neg q2]; omega
    · by_cases q2 : p xs[j] = true
      · rw [if_neg q1, if_pos q2]; omega
      · rw [if_neg q1, if_neg q2]; omega

theorem up_count (p : α → Bool) : ∀ (n : Nat) (xs : List α) (i : Nat), i < xs.length → (up lt d n xs i).countP p = xs.countP p
  | 0, _, _, _ => rfl
  | n + 1, xs, i, hi => by
    unfold up
    split
    · rw [up_count p n _ _ (by rw [sw_length]; omega), sw_count p xs hi (by omega)]
    · rfl
theorem bst_lt {xs : List α} {i : Nat} (hi : i < xs.length) : bst lt d xs i < xs.length := by
  unfold bst
  split
  · rename_i h; exact h.1
  · unfold b1
    split
    · rename_i h; exact h.1
    · exact hi
theorem down_count (p : α → Bool) : ∀ (n : Nat) (xs : List α) (i : Nat), i < xs.length → (down lt d n xs i).countP p = xs.countP p
  | 0, _, _, _ => rfl
  | n + 1, xs, i, hi => by
    unfold down
    split
    · rfl
    · rw [down_count p n _ _ (by rw [sw_length]; exact bst_lt hi), sw_count p xs hi (bst_lt hi)]
theorem put_count (p : α → Bool) (xs : List α) (a : α) : (put lt d xs a).countP p = xs.countP p + if p a = true then 1 else 0 := by
  unfold put
  rw [up_count p _ _ _ (by simp), List.countP_append]
  simp [List.countP_cons]
theorem pop_count (p : α → Bool) {xs : List α} (h : 0 < xs.length) : (pop lt d xs).countP p + (if p (xs.getD 0 d) = true then 1 else 0) = xs.countP p := by
  unfold pop
  rcases Nat.lt_or_ge 1 xs.length with h1 | h1
  · rw [down_count p _ _ _ (by simp; omega)]
    obtain ⟨z, hz⟩ : ∃ z, z = xs.getD (xs.length - 1) d := ⟨_, rfl⟩
    rw [← hz]
    have e0 : xs.getD 0 d = xs[0] := by rw [List.getD_eq_getElem?_getD, List.getElem?_eq_getElem h]; rfl
    have e1 : z = xs[xs.length - 1] := by rw [hz, List.getD_eq_getElem?_getD, List.getElem?_eq_getElem (by omega)]; rfl
    have hs : (xs.set 0 z).countP p = ((xs.set 0 z).take (xs.length - 1)).countP p + if p z = true then 1 else 0 := by
      have hc : (xs.set 0 z).countP p = ((xs.set 0 z).take (xs.length - 1)).countP p + ((xs.set 0 z).drop (xs.length - 1)).countP p := by rw [← List.countP_append, List.take_append_drop]
      rw [hc]
      congr 1
      rw [List.drop_eq_getElem_cons (by simp; omega), List.drop_of_length_le (by simp; omega), List.getElem_set_ne (by omega), ← e1]
      simp [List.countP_cons]
    rw [List.countP_set h] at hs
    have hpos : p xs[0] = true → 0 < xs.countP p := fun hq => List.countP_pos_iff.2 ⟨_, List.getElem_mem h, hq⟩
    rw [e0]
    by_cases q : p xs[0] = true
    · have := hpos q
      rw [if_pos q] at hs ⊢
      omega
    · rw [if_neg q] at hs ⊢
      omega
  · obtain ⟨x, rfl⟩ : ∃ x, xs = [x] := by
      cases xs with
      | nil => simp at h
      | cons x t => cases t with
        | nil => exact ⟨x, rfl⟩
        | cons y t => simp at h1
    have e : (([x] : List α).set 0 (([x] : List α).getD (([x] : List α).length - 1) d)).take (([x] : List α).length - 1) = [] := by simp
    rw [e]
    have : ∀ n, down lt d n ([] : List α) 0 = [] := fun n => List.eq_nil_of_length_eq_zero (by rw [down_length]; rfl)
    rw [this]
    simp [List.countP_cons]
end
end Go.Proofs.Ytnpmjboofmdflaa.Hp
