/- Which rows are heaps: the reference's word; what Due and Drop of the program come to. -/
import Derived.Test.YtnpmjboofmdflaaMA
namespace Go.Proofs.Ytnpmjboofmdflaa.PB
open Go.RowKit Go.Proofs.YtnpmjboofmdflaaW.PrintWords Go.Proofs.Ytnpmjboofmdflaa.Hp

theorem rless_eq (a b : S85) : stanchionref15_Less.f a.f0 a.f1 b.f0 b.f1 = some (lt a b) := by
  unfold stanchionref15_Less.f lt
  by_cases h2 : a.f0 = b.f0
  · rw [if_pos h2]; simp [h2]
  · rw [if_neg h2]; simp [h2]

def Ev2 (g : Nat → Option Bool) (p : Prop) : Prop := ∃ b, Ev g b ∧ (b = true ↔ p)
theorem Ev2.step {g f : Nat → Option Bool} {p : Prop} (h : ∀ k, g (k + 1) = f k) (e : Ev2 f p) : Ev2 g p := by
  obtain ⟨b, h1, h2⟩ := e
  exact ⟨b, Ev.step h h1, h2⟩
theorem Ev2.congr {g f : Nat → Option Bool} {p : Prop} (h : ∀ k, g k = f k) (e : Ev2 f p) : Ev2 g p := by
  obtain ⟨b, h1, h2⟩ := e
  exact ⟨b, Ev.congr h h1, h2⟩
theorem Ev2.yes {p : Prop} (h : p) : Ev2 (fun _ => some true) p := ⟨true, Ev.now _, by simp [h]⟩
theorem Ev2.no {p : Prop} (h : ¬ p) : Ev2 (fun _ => some false) p := ⟨false, Ev.now _, by simp [h]⟩
theorem Ev2.true {g : Nat → Option Bool} {p : Prop} (e : Ev2 g p) (h : p) : Ev g true := by
  obtain ⟨b, h1, h2⟩ := e
  have := h2.2 h
  subst this
  exact h1
/-- As Heap asks, of one place. -/
def okAt (xs : List S85) (k : Nat) : Prop := lt (xs.getD k z85) (xs.getD ((k - 1) / 2) z85) = false

theorem rheap_l0 (xs : List S85) (hb : xs.length < 1152921504606846976) : ∀ (d i : Nat), xs.length - i = d → (∀ k, 0 < k → k < xs.length → k < 2 * i + 1 → okAt xs k) → Ev2 (fun k => stanchionref15_Heap.l0 k xs (i : Int)) (Heap lt z85 xs) := by
  intro d
  induction d with
  | zero =>
    intro i hd hk
    refine Ev2.step (f := fun _ => some true) (fun k => ?_) (Ev2.yes (fun k h0 hl => hk k h0 hl (by omega)))
    simp only [stanchionref15_Heap.l0]
    rw [if_neg (by omega)]
  | succ d ih =>
    intro i hd hk
    have hi : i < xs.length := by omega
    -- behind both of i's
    have after (q : Nat) (hq : q = 2 * i + 1 ∨ q = 2 * i + 2) (hql : ¬ q < xs.length) (hk' : ∀ k, 0 < k → k < xs.length → k < q → okAt xs k) : Ev2 (fun k => stanchionref15_Heap.l1 k xs (i : Int) (q : Int)) (Heap lt z85 xs) := by
      refine Ev2.step (f := fun k => stanchionref15_Heap.j2 k xs (i : Int) (q : Int) false) (fun k => ?_) ?_
      · simp only [stanchionref15_Heap.l1]
        rw [kid2 i (by omega), if_pos (by omega), decide_eq_false (by omega)]
      · refine Ev2.step (f := fun k => stanchionref15_Heap.l0 k xs ((i + 1 : Nat) : Int)) (fun k => ?_) (ih (i + 1) (by omega) (fun k h0 hl _ => hk' k h0 hl (by omega)))
        simp only [stanchionref15_Heap.j2]
        rw [if_neg (by simp)]
        congr 1
        unfold wrap64
        omega
    have at_ (q : Nat) (hq : q = 2 * i + 1 ∨ q = 2 * i + 2) (hql : q < xs.length) (next : okAt xs q → Ev2 (fun k => stanchionref15_Heap.l1 k xs (i : Int) ((q + 1 : Nat) : Int)) (Heap lt z85 xs)) : Ev2 (fun k => stanchionref15_Heap.l1 k xs (i : Int) (q : Int)) (Heap lt z85 xs) := by
      refine Ev2.step (f := fun k => stanchionref15_Heap.j2 k xs (i : Int) (q : Int) true) (fun k => ?_) ?_
      · simp only [stanchionref15_Heap.l1]
        rw [kid2 i (by omega), if_pos (by omega), decide_eq_true (by omega)]
      · refine Ev2.step (f := fun k => if lt (xs.getD q z85) (xs.getD i z85) = true then some false else stanchionref15_Heap.l1 k xs (i : Int) ((q + 1 : Nat) : Int)) (fun k => ?_) ?_
        · simp only [stanchionref15_Heap.j2]
          rw [if_pos trivial, if_pos (by omega), if_pos (by omega), if_pos (by omega), if_pos (by omega), rd_nat, rd_nat, rless_eq, Option.bind_some]
          have : wrap64 ((q : Int) + 1) = ((q + 1 : Nat) : Int) := by unfold wrap64; omega
          rw [this]
        · have hp : (q - 1) / 2 = i := by omega
          by_cases hc : lt (xs.getD q z85) (xs.getD i z85) = true
          · simp only [if_pos hc]
            refine Ev2.no (fun h => ?_)
            have := h q (by omega) hql
            rw [hp, hc] at this
            cases this
          · simp only [if_neg hc]
            exact next (by unfold okAt; rw [hp]; simpa using hc)
    have two (hk' : ∀ k, 0 < k → k < xs.length → k < 2 * i + 2 → okAt xs k) : Ev2 (fun k => stanchionref15_Heap.l1 k xs (i : Int) ((2 * i + 2 : Nat) : Int)) (Heap lt z85 xs) := by
      by_cases h2 : 2 * i + 2 < xs.length
      · refine at_ _ (.inr rfl) h2 (fun hok => ?_)
        refine Ev2.step (f := fun k => stanchionref15_Heap.j2 k xs (i : Int) ((2 * i + 2 + 1 : Nat) : Int) false) (fun k => ?_) ?_
        · simp only [stanchionref15_Heap.l1]
          rw [kid2 i (by omega), if_neg (by omega)]
        · refine Ev2.step (f := fun k => stanchionref15_Heap.l0 k xs ((i + 1 : Nat) : Int)) (fun k => ?_) (ih (i + 1) (by omega) (fun k h0 hl hlt => by
            rcases Nat.lt_or_ge k (2 * i + 2) with h | h
            · exact hk' k h0 hl h
            · obtain rfl : k = 2 * i + 2 := by omega
              exact hok))
          simp only [stanchionref15_Heap.j2]
          rw [if_neg (by simp)]
          congr 1
          unfold wrap64
          omega
      · exact after _ (.inr rfl) h2 hk'
    refine Ev2.step (f := fun k => stanchionref15_Heap.l1 k xs (i : Int) ((2 * i + 1 : Nat) : Int)) (fun k => ?_) ?_
    · simp only [stanchionref15_Heap.l0]
      rw [if_pos (by omega), kid1 i (by omega)]
    · by_cases h1 : 2 * i + 1 < xs.length
      · exact at_ _ (.inl rfl) h1 (fun hok => two (fun k h0 hl hlt => by
          rcases Nat.lt_or_ge k (2 * i + 1) with h | h
          · exact hk k h0 hl h
          · obtain rfl : k = 2 * i + 1 := by omega
            exact hok))
      · exact after _ (.inl rfl) h1 hk
theorem rheap_ev (xs : List S85) (hb : xs.length < 1152921504606846976) : Ev2 (fun k => stanchionref15_Heap.f k xs) (Heap lt z85 xs) := rheap_l0 xs hb xs.length 0 (by omega) (fun k h0 _ h => absurd h (by omega))

/- Due: the heap as it is behind all that are due, and their numbers, in order -/
def due : Nat → List S85 → Int → List S85
  | 0, xs, _ => xs
  | n + 1, xs, t => if 0 < xs.length ∧ (xs.getD 0 z85).f0 ≤ t then due n (pop lt z85 xs) t else xs
def dueIds : Nat → List S85 → Int → List Int
  | 0, _, _ => []
  | n + 1, xs, t => if 0 < xs.length ∧ (xs.getD 0 z85).f0 ≤ t then (xs.getD 0 z85).f1 :: dueIds n (pop lt z85 xs) t else []
theorem due_l0 : ∀ (n : Nat) (xs : List S85) (t : Int) (out : List Int), xs.length ≤ n → xs.length + out.length < 8796093022208 → Ev (fun k => alarm_Due.l0 k xs t out) (due n xs t, out ++ dueIds n xs t)
  | 0, xs, t, out, hn, hb => by
    have h0 : xs = [] := List.eq_nil_of_length_eq_zero (by omega)
    subst h0
    refine Ev.step (f := fun _ => some ([], out)) (fun k => by simp only [alarm_Due.l0]; rw [if_neg (by simp)]) ?_
    simp only [due, dueIds, List.append_nil]
    exact Ev.now _
  | n + 1, xs, t, out, hn, hb => by
    unfold due dueIds
    by_cases h0 : 0 < xs.length
    · by_cases hc : (xs.getD 0 z85).f0 ≤ t
      · rw [if_pos ⟨h0, hc⟩, if_pos ⟨h0, hc⟩]
        refine Ev.step (f := fun k => (alarm_Pop.f k xs).bind fun bt => alarm_Due.l0 k bt.1 t (out ++ [bt.2.2.1])) (fun k => ?_) (Ev.bind (pop_ev xs h0 (by omega)) ?_)
        · simp only [alarm_Due.l0]
          rw [if_pos (by omega), if_pos (by omega), rd_zero, if_pos hc]
          simp only [if_pos (show out.length < 17592186044416 by omega)]
        · have := due_l0 n (pop lt z85 xs) t (out ++ [(xs.getD 0 z85).f1]) (by rw [pop_length]; omega) (by rw [pop_length]; simp; omega)
          simpa using this
      · rw [if_neg (fun h => hc h.2), if_neg (fun h => hc h.2)]
        refine Ev.step (f := fun _ => some (xs, out)) (fun k => ?_) (by simpa using Ev.now _)
        simp only [alarm_Due.l0]
        rw [if_pos (by omega), if_pos (by omega), rd_zero, if_neg hc]
    · rw [if_neg (fun h => h0 h.1), if_neg (fun h => h0 h.1)]
      refine Ev.step (f := fun _ => some (xs, out)) (fun k => ?_) (by simpa using Ev.now _)
      simp only [alarm_Due.l0]
      rw [if_neg (by omega)]
theorem due_ev (xs : List S85) (t : Int) (h : xs.length < 8796093022208) : Ev (fun k => alarm_Due.f k xs t) (due xs.length xs t, dueIds xs.length xs t) := by
  have := due_l0 xs.length xs t [] (Nat.le_refl _) (by simpa using h)
  simpa [alarm_Due.f] using this
theorem due_length : ∀ (n : Nat) (xs : List S85) (t : Int), (due n xs t).length + (dueIds n xs t).length = xs.length
  | 0, _, _ => rfl
  | n + 1, xs, t => by
    unfold due dueIds
    split
    · rename_i h
      have := due_length n (pop lt z85 xs) t
      rw [pop_length] at this
      simp only [List.length_cons]
      omega
    · simp
/-- What isn't due is counted as before; what is due is gone. -/
theorem due_count (p : S85 → Bool) : ∀ (n : Nat) (xs : List S85) (t : Int), (∀ x, p x = true → ¬ x.f0 ≤ t) → (due n xs t).countP p = xs.countP p
  | 0, _, _, _ => rfl
  | n + 1, xs, t, hp => by
    unfold due
    split
    · rename_i h
      rw [due_count p n _ t hp]
      have := pop_count (lt := lt) (d := z85) p h.1
      rw [if_neg (fun q => hp _ q h.2)] at this
      omega
    · rfl
theorem due_done : ∀ (n : Nat) (xs : List S85) (t : Int), xs.length ≤ n → Heap lt z85 xs → ∀ x ∈ due n xs t, ¬ x.f0 ≤ t
  | 0, xs, t, hn, _, x, hx => by
    have h0 : xs = [] := List.eq_nil_of_length_eq_zero (by omega)
    subst h0
    cases hx
  | n + 1, xs, t, hn, hh, x, hx => by
    unfold due at hx
    split at hx
    · exact due_done n _ t (by rw [pop_length]; omega) (pop_heap lt_ord hh) x hx
    · rename_i hc
      obtain ⟨i, hi, he⟩ := List.mem_iff_getElem.1 hx
      have hr := heap_root lt_ord hh i i (Nat.le_refl _) hi
      rw [lt_not] at hr
      have e1 : xs.getD i z85 = x := by rw [List.getD_eq_getElem?_getD, List.getElem?_eq_getElem hi]; exact he
      rw [e1] at hr
      intro hle
      exact hc ⟨by omega, by omega⟩

/- Drop -/
def drops : List S85 → Int → List S85 → List S85
  | [], _, acc => acc
  | x :: r, id, acc => if x.f1 = id then drops r id acc else drops r id (put lt z85 acc x)
theorem drop_at (xs : List S85) (i : Nat) (h : i < xs.length) : xs.drop i = xs.getD i z85 :: xs.drop (i + 1) := by
  rw [List.drop_eq_getElem_cons h, List.getD_eq_getElem?_getD, List.getElem?_eq_getElem h]
  rfl
theorem drop_l0 (id : Int) (xs : List S85) (hb : xs.length < 8796093022207) : ∀ (d i : Nat) (acc : List S85), xs.length - i = d → i ≤ xs.length → acc.length ≤ i →
    Ev (fun k => alarm_Drop.l0 k id acc xs (xs.length : Int) (i : Int)) (drops (xs.drop i) id acc) := by
  intro d
  induction d with
  | zero =>
    intro i acc hd hi ha
    rw [List.drop_of_length_le (by omega)]
    refine Ev.step (f := fun _ => some acc) (fun k => ?_) (Ev.now _)
    simp only [alarm_Drop.l0]
    rw [if_neg (by omega)]
  | succ d ih =>
    intro i acc hd hi ha
    have w1 : wrap64 ((i : Int) + 1) = ((i + 1 : Nat) : Int) := by unfold wrap64; omega
    rw [drop_at xs i (by omega)]
    unfold drops
    by_cases hc : (xs.getD i z85).f1 = id
    · rw [if_pos hc]
      refine Ev.step (fun k => ?_) (ih (i + 1) acc (by omega) (by omega) (by omega))
      simp only [alarm_Drop.l0]
      rw [if_pos (by omega), if_pos (by omega), if_pos (by omega), rd_nat, if_pos hc, w1]
    · rw [if_neg hc]
      refine Ev.step (f := fun k => (alarm_Put.f k acc (xs.getD i z85).f0 (xs.getD i z85).f1).bind fun t => alarm_Drop.l0 k id t xs (xs.length : Int) ((i + 1 : Nat) : Int)) (fun k => ?_) (Ev.bind (put_ev acc _ (by omega)) (ih (i + 1) _ (by omega) (by omega) (by rw [put_length]; omega)))
      simp only [alarm_Drop.l0]
      rw [if_pos (by omega), if_pos (by omega), if_pos (by omega), rd_nat, if_neg hc, w1]
theorem drop_ev (xs : List S85) (id : Int) (h : xs.length < 8796093022207) : Ev (fun k => alarm_Drop.f k xs id) (drops xs id []) := drop_l0 id xs h xs.length 0 [] (by omega) (by omega) (by simp)
theorem drops_heap (id : Int) : ∀ (xs acc : List S85), Heap lt z85 acc → Heap lt z85 (drops xs id acc)
  | [], acc, h => h
  | x :: r, acc, h => by
    unfold drops
    split
    · exact drops_heap id r acc h
    · exact drops_heap id r _ (put_heap lt_ord h x)
theorem drops_count (id : Int) (p : S85 → Bool) : ∀ (xs acc : List S85), (drops xs id acc).countP p = acc.countP p + xs.countP (fun x => p x && decide (x.f1 ≠ id))
  | [], acc => by simp [drops]
  | x :: r, acc => by
    unfold drops
    split
    · rename_i h
      rw [drops_count id p r acc, List.countP_cons]
      simp [h]
    · rename_i h
      rw [drops_count id p r _, put_count, List.countP_cons]
      by_cases q : p x = true
      · simp [h, q]; omega
      · simp [h, q]
theorem drops_none (id : Int) (xs : List S85) : ∀ x ∈ drops xs id [], x.f1 ≠ id := by
  intro x hx he
  have h1 : 0 < (drops xs id []).countP (fun y => decide (y.f1 = id)) := List.countP_pos_iff.2 ⟨x, hx, by simpa using he⟩
  rw [drops_count] at h1
  have : xs.countP (fun x => decide (x.f1 = id) && decide (x.f1 ≠ id)) = 0 := by
    rw [List.countP_eq_zero]
    intro y _
    by_cases q : y.f1 = id <;> simp [q]
  rw [this] at h1
  simp at h1
end Go.Proofs.Ytnpmjboofmdflaa.PB
