/- What the alarm functions of the program come to, in plain words (Hp): less, put, sink, pop. -/
import Derived.Test.YtnpmjboofmdflaaPAx3
import Derived.Test.YtnpmjboofmdflaaPAx4
import Derived.Test.YtnpmjboofmdflaaHp
namespace Go.Proofs.Ytnpmjboofmdflaa.PA
open Go.RowKit Go.Proofs.YtnpmjboofmdflaaW.PrintWords Go.Proofs.Ytnpmjboofmdflaa.Hp

def lt (a b : S85) : Bool := decide (a.f0 < b.f0) || (decide (a.f0 = b.f0) && decide (a.f1 < b.f1))
theorem lt_iff (a b : S85) : lt a b = true ↔ a.f0 < b.f0 ∨ (a.f0 = b.f0 ∧ a.f1 < b.f1) := by simp [lt]
theorem lt_not (a b : S85) : lt a b = false ↔ ¬ (a.f0 < b.f0 ∨ (a.f0 = b.f0 ∧ a.f1 < b.f1)) := by rw [← lt_iff]; simp
theorem lt_ord : Ord lt where
 trans := fun a b c h1 h2 => by rw [lt_not] at *; omega
 asymm := fun a b h => by rw [lt_not]; rw [lt_iff] at h; omega
theorem less_eq (a b : S85) : alarm_Less.f a.f0 a.f1 b.f0 b.f1 = some (lt a b) := by
 unfold alarm_Less.f lt
 by_cases h1 : a.f0 < b.f0
 ·rw [if_pos h1]; simp [h1]
 ·rw [if_neg h1]
  by_cases h2 : a.f0 = b.f0
  ·rw [if_pos h2]; simp [h2]
  ·rw [if_neg h2]; simp [h1, h2]
theorem rd_nat (xs : List S85) (i : Nat) : rd_T85 xs (i : Int) = xs.getD i z85 := by simp [rd_T85]
theorem rd_zero (xs : List S85) : rd_T85 xs 0 = xs.getD 0 z85 := by simp [rd_T85]
theorem par_eq (i : Nat) (h : 0 < i) (hb : i < 4611686018427387904) : wrap64 (Int.tdiv (wrap64 ((i : Int) - 1)) 2) = (((i - 1) / 2 : Nat) : Int) := by
 have e : wrap64 ((i : Int) - 1) = ((i - 1 : Nat) : Int) := by unfold wrap64; omega
 rw [e, Int.tdiv_eq_ediv_of_nonneg (by omega)]
 unfold wrap64
 omega
theorem clone_eq (xs : List S85) (h : xs.length < 8796093022208) : api_Alarm_68.f xs = some xs := by
 unfold api_Alarm_68.f
 simp [h]

theorem put_l0 : ∀ (n : Nat) (xs : List S85) (i : Nat), i ≤ n → i < xs.length → xs.length < 4611686018427387904 → Ev (fun k => alarm_Put.l0 k xs (i : Int)) (up lt z85 n xs i)
 | 0, xs, i, hi, hl, hb => by
  obtain rfl : i = 0 := by omega
  exact Ev.step (f := fun _ => some xs) (fun k => by simp only [alarm_Put.l0]; rw [if_neg (by simp)]) (Ev.now _)
 | n + 1, xs, i, hi, hl, hb => by
  rcases Nat.eq_zero_or_pos i with rfl | h0
  ·have e : up lt z85 (n + 1) xs 0 = xs := by unfold up; rw [if_neg (by simp)]
   rw [e]
   exact Ev.step (f := fun _ => some xs) (fun k => by simp only [alarm_Put.l0]; rw [if_neg (by simp)]) (Ev.now _)
  ·refine Ev.step (f := fun k => if lt (xs.getD i z85) (xs.getD ((i - 1) / 2) z85) = true then alarm_Put.l0 k (sw z85 xs i ((i - 1) / 2)) (((i - 1) / 2 : Nat) : Int) else some xs) (fun k => ?_) ?_
   ·simp only [alarm_Put.l0]
    rw [if_pos (by omega), if_pos (by omega), if_pos (by omega), par_eq i h0 (by omega), if_pos (by omega), if_pos (by omega), rd_nat, rd_nat, less_eq, Option.bind_some]
    rfl
   ·unfold up
    by_cases hc : lt (xs.getD i z85) (xs.getD ((i - 1) / 2) z85) = true
    ·rw [if_pos ⟨h0, hc⟩]
     simp only [if_pos hc]
     exact put_l0 n _ _ (by omega) (by rw [sw_length]; omega) (by rw [sw_length]; exact hb)
    ·rw [if_neg (fun h => hc h.2)]
     simp only [if_neg hc]
     exact Ev.now _

theorem put_ev (xs : List S85) (a : S85) (h : xs.length < 8796093022207) : Ev (fun k => alarm_Put.f k xs a.f0 a.f1) (put lt z85 xs a) := by
 have e : ∀ k, alarm_Put.f k xs a.f0 a.f1 = alarm_Put.l0 k (xs ++ [a]) ((xs.length : Nat) : Int) := fun k => by
  unfold alarm_Put.f
  rw [clone_eq xs (by omega), Option.bind_some, Option.bind_some]
  simp only [List.length_cons, List.length_nil]
  rw [if_pos (by omega), Option.bind_some]
  congr 1
  rw [List.length_append]
  simp only [List.length_cons, List.length_nil]
  unfold wrap64
  omega
 exact Ev.congr e (put_l0 _ _ _ (Nat.le_refl _) (by simp) (by simp; omega))

theorem kid_eq (i q : Nat) (hb : i < 2305843009213693952) (hq : q < 3) : wrap64 (wrap64 (2 * (i : Int)) + q) = ((2 * i + q : Nat) : Int) := by
 unfold wrap64
 omega
theorem kid1 (i : Nat) (hb : i < 2305843009213693952) : wrap64 (wrap64 (2 * (i : Int)) + 1) = ((2 * i + 1 : Nat) : Int) := kid_eq i 1 hb (by omega)
theorem kid2 (i : Nat) (hb : i < 2305843009213693952) : wrap64 (wrap64 (2 * (i : Int)) + 2) = ((2 * i + 2 : Nat) : Int) := kid_eq i 2 hb (by omega)
theorem kid3 (i : Nat) (hb : i < 2305843009213693952) : wrap64 (wrap64 (wrap64 (2 * (i : Int)) + 1) + 1) = ((2 * i + 2 : Nat) : Int) := by unfold wrap64; omega

theorem sink_l0 : ∀ (n : Nat) (xs : List S85) (i : Nat), xs.length ≤ n + i → (i < xs.length ∨ i = 0) → xs.length < 1152921504606846976 → Ev (fun k => alarm_sink.l0 k xs (i : Int)) (down lt z85 n xs i) := by
 intro n
 induction n with
 | zero =>
  intro xs i hi hl hb
  have hx : xs = [] := List.eq_nil_of_length_eq_zero (by omega)
  subst hx
  obtain rfl : i = 0 := by
   rcases hl with h | h
   ·exact absurd h (by simp)
   ·exact h
  exact Ev.of (fun k => (alarm_sink.mono_l k).1 _ _) (k := 4) (by kernel_rfl)
 | succ n ih =>
  intro xs i hi hl hb
  have hi2 : i < 2305843009213693952 := by rcases hl with h | h <;> omega
  refine Ev.step (f := fun k => alarm_sink.j1 k xs (i : Int) ((b1 lt z85 xs i : Nat) : Int)) (fun k => ?_) ?_
  ·simp only [alarm_sink.l0]
   rw [kid1 i hi2]
   unfold b1
   by_cases h1 : 2 * i + 1 < xs.length
   ·rw [if_pos (by omega), if_pos (by omega), if_pos (by omega), if_pos (by omega), rd_nat, rd_nat, less_eq, Option.bind_some]
    by_cases h2 : lt (xs.getD (2 * i + 1) z85) (xs.getD i z85) = true
    ·rw [if_pos h2, if_pos ⟨h1, h2⟩]
    ·rw [if_neg h2, if_neg (fun h => h2 h.2)]
   ·rw [if_neg (by omega), if_neg (fun h => h1 h.1)]
  ·have hb1 : b1 lt z85 xs i < xs.length ∨ b1 lt z85 xs i = 0 := by
    unfold b1
    split
    ·rename_i h; exact .inl h.1
    ·exact hl
   refine Ev.step (f := fun k => alarm_sink.j2 k xs (i : Int) ((bst lt z85 xs i : Nat) : Int)) (fun k => ?_) ?_
   ·simp only [alarm_sink.j1]
    rw [kid3 i hi2]
    unfold bst
    by_cases h1 : 2 * i + 2 < xs.length
    ·rw [if_pos (by omega), if_pos (by omega), if_pos (by omega), if_pos (by omega), rd_nat, rd_nat, less_eq, Option.bind_some]
     by_cases h2 : lt (xs.getD (2 * i + 2) z85) (xs.getD (b1 lt z85 xs i) z85) = true
     ·rw [if_pos h2, if_pos ⟨h1, h2⟩]
     ·rw [if_neg h2, if_neg (fun h => h2 h.2)]
    ·rw [if_neg (by omega), if_neg (fun h => h1 h.1)]
   ·unfold down
    by_cases hbe : bst lt z85 xs i = i
    ·rw [if_pos hbe, hbe]
     exact Ev.step (f := fun _ => some xs) (fun k => by simp only [alarm_sink.j2]; exact if_pos trivial) (Ev.now _)
    ·rw [if_neg hbe]
     obtain ⟨hbl, _, hib, _, _⟩ := bst_child lt_ord rfl hbe
     refine Ev.step (f := fun k => alarm_sink.l0 k (sw z85 xs i (bst lt z85 xs i)) ((bst lt z85 xs i : Nat) : Int)) (fun k => ?_) ?_
     ·simp only [alarm_sink.j2]
      rw [if_neg (by omega), if_pos (by omega), if_pos (by omega), if_pos (by omega), if_pos (by omega), rd_nat, rd_nat]
      rfl
     ·exact ih _ _ (by rw [sw_length]; omega) (.inl (by rw [sw_length]; exact hbl)) (by rw [sw_length]; exact hb)

theorem pop_ev (xs : List S85) (h0 : 0 < xs.length) (h : xs.length < 8796093022208) : Ev (fun k => alarm_Pop.f k xs) (pop lt z85 xs, (xs.getD 0 z85).f0, (xs.getD 0 z85).f1, true) := by
 have ew : wrap64 ((xs.length : Int) - 1) = ((xs.length - 1 : Nat) : Int) := by unfold wrap64; omega
 have e : ∀ k, alarm_Pop.f k xs = (alarm_sink.f k ((xs.set 0 (xs.getD (xs.length - 1) z85)).take (xs.length - 1))).bind fun t => some (t, (xs.getD 0 z85).f0, (xs.getD 0 z85).f1, true) := fun k => by
  unfold alarm_Pop.f
  rw [if_neg (by omega), if_pos (by omega), clone_eq xs h, Option.bind_some, ew, if_pos (by omega), if_pos (by omega), if_pos (by omega), if_pos (by omega), rd_nat, rd_zero]
  simp only [Int.toNat_natCast, Int.toNat_zero]
 refine Ev.congr e (Ev.bind (a := pop lt z85 xs) ?_ (Ev.now _))
 unfold pop alarm_sink.f
 have := sink_l0 xs.length ((xs.set 0 (xs.getD (xs.length - 1) z85)).take (xs.length - 1)) 0 (by simp) (.inr rfl) (by simp; omega)
 simpa using this
theorem rless_eq (a b : S85) : stanchionref15_Less.f a.f0 a.f1 b.f0 b.f1 = some (lt a b) := by
 unfold stanchionref15_Less.f lt
 by_cases h2 : a.f0 = b.f0
 ·rw [if_pos h2]; simp [h2]
 ·rw [if_neg h2]; simp [h2]

def Ev2 (g : Nat → Option Bool) (p : Prop) : Prop := ∃ b, Ev g b ∧ (b = true ↔ p)
theorem Ev2.step {g f : Nat → Option Bool} {p : Prop} (h : ∀ k, g (k + 1) = f k) (e : Ev2 f p) : Ev2 g p := by
 obtain ⟨b, h1, h2⟩ := e
 exact ⟨b, Ev.step h h1, h2⟩
theorem Ev2.congr {g f : Nat → Option Bool} {p : Prop} (h : ∀ k, g k = f k) (e : Ev2 f p) : Ev2 g p := by
 obtain ⟨b, h1, h2⟩ := e
 exact ⟨b, Ev.congr h h1, h2⟩
theorem Ev2.no {p : Prop} (h : ¬ p) : Ev2 (fun _ => some false) p := ⟨false, Ev.now _, by simp [h]⟩
theorem Ev2.true {g : Nat → Option Bool} {p : Prop} (e : Ev2 g p) (h : p) : Ev g true := by
 obtain ⟨b, h1, h2⟩ := e
 have := h2.2 h
 subst this
 exact h1
def due : Nat → List S85 → Int → List S85
  | 0, xs, _ => xs
  | n + 1, xs, t => if 0 < xs.length ∧ (xs.getD 0 z85).f0 ≤ t then due n (pop lt z85 xs) t else xs
def dueIds : Nat → List S85 → Int → List Int
  | 0, _, _ => []
  | n + 1, xs, t => if 0 < xs.length ∧ (xs.getD 0 z85).f0 ≤ t then (xs.getD 0 z85).f1 :: dueIds n (pop lt z85 xs) t else []
theorem due_l0 : ∀ (n : Nat) (xs : List S85) (t : Int) (out : List Int), xs.length ≤ n → xs.length + out.length < 8796093022208 → Ev (fun k => alarm_Due.l0 k xs t out) (due n xs t, out ++ dueIds n xs t)
 | 0, xs, t, out, hn, hb => by
  have h0 : xs = [] := List.eq_nil_of_length_eq_zero (by omega)
  subst h0
  refine Ev.step (f := fun _ => some ([], out)) (fun k => by simp only [alarm_Due.l0]; rw [if_neg (by simp)]) ?_
  simp only [due, dueIds, List.append_nil]
  exact Ev.now _
 | n + 1, xs, t, out, hn, hb => by
  unfold due dueIds
  by_cases h0 : 0 < xs.length
  ·by_cases hc : (xs.getD 0 z85).f0 ≤ t
   ·rw [if_pos ⟨h0, hc⟩, if_pos ⟨h0, hc⟩]
    refine Ev.step (f := fun k => (alarm_Pop.f k xs).bind fun bt => alarm_Due.l0 k bt.1 t (out ++ [bt.2.2.1])) (fun k => ?_) (Ev.bind (pop_ev xs h0 (by omega)) ?_)
    ·simp only [alarm_Due.l0]
     rw [if_pos (by omega), if_pos (by omega), rd_zero, if_pos hc]
     simp only [if_pos (show out.length < 17592186044416 by omega)]
    ·have := due_l0 n (pop lt z85 xs) t (out ++ [(xs.getD 0 z85).f1]) (by rw [pop_length]; omega) (by rw [pop_length]; simp; omega)
     simpa using this
   ·rw [if_neg (fun h => hc h.2), if_neg (fun h => hc h.2)]
    refine Ev.step (f := fun _ => some (xs, out)) (fun k => ?_) (by simpa using Ev.now _)
    simp only [alarm_Due.l0]
    rw [if_pos (by omega), if_pos (by omega), rd_zero, if_neg hc]
  ·rw [if_neg (fun h => h0 h.1), if_neg (fun h => h0 h.1)]
   refine Ev.step (f := fun _ => some (xs, out)) (fun k => ?_) (by simpa using Ev.now _)
   simp only [alarm_Due.l0]
   rw [if_neg (by omega)]
theorem due_ev (xs : List S85) (t : Int) (h : xs.length < 8796093022208) : Ev (fun k => alarm_Due.f k xs t) (due xs.length xs t, dueIds xs.length xs t) := by
 have := due_l0 xs.length xs t [] (Nat.le_refl _) (by simpa using h)
 simpa [alarm_Due.f] using this
theorem due_length : ∀ (n : Nat) (xs : List S85) (t : Int), (due n xs t).length + (dueIds n xs t).length = xs.length
 | 0, _, _ => rfl
 | n + 1, xs, t => by
  unfold due dueIds
  split
  ·rename_i h
   have := due_length n (pop lt z85 xs) t
   rw [pop_length] at this
   simp only [List.length_cons]
   omega
  ·simp
/- Drop -/
def drops : List S85 → Int → List S85 → List S85
  | [], _, acc => acc
  | x :: r, id, acc => if x.f1 = id then drops r id acc else drops r id (put lt z85 acc x)
theorem drop_at (xs : List S85) (i : Nat) (h : i < xs.length) : xs.drop i = xs.getD i z85 :: xs.drop (i + 1) := by
 rw [List.drop_eq_getElem_cons h, List.getD_eq_getElem?_getD, List.getElem?_eq_getElem h]
 rfl
theorem drop_l0 (id : Int) (xs : List S85) (hb : xs.length < 8796093022207) : ∀ (d i : Nat) (acc : List S85), xs.length - i = d → i ≤ xs.length → acc.length ≤ i →
  Ev (fun k => alarm_Drop.l0 k id acc xs (xs.length : Int) (i : Int)) (drops (xs.drop i) id acc) := by
 intro d
 induction d with
 | zero =>
  intro i acc hd hi ha
  rw [List.drop_of_length_le (by omega)]
  refine Ev.step (f := fun _ => some acc) (fun k => ?_) (Ev.now _)
  simp only [alarm_Drop.l0]
  rw [if_neg (by omega)]
 | succ d ih =>
  intro i acc hd hi ha
  have w1 : wrap64 ((i : Int) + 1) = ((i + 1 : Nat) : Int) := by unfold wrap64; omega
  rw [drop_at xs i (by omega)]
  unfold drops
  by_cases hc : (xs.getD i z85).f1 = id
  ·rw [if_pos hc]
   refine Ev.step (fun k => ?_) (ih (i + 1) acc (by omega) (by omega) (by omega))
   simp only [alarm_Drop.l0]
   rw [if_pos (by omega), if_pos (by omega), if_pos (by omega), rd_nat, if_pos hc, w1]
  ·rw [if_neg hc]
   refine Ev.step (f := fun k => (alarm_Put.f k acc (xs.getD i z85).f0 (xs.getD i z85).f1).bind fun t => alarm_Drop.l0 k id t xs (xs.length : Int) ((i + 1 : Nat) : Int)) (fun k => ?_) (Ev.bind (put_ev acc _ (by omega)) (ih (i + 1) _ (by omega) (by omega) (by rw [put_length]; omega)))
   simp only [alarm_Drop.l0]
   rw [if_pos (by omega), if_pos (by omega), if_pos (by omega), rd_nat, if_neg hc, w1]
theorem drop_ev (xs : List S85) (id : Int) (h : xs.length < 8796093022207) : Ev (fun k => alarm_Drop.f k xs id) (drops xs id []) := drop_l0 id xs h xs.length 0 [] (by omega) (by omega) (by simp)
theorem rswap_eq (xs : List S85) (i j : Nat) (hi : i < xs.length) (hj : j < xs.length) (h : xs.length < 8796093022208) : stanchionref15_swap.f xs (i : Int) (j : Int) = some (sw z85 xs i j) := by
 unfold stanchionref15_swap.f
 simp only [Option.bind_some, List.length_nil, Nat.zero_add, List.nil_append]
 rw [if_pos (by omega), if_pos (by omega), if_pos (by omega), if_pos (by omega), if_pos (by omega), if_pos (by omega), if_pos (by omega), rd_nat, rd_nat]
 rfl
theorem rput_l0 : ∀ (n : Nat) (xs : List S85) (i : Nat), i ≤ n → i < xs.length → xs.length < 8796093022208 → Ev (fun k => stanchionref15_Put.l0 k xs (i : Int)) (up lt z85 n xs i)
 | 0, xs, i, hi, hl, hb => by
  obtain rfl : i = 0 := by omega
  exact Ev.step (f := fun _ => some xs) (fun k => by simp only [stanchionref15_Put.l0]; rw [if_neg (by simp)]) (Ev.now _)
 | n + 1, xs, i, hi, hl, hb => by
  rcases Nat.eq_zero_or_pos i with rfl | h0
  ·have e : up lt z85 (n + 1) xs 0 = xs := by unfold up; rw [if_neg (by simp)]
   rw [e]
   exact Ev.step (f := fun _ => some xs) (fun k => by simp only [stanchionref15_Put.l0]; rw [if_neg (by simp)]) (Ev.now _)
  ·refine Ev.step (f := fun k => if lt (xs.getD i z85) (xs.getD ((i - 1) / 2) z85) = true then stanchionref15_Put.l0 k (sw z85 xs i ((i - 1) / 2)) (((i - 1) / 2 : Nat) : Int) else some xs) (fun k => ?_) ?_
   ·simp only [stanchionref15_Put.l0]
    rw [if_pos (by omega), if_pos (by omega), if_pos (by omega), par_eq i h0 (by omega), if_pos (by omega), if_pos (by omega), rd_nat, rd_nat, rless_eq, Option.bind_some, rswap_eq xs i ((i - 1) / 2) hl (by omega) hb, Option.bind_some]
   ·unfold up
    by_cases hc : lt (xs.getD i z85) (xs.getD ((i - 1) / 2) z85) = true
    ·rw [if_pos ⟨h0, hc⟩]
     simp only [if_pos hc]
     exact rput_l0 n _ _ (by omega) (by rw [sw_length]; omega) (by rw [sw_length]; exact hb)
    ·rw [if_neg (fun h => hc h.2)]
     simp only [if_neg hc]
     exact Ev.now _
theorem rput_ev (xs : List S85) (a : S85) (h : xs.length < 8796093022207) : Ev (fun k => stanchionref15_Put.f k xs a.f0 a.f1) (put lt z85 xs a) := by
 have e : ∀ k, stanchionref15_Put.f k xs a.f0 a.f1 = stanchionref15_Put.l0 k (xs ++ [a]) ((xs.length : Nat) : Int) := fun k => by
  unfold stanchionref15_Put.f
  simp only [Option.bind_some, List.length_nil, Nat.zero_add, List.nil_append]
  rw [if_pos (by omega), if_pos (by omega)]
  congr 1
  rw [List.length_append]
  simp only [List.length_cons, List.length_nil]
  unfold wrap64
  omega
 exact Ev.congr e (rput_l0 _ _ _ (Nat.le_refl _) (by simp) (by simp; omega))
theorem rpop_l0 (p q : Int) : ∀ (n : Nat) (xs : List S85) (i : Nat), xs.length ≤ n + i → i < xs.length → xs.length < 8796093022208 → Ev (fun k => stanchionref15_Pop.l0 k xs (i : Int) p q) (down lt z85 n xs i, p, q, true) := by
 intro n
 induction n with
 | zero => intro xs i hi hl hb; omega
 | succ n ih =>
  intro xs i hi hl hb
  have hi2 : i < 2305843009213693952 := by omega
  have hb1 : b1 lt z85 xs i < xs.length := by
   unfold b1
   split
   ·rename_i h; exact h.1
   ·exact hl
  refine Ev.step (f := fun k => stanchionref15_Pop.j1 k xs (i : Int) (i : Int) (decide (2 * i + 1 < xs.length) && lt (xs.getD (2 * i + 1) z85) (xs.getD i z85)) p q) (fun k => ?_) ?_
  ·simp only [stanchionref15_Pop.l0]
   rw [kid1 i hi2]
   by_cases h1 : 2 * i + 1 < xs.length
   ·rw [if_pos (by omega), if_pos (by omega), if_pos (by omega), if_pos (by omega), rd_nat, rd_nat, rless_eq, Option.bind_some, decide_eq_true h1, Bool.true_and]
   ·rw [if_neg (by omega), decide_eq_false h1, Bool.false_and]
  ·refine Ev.step (f := fun k => stanchionref15_Pop.j2 k xs (i : Int) ((b1 lt z85 xs i : Nat) : Int) p q) (fun k => ?_) ?_
   ·simp only [stanchionref15_Pop.j1]
    rw [kid1 i hi2]
    unfold b1
    by_cases h1 : 2 * i + 1 < xs.length
    ·rw [decide_eq_true h1, Bool.true_and]
     by_cases h2 : lt (xs.getD (2 * i + 1) z85) (xs.getD i z85) = true
     ·rw [if_pos h2, if_pos ⟨h1, h2⟩]
     ·rw [if_neg h2, if_neg (fun h => h2 h.2)]
    ·rw [decide_eq_false h1, Bool.false_and, if_neg (by decide), if_neg (fun h => h1 h.1)]
   ·refine Ev.step (f := fun k => stanchionref15_Pop.j3 k xs (i : Int) ((b1 lt z85 xs i : Nat) : Int) (decide (2 * i + 2 < xs.length) && lt (xs.getD (2 * i + 2) z85) (xs.getD (b1 lt z85 xs i) z85)) p q) (fun k => ?_) ?_
    ·simp only [stanchionref15_Pop.j2]
     rw [kid2 i hi2]
     by_cases h1 : 2 * i + 2 < xs.length
     ·rw [if_pos (by omega), if_pos (by omega), if_pos (by omega), if_pos (by omega), rd_nat, rd_nat, rless_eq, Option.bind_some, decide_eq_true h1, Bool.true_and]
     ·rw [if_neg (by omega), decide_eq_false h1, Bool.false_and]
    ·have bl : bst lt z85 xs i < xs.length := bst_lt hl
     refine Ev.step (f := fun k => if bst lt z85 xs i = i then some (xs, p, q, true) else stanchionref15_Pop.l0 k (sw z85 xs i (bst lt z85 xs i)) ((bst lt z85 xs i : Nat) : Int) p q) (fun k => ?_) ?_
     ·simp only [stanchionref15_Pop.j3]
      rw [kid2 i hi2]
      by_cases h1 : 2 * i + 2 < xs.length ∧ lt (xs.getD (2 * i + 2) z85) (xs.getD (b1 lt z85 xs i) z85) = true
      ·have e : bst lt z85 xs i = 2 * i + 2 := by unfold bst; rw [if_pos h1]
       rw [e, decide_eq_true h1.1, h1.2, Bool.true_and, if_pos rfl, if_neg (by omega), if_neg (by omega), rswap_eq xs i (2 * i + 2) hl h1.1 hb, Option.bind_some]
      ·have e : bst lt z85 xs i = b1 lt z85 xs i := by unfold bst; rw [if_neg h1]
       have e2 : (decide (2 * i + 2 < xs.length) && lt (xs.getD (2 * i + 2) z85) (xs.getD (b1 lt z85 xs i) z85)) = false := by
        cases hq : (decide (2 * i + 2 < xs.length) && lt (xs.getD (2 * i + 2) z85) (xs.getD (b1 lt z85 xs i) z85)) with
        | false => rfl
        | true =>
         rw [Bool.and_eq_true, decide_eq_true_eq] at hq
         exact absurd hq h1
       rw [e, e2, if_neg (by decide)]
       by_cases h2 : b1 lt z85 xs i = i
       ·rw [if_pos h2, if_pos (by omega)]
       ·rw [if_neg h2, if_neg (by omega), rswap_eq xs i _ hl hb1 hb, Option.bind_some]
     ·unfold down
      by_cases hbe : bst lt z85 xs i = i
      ·simp only [if_pos hbe]
       exact Ev.now _
      ·simp only [if_neg hbe]
       obtain ⟨hbl, _, hib, _, _⟩ := bst_child lt_ord rfl hbe
       exact ih _ _ (by rw [sw_length]; omega) (by rw [sw_length]; exact hbl) (by rw [sw_length]; exact hb)
theorem rpop_ev (xs : List S85) (h0 : 0 < xs.length) (h : xs.length < 8796093022208) : Ev (fun k => stanchionref15_Pop.f k xs) (pop lt z85 xs, (xs.getD 0 z85).f0, (xs.getD 0 z85).f1, true) := by
 have ew : wrap64 ((xs.length : Int) - 1) = ((xs.length - 1 : Nat) : Int) := by unfold wrap64; omega
 have hl : (xs.take (xs.length - 1)).length = xs.length - 1 := by simp
 unfold pop
 by_cases h1 : xs.length = 1
 ·refine Ev.congr (f := fun k => some (xs.take 0, (xs.getD 0 z85).f0, (xs.getD 0 z85).f1, true)) (fun k => ?_) ?_
  ·unfold stanchionref15_Pop.f
   simp only [Option.bind_some, List.length_nil, Nat.zero_add, List.nil_append]
   rw [if_neg (by omega), if_pos (by omega), ew, if_pos (by omega), if_pos (by omega), Int.toNat_natCast, hl, if_pos (by omega), if_pos (by omega), rd_zero, h1]
  ·rw [h1]
   have e : (xs.set 0 (xs.getD (1 - 1) z85)).take (1 - 1) = [] := by simp
   rw [e, List.take_zero]
   exact Ev.now _
 ·refine Ev.congr (f := fun k => stanchionref15_Pop.l0 k ((xs.set 0 (xs.getD (xs.length - 1) z85)).take (xs.length - 1)) ((0 : Nat) : Int) (xs.getD 0 z85).f0 (xs.getD 0 z85).f1) (fun k => ?_) ?_
  ·unfold stanchionref15_Pop.f
   simp only [Option.bind_some, List.length_nil, Nat.zero_add, List.nil_append]
   rw [if_neg (by omega), if_pos (by omega), ew, if_pos (by omega), if_pos (by omega), Int.toNat_natCast, hl, if_pos (by omega), if_neg (by omega), if_pos (by omega), if_pos (by omega), rd_zero, rd_nat]
   congr 1
   rw [List.take_set]
   rfl
  ·exact rpop_l0 _ _ xs.length _ 0 (by simp) (by simp; omega) (by simp; omega)
theorem rdue_l0 : ∀ (n : Nat) (xs : List S85) (t : Int) (out : List Int), xs.length ≤ n → xs.length + out.length < 8796093022208 → Ev (fun k => stanchionref15_Due.l0 k xs t out) (due n xs t, out ++ dueIds n xs t)
 | 0, xs, t, out, hn, hb => by
  have h0 : xs = [] := List.eq_nil_of_length_eq_zero (by omega)
  subst h0
  refine Ev.step (f := fun _ => some ([], out)) (fun k => by simp only [stanchionref15_Due.l0]; rw [if_neg (by simp)]) ?_
  simp only [due, dueIds, List.append_nil]
  exact Ev.now _
 | n + 1, xs, t, out, hn, hb => by
  unfold due dueIds
  by_cases h0 : 0 < xs.length
  ·by_cases hc : (xs.getD 0 z85).f0 ≤ t
   ·rw [if_pos ⟨h0, hc⟩, if_pos ⟨h0, hc⟩]
    refine Ev.step (f := fun k => (stanchionref15_Pop.f k xs).bind fun bt => stanchionref15_Due.l0 k bt.1 t (out ++ [bt.2.2.1])) (fun k => ?_) (Ev.bind (rpop_ev xs h0 (by omega)) ?_)
    ·simp only [stanchionref15_Due.l0]
     rw [if_pos (by omega), if_pos (by omega), rd_zero, if_pos hc]
     simp only [if_pos (show out.length < 17592186044416 by omega)]
    ·have := rdue_l0 n (pop lt z85 xs) t (out ++ [(xs.getD 0 z85).f1]) (by rw [pop_length]; omega) (by rw [pop_length]; simp; omega)
     simpa using this
   ·rw [if_neg (fun h => hc h.2), if_neg (fun h => hc h.2)]
    refine Ev.step (f := fun _ => some (xs, out)) (fun k => ?_) (by simpa using Ev.now _)
    simp only [stanchionref15_Due.l0]
    rw [if_pos (by omega), if_pos (by omega), rd_zero, if_neg hc]
  ·rw [if_neg (fun h => h0 h.1), if_neg (fun h => h0 h.1)]
   refine Ev.step (f := fun _ => some (xs, out)) (fun k => ?_) (by simpa using Ev.now _)
   simp only [stanchionref15_Due.l0]
   rw [if_neg (by omega)]
theorem rdue_ev (xs : List S85) (t : Int) (h : xs.length < 8796093022208) : Ev (fun k => stanchionref15_Due.f k xs t) (due xs.length xs t, dueIds xs.length xs t) := by
 have := rdue_l0 xs.length xs t [] (Nat.le_refl _) (by simpa using h)
 simpa [stanchionref15_Due.f] using this
theorem rdrop_l0 (id : Int) (xs : List S85) (hb : xs.length < 8796093022207) : ∀ (d i : Nat) (acc : List S85), xs.length - i = d → i ≤ xs.length → acc.length ≤ i →
  Ev (fun k => stanchionref15_Drop.l0 k xs id acc (i : Int)) (drops (xs.drop i) id acc) := by
 intro d
 induction d with
 | zero =>
  intro i acc hd hi ha
  rw [List.drop_of_length_le (by omega)]
  refine Ev.step (f := fun _ => some acc) (fun k => ?_) (Ev.now _)
  simp only [stanchionref15_Drop.l0]
  rw [if_neg (by omega)]
 | succ d ih =>
  intro i acc hd hi ha
  have w1 : wrap64 ((i : Int) + 1) = ((i + 1 : Nat) : Int) := by unfold wrap64; omega
  rw [drop_at xs i (by omega)]
  unfold drops
  by_cases hc : (xs.getD i z85).f1 = id
  ·rw [if_pos hc]
   refine Ev.step (fun k => ?_) (ih (i + 1) acc (by omega) (by omega) (by omega))
   simp only [stanchionref15_Drop.l0]
   rw [if_pos (by omega), if_pos (by omega), rd_nat, if_pos hc, w1]
  ·rw [if_neg hc]
   refine Ev.step (f := fun k => (stanchionref15_Put.f k acc (xs.getD i z85).f0 (xs.getD i z85).f1).bind fun t => stanchionref15_Drop.l0 k xs id t ((i + 1 : Nat) : Int)) (fun k => ?_) (Ev.bind (rput_ev acc _ (by omega)) (ih (i + 1) _ (by omega) (by omega) (by rw [put_length]; omega)))
   simp only [stanchionref15_Drop.l0]
   rw [if_pos (by omega), if_pos (by omega), rd_nat, if_neg hc, w1]
theorem rdrop_ev (xs : List S85) (id : Int) (h : xs.length < 8796093022207) : Ev (fun k => stanchionref15_Drop.f k xs id) (drops xs id []) := rdrop_l0 id xs h xs.length 0 [] (by omega) (by omega) (by simp)
end Go.Proofs.Ytnpmjboofmdflaa.PA
