/- Which rows are heaps: the reference's word; what Due and Drop of the program come to. -/
import Derived.Test.YtnpmjboofmdflaaMA
namespace Go.Proofs.Ytnpmjboofmdflaa.PB
open Go.RowKit Go.Proofs.YtnpmjboofmdflaaW.PrintWords Go.Proofs.Ytnpmjboofmdflaa.Hp

theorem rless_eq (a b : S85) : stanchionref15_Less.f a.f0 a.f1 b.f0 b.f1 = some (lt a b) := by
  unfold stanchionref15_Less.f lt
  by_cases h2 : a.f0 = b.f0
  · rw [if_pos h2]; simp [h2]
  · rw [if_neg h2]; simp [h2]

def Ev2 (g : Nat → Option Bool) (p : Prop) : Prop := ∃ b, Ev g b ∧ (b = true ↔ p)
theorem Ev2.step {g f : Nat → Option Bool} {p : Prop} (h : ∀ k, g (k + 1) = f k) (e : Ev2 f p) : Ev2 g p := by
  obtain ⟨b, h1, h2⟩ := e
  exact ⟨b, Ev.step h h1, h2⟩
theorem Ev2.congr {g f : Nat → Option Bool} {p : Prop} (h : ∀ k, g k = f k) (e : Ev2 f p) : Ev2 g p := by
  obtain ⟨b, h1, h2⟩ := e
  exact ⟨b, Ev.congr h h1, h2⟩
theorem Ev2.no {p : Prop} (h : ¬ p) : Ev2 (fun _ => some false) p := ⟨false, Ev.now _, by simp [h]⟩
theorem Ev2.true {g : Nat → Option Bool} {p : Prop} (e : Ev2 g p) (h : p) : Ev g true := by
  obtain ⟨b, h1, h2⟩ := e
  have := h2.2 h
  subst this
  exact h1
/- Due: the heap as it is behind all that are due, and their numbers, in order -/
def due : Nat → List S85 → Int → List S85
  | 0, xs, _ => xs
  | n + 1, xs, t => if 0 < xs.length ∧ (xs.getD 0 z85).f0 ≤ t then due n (pop lt z85 xs) t else xs
/- Drop -/
def drops : List S85 → Int → List S85 → List S85
  | [], _, acc => acc
  | x :: r, id, acc => if x.f1 = id then drops r id acc else drops r id (put lt z85 acc x)
theorem drop_at (xs : List S85) (i : Nat) (h : i < xs.length) : xs.drop i = xs.getD i z85 :: xs.drop (i + 1) := by
  rw [List.drop_eq_getElem_cons h, List.getD_eq_getElem?_getD, List.getElem?_eq_getElem h]
  rfl
theorem drop_l0 (id : Int) (xs : List S85) (hb : xs.length < 8796093022207) : ∀ (d i : Nat) (acc : List S85), xs.length - i = d → i ≤ xs.length → acc.length ≤ i →
    Ev (fun k => alarm_Drop.l0 k id acc xs (xs.length : Int) (i : Int)) (drops (xs.drop i) id acc) := by
  intro d
  induction d with
  | zero =>
    intro i acc hd hi ha
    rw [List.drop_of_length_le (by omega)]
    refine Ev.step (f := fun _ => some acc) (fun k => ?_) (Ev.now _)
    simp only [alarm_Drop.l0]
    rw [if_neg (by omega)]
  | succ d ih =>
    intro i acc hd hi ha
    have w1 : wrap64 ((i : Int) + 1) = ((i + 1 : Nat) : Int) := by unfold wrap64; omega
    rw [drop_at xs i (by omega)]
    unfold drops
    by_cases hc : (xs.getD i z85).f1 = id
    · rw [if_pos hc]
      refine Ev.step (fun k => ?_) (ih (i + 1) acc (by omega) (by omega) (by omega))
      simp only [alarm_Drop.l0]
      rw [if_pos (by omega), if_pos (by omega), if_pos (by omega), rd_nat, if_pos hc, w1]
    · rw [if_neg hc]
      refine Ev.step (f := fun k => (alarm_Put.f k acc (xs.getD i z85).f0 (xs.getD i z85).f1).bind fun t => alarm_Drop.l0 k id t xs (xs.length : Int) ((i + 1 : Nat) : Int)) (fun k => ?_) (Ev.bind (put_ev acc _ (by omega)) (ih (i + 1) _ (by omega) (by omega) (by rw [put_length]; omega)))
      simp only [alarm_Drop.l0]
      rw [if_pos (by omega), if_pos (by omega), if_pos (by omega), rd_nat, if_neg hc, w1]
theorem drop_ev (xs : List S85) (id : Int) (h : xs.length < 8796093022207) : Ev (fun k => alarm_Drop.f k xs id) (drops xs id []) := drop_l0 id xs h xs.length 0 [] (by omega) (by omega) (by simp)
end Go.Proofs.Ytnpmjboofmdflaa.PB
