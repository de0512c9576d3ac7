/- What batch.Pairs, batch.Back and the document's come to. -/
import Derived.Test.YthcdlgphabaidaaPOx2
import Derived.Test.YthcdlgphabaidaaPOTr
namespace Go.Proofs.Ythcdlgphabaidaa.PO
open Go.RowKit Go.Proofs.YthcdlgphabaidaaW.PrintWords
set_option linter.unusedVariables false
set_option linter.unusedSimpArgs false

theorem shown_ev : Ev (fun k => stanchionlaw07_shown.f k) true := Ev.of (k := 100) (fun k => stanchionlaw07_shown.mono k) (by decide +kernel)
def tagP (c : UInt8) (p : S68) : S68 := ⟨(⟨#[c]⟩ : ByteArray) ++ p.f0, p.f1⟩
theorem pairs_l1 : ∀ (n : Nat) (l : List S68) (i : Nat) (out : List S68), l.length - i ≤ n → i ≤ l.length → out.length + (l.length - i) < 4398046511104 → l.length < 4611686018427387904 → (∀ x ∈ l, x.f0.size < 4611686018427387904) →
    Ev (fun k => batch_Pairs.l1 k out l (l.length : Int) (i : Int)) (out ++ (l.drop i).map (tagP 116)) := by
  intro n
  induction n with
  | zero =>
    intro l i out hn hi ho hl hb
    refine Ev.step (f := fun k => some out) (fun k => by simp only [batch_Pairs.l1]; rw [if_neg (by omega)]) ?_
    rw [List.drop_of_length_le (by omega), List.map_nil, List.append_nil]
    exact Ev.now _
  | succ n ih =>
    intro l i out hn hi ho hl hb
    rcases Nat.lt_or_ge i l.length with h | h
    · have hs := hb _ (List.getElem_mem h)
      refine Ev.step (f := fun k => batch_Pairs.l1 k (out ++ [tagP 116 l[i]]) l (l.length : Int) ((i + 1 : Nat) : Int)) (fun k => ?_) ?_
      · simp only [batch_Pairs.l1]
        rw [if_pos (by omega), if_pos (by omega), if_pos (by omega), rd_get _ _ h, if_pos (by omega), if_pos (by omega), wrap_succ i (by omega)]
        rfl
      · have := ih l (i + 1) (out ++ [tagP 116 l[i]]) (by omega) h (by simp; omega) hl hb
        rw [List.drop_eq_getElem_cons h, List.map_cons]
        rw [List.append_assoc] at this
        exact this
    · refine Ev.step (f := fun k => some out) (fun k => by simp only [batch_Pairs.l1]; rw [if_neg (by omega)]) ?_
      rw [List.drop_of_length_le (by omega), List.map_nil, List.append_nil]
      exact Ev.now _
theorem pairs_l0 (t : List S68) (ht : t.length < 4611686018427387904) (htb : ∀ x ∈ t, x.f0.size < 4611686018427387904) : ∀ (n : Nat) (l : List S68) (i : Nat) (out d : List S68), l.length - i ≤ n → i ≤ l.length → out.length + (l.length - i) + t.length < 4398046511104 → l.length < 4611686018427387904 → (∀ x ∈ l, x.f0.size < 4611686018427387904) →
    Ev (fun k => batch_Pairs.l0 k out l (l.length : Int) (i : Int) d t) (out ++ (l.drop i).map (tagP 100) ++ t.map (tagP 116)) := by
  intro n
  have done : ∀ (l out d : List S68) (i : Nat), l.length ≤ i → out.length + t.length < 4398046511104 → Ev (fun k => batch_Pairs.l0 k out l (l.length : Int) (i : Int) d t) (out ++ (l.drop i).map (tagP 100) ++ t.map (tagP 116)) := fun l out d i h ho => by
    refine Ev.step (f := fun k => batch_Pairs.l1 k out t (t.length : Int) ((0 : Nat) : Int)) (fun k => by simp only [batch_Pairs.l0]; rw [if_neg (by omega)]; rfl) ?_
    rw [List.drop_of_length_le h, List.map_nil, List.append_nil]
    have := pairs_l1 t.length t 0 out (by omega) (by omega) (by omega) ht htb
    rwa [List.drop_zero] at this
  induction n with
  | zero => intro l i out d hn hi ho hl hb; exact done l out d i (by omega) (by omega)
  | succ n ih =>
    intro l i out d hn hi ho hl hb
    rcases Nat.lt_or_ge i l.length with h | h
    · have hs := hb _ (List.getElem_mem h)
      refine Ev.step (f := fun k => batch_Pairs.l0 k (out ++ [tagP 100 l[i]]) l (l.length : Int) ((i + 1 : Nat) : Int) d t) (fun k => ?_) ?_
      · simp only [batch_Pairs.l0]
        rw [if_pos (by omega), if_pos (by omega), if_pos (by omega), rd_get _ _ h, if_pos (by omega), if_pos (by omega), wrap_succ i (by omega)]
        rfl
      · have := ih l (i + 1) (out ++ [tagP 100 l[i]]) d (by omega) h (by simp; omega) hl hb
        rw [List.drop_eq_getElem_cons h, List.map_cons]
        rw [List.append_assoc out] at this
        exact this
    · exact done l out d i h (by omega)
def pairsL (d t : List S68) : List S68 := d.map (tagP 100) ++ t.map (tagP 116)
theorem pairs_ev (d t : List S68) (h : d.length + t.length < 4398046511104) (hd : ∀ x ∈ d, x.f0.size < 4611686018427387904) (ht : ∀ x ∈ t, x.f0.size < 4611686018427387904) : Ev (fun k => batch_Pairs.f k d t) (pairsL d t) := by
  have := pairs_l0 t (by omega) ht d.length d 0 [] d (by omega) (by omega) (by simp; omega) (by omega) hd
  rw [List.drop_zero, List.nil_append] at this
  exact this
theorem head_take (a : ByteArray) (c : UInt8) (h : 1 ≤ a.size) : ((a.extract 0 1).toList == [c]) = decide (a.toList.head? = some c) := by
  have e : (a.extract 0 1).toList = a.toList.take 1 := by
    rw [str_data, str_data, ByteArray.data_extract, Array.toList_extract]
    simp [List.extract]
  rw [e]
  cases hl : a.toList with
  | nil => rw [← str_len, hl] at h; simp at h
  | cons x r => by_cases hh : x = c <;> simp [hh]
theorem cut_one (a : ByteArray) (c : UInt8) : strings_CutPrefix.f a (⟨#[c]⟩ : ByteArray) = some (if a.toList.head? = some c then (a.extract 1 a.size, true) else (a, false)) := by
  have hs : (⟨#[c]⟩ : ByteArray).size = 1 := rfl
  have hl : (⟨#[c]⟩ : ByteArray).toList = [c] := by rw [str_data]
  unfold strings_CutPrefix.f stringslite_CutPrefix.f stringslite_HasPrefix.f
  rw [hs, hl]
  by_cases h : 1 ≤ a.size
  · rw [if_pos (by omega), if_pos (by omega), if_pos (by omega), Option.bind_some, show (((1 : Nat) : Int)).toNat = 1 from rfl, head_take a c h]
    by_cases hc : a.toList.head? = some c
    · rw [decide_eq_true hc, if_pos rfl, if_pos (by omega), if_pos (by omega), if_pos hc]; rfl
    · rw [decide_eq_false hc, if_neg (by decide), if_neg hc]; rfl
  · have e : a.toList = [] := List.eq_nil_of_length_eq_zero (by rw [str_len]; omega)
    rw [if_neg (by omega), Option.bind_some, if_neg (by decide), if_neg (by rw [e]; simp)]
    rfl
def cutP (p : S68) : S68 := ⟨p.f0.extract 1 p.f0.size, p.f1⟩
def backL : List S68 → List S68 → List S68 → List S68 × List S68 × Int
  | [], d, t => (d, t, 0)
  | p :: r, d, t => if p.f0.toList.head? = some 100 ∧ t.length = 0 then backL r (d ++ [cutP p]) t else
      if p.f0.toList.head? = some 116 ∧ (p.f1.toList = [99] ∨ p.f1.toList = [103]) then backL r d (t ++ [cutP p]) else ([], [], 3)
theorem backL_d {p : S68} {r d t : List S68} (h : p.f0.toList.head? = some 100 ∧ t.length = 0) : backL (p :: r) d t = backL r (d ++ [cutP p]) t := if_pos h
theorem backL_t {p : S68} {r d t : List S68} (h : ¬ (p.f0.toList.head? = some 100 ∧ t.length = 0)) (h2 : p.f0.toList.head? = some 116 ∧ (p.f1.toList = [99] ∨ p.f1.toList = [103])) : backL (p :: r) d t = backL r d (t ++ [cutP p]) := (if_neg h).trans (if_pos h2)
theorem backL_n {p : S68} {r d t : List S68} (h : ¬ (p.f0.toList.head? = some 100 ∧ t.length = 0)) (h2 : ¬ (p.f0.toList.head? = some 116 ∧ (p.f1.toList = [99] ∨ p.f1.toList = [103]))) : backL (p :: r) d t = ([], [], 3) := (if_neg h).trans (if_neg h2)
theorem back_l0 : ∀ (n : Nat) (l : List S68) (i : Nat) (d t : List S68), l.length - i ≤ n → i ≤ l.length → d.length + t.length + (l.length - i) < 4398046511104 → l.length < 4611686018427387904 →
    Ev (fun k => batch_Back.l0 k l (l.length : Int) (i : Int) d t) (backL (l.drop i) d t) := by
  intro n
  have done : ∀ (l d t : List S68) (i : Nat), l.length ≤ i → Ev (fun k => batch_Back.l0 k l (l.length : Int) (i : Int) d t) (backL (l.drop i) d t) := fun l d t i h => by
    rw [List.drop_of_length_le h]
    exact Ev.step (f := fun k => some (d, t, 0)) (fun k => by simp only [batch_Back.l0]; rw [if_neg (by omega)]) (Ev.now _)
  induction n with
  | zero => intro l i d t hn hi ho hl; exact done l d t i (by omega)
  | succ n ih =>
    intro l i d t hn hi ho hl
    rcases Nat.lt_or_ge i l.length with h | h
    · rw [List.drop_eq_getElem_cons h]
      obtain ⟨p, hp⟩ : ∃ p, p = l[i] := ⟨_, rfl⟩
      rw [← hp]
      by_cases h1 : p.f0.toList.head? = some 100 ∧ t.length = 0
      · refine Ev.step (f := fun k => batch_Back.j1 k (p.f0.extract 1 p.f0.size) l (l.length : Int) (i : Int) true d t p.f0 p.f1) (fun k => ?_) (Ev.step (f := fun k => batch_Back.l0 k l (l.length : Int) ((i + 1 : Nat) : Int) (d ++ [cutP p]) t) (fun k => ?_) ?_)
        · simp only [batch_Back.l0]
          rw [if_pos (by omega), if_pos (by omega), if_pos (by omega), rd_get _ _ h, ← hp, cut_one, if_pos h1.1, Option.bind_some, if_pos rfl, h1.2]
          rfl
        · simp only [batch_Back.j1]
          rw [if_pos trivial, if_pos (by omega), wrap_succ i (by omega)]
          rfl
        · rw [backL_d h1]
          exact ih l (i + 1) (d ++ [cutP p]) t (by omega) h (by simp; omega) hl
      · have hj : Ev (fun k => batch_Back.j1 k (if p.f0.toList.head? = some 100 then p.f0.extract 1 p.f0.size else p.f0) l (l.length : Int) (i : Int) false d t p.f0 p.f1) (backL (p :: l.drop (i + 1)) d t) := by
          by_cases h2 : p.f0.toList.head? = some 116
          · by_cases h3 : p.f1.toList = [99] ∨ p.f1.toList = [103]
            · rw [backL_t h1 ⟨h2, h3⟩]
              refine Ev.step (f := fun k => batch_Back.l0 k l (l.length : Int) ((i + 1 : Nat) : Int) d (t ++ [cutP p])) (fun k => ?_) (ih l (i + 1) d (t ++ [cutP p]) (by omega) h (by simp; omega) hl)
              simp only [batch_Back.j1]
              rw [if_neg (by decide), cut_one, if_pos h2, Option.bind_some, if_pos rfl]
              rcases h3 with h3 | h3
              · rw [if_pos h3, if_pos (by omega), wrap_succ i (by omega)]; rfl
              · rw [if_neg (by rw [h3]; decide), if_pos h3, if_pos (by omega), wrap_succ i (by omega)]; rfl
            · rw [backL_n h1 (fun h => h3 h.2)]
              refine Ev.step (f := fun k => some ([], [], 3)) (fun k => ?_) (Ev.now _)
              simp only [batch_Back.j1]
              rw [if_neg (by decide), cut_one, if_pos h2, Option.bind_some, if_pos rfl, if_neg (fun h => h3 (.inl h)), if_neg (fun h => h3 (.inr h))]
          · rw [backL_n h1 (fun h => h2 h.1)]
            refine Ev.step (f := fun k => some ([], [], 3)) (fun k => ?_) (Ev.now _)
            simp only [batch_Back.j1]
            rw [if_neg (by decide), cut_one, if_neg h2, Option.bind_some, if_neg (by simp)]
        refine Ev.step (fun k => ?_) hj
        simp only [batch_Back.l0]
        rw [if_pos (by omega), if_pos (by omega), if_pos (by omega), rd_get _ _ h, ← hp, cut_one]
        by_cases h2 : p.f0.toList.head? = some 100
        · rw [if_pos h2, Option.bind_some, if_pos rfl, if_pos h2]
          have e : ((t.length : Int) == 0) = false := beq_eq_false_iff_ne.2 (fun e => h1 ⟨h2, by omega⟩)
          rw [e]
        · rw [if_neg h2, Option.bind_some, if_neg (by simp), if_neg h2]
    · exact done l d t i h
theorem back_ev (l : List S68) (h : l.length < 4398046511104) : Ev (fun k => batch_Back.f k l) (backL l [] []) := by
  have := back_l0 l.length l 0 [] [] (by omega) (by omega) (by simp; omega) (by omega)
  rwa [List.drop_zero] at this
end Go.Proofs.Ythcdlgphabaidaa.PO
