/- What the audit's functions of the program come to in plain words: a step, a transaction, transactions one after the other. -/
import Derived.Test.YtlacmlceedkfoaaPETv
namespace Go.Proofs.Ytlacmlceedkfoaa.PE
open Go.RowKit Go.Proofs.YtlacmlceedkfoaaW.PrintWords
set_option linter.unusedVariables false
set_option linter.unusedSimpArgs false

/-! #### the same rows -/
def sameB : List S59 → List S59 → Bool
  | [], [] => true
  | x :: a, y :: b => (x.f0.toList == y.f0.toList && x.f1.toList == y.f1.toList) && sameB a b
  | [], _ :: _ => false
  | _ :: _, [] => false
theorem sameB_len : ∀ a b : List S59, sameB a b = true → a.length = b.length
  | [], [], _ => rfl
  | x :: a, y :: b, h => by
    simp only [sameB, Bool.and_eq_true] at h
    simp [sameB_len a b h.2]
  | [], _ :: _, h => by simp [sameB] at h
  | _ :: _, [], h => by simp [sameB] at h
theorem sameB_ne (a b : List S59) (h : ¬ (a.length : Int) = (b.length : Int)) : sameB a b = false := by
  cases e : sameB a b with
  | false => rfl
  | true => exact absurd (by rw [sameB_len a b e]) h
theorem equal_l0 : ∀ (n : Nat) (a b : List S59) (i : Nat), a.length - i ≤ n → a.length = b.length → a.length < 4611686018427387904 → Ev (fun k => api_Pair_24.l0 k a b (a.length : Int) (i : Int)) (sameB (a.drop i) (b.drop i)) := by
  intro n
  have fin : ∀ (a b : List S59) (i : Nat), ¬ i < a.length → a.length = b.length → Ev (fun k => api_Pair_24.l0 k a b (a.length : Int) (i : Int)) (sameB (a.drop i) (b.drop i)) := by
    intro a b i hn he
    rw [List.drop_of_length_le (by omega), List.drop_of_length_le (by omega)]
    exact Ev.step (f := fun k => some true) (fun k => by simp only [api_Pair_24.l0]; rw [if_neg (by omega)]) (Ev.now _)
  induction n with
  | zero => intro a b i hn he hl; exact fin a b i (by omega) he
  | succ n ih =>
    intro a b i hn he hl
    by_cases hi : i < a.length
    · have hj : i < b.length := by omega
      have nx := ih a b (i + 1) (by omega) he hl
      rw [List.drop_eq_getElem_cons hi, List.drop_eq_getElem_cons hj]
      refine Ev.step (f := fun k => if ((!((a[i]).f0.toList == (b[i]).f0.toList)) || (!((a[i]).f1.toList == (b[i]).f1.toList))) = true then some false else api_Pair_24.l0 k a b (a.length : Int) ((i + 1 : Nat) : Int)) (fun k => ?_) ?_
      · simp only [api_Pair_24.l0]
        rw [if_pos (by omega), if_pos (by omega), if_pos (by omega), if_pos (by omega), rd_get _ _ hi, rd_get _ _ hj, wrap_succ i (by omega)]
      · simp only [sameB]
        by_cases c : ((!((a[i]).f0.toList == (b[i]).f0.toList)) || (!((a[i]).f1.toList == (b[i]).f1.toList))) = true
        · simp only [if_pos c]
          have : ((a[i]).f0.toList == (b[i]).f0.toList && (a[i]).f1.toList == (b[i]).f1.toList) = false := by
            cases h1 : ((a[i]).f0.toList == (b[i]).f0.toList) <;> cases h2 : ((a[i]).f1.toList == (b[i]).f1.toList) <;> simp_all
          rw [this, Bool.false_and]
          exact Ev.now _
        · simp only [if_neg c]
          have : ((a[i]).f0.toList == (b[i]).f0.toList && (a[i]).f1.toList == (b[i]).f1.toList) = true := by
            cases h1 : ((a[i]).f0.toList == (b[i]).f0.toList) <;> cases h2 : ((a[i]).f1.toList == (b[i]).f1.toList) <;> simp_all
          rw [this, Bool.true_and]
          exact nx
    · exact fin a b i hi he
theorem equal_ev (a b : List S59) (hl : a.length < 4611686018427387904) : Ev (fun k => api_Pair_24.f k a b) (sameB a b) := by
  by_cases h : (a.length : Int) = (b.length : Int)
  · refine Ev.congr (fun k => ?_) (equal_l0 a.length a b 0 (by omega) (by omega) hl)
    unfold api_Pair_24.f
    rw [if_pos h]
    rfl
  · rw [sameB_ne a b h]
    refine Ev.congr (fun k => ?_) (Ev.now _)
    unfold api_Pair_24.f
    rw [if_neg h]

/-! #### a step -/
def stepA (w : List S61) (base : List S59) (s : S27) : List S61 × Bool :=
  if s.f0.f0 = 1 then (w, (decide ((getL w base s.f0.f1).1.toList = s.f1.toList)) && ((getL w base s.f0.f1).2 == s.f2))
  else if s.f0.f0 = 4 then (w, sameB (scanL w base s.f0.f3 s.f0.f4 s.f0.f5) s.f3)
  else if s.f0.f0 = 3 then (setL61 w ⟨s.f0.f1, ⟨#[]⟩, true⟩, true)
  else if s.f0.f0 = 2 then (setL61 w ⟨s.f0.f1, s.f0.f2, false⟩, true)
  else (w, true)
theorem stepA_len (w : List S61) (base : List S59) (s : S27) : (stepA w base s).1.length ≤ w.length + 1 := by
  unfold stepA
  have h1 := set_len w ⟨s.f0.f1, ⟨#[]⟩, true⟩
  have h2 := set_len w ⟨s.f0.f1, s.f0.f2, false⟩
  split
  · show w.length ≤ _; omega
  · split
    · show w.length ≤ _; omega
    · split
      · show (setL61 w ⟨s.f0.f1, ⟨#[]⟩, true⟩).length ≤ _; omega
      · split
        · show (setL61 w ⟨s.f0.f1, s.f0.f2, false⟩).length ≤ _; omega
        · show w.length ≤ _; omega
theorem step_ev (w : List S61) (base : List S59) (s : S27) (hl : base.length + w.length < 4398046510900) (hw : w.length < 3518437208000) :
    Ev (fun k => audit_Step.f k w base s.f0.f0 s.f0.f1 s.f0.f2 s.f0.f3 s.f0.f4 s.f0.f5 s.f1 s.f2 s.f3) (stepA w base s) := by
  unfold audit_Step.f stepA
  by_cases h1 : s.f0.f0 = 1
  · simp only [if_pos h1, get_eq w base s.f0.f1 (by omega), Option.bind_some]
    by_cases h : (getL w base s.f0.f1).1.toList = s.f1.toList
    · simp only [if_pos h, decide_eq_true h, Bool.true_and]; exact Ev.now _
    · simp only [if_neg h, decide_eq_false h, Bool.false_and]; exact Ev.now _
  · simp only [if_neg h1]
    by_cases h4 : s.f0.f0 = 4
    · simp only [if_pos h4]
      have hs := scan_len w base s.f0.f3 s.f0.f4 s.f0.f5
      exact Ev.bind (scan_ev w base _ _ _ hl) (Ev.bind (equal_ev _ _ (by omega)) (Ev.now _))
    · simp only [if_neg h4]
      by_cases h3 : s.f0.f0 = 3
      · simp only [if_pos h3, set_eq w _ _ _ hw, Option.bind_some]; exact Ev.now _
      · simp only [if_neg h3]
        by_cases h2 : s.f0.f0 = 2
        · simp only [if_pos h2, set_eq w _ _ _ hw, Option.bind_some]; exact Ev.now _
        · simp only [if_neg h2]; exact Ev.now _

/-! #### a transaction -/
def oneA (base : List S59) : List S61 → List S27 → List S61 × Bool
  | w, [] => (w, true)
  | w, s :: l => if (stepA w base s).2 = true then oneA base (stepA w base s).1 l else ([], false)
theorem oneA_len (base : List S59) : ∀ (l : List S27) (w : List S61), (oneA base w l).1.length ≤ w.length + l.length
  | [], w => Nat.le_refl _
  | s :: l, w => by
    have h1 := stepA_len w base s
    have h2 := oneA_len base l (stepA w base s).1
    unfold oneA
    rw [List.length_cons]
    split
    · omega
    · show 0 ≤ _; omega
theorem rdS_get (xs : List S27) (i : Nat) (h : i < xs.length) : rd_T27 xs (i : Int) = xs[i] := by simp [rd_T27, List.getD_eq_getElem?_getD, h]
theorem one_l0 (base : List S59) : ∀ (n : Nat) (l : List S27) (i : Nat) (w : List S61), l.length - i ≤ n → w.length ≤ i → base.length + l.length < 4398046510900 → l.length < 3518437208000 →
    Ev (fun k => audit_One.l0 k base l w (l.length : Int) (i : Int)) (oneA base w (l.drop i)) := by
  intro n
  have fin : ∀ (l : List S27) (i : Nat) (w : List S61), ¬ i < l.length → Ev (fun k => audit_One.l0 k base l w (l.length : Int) (i : Int)) (oneA base w (l.drop i)) := by
    intro l i w hn
    rw [List.drop_of_length_le (by omega)]
    exact Ev.step (f := fun k => some (w, true)) (fun k => by simp only [audit_One.l0]; rw [if_neg (by omega)]) (Ev.now _)
  induction n with
  | zero => intro l i w hn hw hb hl; exact fin l i w (by omega)
  | succ n ih =>
    intro l i w hn hw hb hl
    by_cases hi : i < l.length
    · have hsl := stepA_len w base l[i]
      rw [List.drop_eq_getElem_cons hi]
      refine Ev.step (f := fun k => (audit_Step.f k w base (l[i]).f0.f0 (l[i]).f0.f1 (l[i]).f0.f2 (l[i]).f0.f3 (l[i]).f0.f4 (l[i]).f0.f5 (l[i]).f1 (l[i]).f2 (l[i]).f3).bind fun bt => if bt.2 = true then audit_One.l0 k base l bt.1 (l.length : Int) ((i + 1 : Nat) : Int) else some (([] : List S61), false)) (fun k => ?_) (Ev.bind (step_ev w base l[i] (by omega) (by omega)) ?_)
      · simp only [audit_One.l0]
        rw [if_pos (by omega), if_pos (by omega), if_pos (by omega), rdS_get _ _ hi, wrap_succ i (by omega)]
      · unfold oneA
        by_cases c : (stepA w base l[i]).2 = true
        · simp only [if_pos c]
          exact ih l (i + 1) _ (by omega) (by omega) hb hl
        · simp only [if_neg c]
          exact Ev.now _
    · exact fin l i w hi
theorem one_ev (base : List S59) (l : List S27) (hb : base.length + l.length < 4398046510900) (hl : l.length < 3518437208000) : Ev (fun k => audit_One.f k base l) (oneA base [] l) := by
  have := one_l0 base l.length l 0 [] (by omega) (by simp) hb hl
  rw [List.drop_zero] at this
  exact this

/-! #### transactions, one after the other -/
def serialA : List S59 → List S46 → List S59 × Nat
  | base, [] => (base, 0)
  | base, d :: l => if (oneA base [] d.f1).2 = true then ((serialA ((oneA base [] d.f1).1.foldl stepW base) l).1, (serialA ((oneA base [] d.f1).1.foldl stepW base) l).2 + 1) else (base, 0)
def seenN (l : List S46) : Nat := (l.map (fun d => d.f1.length)).sum
theorem seenN_cons (d : S46) (l : List S46) : seenN (d :: l) = d.f1.length + seenN l := by simp [seenN]
theorem serialA_len : ∀ (l : List S46) (base : List S59), (serialA base l).1.length ≤ base.length + seenN l
  | [], base => Nat.le_add_right _ _
  | d :: l, base => by
    have h1 := serialA_len l ((oneA base [] d.f1).1.foldl stepW base)
    have h2 := fold_len (oneA base [] d.f1).1 base
    have h3 := oneA_len base d.f1 []
    rw [List.length_nil] at h3
    rw [seenN_cons]
    unfold serialA
    split
    · show (serialA _ l).1.length ≤ _; omega
    · show base.length ≤ _; omega
theorem rdD_get (xs : List S46) (i : Nat) (h : i < xs.length) : rd_T46 xs (i : Int) = xs[i] := by simp [rd_T46, List.getD_eq_getElem?_getD, h]
theorem serial_l0 : ∀ (n : Nat) (l : List S46) (i : Nat) (base : List S59), l.length - i ≤ n → i ≤ l.length → base.length + seenN (l.drop i) < 3518437207000 → l.length < 4611686018427387904 →
    Ev (fun k => audit_Serial.l0 k base l (l.length : Int) (i : Int)) ((serialA base (l.drop i)).1, ((i + (serialA base (l.drop i)).2 : Nat) : Int)) := by
  intro n
  have fin : ∀ (l : List S46) (i : Nat) (base : List S59), ¬ i < l.length → i ≤ l.length → Ev (fun k => audit_Serial.l0 k base l (l.length : Int) (i : Int)) ((serialA base (l.drop i)).1, ((i + (serialA base (l.drop i)).2 : Nat) : Int)) := by
    intro l i base hn hi
    have e : i = l.length := by omega
    rw [List.drop_of_length_le (by omega)]
    refine Ev.step (f := fun k => some (base, (l.length : Int))) (fun k => by simp only [audit_Serial.l0]; rw [if_neg (by omega)]) ?_
    rw [e]
    exact Ev.now _
  induction n with
  | zero => intro l i base hn hi hb hl; exact fin l i base (by omega) hi
  | succ n ih =>
    intro l i base hn hle hb hl
    by_cases hi : i < l.length
    · rw [List.drop_eq_getElem_cons hi, seenN_cons] at hb
      rw [List.drop_eq_getElem_cons hi]
      have h2 := fold_len (oneA base [] (l[i]).f1).1 base
      have h3 := oneA_len base (l[i]).f1 []
      rw [List.length_nil] at h3
      refine Ev.step (f := fun k => (audit_One.f k base (l[i]).f1).bind fun bt => if bt.2 = true then ((table_Apply.f base bt.1).bind fun t => audit_Serial.l0 k t l (l.length : Int) ((i + 1 : Nat) : Int)) else some (base, (i : Int))) (fun k => ?_) (Ev.bind (one_ev base (l[i]).f1 (by omega) (by omega)) ?_)
      · simp only [audit_Serial.l0]
        rw [if_pos (by omega), if_pos (by omega), if_pos (by omega), rdD_get _ _ hi, wrap_succ i (by omega)]
      · unfold serialA
        by_cases c : (oneA base [] (l[i]).f1).2 = true
        · simp only [if_pos c, apply_eq base _ (show base.length + (oneA base [] (l[i]).f1).1.length < 4398046511104 by omega), Option.bind_some]
          have := ih l (i + 1) ((oneA base [] (l[i]).f1).1.foldl stepW base) (by omega) (by omega) (by omega) hl
          rw [show i + ((serialA ((oneA base [] (l[i]).f1).1.foldl stepW base) (l.drop (i + 1))).2 + 1) = i + 1 + (serialA ((oneA base [] (l[i]).f1).1.foldl stepW base) (l.drop (i + 1))).2 by omega]
          exact this
        · simp only [if_neg c]
          exact Ev.now _
    · exact fin l i base hi hle
theorem serial_ev (base : List S59) (l : List S46) (hb : base.length + seenN l < 3518437207000) (hl : l.length < 4611686018427387904) : Ev (fun k => audit_Serial.f k base l) ((serialA base l).1, ((serialA base l).2 : Int)) := by
  have := serial_l0 l.length l 0 base (by omega) (by omega) hb hl
  rw [List.drop_zero, Nat.zero_add] at this
  exact this
end Go.Proofs.Ytlacmlceedkfoaa.PE
