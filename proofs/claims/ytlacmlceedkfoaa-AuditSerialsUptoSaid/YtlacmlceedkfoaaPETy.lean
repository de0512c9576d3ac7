/- The document's audit in plain words: a step, a transaction. -/
import Derived.Test.YtlacmlceedkfoaaPETz
import Derived.Test.YtlacmlceedkfoaaPETw
namespace Go.Proofs.Ytlacmlceedkfoaa.PE
open Go.RowKit Go.Proofs.YtlacmlceedkfoaaW.PrintWords
set_option linter.unusedVariables false
set_option linter.unusedSimpArgs false

theorem same_all_l0 : ∀ (n : Nat) (a b : List S59) (i : Nat), a.length - i ≤ n → a.length = b.length → a.length < 4611686018427387904 → Ev (fun k => stanchionref05_Same.l0 k a b (i : Int)) (sameB (a.drop i) (b.drop i)) := by
  intro n
  have fin : ∀ (a b : List S59) (i : Nat), ¬ i < a.length → a.length = b.length → Ev (fun k => stanchionref05_Same.l0 k a b (i : Int)) (sameB (a.drop i) (b.drop i)) := by
    intro a b i hn he
    rw [List.drop_of_length_le (by omega), List.drop_of_length_le (by omega)]
    exact Ev.step (f := fun k => some true) (fun k => by simp only [stanchionref05_Same.l0]; rw [if_neg (by omega)]) (Ev.now _)
  induction n with
  | zero => intro a b i hn he hl; exact fin a b i (by omega) he
  | succ n ih =>
    intro a b i hn he hl
    by_cases hi : i < a.length
    · have hj : i < b.length := by omega
      have nx := ih a b (i + 1) (by omega) he hl
      rw [List.drop_eq_getElem_cons hi, List.drop_eq_getElem_cons hj]
      refine Ev.step (f := fun k => if ((!((a[i]).f0.toList == (b[i]).f0.toList)) || (!((a[i]).f1.toList == (b[i]).f1.toList))) = true then some false else stanchionref05_Same.l0 k a b ((i + 1 : Nat) : Int)) (fun k => ?_) ?_
      · simp only [stanchionref05_Same.l0]
        rw [if_pos (by omega), if_pos (by omega), if_pos (by omega), rd_get _ _ hi, rd_get _ _ hj, wrap_succ i (by omega)]
      · simp only [sameB]
        by_cases c : ((!((a[i]).f0.toList == (b[i]).f0.toList)) || (!((a[i]).f1.toList == (b[i]).f1.toList))) = true
        · simp only [if_pos c]
          have : ((a[i]).f0.toList == (b[i]).f0.toList && (a[i]).f1.toList == (b[i]).f1.toList) = false := by
            cases h1 : ((a[i]).f0.toList == (b[i]).f0.toList) <;> cases h2 : ((a[i]).f1.toList == (b[i]).f1.toList) <;> simp_all
          rw [this, Bool.false_and]
          exact Ev.now _
        · simp only [if_neg c]
          have : ((a[i]).f0.toList == (b[i]).f0.toList && (a[i]).f1.toList == (b[i]).f1.toList) = true := by
            cases h1 : ((a[i]).f0.toList == (b[i]).f0.toList) <;> cases h2 : ((a[i]).f1.toList == (b[i]).f1.toList) <;> simp_all
          rw [this, Bool.true_and]
          exact nx
    · exact fin a b i hi he
theorem same_all_ev (a b : List S59) (hl : a.length < 4611686018427387904) : Ev (fun k => stanchionref05_Same.f k a b) (sameB a b) := by
  by_cases h : (a.length : Int) = (b.length : Int)
  · refine Ev.congr (fun k => ?_) (same_all_l0 a.length a b 0 (by omega) (by omega) hl)
    unfold stanchionref05_Same.f
    rw [if_pos h]
    rfl
  · rw [sameB_ne a b h]
    refine Ev.congr (fun k => ?_) (Ev.now _)
    unfold stanchionref05_Same.f
    rw [if_neg h]
theorem rstep_ev (w : List S61) (base : List S59) (s : S27) (hl : base.length + w.length < 4398046510900) (hw : w.length < 3518437208000)
    (hk : s.f0.f1.size < 4611686018427387904) (hb : ∀ x ∈ base, x.f0.size < 4611686018427387904) (hws : ∀ x ∈ w, x.f0.size < 4611686018427387904) :
    Ev (fun k => stanchionref19_Step.f k w base s.f0.f0 s.f0.f1 s.f0.f2 s.f0.f3 s.f0.f4 s.f0.f5 s.f1 s.f2 s.f3) (stepA w base s) := by
  unfold stanchionref19_Step.f stepA
  by_cases h1 : s.f0.f0 = 1
  · simp only [if_pos h1]
    refine Ev.bind (rget_ev w base s.f0.f1 (by omega) (by omega)) ?_
    by_cases h : (getL w base s.f0.f1).1.toList = s.f1.toList
    · simp only [if_pos h, decide_eq_true h, Bool.true_and]; exact Ev.now _
    · simp only [if_neg h, decide_eq_false h, Bool.false_and]; exact Ev.now _
  · simp only [if_neg h1]
    by_cases h2 : s.f0.f0 = 2
    · have h4 : ¬ s.f0.f0 = 4 := by omega
      have h3 : ¬ s.f0.f0 = 3 := by omega
      simp only [if_pos h2, if_neg h4, if_neg h3]
      exact Ev.bind (rset_ev w ⟨s.f0.f1, s.f0.f2, false⟩ hk hw) (Ev.now _)
    · simp only [if_neg h2]
      by_cases h3 : s.f0.f0 = 3
      · have h4 : ¬ s.f0.f0 = 4 := by omega
        simp only [if_pos h3, if_neg h4]
        exact Ev.bind (rset_ev w ⟨s.f0.f1, ⟨#[]⟩, true⟩ hk hw) (Ev.now _)
      · simp only [if_neg h3]
        by_cases h4 : s.f0.f0 = 4
        · simp only [if_pos h4]
          have hs := scan_len w base s.f0.f3 s.f0.f4 s.f0.f5
          exact Ev.bind (rscan_ev w base _ _ _ hl hb hws) (Ev.bind (same_all_ev _ _ (by omega)) (Ev.now _))
        · simp only [if_neg h4]; exact Ev.now _
theorem size_set {l : List S61} {x : S61} {B : Nat} (h : ∀ y ∈ l, y.f0.size < B) (hk : x.f0.size < B) : ∀ y ∈ setL61 l x, y.f0.size < B := by
  obtain ⟨A, C, hA, hp, hs⟩ := set_shape l x.f0
  rw [hp x rfl]
  intro y hy
  rcases List.mem_append.1 hy with hy | hy
  · refine h y ?_
    rcases hs with ⟨z, _, rfl⟩ | ⟨_, rfl, _⟩
    · exact List.mem_append_left _ hy
    · exact List.mem_append_left _ hy
  · rcases List.mem_cons.1 hy with rfl | hy
    · exact hk
    · refine h y ?_
      rcases hs with ⟨z, _, rfl⟩ | ⟨_, rfl, _⟩
      · exact List.mem_append_right _ (List.mem_cons_of_mem _ hy)
      · exact List.mem_append_right _ hy
theorem size_step {w : List S61} {base : List S59} {s : S27} {B : Nat} (h : ∀ y ∈ w, y.f0.size < B) (hk : s.f0.f1.size < B) : ∀ y ∈ (stepA w base s).1, y.f0.size < B := by
  unfold stepA
  split
  · exact h
  · split
    · exact h
    · split
      · exact size_set h hk
      · split
        · exact size_set h hk
        · exact h
theorem rone_l0 (base : List S59) (hbs : ∀ x ∈ base, x.f0.size < 4611686018427387904) : ∀ (n : Nat) (l : List S27) (i : Nat) (w : List S61), l.length - i ≤ n → w.length ≤ i → base.length + l.length < 4398046510900 → l.length < 3518437208000 → (∀ x ∈ l, x.f0.f1.size < 4611686018427387904) → (∀ x ∈ w, x.f0.size < 4611686018427387904) →
    Ev (fun k => stanchionref19_One.l0 k base l w (i : Int)) (oneA base w (l.drop i)) := by
  intro n
  have fin : ∀ (l : List S27) (i : Nat) (w : List S61), ¬ i < l.length → Ev (fun k => stanchionref19_One.l0 k base l w (i : Int)) (oneA base w (l.drop i)) := by
    intro l i w hn
    rw [List.drop_of_length_le (by omega)]
    exact Ev.step (f := fun k => some (w, true)) (fun k => by simp only [stanchionref19_One.l0]; rw [if_neg (by omega)]) (Ev.now _)
  induction n with
  | zero => intro l i w hn hw hb hl hls hws; exact fin l i w (by omega)
  | succ n ih =>
    intro l i w hn hw hb hl hls hws
    by_cases hi : i < l.length
    · have hsl := stepA_len w base l[i]
      have hk := hls _ (List.getElem_mem hi)
      rw [List.drop_eq_getElem_cons hi]
      refine Ev.step (f := fun k => (stanchionref19_Step.f k w base (l[i]).f0.f0 (l[i]).f0.f1 (l[i]).f0.f2 (l[i]).f0.f3 (l[i]).f0.f4 (l[i]).f0.f5 (l[i]).f1 (l[i]).f2 (l[i]).f3).bind fun bt => if bt.2 = true then stanchionref19_One.l0 k base l bt.1 ((i + 1 : Nat) : Int) else some (([] : List S61), false)) (fun k => ?_) (Ev.bind (rstep_ev w base l[i] (by omega) (by omega) hk hbs hws) ?_)
      · simp only [stanchionref19_One.l0]
        rw [if_pos (by omega), if_pos (by omega), rdS_get _ _ hi, wrap_succ i (by omega)]
      · unfold oneA
        by_cases c : (stepA w base l[i]).2 = true
        · simp only [if_pos c]
          exact ih l (i + 1) _ (by omega) (by omega) hb hl hls (size_step hws hk)
        · simp only [if_neg c]
          exact Ev.now _
    · exact fin l i w hi
theorem rone_ev (base : List S59) (l : List S27) (hb : base.length + l.length < 4398046510900) (hl : l.length < 3518437208000) (hbs : ∀ x ∈ base, x.f0.size < 4611686018427387904) (hls : ∀ x ∈ l, x.f0.f1.size < 4611686018427387904) :
    Ev (fun k => stanchionref19_One.f k base l) (oneA base [] l) := by
  have := rone_l0 base hbs l.length l 0 [] (by omega) (by simp) hb hl hls (fun x hx => by cases hx)
  rw [List.drop_zero] at this
  exact this
end Go.Proofs.Ytlacmlceedkfoaa.PE
