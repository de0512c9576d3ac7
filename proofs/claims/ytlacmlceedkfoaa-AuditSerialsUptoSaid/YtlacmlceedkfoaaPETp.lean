/- The document's Serial, Order and Deals in plain words. -/
import Derived.Test.YtlacmlceedkfoaaPETq
import Derived.Test.YtlacmlceedkfoaaPETy
namespace Go.Proofs.Ytlacmlceedkfoaa.PE
open Go.RowKit Go.Proofs.YtlacmlceedkfoaaW.PrintWords
set_option linter.unusedVariables false
set_option linter.unusedSimpArgs false

theorem size_one {base : List S59} {B : Nat} : ∀ (l : List S27) (w : List S61), (∀ y ∈ w, y.f0.size < B) → (∀ s ∈ l, s.f0.f1.size < B) → ∀ y ∈ (oneA base w l).1, y.f0.size < B
  | [], w, h, _ => h
  | s :: l, w, h, hl => by
    unfold oneA
    split
    · exact size_one l _ (size_step h (hl s List.mem_cons_self)) (fun x hx => hl x (List.mem_cons_of_mem _ hx))
    · intro y hy; cases hy
theorem rserial_l0 : ∀ (n : Nat) (l : List S46) (i : Nat) (base : List S59), l.length - i ≤ n → i ≤ l.length → base.length + seenN (l.drop i) < 3518437207000 → l.length < 4611686018427387904 →
    (∀ x ∈ base, x.f0.size < 4611686018427387904) → (∀ d ∈ l, ∀ s ∈ d.f1, s.f0.f1.size < 4611686018427387904) →
    Ev (fun k => stanchionref19_Serial.l0 k base l (i : Int)) ((serialA base (l.drop i)).1, ((i + (serialA base (l.drop i)).2 : Nat) : Int)) := by
  intro n
  have fin : ∀ (l : List S46) (i : Nat) (base : List S59), ¬ i < l.length → i ≤ l.length → Ev (fun k => stanchionref19_Serial.l0 k base l (i : Int)) ((serialA base (l.drop i)).1, ((i + (serialA base (l.drop i)).2 : Nat) : Int)) := by
    intro l i base hn hi
    have e : i = l.length := by omega
    rw [List.drop_of_length_le (by omega)]
    refine Ev.step (f := fun k => some (base, (l.length : Int))) (fun k => by simp only [stanchionref19_Serial.l0]; rw [if_neg (by omega)]) ?_
    rw [e]
    exact Ev.now _
  induction n with
  | zero => intro l i base hn hi hb hl hbs hls; exact fin l i base (by omega) hi
  | succ n ih =>
    intro l i base hn hle hb hl hbs hls
    by_cases hi : i < l.length
    · rw [List.drop_eq_getElem_cons hi, seenN_cons] at hb
      rw [List.drop_eq_getElem_cons hi]
      have hk := hls _ (List.getElem_mem hi)
      have h2 := fold_len (oneA base [] (l[i]).f1).1 base
      have h3 := oneA_len base (l[i]).f1 []
      rw [List.length_nil] at h3
      have hws : ∀ y ∈ (oneA base [] (l[i]).f1).1, y.f0.size < 4611686018427387904 := size_one _ _ (fun y hy => by cases hy) hk
      refine Ev.step (f := fun k => (stanchionref19_One.f k base (l[i]).f1).bind fun bt => if bt.2 = true then ((stanchionref05_Apply.f k base bt.1).bind fun t => stanchionref19_Serial.l0 k t l ((i + 1 : Nat) : Int)) else some (base, (i : Int))) (fun k => ?_) (Ev.bind (rone_ev base (l[i]).f1 (by omega) (by omega) hbs hk) ?_)
      · simp only [stanchionref19_Serial.l0]
        rw [if_pos (by omega), if_pos (by omega), rdD_get _ _ hi, wrap_succ i (by omega)]
      · unfold serialA
        by_cases c : (oneA base [] (l[i]).f1).2 = true
        · simp only [if_pos c]
          refine Ev.bind (rapply_ev base _ (by omega) hws) ?_
          have := ih l (i + 1) ((oneA base [] (l[i]).f1).1.foldl stepW base) (by omega) (by omega) (by omega) hl (size_fold _ _ hbs hws) hls
          rw [show i + ((serialA ((oneA base [] (l[i]).f1).1.foldl stepW base) (l.drop (i + 1))).2 + 1) = i + 1 + (serialA ((oneA base [] (l[i]).f1).1.foldl stepW base) (l.drop (i + 1))).2 by omega]
          exact this
        · simp only [if_neg c]
          exact Ev.now _
    · exact fin l i base hi hle
theorem rserial_ev (base : List S59) (l : List S46) (hb : base.length + seenN l < 3518437207000) (hl : l.length < 4611686018427387904) (hbs : ∀ x ∈ base, x.f0.size < 4611686018427387904) (hls : ∀ d ∈ l, ∀ s ∈ d.f1, s.f0.f1.size < 4611686018427387904) :
    Ev (fun k => stanchionref19_Serial.f k base l) ((serialA base l).1, ((serialA base l).2 : Int)) := by
  have := rserial_l0 l.length l 0 base (by omega) (by omega) hb hl hbs hls
  rw [List.drop_zero, Nat.zero_add] at this
  exact this

/-! #### order -/
theorem rorder_found (l : List S46) (ts : List ByteArray) (out r : List S46) (i : Nat) (hi : i < 4611686018427387904) (j : Int) (h : Ev (fun k => stanchionref19_Order.l0 k l ts out ((i + 1 : Nat) : Int)) r) : Ev (fun k => stanchionref19_Order.l1 k l ts out (i : Int) true j) r := by
  refine Ev.step (f := fun k => stanchionref19_Order.j2 k l ts out (i : Int) true j false) (fun k => ?_) (Ev.step (fun k => ?_) h)
  · simp only [stanchionref19_Order.l1, Bool.not_true, ite_self]
  · simp only [stanchionref19_Order.j2]
    rw [if_neg (by decide), wrap_succ i hi]
theorem rorder_l1 (l : List S46) (ts : List ByteArray) (out : List S46) (i : Nat) (hi : i < ts.length) (ho : out.length < 3518437208883) (hl : l.length < 4611686018427387904) (ht : ts.length < 4611686018427387904) (R : List S46 → List S46)
    (h : ∀ o : List S46, o.length ≤ out.length + 1 → Ev (fun k => stanchionref19_Order.l0 k l ts o ((i + 1 : Nat) : Int)) (R o)) : ∀ (n j : Nat), l.length - j ≤ n →
    Ev (fun k => stanchionref19_Order.l1 k l ts out (i : Int) false (j : Int)) (R (match (l.drop j).find? (tokB ts[i]) with | some d => out ++ [d] | none => out)) := by
  intro n
  have fin : ∀ j : Nat, ¬ j < l.length → Ev (fun k => stanchionref19_Order.l1 k l ts out (i : Int) false (j : Int)) (R (match (l.drop j).find? (tokB ts[i]) with | some d => out ++ [d] | none => out)) := by
    intro j hn
    rw [List.drop_of_length_le (by omega)]
    refine Ev.step (f := fun k => stanchionref19_Order.j2 k l ts out (i : Int) false (j : Int) false) (fun k => ?_) (Ev.step (fun k => ?_) (h out (by omega)))
    · simp only [stanchionref19_Order.l1]
      rw [if_neg (by omega)]
    · simp only [stanchionref19_Order.j2]
      rw [if_neg (by decide), wrap_succ i (by omega)]
  induction n with
  | zero => intro j hn; exact fin j (by omega)
  | succ n ih =>
    intro j hn
    by_cases hj : j < l.length
    · rw [List.drop_eq_getElem_cons hj, List.find?_cons]
      refine Ev.step (f := fun k => stanchionref19_Order.j2 k l ts out (i : Int) false (j : Int) true) (fun k => ?_) ?_
      · simp only [stanchionref19_Order.l1]
        rw [if_pos (by omega)]
        rfl
      · cases hb : tokB ts[i] l[j] with
        | true =>
          have hb' : (l[j]).f0.toList = ts[i].toList := beq_iff_eq.1 hb
          refine Ev.step (f := fun k => stanchionref19_Order.l1 k l ts (out ++ [l[j]]) (i : Int) true ((j + 1 : Nat) : Int)) (fun k => ?_) (rorder_found l ts _ _ i (by omega) _ (h (out ++ [l[j]]) (by simp)))
          simp only [stanchionref19_Order.j2]
          rw [if_pos trivial, if_pos (by omega), if_pos (by omega), if_pos (by omega), if_pos (by omega), rdQ_get _ _ hj, rdOf_get _ _ hi, if_pos hb', if_pos ho, wrap_succ j (by omega)]
        | false =>
          have hb' : ¬ (l[j]).f0.toList = ts[i].toList := beq_eq_false_iff_ne.1 hb
          refine Ev.step (f := fun k => stanchionref19_Order.l1 k l ts out (i : Int) false ((j + 1 : Nat) : Int)) (fun k => ?_) (ih (j + 1) (by omega))
          simp only [stanchionref19_Order.j2]
          rw [if_pos trivial, if_pos (by omega), if_pos (by omega), if_pos (by omega), if_pos (by omega), rdQ_get _ _ hj, rdOf_get _ _ hi, if_neg hb', wrap_succ j (by omega)]
    · exact fin j hj
theorem rorder_l0 (l : List S46) (hl : l.length < 4611686018427387904) : ∀ (n : Nat) (ts : List ByteArray) (i : Nat) (out : List S46), ts.length - i ≤ n → out.length ≤ i → ts.length < 3518437208000 →
    Ev (fun k => stanchionref19_Order.l0 k l ts out (i : Int)) (out ++ orderL l (ts.drop i)) := by
  intro n
  have fin : ∀ (ts : List ByteArray) (i : Nat) (out : List S46), ¬ i < ts.length → Ev (fun k => stanchionref19_Order.l0 k l ts out (i : Int)) (out ++ orderL l (ts.drop i)) := by
    intro ts i out hn
    rw [List.drop_of_length_le (by omega), orderL_nil, List.append_nil]
    exact Ev.step (f := fun k => some out) (fun k => by simp only [stanchionref19_Order.l0]; rw [if_neg (by omega)]) (Ev.now _)
  induction n with
  | zero => intro ts i out hn ho ht; exact fin ts i out (by omega)
  | succ n ih =>
    intro ts i out hn ho ht
    by_cases hi : i < ts.length
    · have key := rorder_l1 l ts out i hi (by omega) hl (by omega) (fun o => o ++ orderL l (ts.drop (i + 1))) (fun o hlo => ih ts (i + 1) o (by omega) (by omega) ht) l.length 0 (by omega)
      refine Ev.step (f := fun k => stanchionref19_Order.l1 k l ts out (i : Int) false ((0 : Nat) : Int)) (fun k => ?_) ?_
      · simp only [stanchionref19_Order.l0]
        rw [if_pos (by omega)]
        rfl
      · rw [List.drop_zero] at key
        rw [List.drop_eq_getElem_cons hi, orderL_cons]
        cases hf : l.find? (tokB ts[i]) with
        | some d =>
          rw [hf] at key
          have key2 := key
          dsimp only at key2
          rw [List.append_assoc] at key2
          exact key2
        | none =>
          rw [hf] at key
          exact key
    · exact fin ts i out hi
theorem rorder_ev (l : List S46) (ts : List ByteArray) (hl : l.length < 4611686018427387904) (ht : ts.length < 3518437208000) : Ev (fun k => stanchionref19_Order.f k l ts) (orderL l ts) := by
  have := rorder_l0 l hl ts.length ts 0 [] (by omega) (by simp) ht
  rw [List.drop_zero, List.nil_append] at this
  exact this

/-! #### the same deals -/
theorem deals_l1 (a : List S46) (i : Nat) (hi : i < a.length) (hf : (a[i]).f1.length < 4611686018427387904) (hr : ∀ s ∈ (a[i]).f1, s.f3.length < 4611686018427387904) (ha : a.length < 4611686018427387904)
    (h : Ev (fun k => stanchionref19_Deals.l0 k a a ((i + 1 : Nat) : Int)) true) : ∀ (n j : Nat), (a[i]).f1.length - j ≤ n → Ev (fun k => stanchionref19_Deals.l1 k a a (i : Int) (j : Int)) true := by
  intro n
  have fin : ∀ j : Nat, ¬ j < (a[i]).f1.length → Ev (fun k => stanchionref19_Deals.l1 k a a (i : Int) (j : Int)) true := by
    intro j hn
    refine Ev.step (fun k => ?_) h
    simp only [stanchionref19_Deals.l1]
    rw [if_pos (by omega), if_pos (by omega), rdQ_get _ _ hi, if_neg (by omega), wrap_succ i (by omega)]
  induction n with
  | zero => intro j hn; exact fin j (by omega)
  | succ n ih =>
    intro j hn
    by_cases hj : j < (a[i]).f1.length
    · refine Ev.step (f := fun k => (stanchionref05_Same.f k ((a[i]).f1[j]).f3 ((a[i]).f1[j]).f3).bind fun t => if t = true then stanchionref19_Deals.l1 k a a (i : Int) ((j + 1 : Nat) : Int) else some false) (fun k => ?_) (Ev.bind (same_ev _ _ rfl (hr _ (List.getElem_mem hj))) ?_)
      · simp only [stanchionref19_Deals.l1]
        rw [if_pos (by omega), if_pos (by omega), rdQ_get _ _ hi, if_pos (by omega), if_pos (by omega), if_pos (by omega), if_pos (by omega), rdS_get _ _ hj, wrap_succ j (by omega)]
        simp
      · simp only [if_pos]
        exact ih (j + 1) (by omega)
    · exact fin j hj
theorem deals_l0 (a : List S46) (ha : a.length < 4611686018427387904) (hg : ∀ d ∈ a, d.f1.length < 4611686018427387904 ∧ ∀ s ∈ d.f1, s.f3.length < 4611686018427387904) : ∀ (n i : Nat), a.length - i ≤ n → Ev (fun k => stanchionref19_Deals.l0 k a a (i : Int)) true := by
  intro n
  have fin : ∀ i : Nat, ¬ i < a.length → Ev (fun k => stanchionref19_Deals.l0 k a a (i : Int)) true := by
    intro i hn
    exact Ev.step (f := fun k => some true) (fun k => by simp only [stanchionref19_Deals.l0]; rw [if_neg (by omega)]) (Ev.now _)
  induction n with
  | zero => intro i hn; exact fin i (by omega)
  | succ n ih =>
    intro i hn
    by_cases hi : i < a.length
    · have g := hg _ (List.getElem_mem hi)
      refine Ev.step (f := fun k => stanchionref19_Deals.j1 k a a (i : Int) false) (fun k => ?_) (Ev.step (f := fun k => stanchionref19_Deals.l1 k a a (i : Int) ((0 : Nat) : Int)) (fun k => ?_) (deals_l1 a i hi g.1 g.2 ha (ih (i + 1) (by omega)) (a[i]).f1.length 0 (by omega)))
      · simp only [stanchionref19_Deals.l0]
        rw [if_pos (by omega), if_pos (by omega), if_pos (by omega)]
        simp
      · simp only [stanchionref19_Deals.j1]
        rw [if_neg (by decide)]
        rfl
    · exact fin i hi
theorem deals_ev (a : List S46) (ha : a.length < 4611686018427387904) (hg : ∀ d ∈ a, d.f1.length < 4611686018427387904 ∧ ∀ s ∈ d.f1, s.f3.length < 4611686018427387904) : Ev (fun k => stanchionref19_Deals.f k a a) true := by
  refine Ev.congr (fun k => ?_) (deals_l0 a ha hg a.length 0 (by omega))
  unfold stanchionref19_Deals.f
  rw [if_pos rfl]
  rfl
theorem orderL_mem (l : List S46) (ts : List ByteArray) : ∀ d ∈ orderL l ts, d ∈ l := by
  intro d hd
  obtain ⟨t, _, ht⟩ := List.mem_filterMap.1 hd
  exact List.mem_of_find?_eq_some ht
end Go.Proofs.Ytlacmlceedkfoaa.PE
