/- The document's view functions in plain words: the place of a key, set, get, scan, size, rising, and when two rows of writes are the same. -/
import Derived.Test.YtbkfmicnjnklnaaPBTv
import Derived.Test.YtbkfmicnjnklnaaPBTr
namespace Go.Proofs.Ytbkfmicnjnklnaa.PB
open Go.RowKit Go.Proofs.YtbkfmicnjnklnaaW.PrintWords
set_option linter.unusedVariables false
set_option linter.unusedSimpArgs false

theorem ix_cons {α : Type} (p : α → Bool) (x : α) (l : List α) : ixOf p (x :: l) = if p x = true then 0 else if ixOf p l < 0 then -1 else ixOf p l + 1 := by
  unfold ixOf
  rw [List.findIdx_cons, List.length_cons]
  cases hx : p x with
  | true => simp
  | false =>
    simp only [cond_false, if_neg (show ¬ (false = true) by decide)]
    by_cases h : l.findIdx p < l.length
    · rw [if_pos (by omega), if_pos h, if_neg (by omega)]
      omega
    · rw [if_neg (by omega), if_neg h, if_pos (by decide)]
theorem rat_l0 (key : ByteArray) : ∀ (n : Nat) (l : List S33) (i : Nat), l.length - i ≤ n → l.length < 4611686018427387904 →
    Ev (fun k => stanchionref12_at.l0 k l key (i : Int)) (if ixOf (seq33 key) (l.drop i) < 0 then -1 else (i : Int) + ixOf (seq33 key) (l.drop i)) := by
  intro n
  have fin : ∀ (l : List S33) (i : Nat), ¬ i < l.length → Ev (fun k => stanchionref12_at.l0 k l key (i : Int)) (if ixOf (seq33 key) (l.drop i) < 0 then -1 else (i : Int) + ixOf (seq33 key) (l.drop i)) := by
    intro l i hn
    rw [List.drop_of_length_le (by omega)]
    exact Ev.step (f := fun k => some (-1)) (fun k => by simp only [stanchionref12_at.l0]; rw [if_neg (by omega)]) (Ev.now _)
  induction n with
  | zero => intro l i hn hl; exact fin l i (by omega)
  | succ n ih =>
    intro l i hn hl
    by_cases hi : i < l.length
    · rw [List.drop_eq_getElem_cons hi, ix_cons]
      by_cases he : (l[i]).f0.toList = key.toList
      · refine Ev.step (f := fun k => some (i : Int)) (fun k => ?_) ?_
        · simp only [stanchionref12_at.l0]
          rw [if_pos (by omega), if_pos (by omega), rdW_get _ _ hi, if_pos he]
        · rw [if_pos (show seq33 key l[i] = true from beq_iff_eq.2 he), if_neg (by decide), Int.add_zero]
          exact Ev.now _
      · refine Ev.step (f := fun k => stanchionref12_at.l0 k l key ((i + 1 : Nat) : Int)) (fun k => ?_) ?_
        · simp only [stanchionref12_at.l0]
          rw [if_pos (by omega), if_pos (by omega), rdW_get _ _ hi, if_neg he, wrap_succ i (by omega)]
        · have hs : seq33 key l[i] = false := beq_eq_false_iff_ne.2 he
          have h2 := ih l (i + 1) (by omega) hl
          rw [hs, if_neg (show ¬ (false = true) by decide)]
          by_cases hz : ixOf (seq33 key) (l.drop (i + 1)) < 0
          · rw [if_pos hz] at h2 ⊢
            exact h2
          · rw [if_neg hz] at h2 ⊢
            rw [if_neg (by omega), show (i : Int) + (ixOf (seq33 key) (l.drop (i + 1)) + 1) = ((i + 1 : Nat) : Int) + ixOf (seq33 key) (l.drop (i + 1)) by omega]
            exact h2
    · exact fin l i hi
theorem rat_ev (l : List S33) (key : ByteArray) (hl : l.length < 4611686018427387904) : Ev (fun k => stanchionref12_at.f k l key) (ixOf (seq33 key) l) := by
  have h := rat_l0 key l.length l 0 (by omega) hl
  rw [List.drop_zero] at h
  have e : (if ixOf (seq33 key) l < 0 then -1 else ((0 : Nat) : Int) + ixOf (seq33 key) l) = ixOf (seq33 key) l := by
    rcases ixOf_cases (seq33 key) l with h | ⟨j, _, h⟩
    · rw [h]; rfl
    · rw [h, if_neg (by omega)]; omega
  rw [e] at h
  exact h
/-! #### set -/
def insW (x : S33) : List S33 → List S33
  | [] => [x]
  | y :: r => if ltS x.f0 y.f0 = true then x :: y :: r else y :: insW x r
theorem insW_gt (x : S33) : ∀ (A : List S33) (y : S33) (C : List S33), (∀ z ∈ A, ltS x.f0 z.f0 = false) → ltS x.f0 y.f0 = true → insW x (A ++ y :: C) = A ++ x :: y :: C
  | [], y, C, _, hy => by
    show insW x (y :: C) = _
    unfold insW
    rw [if_pos hy]; rfl
  | a :: A, y, C, hA, hy => by
    show insW x (a :: (A ++ y :: C)) = _
    unfold insW
    rw [hA a List.mem_cons_self, if_neg (by decide), insW_gt x A y C (fun z hz => hA z (List.mem_cons_of_mem _ hz)) hy]
    rfl
theorem insW_end (x : S33) : ∀ (A : List S33), (∀ z ∈ A, ltS x.f0 z.f0 = false) → insW x A = A ++ [x]
  | [], _ => rfl
  | a :: A, hA => by
    unfold insW
    rw [hA a List.mem_cons_self, if_neg (by decide), insW_end x A (fun z hz => hA z (List.mem_cons_of_mem _ hz))]
    rfl
theorem rset_done (x : S33) (t : Int) (hk : x.f0.size < 4611686018427387904) : ∀ (n : Nat) (l : List S33) (i : Nat) (out : List S33), l.length - i ≤ n → t < (i : Int) → out.length ≤ i + 1 → l.length < 3518437208880 →
    Ev (fun k => stanchionref12_Set.l0 k l t out true (i : Int) x.f0 x.f1 x.f2) (out ++ l.drop i) := by
  intro n
  have fin : ∀ (l : List S33) (i : Nat) (out : List S33), ¬ i < l.length → Ev (fun k => stanchionref12_Set.l0 k l t out true (i : Int) x.f0 x.f1 x.f2) (out ++ l.drop i) := by
    intro l i out hn
    rw [List.drop_of_length_le (by omega), List.append_nil]
    exact Ev.step (f := fun k => some out) (fun k => by simp only [stanchionref12_Set.l0]; rw [if_neg (by omega), if_pos trivial]) (Ev.now _)
  induction n with
  | zero => intro l i out hn ht ho hl; exact fin l i out (by omega)
  | succ n ih =>
    intro l i out hn ht ho hl
    by_cases hi : i < l.length
    · have nx := ih l (i + 1) (out ++ [l[i]]) (by omega) (by omega) (by simp; omega) hl
      rw [List.append_assoc] at nx
      rw [List.drop_eq_getElem_cons hi]
      refine Ev.step (f := fun k => (stanchionref01_Less.f k x.f0 (l[i]).f0).bind fun _ => stanchionref12_Set.l0 k l t (out ++ [l[i]]) true ((i + 1 : Nat) : Int) x.f0 x.f1 x.f2) (fun k => ?_) (Ev.bind (less_ev _ _ hk) nx)
      simp only [stanchionref12_Set.l0]
      rw [if_pos (by omega), if_neg (by omega), if_pos (by omega), rdW_get _ _ hi, wrap_succ i (by omega)]
      have e : out.length < 3518437208883 := by omega
      simp only [if_pos e, ite_self, if_true]
    · exact fin l i out hi
theorem rset_hit (x : S33) (m : Nat) (hk : x.f0.size < 4611686018427387904) : ∀ (n : Nat) (l : List S33) (i : Nat) (out : List S33), l.length - i ≤ n → i ≤ m → m < l.length → out.length ≤ i → l.length < 3518437208880 →
    Ev (fun k => stanchionref12_Set.l0 k l (m : Int) out false (i : Int) x.f0 x.f1 x.f2) (out ++ (l.drop i).set (m - i) x) := by
  intro n
  induction n with
  | zero => intro l i out hn him hm ho hl; omega
  | succ n ih =>
    intro l i out hn him hm ho hl
    have hi : i < l.length := by omega
    have e : out.length < 3518437208883 := by omega
    rw [List.drop_eq_getElem_cons hi]
    by_cases h : i = m
    · subst h
      have nx := rset_done x (i : Int) hk l.length l (i + 1) (out ++ [x]) (by omega) (by omega) (by simp; omega) hl
      rw [List.append_assoc] at nx
      rw [Nat.sub_self, List.set_cons_zero]
      refine Ev.step (f := fun k => stanchionref12_Set.l0 k l (i : Int) (out ++ [x]) true ((i + 1 : Nat) : Int) x.f0 x.f1 x.f2) (fun k => ?_) nx
      simp only [stanchionref12_Set.l0]
      rw [if_pos (by omega), if_pos trivial, if_pos e, wrap_succ i (by omega)]
    · have nx := ih l (i + 1) (out ++ [l[i]]) (by omega) (by omega) hm (by simp; omega) hl
      rw [List.append_assoc] at nx
      rw [show m - i = (m - (i + 1)) + 1 by omega, List.set_cons_succ]
      refine Ev.step (f := fun k => (stanchionref01_Less.f k x.f0 (l[i]).f0).bind fun _ => stanchionref12_Set.l0 k l (m : Int) (out ++ [l[i]]) false ((i + 1 : Nat) : Int) x.f0 x.f1 x.f2) (fun k => ?_) (Ev.bind (less_ev _ _ hk) nx)
      simp only [stanchionref12_Set.l0]
      rw [if_pos (by omega), if_neg (by omega), if_pos (by omega), rdW_get _ _ hi, wrap_succ i (by omega)]
      have e2 : ¬ ((m : Int) < 0) := by omega
      simp only [if_pos e, if_neg e2]
theorem rset_miss (x : S33) (hk : x.f0.size < 4611686018427387904) : ∀ (n : Nat) (l : List S33) (i : Nat) (out : List S33), l.length - i ≤ n → out.length ≤ i → i ≤ l.length → l.length < 3518437208880 →
    Ev (fun k => stanchionref12_Set.l0 k l (-1) out false (i : Int) x.f0 x.f1 x.f2) (out ++ insW x (l.drop i)) := by
  intro n
  have hft : ¬ (false = true) := by decide
  have fin : ∀ (l : List S33) (i : Nat) (out : List S33), ¬ i < l.length → out.length ≤ i → i ≤ l.length → l.length < 3518437208880 → Ev (fun k => stanchionref12_Set.l0 k l (-1) out false (i : Int) x.f0 x.f1 x.f2) (out ++ insW x (l.drop i)) := by
    intro l i out hn ho hi hl
    rw [List.drop_of_length_le (by omega)]
    exact Ev.step (f := fun k => some (out ++ [x])) (fun k => by simp only [stanchionref12_Set.l0]; rw [if_neg (by omega), if_neg hft, if_pos (by omega)]) (Ev.now _)
  induction n with
  | zero => intro l i out hn ho hi hl; exact fin l i out (by omega) ho hi hl
  | succ n ih =>
    intro l i out hn ho hil hl
    by_cases hi : i < l.length
    · have e : out.length < 3518437208883 := by omega
      rw [List.drop_eq_getElem_cons hi]
      refine Ev.step (f := fun k => (stanchionref01_Less.f k x.f0 (l[i]).f0).bind fun t => if t = true then stanchionref12_Set.l0 k l (-1) ((out ++ [x]) ++ [l[i]]) true ((i + 1 : Nat) : Int) x.f0 x.f1 x.f2 else stanchionref12_Set.l0 k l (-1) (out ++ [l[i]]) false ((i + 1 : Nat) : Int) x.f0 x.f1 x.f2) (fun k => ?_) (Ev.bind (less_ev _ _ hk) ?_)
      · simp only [stanchionref12_Set.l0]
        rw [if_pos (by omega), if_neg (by omega), if_pos (by omega), rdW_get _ _ hi, wrap_succ i (by omega)]
        have e2 : (-1 : Int) < 0 := by decide
        have e3 : (out ++ [(⟨x.f0, x.f1, x.f2⟩ : S33)]).length < 3518437208883 := by simp; omega
        simp only [if_pos e, if_pos e2, if_neg hft, Option.bind_some, if_pos e3]
      · unfold insW
        cases ltS x.f0 (l[i]).f0 with
        | true =>
          simp only [if_pos]
          have nx := rset_done x (-1) hk l.length l (i + 1) ((out ++ [x]) ++ [l[i]]) (by omega) (by omega) (by simp; omega) hl
          have e4 : out ++ [x] ++ [l[i]] ++ l.drop (i + 1) = out ++ x :: l[i] :: l.drop (i + 1) := by simp
          rw [e4] at nx
          exact nx
        | false =>
          simp only [if_neg hft]
          have nx := ih l (i + 1) (out ++ [l[i]]) (by omega) (by simp; omega) (by omega) hl
          rw [List.append_assoc] at nx
          exact nx
    · exact fin l i out hi ho hil hl
theorem rset_ev (l : List S33) (x : S33) (hk : x.f0.size < 4611686018427387904) (hl : l.length < 3518437208880) : Ev (fun k => stanchionref12_Set.f k l x.f0 x.f1 x.f2) (setL33 l x) := by
  unfold stanchionref12_Set.f
  refine Ev.bind (rat_ev l x.f0 (by omega)) ?_
  obtain ⟨A, C, hA, hp, hs⟩ := set_shape l x.f0
  rw [hp x rfl]
  rcases hs with ⟨y, hy, rfl⟩ | ⟨hno, rfl, h1, h2⟩
  · rw [ix_hit _ _ _ _ hA ((seq_iff _ _).2 hy)]
    have := rset_hit x A.length hk (A ++ y :: C).length (A ++ y :: C) 0 [] (by omega) (by omega) (by simp) (by simp) hl
    simp only [List.drop_zero, List.nil_append, Nat.sub_zero] at this
    have e : (A ++ y :: C).set A.length x = A ++ x :: C := by simp
    rw [e] at this
    exact this
  · rw [ix_miss _ _ hno]
    have := rset_miss x hk (A ++ C).length (A ++ C) 0 [] (by omega) (by simp) (by omega) hl
    simp only [List.drop_zero, List.nil_append] at this
    have e : insW x (A ++ C) = A ++ x :: C := by
      cases C with
      | nil => rw [List.append_nil]; exact insW_end x A h1
      | cons y C' => exact insW_gt x A y C' h1 (h2 y C' rfl)
    rw [e] at this
    exact this

/-! #### size, rising, the same -/
theorem rsize_l0 : ∀ (n : Nat) (l : List S33) (i : Nat) (s : Nat), l.length - i ≤ n → l.length < 4611686018427387904 → s + sumW (l.drop i) < 4611686018427387904 →
    Ev (fun k => stanchionref12_Size.l0 k l (s : Int) (i : Int)) ((s + sumW (l.drop i) : Nat) : Int) := by
  intro n
  have fin : ∀ (l : List S33) (i : Nat) (s : Nat), ¬ i < l.length → Ev (fun k => stanchionref12_Size.l0 k l (s : Int) (i : Int)) ((s + sumW (l.drop i) : Nat) : Int) := by
    intro l i s hn
    rw [List.drop_of_length_le (by omega)]
    exact Ev.step (f := fun k => some (s : Int)) (fun k => by simp only [stanchionref12_Size.l0]; rw [if_neg (by omega)]) (Ev.now _)
  induction n with
  | zero => intro l i s hn hl hs; exact fin l i s (by omega)
  | succ n ih =>
    intro l i s hn hl hs
    by_cases hi : i < l.length
    · rw [List.drop_eq_getElem_cons hi, sumW_cons] at hs ⊢
      unfold wt at hs ⊢
      refine Ev.step (f := fun k => stanchionref12_Size.l0 k l ((s + ((l[i]).f0.size + (l[i]).f1.size) : Nat) : Int) ((i + 1 : Nat) : Int)) (fun k => ?_) ?_
      · simp only [stanchionref12_Size.l0]
        rw [if_pos (by omega), if_pos (by omega), rdW_get _ _ hi, wrap_succ i (by omega)]
        rw [show wrap64 ((s : Int) + ((l[i]).f0.size : Int)) = ((s + (l[i]).f0.size : Nat) : Int) by unfold wrap64; omega]
        rw [show wrap64 (((s + (l[i]).f0.size : Nat) : Int) + ((l[i]).f1.size : Int)) = ((s + ((l[i]).f0.size + (l[i]).f1.size) : Nat) : Int) by unfold wrap64; omega]
      · have := ih l (i + 1) (s + ((l[i]).f0.size + (l[i]).f1.size)) (by omega) hl (by omega)
        rw [show s + ((l[i]).f0.size + (l[i]).f1.size) + sumW (l.drop (i + 1)) = s + ((l[i]).f0.size + (l[i]).f1.size + sumW (l.drop (i + 1))) by omega] at this
        exact this
    · exact fin l i s hi
theorem rsize_ev (l : List S33) (hl : l.length < 4611686018427387904) (hs : sumW l < 4611686018427387904) : Ev (fun k => stanchionref12_Size.f k l) ((sumW l : Nat) : Int) := by
  have := rsize_l0 l.length l 0 0 (by omega) hl (by simpa using hs)
  rw [Nat.zero_add, List.drop_zero] at this
  exact this
theorem rrises_l0 : ∀ (n : Nat) (l : List S33) (i : Nat), 0 < i → l.length - i ≤ n → l.length < 4611686018427387904 → (∀ x ∈ l, x.f0.size < 4611686018427387904) → Ev (fun k => stanchionref12_Rises.l0 k l (i : Int)) (risesW (l.drop (i - 1))) := by
  intro n
  have fin : ∀ (l : List S33) (i : Nat), 0 < i → ¬ i < l.length → Ev (fun k => stanchionref12_Rises.l0 k l (i : Int)) (risesW (l.drop (i - 1))) := by
    intro l i h0 hn
    refine Ev.step (f := fun k => some true) (fun k => by simp only [stanchionref12_Rises.l0]; rw [if_neg (by omega)]) ?_
    have e : risesW (l.drop (i - 1)) = true := by
      have hd : (l.drop (i - 1)).length ≤ 1 := by rw [List.length_drop]; omega
      match h : l.drop (i - 1), hd with
      | [], _ => rfl
      | [_], _ => rfl
    rw [e]
    exact Ev.now _
  induction n with
  | zero => intro l i h0 hn hl hb; exact fin l i h0 (by omega)
  | succ n ih =>
    intro l i h0 hn hl hb
    by_cases hi : i < l.length
    · have hw : wrap64 ((i : Int) - 1) = ((i - 1 : Nat) : Int) := by unfold wrap64; omega
      have h1 : i - 1 < l.length := by omega
      have e : risesW (l.drop (i - 1)) = (ltS (l[i - 1]).f0 (l[i]).f0 && risesW (l.drop i)) := by
        rw [List.drop_eq_getElem_cons h1, show i - 1 + 1 = i by omega, List.drop_eq_getElem_cons hi]
        rfl
      refine Ev.step (f := fun k => (stanchionref01_Less.f k (l[i - 1]).f0 (l[i]).f0).bind fun t => if t = true then stanchionref12_Rises.l0 k l ((i + 1 : Nat) : Int) else some false) (fun k => ?_) ?_
      · simp only [stanchionref12_Rises.l0]
        rw [if_pos (by omega), hw, if_pos (by omega), if_pos (by omega), if_pos (by omega), rdW_get _ _ h1, rdW_get _ _ hi, wrap_succ i (by omega)]
      · refine Ev.bind (less_ev _ _ (hb _ (List.getElem_mem h1))) ?_
        rw [e]
        cases ltS (l[i - 1]).f0 (l[i]).f0 with
        | true =>
          rw [Bool.true_and]
          simp only [if_pos]
          have := ih l (i + 1) (by omega) (by omega) hl hb
          rwa [Nat.add_sub_cancel] at this
        | false => exact Ev.now _
    · exact fin l i h0 hi
theorem rrises_ev (l : List S33) (hl : l.length < 4611686018427387904) (hb : ∀ x ∈ l, x.f0.size < 4611686018427387904) : Ev (fun k => stanchionref12_Rises.f k l) (risesW l) := rrises_l0 l.length l 1 (by omega) (by omega) hl hb
theorem writes_l0 : ∀ (n : Nat) (l : List S33) (i : Nat), l.length - i ≤ n → l.length < 4611686018427387904 → Ev (fun k => stanchionref05_Writes.l0 k l l (i : Int)) true := by
  intro n
  induction n with
  | zero => intro l i hn hl; exact Ev.step (f := fun k => some true) (fun k => by simp only [stanchionref05_Writes.l0]; rw [if_neg (by omega)]) (Ev.now _)
  | succ n ih =>
    intro l i hn hl
    by_cases hi : i < l.length
    · refine Ev.step (f := fun k => stanchionref05_Writes.l0 k l l ((i + 1 : Nat) : Int)) (fun k => ?_) (ih l (i + 1) (by omega) hl)
      simp only [stanchionref05_Writes.l0]
      rw [if_pos (by omega), if_pos (by omega), if_pos (by omega), if_neg (by simp), wrap_succ i (by omega)]
    · exact Ev.step (f := fun k => some true) (fun k => by simp only [stanchionref05_Writes.l0]; rw [if_neg (by omega)]) (Ev.now _)
theorem writes_ev (a b : List S33) (h : a = b) (hl : b.length < 4611686018427387904) : Ev (fun k => stanchionref05_Writes.f k a b) true := by
  subst h
  refine Ev.congr (fun k => ?_) (writes_l0 a.length a 0 (by omega) hl)
  unfold stanchionref05_Writes.f
  rw [if_pos rfl]
  rfl
end Go.Proofs.Ytbkfmicnjnklnaa.PB
