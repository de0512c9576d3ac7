/- What the law ViewSets comes to: true, whatever is handed in. -/
import Derived.Test.YtbkfmicnjnklnaaGdViewSets
import Derived.Test.YtbkfmicnjnklnaaPBTw
namespace Go.Proofs.Ytbkfmicnjnklnaa.PB
open Go.RowKit Go.Proofs.YtbkfmicnjnklnaaW.PrintWords

/-- How many bytes there are, as the machine counts them: round the end of a word. -/
def sumZ (s : Int) : List S33 → Int
  | [] => s
  | x :: l => sumZ (wrap64 (s + wrap64 ((x.f0.size : Int) + (x.f1.size : Int)))) l
theorem wrap_two (s a b : Int) : wrap64 (wrap64 (s + a) + b) = wrap64 (s + wrap64 (a + b)) := by unfold wrap64; omega
theorem vsizeZ_l0 : ∀ (n : Nat) (l : List S33) (i : Nat) (s : Int), l.length - i ≤ n → l.length < 4611686018427387904 →
    Ev (fun k => view_Size.l0 k s l (l.length : Int) (i : Int)) (sumZ s (l.drop i)) := by
  intro n
  have fin : ∀ (l : List S33) (i : Nat) (s : Int), ¬ i < l.length → Ev (fun k => view_Size.l0 k s l (l.length : Int) (i : Int)) (sumZ s (l.drop i)) := by
    intro l i s hn
    rw [List.drop_of_length_le (by omega)]
    exact Ev.step (f := fun k => some s) (fun k => by simp only [view_Size.l0]; rw [if_neg (by omega)]) (Ev.now _)
  induction n with
  | zero => intro l i s hn hl; exact fin l i s (by omega)
  | succ n ih =>
    intro l i s hn hl
    by_cases hi : i < l.length
    · rw [List.drop_eq_getElem_cons hi]
      refine Ev.step (f := fun k => view_Size.l0 k (wrap64 (s + wrap64 (((l[i]).f0.size : Int) + ((l[i]).f1.size : Int)))) l (l.length : Int) ((i + 1 : Nat) : Int)) (fun k => ?_) (ih l (i + 1) _ (by omega) hl)
      simp only [view_Size.l0]
      rw [if_pos (by omega), if_pos (by omega), if_pos (by omega), rdW_get _ _ hi, wrap_succ i (by omega)]
    · exact fin l i s hi
theorem vsizeZ_ev (l : List S33) (hl : l.length < 4611686018427387904) : Ev (fun k => view_Size.f k l) (sumZ 0 l) := by
  have := vsizeZ_l0 l.length l 0 0 (by omega) hl
  rw [List.drop_zero] at this
  exact this
theorem rsizeZ_l0 : ∀ (n : Nat) (l : List S33) (i : Nat) (s : Int), l.length - i ≤ n → l.length < 4611686018427387904 →
    Ev (fun k => stanchionref12_Size.l0 k l s (i : Int)) (sumZ s (l.drop i)) := by
  intro n
  have fin : ∀ (l : List S33) (i : Nat) (s : Int), ¬ i < l.length → Ev (fun k => stanchionref12_Size.l0 k l s (i : Int)) (sumZ s (l.drop i)) := by
    intro l i s hn
    rw [List.drop_of_length_le (by omega)]
    exact Ev.step (f := fun k => some s) (fun k => by simp only [stanchionref12_Size.l0]; rw [if_neg (by omega)]) (Ev.now _)
  induction n with
  | zero => intro l i s hn hl; exact fin l i s (by omega)
  | succ n ih =>
    intro l i s hn hl
    by_cases hi : i < l.length
    · rw [List.drop_eq_getElem_cons hi]
      refine Ev.step (f := fun k => stanchionref12_Size.l0 k l (wrap64 (s + wrap64 (((l[i]).f0.size : Int) + ((l[i]).f1.size : Int)))) ((i + 1 : Nat) : Int)) (fun k => ?_) (ih l (i + 1) _ (by omega) hl)
      simp only [stanchionref12_Size.l0]
      rw [if_pos (by omega), if_pos (by omega), rdW_get _ _ hi, wrap_succ i (by omega), wrap_two]
    · exact fin l i s hi
theorem rsizeZ_ev (l : List S33) (hl : l.length < 4611686018427387904) : Ev (fun k => stanchionref12_Size.f k l) (sumZ 0 l) := by
  have := rsizeZ_l0 l.length l 0 0 (by omega) hl
  rw [List.drop_zero] at this
  exact this
theorem stanchionlaw12_ViewSets.pure : stanchionlaw12_ViewSets.Pure := by
  intro x0 x1 hx0 hx1
  apply Ev.rounds
  unfold stanchionlaw12_ViewSets.f
  have h0 : x0.length < 3518437208870 := by have := hx0.1; omega
  have hk : x1.f0.size < 4611686018427387904 := by have := hx1.1; omega
  have hw : ∀ x ∈ x0, x.f0.size < 4611686018427387904 := fun x hx => by have := (hx0.2 x hx).1; omega
  have l1 := set_len x0 ⟨x1.f0, x1.f1, x1.f2⟩
  refine Ev.bind vshown_ev ?_
  simp only [set_eq x0 _ _ _ (show x0.length < 3518437208880 by omega), Option.bind_some, List.length_nil, Nat.zero_add, if_pos (show x0.length < 3518437208883 by omega), List.nil_append, if_pos]
  refine Ev.bind (rset_ev x0 ⟨x1.f0, x1.f1, x1.f2⟩ hk (by omega)) (Ev.bind (writes_ev _ _ rfl (by omega)) (Ev.bind (writes_ev _ _ rfl (by omega)) ?_))
  simp only [if_pos]
  refine Ev.bind (vsizeZ_ev x0 (by omega)) (Ev.bind (rsizeZ_ev x0 (by omega)) ?_)
  simp only [if_pos]
  refine Ev.bind (vrises_ev x0 (by omega)) (Ev.bind (rrises_ev x0 (by omega) hw) ?_)
  simp only [beq_self_eq_true]
  exact Ev.now _
end Go.Proofs.Ytbkfmicnjnklnaa.PB
