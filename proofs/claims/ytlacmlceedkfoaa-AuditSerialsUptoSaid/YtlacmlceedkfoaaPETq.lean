/- What the audit's Order comes to in plain words. -/
import Derived.Test.YtlacmlceedkfoaaPETa
namespace Go.Proofs.Ytlacmlceedkfoaa.PE
open Go.RowKit Go.Proofs.YtlacmlceedkfoaaW.PrintWords
set_option linter.unusedVariables false
set_option linter.unusedSimpArgs false

def tokB (t : ByteArray) (d : S46) : Bool := d.f0.toList == t.toList
def orderL (l : List S46) (ts : List ByteArray) : List S46 := ts.filterMap (fun t => l.find? (tokB t))
theorem orderL_nil (l : List S46) : orderL l [] = [] := rfl
theorem orderL_cons (l : List S46) (t : ByteArray) (ts : List ByteArray) : orderL l (t :: ts) = (match l.find? (tokB t) with | some d => d :: orderL l ts | none => orderL l ts) := by
  unfold orderL
  rw [List.filterMap_cons]
  cases l.find? (tokB t) <;> rfl
theorem orderL_len (l : List S46) (ts : List ByteArray) : (orderL l ts).length ≤ ts.length := List.length_filterMap_le _ _
theorem rdOf_get (xs : List ByteArray) (i : Nat) (h : i < xs.length) : rdOf ByteArray.empty xs (i : Int) = xs[i] := by simp [rdOf, List.getD_eq_getElem?_getD, h]
theorem rdQ_get (xs : List S46) (i : Nat) (h : i < xs.length) : rd_T46 xs (i : Int) = xs[i] := by simp [rd_T46, List.getD_eq_getElem?_getD, h]
theorem order_l0 (l : List S46) (hl : l.length < 4611686018427387904) : ∀ (n : Nat) (ts : List ByteArray) (i : Nat) (out : List S46), ts.length - i ≤ n → out.length ≤ i → ts.length < 3518437208000 →
    Ev (fun k => audit_Order.l0 k l out ts (ts.length : Int) (i : Int)) (out ++ orderL l (ts.drop i)) := by
  intro n
  have fin : ∀ (ts : List ByteArray) (i : Nat) (out : List S46), ¬ i < ts.length → Ev (fun k => audit_Order.l0 k l out ts (ts.length : Int) (i : Int)) (out ++ orderL l (ts.drop i)) := by
    intro ts i out hn
    rw [List.drop_of_length_le (by omega), orderL_nil, List.append_nil]
    exact Ev.step (f := fun k => some out) (fun k => by simp only [audit_Order.l0]; rw [if_neg (by omega)]) (Ev.now _)
  induction n with
  | zero => intro ts i out hn ho ht; exact fin ts i out (by omega)
  | succ n ih =>
    intro ts i out hn ho ht
    by_cases hi : i < ts.length
    · rw [List.drop_eq_getElem_cons hi, orderL_cons]
      rcases ix_split (tokB ts[i]) l with h | ⟨A, x, C, he, hA, hx⟩
      · rw [List.find?_eq_none.2 (fun y hy => by simp [h y hy])]
        refine Ev.step (f := fun k => audit_Order.l0 k l out ts (ts.length : Int) ((i + 1 : Nat) : Int)) (fun k => ?_) (ih ts (i + 1) out (by omega) (by omega) ht)
        simp only [audit_Order.l0]
        rw [if_pos (by omega), if_pos (by omega), if_pos (by omega), rdOf_get _ _ hi]
        unfold api_Deal.f
        rw [Option.bind_some, show (fun x : S46 => x.f0.toList == ts[i].toList) = tokB ts[i] from rfl, ix_miss _ _ h, if_neg (by decide), wrap_succ i (by omega)]
      · have hf : l.find? (tokB ts[i]) = some x := by
          rw [he, List.find?_append, List.find?_eq_none.2 (fun y hy => by simp [hA y hy])]
          simp [List.find?_cons, hx]
        have hal : A.length < l.length := by rw [he]; simp
        have hg : l[A.length] = x := by simp only [he, List.getElem_append_right (Nat.le_refl _), Nat.sub_self, List.getElem_cons_zero]
        rw [hf]
        have nx := ih ts (i + 1) (out ++ [x]) (by omega) (by simp; omega) ht
        rw [List.append_assoc] at nx
        refine Ev.step (f := fun k => audit_Order.l0 k l (out ++ [x]) ts (ts.length : Int) ((i + 1 : Nat) : Int)) (fun k => ?_) nx
        simp only [audit_Order.l0]
        rw [if_pos (by omega), if_pos (by omega), if_pos (by omega), rdOf_get _ _ hi]
        unfold api_Deal.f
        rw [Option.bind_some, show (fun x : S46 => x.f0.toList == ts[i].toList) = tokB ts[i] from rfl, show ixOf (tokB ts[i]) l = (A.length : Int) by rw [he]; exact ix_hit _ _ _ _ hA hx, if_pos (by omega), if_pos (by omega), if_pos (by omega), if_pos (by omega), rdQ_get _ _ hal, hg, wrap_succ i (by omega)]
    · exact fin ts i out hi
theorem order_ev (l : List S46) (ts : List ByteArray) (hl : l.length < 4611686018427387904) (ht : ts.length < 3518437208000) : Ev (fun k => audit_Order.f k l ts) (orderL l ts) := by
  have := order_l0 l hl ts.length ts 0 [] (by omega) (by simp) ht
  rw [List.drop_zero, List.nil_append] at this
  exact this
end Go.Proofs.Ytlacmlceedkfoaa.PE
