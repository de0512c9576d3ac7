/- What the law AuditOrders comes to: true, whatever is handed in. -/
import Derived.Test.YtlacmlceedkfoaaGdAuditOrders
import Derived.Test.YtlacmlceedkfoaaPETq
namespace Go.Proofs.Ytlacmlceedkfoaa.PE
open Go.RowKit Go.Proofs.YtlacmlceedkfoaaW.PrintWords

/-- Behind the search whether a token is of any deal. -/
def ordEnd (k : Nat) (l : List S46) (ts : List ByteArray) (out : List S46) (at_ i : Int) (b : Bool) : Option Bool :=
  if b = true then (if at_ ≥ (out.length : Int) then (some false) else (if 0 ≤ at_ then (if at_ < (out.length : Int) then (if 0 ≤ i then (if i < (ts.length : Int) then (if ((rd_T46 out at_).f0).toList = (rdOf ByteArray.empty ts i).toList then (stanchionlaw19_AuditOrders.l0 k l ts true out (wrap64 (at_ + 1)) (wrap64 (i + 1))) else (some false)) else (none)) else (none)) else (none)) else (none))) else (stanchionlaw19_AuditOrders.l0 k l ts true out at_ (wrap64 (i + 1)))
theorem ord_l1 (l : List S46) (ts : List ByteArray) (out : List S46) (at_ : Int) (i : Nat) (hi : i < ts.length) (hl : l.length < 4611686018427387904) : ∀ (n j : Nat) (b : Bool), l.length - j ≤ n →
    Ev (fun k => ordEnd k l ts out at_ (i : Int) (b || (l.drop j).any (tokB ts[i]))) true → Ev (fun k => stanchionlaw19_AuditOrders.l1 k l ts true out at_ (i : Int) b (j : Int)) true := by
  intro n
  have fin : ∀ (j : Nat) (b : Bool), ¬ j < l.length → Ev (fun k => ordEnd k l ts out at_ (i : Int) (b || (l.drop j).any (tokB ts[i]))) true → Ev (fun k => stanchionlaw19_AuditOrders.l1 k l ts true out at_ (i : Int) b (j : Int)) true := by
    intro j b hn h
    rw [List.drop_of_length_le (by omega), List.any_nil, Bool.or_false] at h
    refine Ev.step (fun k => ?_) h
    simp only [stanchionlaw19_AuditOrders.l1]
    rw [if_neg (by omega)]
    rfl
  induction n with
  | zero => intro j b hn h; exact fin j b (by omega) h
  | succ n ih =>
    intro j b hn h
    by_cases hj : j < l.length
    · rw [List.drop_eq_getElem_cons hj, List.any_cons] at h
      cases b with
      | true =>
        refine Ev.step (f := fun k => stanchionlaw19_AuditOrders.l1 k l ts true out at_ (i : Int) true ((j + 1 : Nat) : Int)) (fun k => ?_) (ih (j + 1) true (by omega) (by simpa using h))
        simp only [stanchionlaw19_AuditOrders.l1]
        rw [if_pos (by omega), if_pos trivial, wrap_succ j (by omega)]
      | false =>
        refine Ev.step (f := fun k => stanchionlaw19_AuditOrders.l1 k l ts true out at_ (i : Int) (tokB ts[i] l[j]) ((j + 1 : Nat) : Int)) (fun k => ?_) (ih (j + 1) _ (by omega) (by simpa using h))
        simp only [stanchionlaw19_AuditOrders.l1]
        rw [if_pos (by omega), if_neg (by decide), if_pos (by omega), if_pos (by omega), if_pos (by omega), wrap_succ j (by omega), rdOf_get _ _ hi, rdQ_get _ _ hj]
        rfl
    · exact fin j b hj h
theorem ord_l0 (l : List S46) (ts : List ByteArray) (hl : l.length < 4611686018427387904) (ht : ts.length < 3518437208000) : ∀ (n i : Nat) (pre : List S46), ts.length - i ≤ n → i ≤ ts.length → pre.length ≤ i →
    Ev (fun k => stanchionlaw19_AuditOrders.l0 k l ts true (pre ++ orderL l (ts.drop i)) (pre.length : Int) (i : Int)) true := by
  intro n
  have fin : ∀ (i : Nat) (pre : List S46), ¬ i < ts.length → Ev (fun k => stanchionlaw19_AuditOrders.l0 k l ts true (pre ++ orderL l (ts.drop i)) (pre.length : Int) (i : Int)) true := by
    intro i pre hn
    rw [List.drop_of_length_le (by omega), orderL_nil, List.append_nil]
    refine Ev.step (f := fun k => some true) (fun k => ?_) (Ev.now _)
    simp only [stanchionlaw19_AuditOrders.l0]
    rw [if_neg (by omega), if_pos trivial]
    simp
  induction n with
  | zero => intro i pre hn hi hp; exact fin i pre (by omega)
  | succ n ih =>
    intro i pre hn hle hp
    by_cases hi : i < ts.length
    · refine Ev.step (f := fun k => stanchionlaw19_AuditOrders.l1 k l ts true (pre ++ orderL l (ts.drop i)) (pre.length : Int) (i : Int) false ((0 : Nat) : Int)) (fun k => ?_) (ord_l1 l ts _ _ i hi hl l.length 0 false (by omega) ?_)
      · simp only [stanchionlaw19_AuditOrders.l0]
        rw [if_pos (by omega)]
        rfl
      · rw [List.drop_zero, Bool.false_or, List.drop_eq_getElem_cons hi, orderL_cons]
        rcases ix_split (tokB ts[i]) l with h | ⟨A, x, C, he, hA, hx⟩
        · have ha : l.any (tokB ts[i]) = false := by rw [List.any_eq_false]; exact fun y hy => by simp [h y hy]
          rw [ha, List.find?_eq_none.2 (fun y hy => by simp [h y hy])]
          refine Ev.congr (fun k => ?_) (ih (i + 1) pre (by omega) (by omega) (by omega))
          unfold ordEnd
          rw [if_neg (by decide), wrap_succ i (by omega)]
        · have ha : l.any (tokB ts[i]) = true := by rw [he]; simp [hx]
          have hf : l.find? (tokB ts[i]) = some x := by
            rw [he, List.find?_append, List.find?_eq_none.2 (fun y hy => by simp [hA y hy])]
            simp [hx]
          rw [ha, hf]
          dsimp only
          have nx := ih (i + 1) (pre ++ [x]) (by omega) (by omega) (by simp; omega)
          rw [List.append_assoc] at nx
          refine Ev.congr (fun k => ?_) nx
          have hlen : pre.length < (pre ++ x :: orderL l (ts.drop (i + 1))).length := by simp
          have hg : (pre ++ x :: orderL l (ts.drop (i + 1)))[pre.length] = x := by simp
          have hxt : x.f0.toList = ts[i].toList := beq_iff_eq.1 hx
          unfold ordEnd
          rw [if_pos rfl, if_neg (by omega), if_pos (by omega), if_pos (by omega), if_pos (by omega), if_pos (by omega), rdQ_get _ _ hlen, hg, rdOf_get _ _ hi, if_pos hxt, wrap_succ i (by omega), wrap_succ pre.length (by omega)]
          simp
    · exact fin i pre hi
theorem stanchionlaw19_AuditOrders.pure : stanchionlaw19_AuditOrders.Pure := by
  intro x0 x1 hx0 hx1 hb
  apply Ev.rounds
  unfold stanchionlaw19_AuditOrders.f stanchionlaw19_shown.f
  have h0 : x0.length + x1.length ≤ 1048576 := by
    have h1 := sum_len b46 (fun x => by unfold b46 b9; omega) x0
    have h2 := sum_len b9 (fun x => by unfold b9; omega) x1
    simp only [b37, b42] at hb
    omega
  simp only [Option.bind_some]
  refine Ev.bind (order_ev x0 x1 (by omega) (by omega)) ?_
  have := ord_l0 x0 x1 (by omega) (by omega) x1.length 0 [] (by omega) (by omega) (by simp)
  rw [List.drop_zero, List.nil_append] at this
  exact this
end Go.Proofs.Ytlacmlceedkfoaa.PE
