/- What the law TableApart comes to: true, whatever is handed in. -/
import Derived.Test.YtdoamckcibcdcaaGdTableApart
import Derived.Test.YtdoamckcibcdcaaTb
namespace Go.Proofs.Ytdoamckcibcdcaa.PB
open Go.RowKit Go.Proofs.YtdoamckcibcdcaaW.PrintWords

theorem drop_eq (l : List S59) (a : ByteArray) (h : l.length < 4398046511104) : table_Drop.f l a = some (dropL59 l a) := by
  unfold table_Drop.f api_Pair_28.f
  simp [h]
theorem drop_len (l : List S59) (a : ByteArray) : (dropL59 l a).length ≤ l.length := List.length_filter_le _ _
/-- The find of a key sees neither what is put at another key nor what is dropped of it. -/
theorem findL_skip (A : List S59) (y : S59) (C : List S59) (o : ByteArray) (h : eqK59 o y = false) : findL (A ++ y :: C) o = findL (A ++ C) o := by
  unfold findL
  rw [List.find?_append, List.find?_append, List.find?_cons, h]
theorem find_put (l : List S59) (k v o : ByteArray) (h : k ≠ o) : findL (putL59 l k v) o = findL l o := by
  obtain ⟨A, C, hA, hp, hs⟩ := put_shape l k
  have hk : ∀ y : S59, y.f0 = k → eqK59 o y = false := fun y hy => by
    cases e : eqK59 o y with
    | false => rfl
    | true => exact absurd ((eqK_iff _ _).1 e) (by rw [hy]; exact h)
  rw [hp v, findL_skip _ _ _ _ (hk _ rfl)]
  rcases hs with ⟨x, hx, rfl⟩ | ⟨_, rfl, _⟩
  · rw [findL_skip _ _ _ _ (hk _ hx)]
  · rfl
theorem find_drop (k o : ByteArray) (h : k ≠ o) : ∀ l : List S59, findL (dropL59 l k) o = findL l o
  | [] => rfl
  | x :: l => by
    have ih := find_drop k o h l
    unfold dropL59 at ih ⊢
    rw [List.filter_cons]
    cases e : eqK59 k x with
    | true =>
      have hx := (eqK_iff _ _).1 e
      have ho : eqK59 o x = false := by
        cases e2 : eqK59 o x with
        | false => rfl
        | true => exact absurd ((eqK_iff _ _).1 e2) (by rw [hx]; exact h)
      rw [if_neg (by decide), ih]
      exact (findL_skip [] x l o ho).symm
    | false =>
      rw [if_pos (by decide)]
      unfold findL at ih ⊢
      rw [List.find?_cons, List.find?_cons]
      cases eqK59 o x with
      | true => rfl
      | false => exact ih

theorem stanchionlaw05_TableApart.pure : stanchionlaw05_TableApart.Pure := by
  intro x0 hx0
  apply Ev.rounds
  unfold stanchionlaw05_TableApart.f
  have hlen : x0.f0.length < 4398046511000 := by have := hx0.1.1; omega
  refine Ev.bind shown_ev ?_
  by_cases hk : x0.f1.toList = x0.f3.toList
  · simp only [if_pos hk]; exact Ev.now _
  · have hne : x0.f1 ≠ x0.f3 := fun h => hk (by rw [h])
    have l1 := put_len x0.f0 x0.f1 x0.f2
    have l2 := drop_len x0.f0 x0.f1
    simp only [if_neg hk, find_eq x0.f0 x0.f3 (by omega), put_eq x0.f0 x0.f1 x0.f2 (by omega), drop_eq x0.f0 x0.f1 (by omega), Option.bind_some, find_eq (putL59 x0.f0 x0.f1 x0.f2) x0.f3 (by omega), find_eq (dropL59 x0.f0 x0.f1) x0.f3 (by omega),
      find_put _ _ _ _ hne, find_drop _ _ hne, if_pos, beq_self_eq_true]
    exact Ev.now _
end Go.Proofs.Ytdoamckcibcdcaa.PB
