/- What the session functions of the program and of the document come to, in plain words: who is found, how a request is judged, what taking, answering, binding, renewing, closing make of sessions. -/
import Derived.Test.YtnpmjboofmdflaaMC
import Derived.Laws.Strings
import Derived.WideShapes
namespace Go.Proofs.Ytnpmjboofmdflaa.PB
open Go.RowKit Go.Proofs.YtnpmjboofmdflaaW.PrintWords Go.Proofs.YtnpmjboofmdflaaW.PrintMore Go.Proofs.Ytnpmjboofmdflaa.Hp

abbrev Tup := Int × Int × Bool × ByteArray × Int × Int × Bool
def tup : Option S42 → Tup
  | none => (0, 0, false, (⟨#[]⟩ : ByteArray), 0, 0, false)
  | some x => (x.f0, x.f1, x.f2, x.f3, x.f4, x.f5, true)
def fnd (l : List S42) (id : Int) : Option S42 := l.find? (fun x => x.f0 == id)
theorem rds (xs : List S42) (i : Nat) : rd_T42 xs (i : Int) = xs.getD i z42 := by simp [rd_T42]
theorem getD_of {α : Type} (l : List α) (i : Nat) (d : α) (h : i < l.length) : l.getD i d = l[i] := by
  rw [List.getD_eq_getElem?_getD, List.getElem?_eq_getElem h]
  rfl
theorem find_ix (p : S42 → Bool) (l : List S42) : (ixOf p l = -1 ∧ l.find? p = none) ∨ ∃ i : Nat, ixOf p l = (i : Int) ∧ i < l.length ∧ l.find? p = some (l.getD i z42) ∧ p (l.getD i z42) = true ∧ ∀ j, j < i → p (l.getD j z42) = false := by
  unfold ixOf
  by_cases h : l.findIdx p < l.length
  · refine .inr ⟨l.findIdx p, if_pos h, h, ?_, ?_, ?_⟩
    · rw [getD_of _ _ _ h, List.find?_eq_some_iff_getElem]
      refine ⟨List.findIdx_getElem, l.findIdx p, h, rfl, fun j hj => ?_⟩
      simpa using List.not_of_lt_findIdx hj
    · rw [getD_of _ _ _ h]; exact List.findIdx_getElem
    · intro j hj
      rw [getD_of _ _ _ (by omega)]
      simpa using List.not_of_lt_findIdx hj
  · refine .inl ⟨if_neg h, ?_⟩
    rw [List.find?_eq_none]
    intro x hx hp
    exact h (List.findIdx_lt_length.2 ⟨x, hx, hp⟩)
theorem one_eq (p : S42 → Bool) (l : List S42) : api_Session_42.f l (ixOf p l) = some (tup (l.find? p)) := by
  unfold api_Session_42.f
  rcases find_ix p l with ⟨h1, h2⟩ | ⟨i, h1, hl, h2, _, _⟩
  · rw [h1, h2, if_pos (by omega)]; rfl
  · rw [h1, h2, if_neg (by omega), if_pos (by omega), if_pos (by omega), rds]; rfl
theorem at_eq (a : Int) (l : List S42) (h : List S85) (n t id : Int) : session_at.f a l h n t id = some (ixOf (fun x => x.f0 == id) l) := rfl
theorem find_eq (a : Int) (l : List S42) (h : List S85) (n t id : Int) : session_Find.f a l h n t id = some (tup (fnd l id)) := by
  unfold session_Find.f
  rw [at_eq, Option.bind_some, one_eq, Option.bind_some]
  rfl
/-- How a request is judged. -/
def judge (ep qe qs : Int) (o : Option S42) : ByteArray × Int :=
  if qe = ep then
    match o with
    | none => ((⟨#[]⟩ : ByteArray), 7)
    | some x => if qs < 1 then ((⟨#[]⟩ : ByteArray), 15) else if qs = x.f1 then (if x.f2 = true then ((⟨#[]⟩ : ByteArray), 12) else (x.f3, 8)) else if qs = wrap64 (x.f1 + 1) then (if x.f2 = true then ((⟨#[]⟩ : ByteArray), 11) else ((⟨#[]⟩ : ByteArray), 0)) else ((⟨#[]⟩ : ByteArray), 15)
  else ((⟨#[]⟩ : ByteArray), 14)
def Rng (l : List S42) : Prop := ∀ x ∈ l, -9223372036854775808 ≤ x.f1 ∧ x.f1 ≤ 9223372036854775807
theorem fnd_mem {l : List S42} {id : Int} {x : S42} (h : fnd l id = some x) : x ∈ l ∧ x.f0 = id := by
  unfold fnd at h
  exact ⟨List.mem_of_find?_eq_some h, by have := List.find?_some h; simpa using this⟩
theorem judge_ev (a : Int) (l : List S42) (h : List S85) (n t q0 q1 q2 q3 : Int) (q4 : ByteArray) (q5 : Int) (q6 q7 q8 q9 : ByteArray) (q10 : Int) (hr : Rng l) :
    Ev (fun k => session_Judge.f k a l h n t q0 q1 q2 q3 q4 q5 q6 q7 q8 q9 q10) (judge a q1 q3 (fnd l q2)) := by
  refine Ev.of (session_Judge.mono _ _ _ _ _ _ _ _ _ _ _ _ _ _ _ _) (k := 3) ?_
  unfold session_Judge.f
  rw [find_eq, Option.bind_some]
  unfold judge
  by_cases he : q1 = a
  · rw [if_pos he, if_pos he]
    cases hf : fnd l q2 with
    | none => rfl
    | some x =>
      rw [show tup (some x) = (x.f0, x.f1, x.f2, x.f3, x.f4, x.f5, true) from rfl]
      refine (if_pos rfl).trans ?_
      by_cases h1 : q3 < 1
      · refine (if_pos h1).trans ?_
        exact congrArg some (if_pos h1).symm
      · refine (if_neg h1).trans ?_
        refine Eq.trans ?_ (congrArg some (if_neg h1).symm)
        by_cases h2 : q3 = x.f1
        · refine (if_pos h2).trans ?_
          refine Eq.trans ?_ (congrArg some (if_pos h2).symm)
          simp only [session_Judge.j0]
          by_cases h3 : x.f2 = true
          · rw [if_pos h3, if_pos h3]
          · rw [if_neg h3, if_neg h3, if_pos h2]
        · refine (if_neg h2).trans ?_
          refine Eq.trans ?_ (congrArg some (if_neg h2).symm)
          simp only [session_Judge.j0]
          rw [if_neg (by decide), if_neg h2]
          by_cases h4 : q3 = wrap64 (x.f1 + 1)
          · rw [if_pos h4, if_pos h4]
            simp only [session_Judge.j1]
            by_cases h3 : x.f2 = true
            · rw [if_pos h3, if_pos h3]
            · rw [if_neg h3, if_neg h3]
              by_cases h5 : q3 < x.f1
              · exfalso
                have hb := hr x (fnd_mem hf).1
                have hw : wrap64 (x.f1 + 1) = q3 := h4.symm
                unfold wrap64 at hw
                omega
              · rw [if_neg h5, if_pos h4]
          · rw [if_neg h4, if_neg h4]
            simp only [session_Judge.j1]
            rw [if_neg (by decide)]
            by_cases h5 : q3 < x.f1
            · rw [if_pos h5]
            · rw [if_neg h5, if_neg h4]
  · rw [if_neg he, if_neg he]
theorem shown17_ev : Ev (fun k => stanchionlaw17_shown.f k) true := Ev.of stanchionlaw17_shown.mono (k := 100) (by decide +kernel)
theorem wf64 {x : Int} (h : (Lit.int .i64 x).wf = true) : -9223372036854775808 ≤ x ∧ x ≤ 9223372036854775807 := by
  have h2 : (decide (IntKind.i64.min ≤ x) && decide (x ≤ IntKind.i64.max)) = true := h
  rw [show IntKind.i64.min = -9223372036854775808 from by decide, show IntKind.i64.max = 9223372036854775807 from by decide, Bool.and_eq_true, decide_eq_true_eq, decide_eq_true_eq] at h2
  exact h2
end Go.Proofs.Ytnpmjboofmdflaa.PB
