/- The session functions in plain words. -/
import Derived.Test.YtnpmjboofmdflaaMC
import Derived.Laws.Strings
import Derived.WideShapes
namespace Go.Proofs.Ytnpmjboofmdflaa.PB
open Go.RowKit Go.Proofs.YtnpmjboofmdflaaW.PrintWords Go.Proofs.YtnpmjboofmdflaaW.PrintMore Go.Proofs.Ytnpmjboofmdflaa.Hp

abbrev St := Int × List S42 × List S85 × Int × Int
abbrev Tup := Int × Int × Bool × ByteArray × Int × Int × Bool
def tup : Option S42 → Tup
  | none => (0, 0, false, (⟨#[]⟩ : ByteArray), 0, 0, false)
  | some x => (x.f0, x.f1, x.f2, x.f3, x.f4, x.f5, true)
theorem sdat (a : ByteArray) : a.toList = a.data.toList := ByteArray.toList_eq a
theorem sext {a b : ByteArray} (h : a.toList = b.toList) : a = b := WideShapes.bytes_inj (by rw [← sdat, ← sdat]; exact h)
def fnd (l : List S42) (id : Int) : Option S42 := l.find? (fun x => x.f0 == id)
theorem rds (xs : List S42) (i : Nat) : rd_T42 xs (i : Int) = xs.getD i z42 := by simp [rd_T42]
theorem getD_of {α : Type} (l : List α) (i : Nat) (d : α) (h : i < l.length) : l.getD i d = l[i] := by
  rw [List.getD_eq_getElem?_getD, List.getElem?_eq_getElem h]
  rfl
theorem find_ix (p : S42 → Bool) (l : List S42) : (ixOf p l = -1 ∧ l.find? p = none) ∨ ∃ i : Nat, ixOf p l = (i : Int) ∧ i < l.length ∧ l.find? p = some (l.getD i z42) ∧ p (l.getD i z42) = true ∧ ∀ j, j < i → p (l.getD j z42) = false := by
  unfold ixOf
  by_cases h : l.findIdx p < l.length
  · refine .inr ⟨l.findIdx p, if_pos h, h, ?_, ?_, ?_⟩
    · rw [getD_of _ _ _ h, List.find?_eq_some_iff_getElem]
      refine ⟨List.findIdx_getElem, l.findIdx p, h, rfl, fun j hj => ?_⟩
      simpa using List.not_of_lt_findIdx hj
    · rw [getD_of _ _ _ h]; exact List.findIdx_getElem
    · intro j hj
      rw [getD_of _ _ _ (by omega)]
      simpa using List.not_of_lt_findIdx hj
  · refine .inl ⟨if_neg h, ?_⟩
    rw [List.find?_eq_none]
    intro x hx hp
    exact h (List.findIdx_lt_length.2 ⟨x, hx, hp⟩)
theorem one_eq (p : S42 → Bool) (l : List S42) : api_Session_42.f l (ixOf p l) = some (tup (l.find? p)) := by
  unfold api_Session_42.f
  rcases find_ix p l with ⟨h1, h2⟩ | ⟨i, h1, hl, h2, _, _⟩
  · rw [h1, h2, if_pos (by omega)]; rfl
  · rw [h1, h2, if_neg (by omega), if_pos (by omega), if_pos (by omega), rds]; rfl
theorem at_eq (a : Int) (l : List S42) (h : List S85) (n t id : Int) : session_at.f a l h n t id = some (ixOf (fun x => x.f0 == id) l) := rfl
theorem find_eq (a : Int) (l : List S42) (h : List S85) (n t id : Int) : session_Find.f a l h n t id = some (tup (fnd l id)) := by
  unfold session_Find.f
  rw [at_eq, Option.bind_some, one_eq, Option.bind_some]
  rfl
theorem clone_s (l : List S42) (h : l.length < 2513169434916) : api_Session_48.f l = some l := by
  unfold api_Session_48.f
  rw [Option.bind_some, if_pos (by simpa using h)]
  rfl
def judge (ep qe qs : Int) (o : Option S42) : ByteArray × Int :=
  if qe = ep then
    match o with
    | none => ((⟨#[]⟩ : ByteArray), 7)
    | some x => if qs < 1 then ((⟨#[]⟩ : ByteArray), 15) else if qs = x.f1 then (if x.f2 = true then ((⟨#[]⟩ : ByteArray), 12) else (x.f3, 8)) else if qs = wrap64 (x.f1 + 1) then (if x.f2 = true then ((⟨#[]⟩ : ByteArray), 11) else ((⟨#[]⟩ : ByteArray), 0)) else ((⟨#[]⟩ : ByteArray), 15)
  else ((⟨#[]⟩ : ByteArray), 14)
def Rng (l : List S42) : Prop := ∀ x ∈ l, -9223372036854775808 ≤ x.f1 ∧ x.f1 ≤ 9223372036854775807
theorem fnd_mem {l : List S42} {id : Int} {x : S42} (h : fnd l id = some x) : x ∈ l ∧ x.f0 = id := by
  unfold fnd at h
  exact ⟨List.mem_of_find?_eq_some h, by have := List.find?_some h; simpa using this⟩
theorem judge_ev (a : Int) (l : List S42) (h : List S85) (n t q0 q1 q2 q3 : Int) (q4 : ByteArray) (q5 : Int) (q6 q7 q8 q9 : ByteArray) (q10 : Int) (hr : Rng l) :
    Ev (fun k => session_Judge.f k a l h n t q0 q1 q2 q3 q4 q5 q6 q7 q8 q9 q10) (judge a q1 q3 (fnd l q2)) := by
  refine Ev.of (session_Judge.mono _ _ _ _ _ _ _ _ _ _ _ _ _ _ _ _) (k := 3) ?_
  unfold session_Judge.f
  rw [find_eq, Option.bind_some]
  unfold judge
  by_cases he : q1 = a
  · rw [if_pos he, if_pos he]
    cases hf : fnd l q2 with
    | none => rfl
    | some x =>
      rw [show tup (some x) = (x.f0, x.f1, x.f2, x.f3, x.f4, x.f5, true) from rfl]
      refine (if_pos rfl).trans ?_
      by_cases h1 : q3 < 1
      · refine (if_pos h1).trans ?_
        exact congrArg some (if_pos h1).symm
      · refine (if_neg h1).trans ?_
        refine Eq.trans ?_ (congrArg some (if_neg h1).symm)
        by_cases h2 : q3 = x.f1
        · refine (if_pos h2).trans ?_
          refine Eq.trans ?_ (congrArg some (if_pos h2).symm)
          simp only [session_Judge.j0]
          by_cases h3 : x.f2 = true
          · rw [if_pos h3, if_pos h3]
          · rw [if_neg h3, if_neg h3, if_pos h2]
        · refine (if_neg h2).trans ?_
          refine Eq.trans ?_ (congrArg some (if_neg h2).symm)
          simp only [session_Judge.j0]
          rw [if_neg (by decide), if_neg h2]
          by_cases h4 : q3 = wrap64 (x.f1 + 1)
          · rw [if_pos h4, if_pos h4]
            simp only [session_Judge.j1]
            by_cases h3 : x.f2 = true
            · rw [if_pos h3, if_pos h3]
            · rw [if_neg h3, if_neg h3]
              by_cases h5 : q3 < x.f1
              · exfalso
                have hb := hr x (fnd_mem hf).1
                have hw : wrap64 (x.f1 + 1) = q3 := h4.symm
                unfold wrap64 at hw
                omega
              · rw [if_neg h5, if_pos h4]
          · rw [if_neg h4, if_neg h4]
            simp only [session_Judge.j1]
            rw [if_neg (by decide)]
            by_cases h5 : q3 < x.f1
            · rw [if_pos h5]
            · rw [if_neg h5, if_neg h4]
  · rw [if_neg he, if_neg he]
def upd : List S42 → Int → (S42 → S42) → List S42
  | [], _, _ => []
  | x :: r, id, u => if x.f0 == id then u x :: r else x :: upd r id u
theorem upd_len (id : Int) (u : S42 → S42) : ∀ l : List S42, (upd l id u).length = l.length
  | [] => rfl
  | x :: r => by
    unfold upd
    split
    · rfl
    · simp [upd_len id u r]
theorem upd_set (id : Int) (u : S42 → S42) : ∀ (l : List S42) (i : Nat), i < l.length → (l.getD i z42).f0 = id → (∀ j, j < i → ((l.getD j z42).f0 == id) = false) → l.set i (u (l.getD i z42)) = upd l id u
  | [], i, h, _, _ => absurd h (by simp)
  | x :: r, 0, _, h, _ => by
    have h' : x.f0 = id := h
    simp [upd, h']
  | x :: r, i + 1, hl, h, hn => by
    have h0 : (x.f0 == id) = false := hn 0 (by omega)
    have ih := upd_set id u r i (by simpa using hl) (by simpa using h) (fun j hj => by simpa using hn (j + 1) (by omega))
    unfold upd
    rw [if_neg (by rw [h0]; decide)]
    simpa using ih
def uTake (c : Int) (x : S42) : S42 := ⟨x.f0, wrap64 (x.f1 + 1), true, (⟨#[]⟩ : ByteArray), x.f4, c⟩
def uAnswer (c : ByteArray) (x : S42) : S42 := ⟨x.f0, x.f1, false, c, x.f4, x.f5⟩
def uBind (c : Int) (x : S42) : S42 := ⟨x.f0, x.f1, x.f2, x.f3, c, x.f5⟩
def wth (l : List S42) (id : Int) (u : S42 → S42) : List S42 × Int := match fnd l id with
  | none => (l, 7)
  | some _ => (upd l id u, 0)
theorem wTake_eq (a : Int) (l : List S42) (h : List S85) (n t id c : Int) (hl : l.length < 2513169434916) : session_with_Take.f a l h n t id c = some (a, (wth l id (uTake c)).1, h, n, t, (wth l id (uTake c)).2) := by
  unfold session_with_Take.f wth
  rw [at_eq, Option.bind_some, clone_s l hl]
  rcases find_ix (fun x => x.f0 == id) l with ⟨h1, h2⟩ | ⟨i, h1, hi, h2, h3, h4⟩
  · rw [h1, if_pos (by omega), show fnd l id = none from h2]
  · rw [h1, if_neg (by omega), Option.bind_some, if_pos (by omega), if_pos (by omega), show fnd l id = some _ from h2]
    unfold session_with_Take_at.f
    rw [if_pos (by omega), if_pos (by omega), Option.bind_some, rds, ← upd_set id (uTake c) l i hi (by simpa using h3) h4]
    rfl
theorem wAnswer_eq (a : Int) (l : List S42) (h : List S85) (n t id : Int) (c : ByteArray) (hl : l.length < 2513169434916) : session_with_Answer.f a l h n t id c = some (a, (wth l id (uAnswer c)).1, h, n, t, (wth l id (uAnswer c)).2) := by
  unfold session_with_Answer.f wth
  rw [at_eq, Option.bind_some, clone_s l hl]
  rcases find_ix (fun x => x.f0 == id) l with ⟨h1, h2⟩ | ⟨i, h1, hi, h2, h3, h4⟩
  · rw [h1, if_pos (by omega), show fnd l id = none from h2]
  · rw [h1, if_neg (by omega), Option.bind_some, if_pos (by omega), if_pos (by omega), show fnd l id = some _ from h2]
    unfold session_with_Answer_at.f
    rw [if_pos (by omega), if_pos (by omega), Option.bind_some, rds, ← upd_set id (uAnswer c) l i hi (by simpa using h3) h4]
    rfl
theorem wBind_eq (a : Int) (l : List S42) (h : List S85) (n t id c : Int) (hl : l.length < 2513169434916) : session_with_Bind.f a l h n t id c = some (a, (wth l id (uBind c)).1, h, n, t, (wth l id (uBind c)).2) := by
  unfold session_with_Bind.f wth
  rw [at_eq, Option.bind_some, clone_s l hl]
  rcases find_ix (fun x => x.f0 == id) l with ⟨h1, h2⟩ | ⟨i, h1, hi, h2, h3, h4⟩
  · rw [h1, if_pos (by omega), show fnd l id = none from h2]
  · rw [h1, if_neg (by omega), Option.bind_some, if_pos (by omega), if_pos (by omega), show fnd l id = some _ from h2]
    unfold session_with_Bind_at.f
    rw [if_pos (by omega), if_pos (by omega), Option.bind_some, rds, ← upd_set id (uBind c) l i hi (by simpa using h3) h4]
    rfl
theorem answer_eq (a : Int) (l : List S42) (h : List S85) (n t id : Int) (c : ByteArray) (hl : l.length < 2513169434916) : session_Answer.f a l h n t id c = some (a, (wth l id (uAnswer c)).1, h, n, t, (wth l id (uAnswer c)).2) := by
  unfold session_Answer.f
  rw [wAnswer_eq a l h n t id c hl, Option.bind_some]
theorem bind_eq (a : Int) (l : List S42) (h : List S85) (n t id c : Int) (hl : l.length < 2513169434916) : session_Bind.f a l h n t id c = some (a, (wth l id (uBind c)).1, h, n, t, (wth l id (uBind c)).2) := by
  unfold session_Bind.f
  rw [wBind_eq a l h n t id c hl, Option.bind_some]
def dueAt (t : Int) : Int := if t + 20 < 18446744073709551616 then t + 20 else 18446744073709551615
def ren (h : List S85) (t id : Int) : List S85 := put lt z85 (drops h id []) ⟨dueAt t, id⟩
theorem xor_max (t : Int) (h0 : 0 ≤ t) (h1 : t < 18446744073709551616) : Go.bits .xor .u64 18446744073709551615 t = 18446744073709551615 - t := by
  show IntKind.u64.wrap (((BitVec.ofInt 64 18446744073709551615 ^^^ BitVec.ofInt 64 t).toNat : Nat) : Int) = _
  have e : BitVec.ofInt 64 18446744073709551615 = BitVec.allOnes 64 := by decide
  rw [e, BitVec.allOnes_xor, BitVec.toNat_not, BitVec.toNat_ofInt, IntKind.wrap_u64]
  omega
theorem due_eq (t : Int) (h0 : 0 ≤ t) (h1 : t < 18446744073709551616) : IntKind.u64.wrap (t + mn 20 (Go.bits .xor .u64 18446744073709551615 t)) = dueAt t := by
  rw [xor_max t h0 h1, IntKind.wrap_u64]
  unfold mn dueAt
  split <;> split <;> omega
theorem drops_len (id : Int) : ∀ (xs acc : List S85), (drops xs id acc).length ≤ xs.length + acc.length
  | [], acc => by simp [drops]
  | x :: r, acc => by
    unfold drops
    split
    · have := drops_len id r acc
      simp; omega
    · have := drops_len id r (put lt z85 acc x)
      rw [put_length] at this
      simp; omega
theorem ren_len (h : List S85) (t id : Int) : (ren h t id).length ≤ h.length + 1 := by
  unfold ren
  rw [put_length]
  have := drops_len id h []
  simp at this
  omega
theorem renewed_ev (a : Int) (l : List S42) (h : List S85) (n t id : Int) (hh : h.length < 8796093022207) (h0 : 0 ≤ t) (h1 : t < 18446744073709551616) : Ev (fun k => session_renewed.f k a l h n t id) (a, l, ren h t id, n, t) := by
  unfold session_renewed.f
  refine Ev.bind (drop_ev h id hh) ?_
  rw [due_eq t h0 h1]
  have := drops_len id h []
  exact Ev.bind (put_ev (drops h id []) ⟨dueAt t, id⟩ (by simp at this; omega)) (Ev.now _)
def tk (l : List S42) (h : List S85) (t id c : Int) : List S42 × List S85 × Int := match fnd l id with
  | none => (l, h, 7)
  | some x => if x.f1 ≥ 1073741824 then (l, h, 4) else (upd l id (uTake c), ren h t id, 0)
theorem take_ev (a : Int) (l : List S42) (h : List S85) (n t id c : Int) (hl : l.length < 2513169434916) (hh : h.length < 8796093022207) (h0 : 0 ≤ t) (h1 : t < 18446744073709551616) : Ev (fun k => session_Take.f k a l h n t id c) (a, (tk l h t id c).1, (tk l h t id c).2.1, n, t, (tk l h t id c).2.2) := by
  unfold session_Take.f tk
  rw [find_eq]
  cases hf : fnd l id with
  | none =>
    refine Ev.step (f := fun _ => some (a, l, h, n, t, 7)) (fun k => ?_) (Ev.now _)
    simp only [Option.bind_some, tup]
    rw [if_neg (by decide)]
    simp only [session_Take.j0]
    rw [if_neg (by decide), wTake_eq a l h n t id c hl]
    unfold wth
    rw [hf, Option.bind_some]
    exact (if_neg (show ¬ ((7 : Int) = 0) by decide)).trans rfl
  | some x =>
    by_cases hb : x.f1 ≥ 1073741824
    · refine Ev.step (f := fun _ => some (a, l, h, n, t, 4)) (fun k => ?_) (by simp only [if_pos hb]; exact Ev.now _)
      simp only [Option.bind_some, tup, if_pos]
      simp only [session_Take.j0]
      rw [if_pos (by simpa using hb)]
    · refine Ev.step (f := fun k => (session_renewed.f k a (upd l id (uTake c)) h n t id).bind fun b => some (b.1, b.2.1, b.2.2.1, b.2.2.2.1, b.2.2.2.2, 0)) (fun k => ?_) ?_
      · simp only [Option.bind_some, tup, if_pos]
        simp only [session_Take.j0]
        rw [if_neg (by simpa using hb), wTake_eq a l h n t id c hl]
        unfold wth
        rw [hf, Option.bind_some]
        exact (if_pos (show (0 : Int) = 0 from rfl)).trans rfl
      · simp only [if_neg hb]
        exact Ev.bind (renewed_ev a _ h n t id hh h0 h1) (Ev.now _)
theorem shown17_ev : Ev (fun k => stanchionlaw17_shown.f k) true := Ev.of stanchionlaw17_shown.mono (k := 100) (by decide +kernel)
theorem wf64 {x : Int} (h : (Lit.int .i64 x).wf = true) : -9223372036854775808 ≤ x ∧ x ≤ 9223372036854775807 := by
  have h2 : (decide (IntKind.i64.min ≤ x) && decide (x ≤ IntKind.i64.max)) = true := h
  rw [show IntKind.i64.min = -9223372036854775808 from by decide, show IntKind.i64.max = 9223372036854775807 from by decide, Bool.and_eq_true, decide_eq_true_eq, decide_eq_true_eq] at h2
  exact h2
theorem wfu64 {x : Int} (h : (Lit.int .u64 x).wf = true) : 0 ≤ x ∧ x < 18446744073709551616 := by
  have h2 : (decide (IntKind.u64.min ≤ x) && decide (x ≤ IntKind.u64.max)) = true := h
  rw [show IntKind.u64.min = 0 from by decide, show IntKind.u64.max = 18446744073709551615 from by decide, Bool.and_eq_true, decide_eq_true_eq, decide_eq_true_eq] at h2
  omega
end Go.Proofs.Ytnpmjboofmdflaa.PB
