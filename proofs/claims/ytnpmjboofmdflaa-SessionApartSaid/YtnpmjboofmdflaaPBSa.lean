/- What the session functions of the program and of the document come to, in plain words: who is found, how a request is judged, what taking, answering, binding, renewing, closing make of sessions. -/
import Derived.Test.YtnpmjboofmdflaaMC
import Derived.Laws.Strings
import Derived.WideShapes
namespace Go.Proofs.Ytnpmjboofmdflaa.PB
open Go.RowKit Go.Proofs.YtnpmjboofmdflaaW.PrintWords Go.Proofs.YtnpmjboofmdflaaW.PrintMore Go.Proofs.Ytnpmjboofmdflaa.Hp

abbrev Tup := Int × Int × Bool × ByteArray × Int × Int × Bool
def tup : Option S42 → Tup
  | none => (0, 0, false, (⟨#[]⟩ : ByteArray), 0, 0, false)
  | some x => (x.f0, x.f1, x.f2, x.f3, x.f4, x.f5, true)
def fnd (l : List S42) (id : Int) : Option S42 := l.find? (fun x => x.f0 == id)
theorem rds (xs : List S42) (i : Nat) : rd_T42 xs (i : Int) = xs.getD i z42 := by simp [rd_T42]
theorem getD_of {α : Type} (l : List α) (i : Nat) (d : α) (h : i < l.length) : l.getD i d = l[i] := by
  rw [List.getD_eq_getElem?_getD, List.getElem?_eq_getElem h]
  rfl
theorem find_ix (p : S42 → Bool) (l : List S42) : (ixOf p l = -1 ∧ l.find? p = none) ∨ ∃ i : Nat, ixOf p l = (i : Int) ∧ i < l.length ∧ l.find? p = some (l.getD i z42) ∧ p (l.getD i z42) = true ∧ ∀ j, j < i → p (l.getD j z42) = false := by
  unfold ixOf
  by_cases h : l.findIdx p < l.length
  · refine .inr ⟨l.findIdx p, if_pos h, h, ?_, ?_, ?_⟩
    · rw [getD_of _ _ _ h, List.find?_eq_some_iff_getElem]
      refine ⟨List.findIdx_getElem, l.findIdx p, h, rfl, fun j hj => ?_⟩
      simpa using List.not_of_lt_findIdx hj
    · rw [getD_of _ _ _ h]; exact List.findIdx_getElem
    · intro j hj
      rw [getD_of _ _ _ (by omega)]
      simpa using List.not_of_lt_findIdx hj
  · refine .inl ⟨if_neg h, ?_⟩
    rw [List.find?_eq_none]
    intro x hx hp
    exact h (List.findIdx_lt_length.2 ⟨x, hx, hp⟩)
theorem one_eq (p : S42 → Bool) (l : List S42) : api_Session_42.f l (ixOf p l) = some (tup (l.find? p)) := by
  unfold api_Session_42.f
  rcases find_ix p l with ⟨h1, h2⟩ | ⟨i, h1, hl, h2, _, _⟩
  · rw [h1, h2, if_pos (by omega)]; rfl
  · rw [h1, h2, if_neg (by omega), if_pos (by omega), if_pos (by omega), rds]; rfl
theorem at_eq (a : Int) (l : List S42) (h : List S85) (n t id : Int) : session_at.f a l h n t id = some (ixOf (fun x => x.f0 == id) l) := rfl
theorem find_eq (a : Int) (l : List S42) (h : List S85) (n t id : Int) : session_Find.f a l h n t id = some (tup (fnd l id)) := by
  unfold session_Find.f
  rw [at_eq, Option.bind_some, one_eq, Option.bind_some]
  rfl
theorem clone_s (l : List S42) (h : l.length < 2513169434916) : api_Session_48.f l = some l := by
  unfold api_Session_48.f
  rw [Option.bind_some, if_pos (by simpa using h)]
  rfl
/-- A session turned. -/
def upd : List S42 → Int → (S42 → S42) → List S42
  | [], _, _ => []
  | x :: r, id, u => if x.f0 == id then u x :: r else x :: upd r id u
theorem upd_len (id : Int) (u : S42 → S42) : ∀ l : List S42, (upd l id u).length = l.length
  | [] => rfl
  | x :: r => by
    unfold upd
    split
    · rfl
    · simp [upd_len id u r]
theorem upd_set (id : Int) (u : S42 → S42) : ∀ (l : List S42) (i : Nat), i < l.length → (l.getD i z42).f0 = id → (∀ j, j < i → ((l.getD j z42).f0 == id) = false) → l.set i (u (l.getD i z42)) = upd l id u
  | [], i, h, _, _ => absurd h (by simp)
  | x :: r, 0, _, h, _ => by
    have h' : x.f0 = id := h
    simp [upd, h']
  | x :: r, i + 1, hl, h, hn => by
    have h0 : (x.f0 == id) = false := hn 0 (by omega)
    have ih := upd_set id u r i (by simpa using hl) (by simpa using h) (fun j hj => by simpa using hn (j + 1) (by omega))
    unfold upd
    rw [if_neg (by rw [h0]; decide)]
    simpa using ih
theorem fnd_upd (id : Int) (u : S42 → S42) (hu : ∀ x, (u x).f0 = x.f0) (o : Int) : ∀ l : List S42, fnd (upd l id u) o = if o = id then (fnd l id).map u else fnd l o
  | [] => by simp [upd, fnd]
  | x :: r => by
    have ih := fnd_upd id u hu o r
    unfold fnd at ih ⊢
    unfold upd
    by_cases hx : x.f0 = id
    · rw [if_pos (by simp [hx]), List.find?_cons, List.find?_cons, hu]
      by_cases ho : o = id
      · subst ho; simp [hx]
      · have h1 : (x.f0 == o) = false := by simp; intro h; exact ho (h ▸ hx)
        rw [if_neg ho, h1, List.find?_cons, h1]
    · rw [if_neg (by simp [hx]), List.find?_cons, List.find?_cons, ih]
      by_cases ho : o = id
      · subst ho
        have h1 : (x.f0 == o) = false := by simp [hx]
        rw [if_pos rfl, if_pos rfl, h1]
      · rw [if_neg ho, if_neg ho, List.find?_cons]
def uTake (c : Int) (x : S42) : S42 := ⟨x.f0, wrap64 (x.f1 + 1), true, (⟨#[]⟩ : ByteArray), x.f4, c⟩
def uAnswer (c : ByteArray) (x : S42) : S42 := ⟨x.f0, x.f1, false, c, x.f4, x.f5⟩
def uBind (c : Int) (x : S42) : S42 := ⟨x.f0, x.f1, x.f2, x.f3, c, x.f5⟩
def wth (l : List S42) (id : Int) (u : S42 → S42) : List S42 × Int := match fnd l id with
  | none => (l, 7)
  | some _ => (upd l id u, 0)
theorem wTake_eq (a : Int) (l : List S42) (h : List S85) (n t id c : Int) (hl : l.length < 2513169434916) : session_with_Take.f a l h n t id c = some (a, (wth l id (uTake c)).1, h, n, t, (wth l id (uTake c)).2) := by
  unfold session_with_Take.f wth
  rw [at_eq, Option.bind_some, clone_s l hl]
  rcases find_ix (fun x => x.f0 == id) l with ⟨h1, h2⟩ | ⟨i, h1, hi, h2, h3, h4⟩
  · rw [h1, if_pos (by omega), show fnd l id = none from h2]
  · rw [h1, if_neg (by omega), Option.bind_some, if_pos (by omega), if_pos (by omega), show fnd l id = some _ from h2]
    unfold session_with_Take_at.f
    rw [if_pos (by omega), if_pos (by omega), Option.bind_some, rds, ← upd_set id (uTake c) l i hi (by simpa using h3) h4]
    rfl
theorem wAnswer_eq (a : Int) (l : List S42) (h : List S85) (n t id : Int) (c : ByteArray) (hl : l.length < 2513169434916) : session_with_Answer.f a l h n t id c = some (a, (wth l id (uAnswer c)).1, h, n, t, (wth l id (uAnswer c)).2) := by
  unfold session_with_Answer.f wth
  rw [at_eq, Option.bind_some, clone_s l hl]
  rcases find_ix (fun x => x.f0 == id) l with ⟨h1, h2⟩ | ⟨i, h1, hi, h2, h3, h4⟩
  · rw [h1, if_pos (by omega), show fnd l id = none from h2]
  · rw [h1, if_neg (by omega), Option.bind_some, if_pos (by omega), if_pos (by omega), show fnd l id = some _ from h2]
    unfold session_with_Answer_at.f
    rw [if_pos (by omega), if_pos (by omega), Option.bind_some, rds, ← upd_set id (uAnswer c) l i hi (by simpa using h3) h4]
    rfl
theorem wBind_eq (a : Int) (l : List S42) (h : List S85) (n t id c : Int) (hl : l.length < 2513169434916) : session_with_Bind.f a l h n t id c = some (a, (wth l id (uBind c)).1, h, n, t, (wth l id (uBind c)).2) := by
  unfold session_with_Bind.f wth
  rw [at_eq, Option.bind_some, clone_s l hl]
  rcases find_ix (fun x => x.f0 == id) l with ⟨h1, h2⟩ | ⟨i, h1, hi, h2, h3, h4⟩
  · rw [h1, if_pos (by omega), show fnd l id = none from h2]
  · rw [h1, if_neg (by omega), Option.bind_some, if_pos (by omega), if_pos (by omega), show fnd l id = some _ from h2]
    unfold session_with_Bind_at.f
    rw [if_pos (by omega), if_pos (by omega), Option.bind_some, rds, ← upd_set id (uBind c) l i hi (by simpa using h3) h4]
    rfl
theorem answer_eq (a : Int) (l : List S42) (h : List S85) (n t id : Int) (c : ByteArray) (hl : l.length < 2513169434916) : session_Answer.f a l h n t id c = some (a, (wth l id (uAnswer c)).1, h, n, t, (wth l id (uAnswer c)).2) := by
  unfold session_Answer.f
  rw [wAnswer_eq a l h n t id c hl, Option.bind_some]
theorem bind_eq (a : Int) (l : List S42) (h : List S85) (n t id c : Int) (hl : l.length < 2513169434916) : session_Bind.f a l h n t id c = some (a, (wth l id (uBind c)).1, h, n, t, (wth l id (uBind c)).2) := by
  unfold session_Bind.f
  rw [wBind_eq a l h n t id c hl, Option.bind_some]
/-- When one who is renewed is due. -/
def dueAt (t : Int) : Int := if t + 20 < 18446744073709551616 then t + 20 else 18446744073709551615
def ren (h : List S85) (t id : Int) : List S85 := put lt z85 (drops h id []) ⟨dueAt t, id⟩
theorem xor_max (t : Int) (h0 : 0 ≤ t) (h1 : t < 18446744073709551616) : Go.bits .xor .u64 18446744073709551615 t = 18446744073709551615 - t := by
  show IntKind.u64.wrap (((BitVec.ofInt 64 18446744073709551615 ^^^ BitVec.ofInt 64 t).toNat : Nat) : Int) = _
  have e : BitVec.ofInt 64 18446744073709551615 = BitVec.allOnes 64 := by decide
  rw [e, BitVec.allOnes_xor, BitVec.toNat_not, BitVec.toNat_ofInt, IntKind.wrap_u64]
  omega
theorem due_eq (t : Int) (h0 : 0 ≤ t) (h1 : t < 18446744073709551616) : IntKind.u64.wrap (t + mn 20 (Go.bits .xor .u64 18446744073709551615 t)) = dueAt t := by
  rw [xor_max t h0 h1, IntKind.wrap_u64]
  unfold mn dueAt
  split <;> split <;> omega
theorem drops_len (id : Int) : ∀ (xs acc : List S85), (drops xs id acc).length ≤ xs.length + acc.length
  | [], acc => by simp [drops]
  | x :: r, acc => by
    unfold drops
    split
    · have := drops_len id r acc
      simp; omega
    · have := drops_len id r (put lt z85 acc x)
      rw [put_length] at this
      simp; omega
theorem ren_len (h : List S85) (t id : Int) : (ren h t id).length ≤ h.length + 1 := by
  unfold ren
  rw [put_length]
  have := drops_len id h []
  simp at this
  omega
theorem renewed_ev (a : Int) (l : List S42) (h : List S85) (n t id : Int) (hh : h.length < 8796093022207) (h0 : 0 ≤ t) (h1 : t < 18446744073709551616) : Ev (fun k => session_renewed.f k a l h n t id) (a, l, ren h t id, n, t) := by
  unfold session_renewed.f
  refine Ev.bind (drop_ev h id hh) ?_
  rw [due_eq t h0 h1]
  have := drops_len id h []
  exact Ev.bind (put_ev (drops h id []) ⟨dueAt t, id⟩ (by simp at this; omega)) (Ev.now _)
/-- Taking: the sessions, the alarms, the word. -/
def tk (l : List S42) (h : List S85) (t id c : Int) : List S42 × List S85 × Int := match fnd l id with
  | none => (l, h, 7)
  | some x => if x.f1 ≥ 1073741824 then (l, h, 4) else (upd l id (uTake c), ren h t id, 0)
theorem take_ev (a : Int) (l : List S42) (h : List S85) (n t id c : Int) (hl : l.length < 2513169434916) (hh : h.length < 8796093022207) (h0 : 0 ≤ t) (h1 : t < 18446744073709551616) : Ev (fun k => session_Take.f k a l h n t id c) (a, (tk l h t id c).1, (tk l h t id c).2.1, n, t, (tk l h t id c).2.2) := by
  unfold session_Take.f tk
  rw [find_eq]
  cases hf : fnd l id with
  | none =>
    refine Ev.step (f := fun _ => some (a, l, h, n, t, 7)) (fun k => ?_) (Ev.now _)
    simp only [Option.bind_some, tup]
    rw [if_neg (by decide)]
    simp only [session_Take.j0]
    rw [if_neg (by decide), wTake_eq a l h n t id c hl]
    unfold wth
    rw [hf, Option.bind_some]
    exact (if_neg (show ¬ ((7 : Int) = 0) by decide)).trans rfl
  | some x =>
    by_cases hb : x.f1 ≥ 1073741824
    · refine Ev.step (f := fun _ => some (a, l, h, n, t, 4)) (fun k => ?_) (by simp only [if_pos hb]; exact Ev.now _)
      simp only [Option.bind_some, tup, if_pos]
      simp only [session_Take.j0]
      rw [if_pos (by simpa using hb)]
    · refine Ev.step (f := fun k => (session_renewed.f k a (upd l id (uTake c)) h n t id).bind fun b => some (b.1, b.2.1, b.2.2.1, b.2.2.2.1, b.2.2.2.2, 0)) (fun k => ?_) ?_
      · simp only [Option.bind_some, tup, if_pos]
        simp only [session_Take.j0]
        rw [if_neg (by simpa using hb), wTake_eq a l h n t id c hl]
        unfold wth
        rw [hf, Option.bind_some]
        exact (if_pos (show (0 : Int) = 0 from rfl)).trans rfl
      · simp only [if_neg hb]
        exact Ev.bind (renewed_ev a _ h n t id hh h0 h1) (Ev.now _)
theorem at_lt (l : List S42) (id : Int) : (ixOf (fun x => x.f0 == id) l < 0) ↔ fnd l id = none := by
  rcases find_ix (fun x => x.f0 == id) l with ⟨h1, h2⟩ | ⟨i, h1, hi, h2, _, _⟩
  · rw [h1, show fnd l id = none from h2]; simp
  · rw [h1, show fnd l id = some _ from h2]; simp
def lss (l : List S42) (id : Int) : List S42 := l.filter (fun x => !(x.f0 == id))
theorem fnd_lss (id o : Int) : ∀ l : List S42, fnd (lss l id) o = if o = id then none else fnd l o
  | [] => by simp [lss, fnd]
  | x :: r => by
    have ih := fnd_lss id o r
    unfold fnd lss at ih ⊢
    by_cases hx : x.f0 = id
    · rw [List.filter_cons_of_neg (by simp [hx]), ih]
      by_cases ho : o = id
      · rw [if_pos ho, if_pos ho]
      · rw [if_neg ho, if_neg ho, List.find?_cons]
        have h1 : (x.f0 == o) = false := by simp; intro h; exact ho (h ▸ hx)
        rw [h1]
    · rw [List.filter_cons_of_pos (by simp [hx]), List.find?_cons, ih]
      by_cases ho : o = id
      · subst ho
        have h1 : (x.f0 == o) = false := by simp [hx]
        rw [h1, if_pos rfl, if_pos rfl]
      · rw [if_neg ho, if_neg ho, List.find?_cons]
theorem without_eq (a : Int) (l : List S42) (h : List S85) (n t id : Int) (hl : l.length < 2513169434916) : session_without.f a l h n t id = some (a, lss l id, h, n, t) := by
  unfold session_without.f session_without_del.f
  rw [clone_s l hl, Option.bind_some, Option.bind_some]
  rfl
def cls (l : List S42) (h : List S85) (id : Int) : List S42 × List S85 × Int := match fnd l id with
  | none => (l, h, 7)
  | some _ => (lss l id, drops h id [], 0)
theorem close_ev (a : Int) (l : List S42) (h : List S85) (n t id : Int) (hl : l.length < 2513169434916) (hh : h.length < 8796093022207) : Ev (fun k => session_Close.f k a l h n t id) (a, (cls l h id).1, (cls l h id).2.1, n, t, (cls l h id).2.2) := by
  unfold session_Close.f cls
  rw [at_eq]
  simp only [Option.bind_some]
  cases hf : fnd l id with
  | none => simp only [if_pos ((at_lt l id).2 hf)]; exact Ev.now _
  | some x =>
    have hn : ¬ ixOf (fun x => x.f0 == id) l < 0 := fun hc => by rw [(at_lt l id).1 hc] at hf; cases hf
    simp only [if_neg hn]
    rw [without_eq a l h n t id hl]
    simp only [Option.bind_some]
    exact Ev.bind (drop_ev h id hh) (Ev.now _)
theorem shown17_ev : Ev (fun k => stanchionlaw17_shown.f k) true := Ev.of stanchionlaw17_shown.mono (k := 100) (by decide +kernel)
theorem wfu64 {x : Int} (h : (Lit.int .u64 x).wf = true) : 0 ≤ x ∧ x < 18446744073709551616 := by
  have h2 : (decide (IntKind.u64.min ≤ x) && decide (x ≤ IntKind.u64.max)) = true := h
  rw [show IntKind.u64.min = 0 from by decide, show IntKind.u64.max = 18446744073709551615 from by decide, Bool.and_eq_true, decide_eq_true_eq, decide_eq_true_eq] at h2
  omega
end Go.Proofs.Ytnpmjboofmdflaa.PB
