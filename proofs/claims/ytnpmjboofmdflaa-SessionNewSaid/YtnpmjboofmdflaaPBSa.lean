/- What the session functions of the program and of the document come to, in plain words: who is found, how a request is judged, what taking, answering, binding, renewing, closing make of sessions. -/
import Derived.Test.YtnpmjboofmdflaaMC
import Derived.Laws.Strings
import Derived.WideShapes
namespace Go.Proofs.Ytnpmjboofmdflaa.PB
open Go.RowKit Go.Proofs.YtnpmjboofmdflaaW.PrintWords Go.Proofs.YtnpmjboofmdflaaW.PrintMore Go.Proofs.Ytnpmjboofmdflaa.Hp

abbrev St := Int × List S42 × List S85 × Int × Int
abbrev Tup := Int × Int × Bool × ByteArray × Int × Int × Bool
def tup : Option S42 → Tup
  | none => (0, 0, false, (⟨#[]⟩ : ByteArray), 0, 0, false)
  | some x => (x.f0, x.f1, x.f2, x.f3, x.f4, x.f5, true)
theorem sdat (a : ByteArray) : a.toList = a.data.toList := ByteArray.toList_eq a
theorem sext {a b : ByteArray} (h : a.toList = b.toList) : a = b := WideShapes.bytes_inj (by rw [← sdat, ← sdat]; exact h)
theorem snil : (⟨#[]⟩ : ByteArray).toList = [] := by rw [sdat]
def fnd (l : List S42) (id : Int) : Option S42 := l.find? (fun x => x.f0 == id)
theorem rds (xs : List S42) (i : Nat) : rd_T42 xs (i : Int) = xs.getD i z42 := by simp [rd_T42]
theorem getD_of {α : Type} (l : List α) (i : Nat) (d : α) (h : i < l.length) : l.getD i d = l[i] := by
  rw [List.getD_eq_getElem?_getD, List.getElem?_eq_getElem h]
  rfl
theorem find_ix (p : S42 → Bool) (l : List S42) : (ixOf p l = -1 ∧ l.find? p = none) ∨ ∃ i : Nat, ixOf p l = (i : Int) ∧ i < l.length ∧ l.find? p = some (l.getD i z42) ∧ p (l.getD i z42) = true ∧ ∀ j, j < i → p (l.getD j z42) = false := by
  unfold ixOf
  by_cases h : l.findIdx p < l.length
  · refine .inr ⟨l.findIdx p, if_pos h, h, ?_, ?_, ?_⟩
    · rw [getD_of _ _ _ h, List.find?_eq_some_iff_getElem]
      refine ⟨List.findIdx_getElem, l.findIdx p, h, rfl, fun j hj => ?_⟩
      simpa using List.not_of_lt_findIdx hj
    · rw [getD_of _ _ _ h]; exact List.findIdx_getElem
    · intro j hj
      rw [getD_of _ _ _ (by omega)]
      simpa using List.not_of_lt_findIdx hj
  · refine .inl ⟨if_neg h, ?_⟩
    rw [List.find?_eq_none]
    intro x hx hp
    exact h (List.findIdx_lt_length.2 ⟨x, hx, hp⟩)
theorem one_eq (p : S42 → Bool) (l : List S42) : api_Session_42.f l (ixOf p l) = some (tup (l.find? p)) := by
  unfold api_Session_42.f
  rcases find_ix p l with ⟨h1, h2⟩ | ⟨i, h1, hl, h2, _, _⟩
  · rw [h1, h2, if_pos (by omega)]; rfl
  · rw [h1, h2, if_neg (by omega), if_pos (by omega), if_pos (by omega), rds]; rfl
theorem at_eq (a : Int) (l : List S42) (h : List S85) (n t id : Int) : session_at.f a l h n t id = some (ixOf (fun x => x.f0 == id) l) := rfl
theorem find_eq (a : Int) (l : List S42) (h : List S85) (n t id : Int) : session_Find.f a l h n t id = some (tup (fnd l id)) := by
  unfold session_Find.f
  rw [at_eq, Option.bind_some, one_eq, Option.bind_some]
  rfl
theorem clone_s (l : List S42) (h : l.length < 2513169434916) : api_Session_48.f l = some l := by
  unfold api_Session_48.f
  rw [Option.bind_some, if_pos (by simpa using h)]
  rfl
/-- When one who is renewed is due. -/
def dueAt (t : Int) : Int := if t + 20 < 18446744073709551616 then t + 20 else 18446744073709551615
def ren (h : List S85) (t id : Int) : List S85 := put lt z85 (drops h id []) ⟨dueAt t, id⟩
theorem xor_max (t : Int) (h0 : 0 ≤ t) (h1 : t < 18446744073709551616) : Go.bits .xor .u64 18446744073709551615 t = 18446744073709551615 - t := by
  show IntKind.u64.wrap (((BitVec.ofInt 64 18446744073709551615 ^^^ BitVec.ofInt 64 t).toNat : Nat) : Int) = _
  have e : BitVec.ofInt 64 18446744073709551615 = BitVec.allOnes 64 := by decide
  rw [e, BitVec.allOnes_xor, BitVec.toNat_not, BitVec.toNat_ofInt, IntKind.wrap_u64]
  omega
theorem due_eq (t : Int) (h0 : 0 ≤ t) (h1 : t < 18446744073709551616) : IntKind.u64.wrap (t + mn 20 (Go.bits .xor .u64 18446744073709551615 t)) = dueAt t := by
  rw [xor_max t h0 h1, IntKind.wrap_u64]
  unfold mn dueAt
  split <;> split <;> omega
theorem drops_len (id : Int) : ∀ (xs acc : List S85), (drops xs id acc).length ≤ xs.length + acc.length
  | [], acc => by simp [drops]
  | x :: r, acc => by
    unfold drops
    split
    · have := drops_len id r acc
      simp; omega
    · have := drops_len id r (put lt z85 acc x)
      rw [put_length] at this
      simp; omega
theorem renewed_ev (a : Int) (l : List S42) (h : List S85) (n t id : Int) (hh : h.length < 8796093022207) (h0 : 0 ≤ t) (h1 : t < 18446744073709551616) : Ev (fun k => session_renewed.f k a l h n t id) (a, l, ren h t id, n, t) := by
  unfold session_renewed.f
  refine Ev.bind (drop_ev h id hh) ?_
  rw [due_eq t h0 h1]
  have := drops_len id h []
  exact Ev.bind (put_ev (drops h id []) ⟨dueAt t, id⟩ (by simp at this; omega)) (Ev.now _)
/-- Opening: the sessions, the alarms, the next number; the number, the word. -/
def opn_ (l : List S42) (h : List S85) (n t c : Int) : List S42 × List S85 × Int × Int × Int := if (l.length : Int) ≥ 6 then (l, h, n, 0, 11) else if n > 1073741824 then (l, h, n, 0, 4) else (l ++ [⟨n, 0, false, (⟨#[]⟩ : ByteArray), 0, c⟩], ren h t n, wrap64 (n + 1), n, 0)
theorem open_ev (a : Int) (l : List S42) (h : List S85) (n t c : Int) (hl : l.length < 2513169434916) (hh : h.length < 8796093022207) (h0 : 0 ≤ t) (h1 : t < 18446744073709551616) : Ev (fun k => session_Open.f k a l h n t c) (a, (opn_ l h n t c).1, (opn_ l h n t c).2.1, (opn_ l h n t c).2.2.1, t, (opn_ l h n t c).2.2.2.1, (opn_ l h n t c).2.2.2.2) := by
  unfold session_Open.f opn_
  by_cases c1 : (l.length : Int) ≥ 6
  · simp only [if_pos c1]; exact Ev.now _
  · simp only [if_neg c1]
    by_cases c2 : n > 1073741824
    · simp only [if_pos c2]; exact Ev.now _
    · simp only [if_neg c2]
      rw [clone_s l hl]
      simp only [Option.bind_some, if_pos hl]
      exact Ev.bind (renewed_ev a _ h (wrap64 (n + 1)) t n hh h0 h1) (Ev.now _)
theorem shown17_ev : Ev (fun k => stanchionlaw17_shown.f k) true := Ev.of stanchionlaw17_shown.mono (k := 100) (by decide +kernel)
theorem wf64 {x : Int} (h : (Lit.int .i64 x).wf = true) : -9223372036854775808 ≤ x ∧ x ≤ 9223372036854775807 := by
  have h2 : (decide (IntKind.i64.min ≤ x) && decide (x ≤ IntKind.i64.max)) = true := h
  rw [show IntKind.i64.min = -9223372036854775808 from by decide, show IntKind.i64.max = 9223372036854775807 from by decide, Bool.and_eq_true, decide_eq_true_eq, decide_eq_true_eq] at h2
  exact h2
theorem wfu64 {x : Int} (h : (Lit.int .u64 x).wf = true) : 0 ≤ x ∧ x < 18446744073709551616 := by
  have h2 : (decide (IntKind.u64.min ≤ x) && decide (x ≤ IntKind.u64.max)) = true := h
  rw [show IntKind.u64.min = 0 from by decide, show IntKind.u64.max = 18446744073709551615 from by decide, Bool.and_eq_true, decide_eq_true_eq, decide_eq_true_eq] at h2
  omega
end Go.Proofs.Ytnpmjboofmdflaa.PB
