/- What the session functions of the program and of the document come to, in plain words: who is found, how a request is judged, what taking, answering, binding, renewing, closing make of sessions. -/
import Derived.Test.YtnpmjboofmdflaaPAMz
import Derived.Laws.Strings
import Derived.WideShapes
namespace Go.Proofs.Ytnpmjboofmdflaa.PA
open Go.RowKit Go.Proofs.YtnpmjboofmdflaaW.PrintWords Go.Proofs.YtnpmjboofmdflaaW.PrintMore Go.Proofs.Ytnpmjboofmdflaa.Hp

abbrev St := Int × List S42 × List S85 × Int × Int
abbrev Tup := Int × Int × Bool × ByteArray × Int × Int × Bool
def tup : Option S42 → Tup
  | none => (0, 0, false, (⟨#[]⟩ : ByteArray), 0, 0, false)
  | some x => (x.f0, x.f1, x.f2, x.f3, x.f4, x.f5, true)
theorem sdat (a : ByteArray) : a.toList = a.data.toList := ByteArray.toList_eq a
theorem sext {a b : ByteArray} (h : a.toList = b.toList) : a = b := WideShapes.bytes_inj (by rw [← sdat, ← sdat]; exact h)
def fnd (l : List S42) (id : Int) : Option S42 := l.find? (fun x => x.f0 == id)
theorem rds (xs : List S42) (i : Nat) : rd_T42 xs (i : Int) = xs.getD i z42 := by simp [rd_T42]
theorem getD_of {α : Type} (l : List α) (i : Nat) (d : α) (h : i < l.length) : l.getD i d = l[i] := by
 rw [List.getD_eq_getElem?_getD, List.getElem?_eq_getElem h]
 rfl
theorem find_ix (p : S42 → Bool) (l : List S42) : (ixOf p l = -1 ∧ l.find? p = none) ∨ ∃ i : Nat, ixOf p l = (i : Int) ∧ i < l.length ∧ l.find? p = some (l.getD i z42) ∧ p (l.getD i z42) = true ∧ ∀ j, j < i → p (l.getD j z42) = false := by
 unfold ixOf
 by_cases h : l.findIdx p < l.length
 ·refine .inr ⟨l.findIdx p, if_pos h, h, ?_, ?_, ?_⟩
  ·rw [getD_of _ _ _ h, List.find?_eq_some_iff_getElem]
   refine ⟨List.findIdx_getElem, l.findIdx p, h, rfl, fun j hj => ?_⟩
   simpa using List.not_of_lt_findIdx hj
  ·rw [getD_of _ _ _ h]; exact List.findIdx_getElem
  ·intro j hj
   rw [getD_of _ _ _ (by omega)]
   simpa using List.not_of_lt_findIdx hj
 ·refine .inl ⟨if_neg h, ?_⟩
  rw [List.find?_eq_none]
  intro x hx hp
  exact h (List.findIdx_lt_length.2 ⟨x, hx, hp⟩)
theorem one_eq (p : S42 → Bool) (l : List S42) : api_Session_42.f l (ixOf p l) = some (tup (l.find? p)) := by
 unfold api_Session_42.f
 rcases find_ix p l with ⟨h1, h2⟩ | ⟨i, h1, hl, h2, _, _⟩
 ·rw [h1, h2, if_pos (by omega)]; rfl
 ·rw [h1, h2, if_neg (by omega), if_pos (by omega), if_pos (by omega), rds]; rfl
theorem at_eq (a : Int) (l : List S42) (h : List S85) (n t id : Int) : session_at.f a l h n t id = some (ixOf (fun x => x.f0 == id) l) := rfl
theorem find_eq (a : Int) (l : List S42) (h : List S85) (n t id : Int) : session_Find.f a l h n t id = some (tup (fnd l id)) := by
 unfold session_Find.f
 rw [at_eq, Option.bind_some, one_eq, Option.bind_some]
 rfl
theorem of_eq (a : Int) (l : List S42) (h : List S85) (n t id : Int) : session_Of.f a l h n t id = some (tup (l.find? (fun x => !(id == 0) && x.f4 == id))) := by
 unfold session_Of.f session_Of_ix.f
 rw [Option.bind_some, one_eq, Option.bind_some]
theorem clone_s (l : List S42) (h : l.length < 2513169434916) : api_Session_48.f l = some l := by
 unfold api_Session_48.f
 rw [Option.bind_some, if_pos (by simpa using h)]
 rfl
theorem fnd_mem {l : List S42} {id : Int} {x : S42} (h : fnd l id = some x) : x ∈ l ∧ x.f0 = id := by
 unfold fnd at h
 exact ⟨List.mem_of_find?_eq_some h, by have := List.find?_some h; simpa using this⟩
/-- When one who is renewed is due. -/
def dueAt (t : Int) : Int := if t + 20 < 18446744073709551616 then t + 20 else 18446744073709551615
def ren (h : List S85) (t id : Int) : List S85 := put lt z85 (drops h id []) ⟨dueAt t, id⟩
theorem xor_max (t : Int) (h0 : 0 ≤ t) (h1 : t < 18446744073709551616) : Go.bits .xor .u64 18446744073709551615 t = 18446744073709551615 - t := by
 show IntKind.u64.wrap (((BitVec.ofInt 64 18446744073709551615 ^^^ BitVec.ofInt 64 t).toNat : Nat) : Int) = _
 have e : BitVec.ofInt 64 18446744073709551615 = BitVec.allOnes 64 := by decide
 rw [e, BitVec.allOnes_xor, BitVec.toNat_not, BitVec.toNat_ofInt, IntKind.wrap_u64]
 omega
theorem due_eq (t : Int) (h0 : 0 ≤ t) (h1 : t < 18446744073709551616) : IntKind.u64.wrap (t + mn 20 (Go.bits .xor .u64 18446744073709551615 t)) = dueAt t := by
 rw [xor_max t h0 h1, IntKind.wrap_u64]
 unfold mn dueAt
 split <;> split <;> omega
theorem drops_len (id : Int) : ∀ (xs acc : List S85), (drops xs id acc).length ≤ xs.length + acc.length
 | [], acc => by simp [drops]
 | x :: r, acc => by
  unfold drops
  split
  ·have := drops_len id r acc
   simp; omega
  ·have := drops_len id r (put lt z85 acc x)
   rw [put_length] at this
   simp; omega
theorem ren_len (h : List S85) (t id : Int) : (ren h t id).length ≤ h.length + 1 := by
 unfold ren
 rw [put_length]
 have := drops_len id h []
 simp at this
 omega
theorem renewed_ev (a : Int) (l : List S42) (h : List S85) (n t id : Int) (hh : h.length < 8796093022207) (h0 : 0 ≤ t) (h1 : t < 18446744073709551616) : Ev (fun k => session_renewed.f k a l h n t id) (a, l, ren h t id, n, t) := by
 unfold session_renewed.f
 refine Ev.bind (drop_ev h id hh) ?_
 rw [due_eq t h0 h1]
 have := drops_len id h []
 exact Ev.bind (put_ev (drops h id []) ⟨dueAt t, id⟩ (by simp at this; omega)) (Ev.now _)
/-- Opening: the sessions, the alarms, the next number; the number, the word. -/
def opn_ (l : List S42) (h : List S85) (n t c : Int) : List S42 × List S85 × Int × Int × Int := if (l.length : Int) ≥ 6 then (l, h, n, 0, 11) else if n > 1073741824 then (l, h, n, 0, 4) else (l ++ [⟨n, 0, false, (⟨#[]⟩ : ByteArray), 0, c⟩], ren h t n, wrap64 (n + 1), n, 0)
theorem open_ev (a : Int) (l : List S42) (h : List S85) (n t c : Int) (hl : l.length < 2513169434916) (hh : h.length < 8796093022207) (h0 : 0 ≤ t) (h1 : t < 18446744073709551616) : Ev (fun k => session_Open.f k a l h n t c) (a, (opn_ l h n t c).1, (opn_ l h n t c).2.1, (opn_ l h n t c).2.2.1, t, (opn_ l h n t c).2.2.2.1, (opn_ l h n t c).2.2.2.2) := by
 unfold session_Open.f opn_
 by_cases c1 : (l.length : Int) ≥ 6
 ·simp only [if_pos c1]; exact Ev.now _
 ·simp only [if_neg c1]
  by_cases c2 : n > 1073741824
  ·simp only [if_pos c2]; exact Ev.now _
  ·simp only [if_neg c2]
   rw [clone_s l hl]
   simp only [Option.bind_some, if_pos hl]
   exact Ev.bind (renewed_ev a _ h (wrap64 (n + 1)) t n hh h0 h1) (Ev.now _)
/-- Renewing: the alarms, the word. -/
def rnw (l : List S42) (h : List S85) (t id : Int) : List S85 × Int := match fnd l id with
  | none => (h, 7)
  | some _ => (ren h t id, 0)
theorem at_lt (l : List S42) (id : Int) : (ixOf (fun x => x.f0 == id) l < 0) ↔ fnd l id = none := by
 rcases find_ix (fun x => x.f0 == id) l with ⟨h1, h2⟩ | ⟨i, h1, hi, h2, _, _⟩
 ·rw [h1, show fnd l id = none from h2]; simp
 ·rw [h1, show fnd l id = some _ from h2]; simp
theorem renew_ev (a : Int) (l : List S42) (h : List S85) (n t id : Int) (hh : h.length < 8796093022207) (h0 : 0 ≤ t) (h1 : t < 18446744073709551616) : Ev (fun k => session_Renew.f k a l h n t id) (a, l, (rnw l h t id).1, n, t, (rnw l h t id).2) := by
 unfold session_Renew.f rnw
 rw [at_eq]
 simp only [Option.bind_some]
 cases hf : fnd l id with
 | none => simp only [if_pos ((at_lt l id).2 hf)]; exact Ev.now _
 | some x =>
  have hn : ¬ ixOf (fun x => x.f0 == id) l < 0 := fun hc => by rw [(at_lt l id).1 hc] at hf; cases hf
  simp only [if_neg hn]
  exact Ev.bind (renewed_ev a l h n t id hh h0 h1) (Ev.now _)
def lss (l : List S42) (id : Int) : List S42 := l.filter (fun x => !(x.f0 == id))
theorem lss_len (l : List S42) (id : Int) : (lss l id).length ≤ l.length := List.length_filter_le _ _
theorem without_eq (a : Int) (l : List S42) (h : List S85) (n t id : Int) (hl : l.length < 2513169434916) : session_without.f a l h n t id = some (a, lss l id, h, n, t) := by
 unfold session_without.f session_without_del.f
 rw [clone_s l hl, Option.bind_some, Option.bind_some]
 rfl
def cls (l : List S42) (h : List S85) (id : Int) : List S42 × List S85 × Int := match fnd l id with
  | none => (l, h, 7)
  | some _ => (lss l id, drops h id [], 0)
theorem close_ev (a : Int) (l : List S42) (h : List S85) (n t id : Int) (hl : l.length < 2513169434916) (hh : h.length < 8796093022207) : Ev (fun k => session_Close.f k a l h n t id) (a, (cls l h id).1, (cls l h id).2.1, n, t, (cls l h id).2.2) := by
 unfold session_Close.f cls
 rw [at_eq]
 simp only [Option.bind_some]
 cases hf : fnd l id with
 | none => simp only [if_pos ((at_lt l id).2 hf)]; exact Ev.now _
 | some x =>
  have hn : ¬ ixOf (fun x => x.f0 == id) l < 0 := fun hc => by rw [(at_lt l id).1 hc] at hf; cases hf
  simp only [if_neg hn]
  rw [without_eq a l h n t id hl]
  simp only [Option.bind_some]
  exact Ev.bind (drop_ev h id hh) (Ev.now _)
theorem shown17_ev : Ev (fun k => stanchionlaw17_shown.f k) true := Ev.of stanchionlaw17_shown.mono (k := 100) (by decide +kernel)
theorem wfu64 {x : Int} (h : (Lit.int .u64 x).wf = true) : 0 ≤ x ∧ x < 18446744073709551616 := by
 have h2 : (decide (IntKind.u64.min ≤ x) && decide (x ≤ IntKind.u64.max)) = true := h
 rw [show IntKind.u64.min = 0 from by decide, show IntKind.u64.max = 18446744073709551615 from by decide, Bool.and_eq_true, decide_eq_true_eq, decide_eq_true_eq] at h2
 omega
theorem se_ext {x y : S42} : (x.f0 == y.f0 && (x.f1 == y.f1 && (x.f2 == y.f2 && (x.f3.toList == y.f3.toList && (x.f4 == y.f4 && (x.f5 == y.f5)))))) = true ↔ x = y := by
 obtain ⟨a0, a1, a2, a3, a4, a5⟩ := x
 obtain ⟨b0, b1, b2, b3, b4, b5⟩ := y
 constructor
 ·intro h
  simp only [Bool.and_eq_true, beq_iff_eq] at h
  obtain ⟨rfl, rfl, rfl, h3, rfl, rfl⟩ := h
  rw [sext h3]
 ·intro h
  injection h with h0 h1 h2 h3 h4 h5
  subst h0; subst h1; subst h2; subst h3; subst h4; subst h5
  simp
theorem se_ne (x y : S42) : (!(x.f0 == y.f0) || (!(x.f1 == y.f1) || (!(x.f2 == y.f2) || (!(x.f3.toList == y.f3.toList) || (!(x.f4 == y.f4) || (!(x.f5 == y.f5))))))) = !(x.f0 == y.f0 && (x.f1 == y.f1 && (x.f2 == y.f2 && (x.f3.toList == y.f3.toList && (x.f4 == y.f4 && (x.f5 == y.f5)))))) := by
 simp only [Bool.not_and]
theorem al_ne (x y : S85) : ((!(x.f0 == y.f0) || (!(x.f1 == y.f1))) = true) ↔ x ≠ y := by
 obtain ⟨a0, a1⟩ := x
 obtain ⟨b0, b1⟩ := y
 simp
 constructor
 ·rintro (h | h) e e2
  ·exact h e
  ·exact h e2
 ·intro h
  by_cases e : a0 = b0
  ·exact .inr (h e)
  ·exact .inl e
theorem same_step {α : Type} (xs ys : List α) (d : α) (i : Nat) (hx : i < xs.length) (hy : i < ys.length) : (xs.drop i = ys.drop i) ↔ (xs.getD i d = ys.getD i d ∧ xs.drop (i + 1) = ys.drop (i + 1)) := by
 rw [List.drop_eq_getElem_cons hx, List.drop_eq_getElem_cons hy, getD_of xs i d hx, getD_of ys i d hy, List.cons.injEq]
noncomputable instance : DecidableEq S42 := fun _ _ => Classical.propDecidable _
noncomputable instance : DecidableEq S85 := fun _ _ => Classical.propDecidable _
theorem sl49 (xs ys : List S42) (hl : xs.length = ys.length) (hb : xs.length < 4611686018427387904) : ∀ (d i : Nat), xs.length - i = d → i ≤ xs.length → Ev (fun k => api_Session_49.l0 k xs ys (xs.length : Int) (i : Int)) (decide (xs.drop i = ys.drop i))
 | 0, i, hd, hi => by
  refine Ev.step (f := fun _ => some true) (fun k => by simp only [api_Session_49.l0]; rw [if_neg (by omega)]) ?_
  rw [List.drop_of_length_le (by omega), List.drop_of_length_le (by omega), decide_eq_true rfl]
  exact Ev.now _
 | d + 1, i, hd, hi => by
  have hw : wrap64 ((i : Int) + 1) = ((i + 1 : Nat) : Int) := by unfold wrap64; omega
  by_cases he : xs.getD i z42 = ys.getD i z42
  ·refine Ev.step (f := fun k => api_Session_49.l0 k xs ys (xs.length : Int) ((i + 1 : Nat) : Int)) (fun k => ?_) ?_
   ·simp only [api_Session_49.l0]
    rw [if_pos (by omega), if_pos (by omega), if_pos (by omega), if_pos (by omega), rds, rds, se_ne, se_ext.2 he, if_neg (by decide), hw]
   ·rw [decide_eq_decide.2 (show (xs.drop i = ys.drop i) ↔ (xs.drop (i + 1) = ys.drop (i + 1)) by rw [same_step xs ys z42 i (by omega) (by omega)]; simp only [he, true_and])]
    exact sl49 xs ys hl hb d (i + 1) (by omega) (by omega)
  ·refine Ev.step (f := fun k => some false) (fun k => ?_) ?_
   ·simp only [api_Session_49.l0]
    rw [if_pos (by omega), if_pos (by omega), if_pos (by omega), if_pos (by omega), rds, rds, se_ne, Bool.eq_false_iff.2 (fun h => he (se_ext.1 h)), if_pos (by decide)]
   ·rw [decide_eq_false (fun h => he ((same_step xs ys z42 i (by omega) (by omega)).1 h).1)]
    exact Ev.now _
theorem s49_ev (xs ys : List S42) (hb : xs.length < 4611686018427387904) : Ev (fun k => api_Session_49.f k xs ys) (decide (xs = ys)) := by
 unfold api_Session_49.f
 by_cases hl : xs.length = ys.length
 ·simp only [if_pos (show (xs.length : Int) = (ys.length : Int) by omega)]
  exact sl49 xs ys hl hb xs.length 0 (by omega) (by omega)
 ·simp only [if_neg (show ¬ (xs.length : Int) = (ys.length : Int) by omega)]
  rw [decide_eq_false (fun h => hl (by rw [h]))]
  exact Ev.now _
theorem sl50 (xs ys : List S85) (hl : xs.length = ys.length) (hb : xs.length < 4611686018427387904) : ∀ (d i : Nat), xs.length - i = d → i ≤ xs.length → Ev (fun k => api_Alarm_50.l0 k xs ys (xs.length : Int) (i : Int)) (decide (xs.drop i = ys.drop i))
 | 0, i, hd, hi => by
  refine Ev.step (f := fun _ => some true) (fun k => by simp only [api_Alarm_50.l0]; rw [if_neg (by omega)]) ?_
  rw [List.drop_of_length_le (by omega), List.drop_of_length_le (by omega), decide_eq_true rfl]
  exact Ev.now _
 | d + 1, i, hd, hi => by
  have hw : wrap64 ((i : Int) + 1) = ((i + 1 : Nat) : Int) := by unfold wrap64; omega
  by_cases he : xs.getD i z85 = ys.getD i z85
  ·refine Ev.step (f := fun k => api_Alarm_50.l0 k xs ys (xs.length : Int) ((i + 1 : Nat) : Int)) (fun k => ?_) ?_
   ·simp only [api_Alarm_50.l0]
    rw [if_pos (by omega), if_pos (by omega), if_pos (by omega), if_pos (by omega), rd_nat, rd_nat, if_neg (fun h => (al_ne _ _).1 h he), hw]
   ·rw [decide_eq_decide.2 (show (xs.drop i = ys.drop i) ↔ (xs.drop (i + 1) = ys.drop (i + 1)) by rw [same_step xs ys z85 i (by omega) (by omega)]; simp only [he, true_and])]
    exact sl50 xs ys hl hb d (i + 1) (by omega) (by omega)
  ·refine Ev.step (f := fun k => some false) (fun k => ?_) ?_
   ·simp only [api_Alarm_50.l0]
    rw [if_pos (by omega), if_pos (by omega), if_pos (by omega), if_pos (by omega), rd_nat, rd_nat, if_pos ((al_ne _ _).2 he)]
   ·rw [decide_eq_false (fun h => he ((same_step xs ys z85 i (by omega) (by omega)).1 h).1)]
    exact Ev.now _
theorem s50_ev (xs ys : List S85) (hb : xs.length < 4611686018427387904) : Ev (fun k => api_Alarm_50.f k xs ys) (decide (xs = ys)) := by
 unfold api_Alarm_50.f
 by_cases hl : xs.length = ys.length
 ·simp only [if_pos (show (xs.length : Int) = (ys.length : Int) by omega)]
  exact sl50 xs ys hl hb xs.length 0 (by omega) (by omega)
 ·simp only [if_neg (show ¬ (xs.length : Int) = (ys.length : Int) by omega)]
  rw [decide_eq_false (fun h => hl (by rw [h]))]
  exact Ev.now _
/-- Are two the same? -/
noncomputable def sm (a b : St) : Bool := decide (a.1 = b.1) && (decide (a.2.1 = b.2.1) && (decide (a.2.2.1 = b.2.2.1) && (decide (a.2.2.2.1 = b.2.2.2.1) && decide (a.2.2.2.2 = b.2.2.2.2))))
theorem sm_self (a : St) : sm a a = true := by simp [sm]
theorem sames_ev (a : Int) (l : List S42) (h : List S85) (n t b : Int) (m : List S42) (g : List S85) (n2 t2 : Int) (hl : l.length < 4611686018427387904) (hh : h.length < 4611686018427387904) : Ev (fun k => session_Same.f k a l h n t b m g n2 t2) (sm (a, l, h, n, t) (b, m, g, n2, t2)) := by
 unfold session_Same.f sm
 by_cases c1 : a = b
 ·simp only [if_pos c1, decide_eq_true c1, Bool.true_and]
  refine Ev.bind (s49_ev l m hl) ?_
  by_cases c2 : l = m
  ·simp only [decide_eq_true c2, if_pos, Bool.true_and]
   refine Ev.bind (s50_ev h g hh) ?_
   by_cases c3 : h = g
   ·simp only [decide_eq_true c3, if_pos, Bool.true_and]
    by_cases c4 : n = n2
    ·simp only [if_pos c4, decide_eq_true c4, Bool.true_and]
     exact Ev.now _
    ·simp only [if_neg c4, decide_eq_false c4, Bool.false_and]; exact Ev.now _
   ·simp only [decide_eq_false c3, Bool.false_and]; exact Ev.congr (f := fun _ => some false) (fun _ => by simp) (Ev.now _)
  ·simp only [decide_eq_false c2, Bool.false_and]; exact Ev.congr (f := fun _ => some false) (fun _ => by simp) (Ev.now _)
 ·simp only [if_neg c1, decide_eq_false c1, Bool.false_and]; exact Ev.now _
theorem ssame_ev (a : Int) (l : List S42) (h : List S85) (n t : Int) (hl : l.length < 4611686018427387904) (hh : h.length < 4611686018427387904) : Ev (fun k => session_Same.f k a l h n t a l h n t) true := by
 have := sames_ev a l h n t a l h n t hl hh
 rw [sm_self] at this
 exact this
theorem rat_l0 (a : Int) (l : List S42) (h : List S85) (n t id : Int) (hb : l.length < 4611686018427387904) : ∀ (d i : Nat), l.length - i = d → i ≤ l.length → (∀ j, j < i → ((l.getD j z42).f0 == id) = false) → Ev (fun k => stanchionref17_at.l0 k id (i : Int) a l h n t) (ixOf (fun x => x.f0 == id) l)
 | 0, i, hd, hi, hn => by
  rw [ixOf_miss (fun x => x.f0 == id) l z42 (fun j hj => hn j (by omega))]
  exact Ev.step (f := fun _ => some (-1)) (fun k => by simp only [stanchionref17_at.l0]; rw [if_neg (by omega)]) (Ev.now _)
 | d + 1, i, hd, hi, hn => by
  have hw : wrap64 ((i : Int) + 1) = ((i + 1 : Nat) : Int) := by unfold wrap64; omega
  by_cases he : (l.getD i z42).f0 = id
  ·rw [ixOf_hit (fun x => x.f0 == id) l z42 i (by omega) (by simpa using he) hn]
   exact Ev.step (f := fun _ => some (i : Int)) (fun k => by simp only [stanchionref17_at.l0]; rw [if_pos (by omega), if_pos (by omega), rds, if_pos he]) (Ev.now _)
  ·refine Ev.step (f := fun k => stanchionref17_at.l0 k id ((i + 1 : Nat) : Int) a l h n t) (fun k => by simp only [stanchionref17_at.l0]; rw [if_pos (by omega), if_pos (by omega), rds, if_neg he, hw]) ?_
   refine rat_l0 a l h n t id hb d (i + 1) (by omega) (by omega) (fun j hj => ?_)
   rcases Nat.lt_succ_iff_lt_or_eq.1 hj with hj | rfl
   ·exact hn j hj
   ·simpa using he
theorem rat_ev (a : Int) (l : List S42) (h : List S85) (n t id : Int) (hb : l.length < 4611686018427387904) : Ev (fun k => stanchionref17_at.f k a l h n t id) (ixOf (fun x => x.f0 == id) l) := rat_l0 a l h n t id hb l.length 0 (by omega) (by omega) (fun j hj => absurd hj (by omega))
theorem rfind_ev (a : Int) (l : List S42) (h : List S85) (n t id : Int) (hb : l.length < 4611686018427387904) : Ev (fun k => stanchionref17_Find.f k a l h n t id) (tup (fnd l id)) := by
 unfold stanchionref17_Find.f
 refine Ev.bind (rat_ev a l h n t id hb) ?_
 rcases find_ix (fun x => x.f0 == id) l with ⟨h1, h2⟩ | ⟨i, h1, hl, h2, _, _⟩
 ·rw [h1, show fnd l id = none from h2]; exact Ev.congr (f := fun _ => some (tup none)) (fun _ => if_pos (by omega)) (Ev.now _)
 ·rw [h1, show fnd l id = some _ from h2]
  refine Ev.congr (f := fun _ => some (tup (some (l.getD i z42)))) (fun _ => ?_) (Ev.now _)
  rw [if_neg (by omega), if_pos (by omega), if_pos (by omega), rds]; rfl
theorem rren_ev (a : Int) (l : List S42) (h : List S85) (n t id : Int) (hh : h.length < 8796093022207) (h0 : 0 ≤ t) (h1 : t < 18446744073709551616) : Ev (fun k => stanchionref17_renewed.f k a l h n t id) (a, l, ren h t id, n, t) := by
 unfold stanchionref17_renewed.f
 have hd := drops_len id h []
 simp only [List.length_nil, Nat.add_zero] at hd
 by_cases c : IntKind.u64.wrap (t + 20) < t
 ·simp only [if_pos c]
  have e : dueAt t = 18446744073709551615 := by
   rw [IntKind.wrap_u64] at c
   unfold dueAt
   rw [if_neg (by omega)]
  refine Ev.bind (rdrop_ev h id hh) ?_
  unfold ren
  rw [e]
  exact Ev.bind (rput_ev (drops h id []) ⟨18446744073709551615, id⟩ (by omega)) (Ev.now _)
 ·simp only [if_neg c]
  have e : IntKind.u64.wrap (t + 20) = dueAt t := by
   rw [IntKind.wrap_u64] at c ⊢
   unfold dueAt
   split <;> omega
  rw [e]
  exact Ev.bind (rdrop_ev h id hh) (Ev.bind (rput_ev (drops h id []) ⟨dueAt t, id⟩ (by omega)) (Ev.now _))
theorem ropen_ev (a : Int) (l : List S42) (h : List S85) (n t c : Int) (hl : l.length < 2513169434916) (hh : h.length < 8796093022207) (h0 : 0 ≤ t) (h1 : t < 18446744073709551616) : Ev (fun k => stanchionref17_Open.f k a l h n t c) (a, (opn_ l h n t c).1, (opn_ l h n t c).2.1, (opn_ l h n t c).2.2.1, t, (opn_ l h n t c).2.2.2.1, (opn_ l h n t c).2.2.2.2) := by
 unfold stanchionref17_Open.f opn_
 by_cases c1 : (l.length : Int) ≥ 6
 ·simp only [if_pos c1]; exact Ev.now _
 ·simp only [if_neg c1]
  by_cases c2 : n > 1073741824
  ·simp only [if_pos c2]; exact Ev.now _
  ·simp only [if_neg c2, Option.bind_some, List.length_nil, Nat.zero_add, List.nil_append, if_pos hl]
   exact Ev.bind (rren_ev a _ h (wrap64 (n + 1)) t n hh h0 h1) (Ev.now _)
theorem rrenew_ev (a : Int) (l : List S42) (h : List S85) (n t id : Int) (hl : l.length < 2513169434916) (hh : h.length < 8796093022207) (h0 : 0 ≤ t) (h1 : t < 18446744073709551616) : Ev (fun k => stanchionref17_Renew.f k a l h n t id) (a, l, (rnw l h t id).1, n, t, (rnw l h t id).2) := by
 unfold stanchionref17_Renew.f rnw
 refine Ev.bind (rat_ev a l h n t id (by omega)) ?_
 cases hf : fnd l id with
 | none => simp only [if_pos ((at_lt l id).2 hf)]; exact Ev.now _
 | some x =>
  have hn : ¬ ixOf (fun x => x.f0 == id) l < 0 := fun hc => by rw [(at_lt l id).1 hc] at hf; cases hf
  simp only [if_neg hn]
  exact Ev.bind (rren_ev a l h n t id hh h0 h1) (Ev.now _)
theorem rless_l0 (a : Int) (l : List S42) (h : List S85) (n t id : Int) (hb : l.length < 2513169434916) : ∀ (d i : Nat) (acc : List S42), l.length - i = d → i ≤ l.length → acc.length ≤ i → Ev (fun k => stanchionref17_less.l0 k id acc (i : Int) a l h n t) (a, acc ++ lss (l.drop i) id, h, n, t)
 | 0, i, acc, hd, hi, ha => by
  refine Ev.step (f := fun _ => some (a, acc, h, n, t)) (fun k => by simp only [stanchionref17_less.l0]; rw [if_neg (by omega)]) ?_
  rw [List.drop_of_length_le (by omega)]
  simp only [lss, List.filter_nil, List.append_nil]
  exact Ev.now _
 | d + 1, i, acc, hd, hi, ha => by
  have hw : wrap64 ((i : Int) + 1) = ((i + 1 : Nat) : Int) := by unfold wrap64; omega
  have hdr : l.drop i = l.getD i z42 :: l.drop (i + 1) := by rw [List.drop_eq_getElem_cons (by omega), getD_of l i z42 (by omega)]
  by_cases he : (l.getD i z42).f0 = id
  ·refine Ev.step (f := fun k => stanchionref17_less.l0 k id acc ((i + 1 : Nat) : Int) a l h n t) (fun k => by simp only [stanchionref17_less.l0]; rw [if_pos (by omega), if_pos (by omega), rds, if_pos he, hw]) ?_
   have e : lss (l.drop i) id = lss (l.drop (i + 1)) id := by rw [hdr]; unfold lss; rw [List.filter_cons_of_neg (by rw [beq_iff_eq.2 he]; decide)]
   rw [e]
   exact rless_l0 a l h n t id hb d (i + 1) acc (by omega) (by omega) (by omega)
  ·refine Ev.step (f := fun k => stanchionref17_less.l0 k id (acc ++ [l.getD i z42]) ((i + 1 : Nat) : Int) a l h n t) (fun k => by simp only [stanchionref17_less.l0]; rw [if_pos (by omega), if_pos (by omega), rds, if_neg he, if_pos (by omega), hw]) ?_
   have e : acc ++ lss (l.drop i) id = (acc ++ [l.getD i z42]) ++ lss (l.drop (i + 1)) id := by rw [hdr]; unfold lss; rw [List.filter_cons_of_pos (by rw [beq_eq_false_iff_ne.2 he]; rfl)]; simp
   rw [e]
   exact rless_l0 a l h n t id hb d (i + 1) _ (by omega) (by omega) (by simp; omega)
theorem rless_ev (a : Int) (l : List S42) (h : List S85) (n t id : Int) (hb : l.length < 2513169434916) : Ev (fun k => stanchionref17_less.f k a l h n t id) (a, lss l id, h, n, t) := by
 have := rless_l0 a l h n t id hb l.length 0 [] (by omega) (by omega) (by simp)
 rw [List.nil_append, List.drop_zero] at this
 exact this
theorem rclose_ev (a : Int) (l : List S42) (h : List S85) (n t id : Int) (hl : l.length < 2513169434916) (hh : h.length < 8796093022207) : Ev (fun k => stanchionref17_Close.f k a l h n t id) (a, (cls l h id).1, (cls l h id).2.1, n, t, (cls l h id).2.2) := by
 unfold stanchionref17_Close.f cls
 refine Ev.bind (rat_ev a l h n t id (by omega)) ?_
 cases hf : fnd l id with
 | none => simp only [if_pos ((at_lt l id).2 hf)]; exact Ev.now _
 | some x =>
  have hn : ¬ ixOf (fun x => x.f0 == id) l < 0 := fun hc => by rw [(at_lt l id).1 hc] at hf; cases hf
  simp only [if_neg hn]
  exact Ev.bind (rless_ev a l h n t id hl) (Ev.bind (rdrop_ev h id hh) (Ev.now _))
/-- What time makes of sessions: those that stay, those that go. -/
def tck : List Int → List S42 → List S42 → List S42 × List S42
  | [], l, out => (l, out)
  | i :: r, l, out => match fnd l i with
    | none => tck r l out
    | some x => tck r (lss l i) (out ++ [x])
theorem tick_l0 (a n t : Int) (h : List S85) (ids : List Int) (hb : ids.length < 8796093022207) : ∀ (d i : Nat) (l out : List S42), ids.length - i = d → i ≤ ids.length → out.length + l.length < 2513169434916 → Ev (fun k => session_Tick.l0 k out ids (ids.length : Int) (i : Int) a l h n t) (a, (tck (ids.drop i) l out).1, h, n, t, (tck (ids.drop i) l out).2)
 | 0, i, l, out, hd, hi, hc => by
  refine Ev.step (f := fun _ => some (a, l, h, n, t, out)) (fun k => by simp only [session_Tick.l0]; rw [if_neg (by omega)]) ?_
  rw [List.drop_of_length_le (by omega)]
  exact Ev.now _
 | d + 1, i, l, out, hd, hi, hc => by
  have hw : wrap64 ((i : Int) + 1) = ((i + 1 : Nat) : Int) := by unfold wrap64; omega
  have hr : rd ids (i : Int) = ids[i] := by unfold rd; rw [Int.toNat_natCast]; exact getD_of ids i 0 (by omega)
  have hdr : ids.drop i = ids[i] :: ids.drop (i + 1) := List.drop_eq_getElem_cons (by omega)
  rw [hdr]
  unfold tck
  cases hf : fnd l ids[i] with
  | none =>
   refine Ev.step (f := fun k => session_Tick.l0 k out ids (ids.length : Int) ((i + 1 : Nat) : Int) a l h n t) (fun k => ?_) (tick_l0 a n t h ids hb d (i + 1) l out (by omega) (by omega) hc)
   simp only [session_Tick.l0]
   rw [if_pos (by omega), if_pos (by omega), if_pos (by omega), hr, find_eq, hf, Option.bind_some, hw]
   exact if_neg (by decide)
  | some x =>
   have hx := fnd_mem hf
   have hlt : (lss l ids[i]).length < l.length := by
    unfold lss
    rw [List.length_filter_lt_length_iff_exists]
    exact ⟨x, hx.1, by simp [hx.2]⟩
   refine Ev.step (f := fun k => session_Tick.l0 k (out ++ [x]) ids (ids.length : Int) ((i + 1 : Nat) : Int) a (lss l ids[i]) h n t) (fun k => ?_) (tick_l0 a n t h ids hb d (i + 1) (lss l ids[i]) (out ++ [x]) (by omega) (by omega) (by simp; omega))
   simp only [session_Tick.l0]
   rw [if_pos (by omega), if_pos (by omega), if_pos (by omega), hr, find_eq, hf, Option.bind_some, hw]
   refine (if_pos rfl).trans ?_
   rw [if_pos (by omega), without_eq a l h n t ids[i] (by omega)]
   rfl
def tkAll (l : List S42) (h : List S85) (t : Int) : List S42 × List S42 := tck (dueIds h.length h t) l []
theorem tick_ev (a : Int) (l : List S42) (h : List S85) (n t now : Int) (hl : l.length < 2513169434916) (hh : h.length < 8796093022207) : Ev (fun k => session_Tick.f k a l h n t now) (a, (tkAll l h (mx t now)).1, due h.length h (mx t now), n, mx t now, (tkAll l h (mx t now)).2) := by
 unfold session_Tick.f
 refine Ev.bind (due_ev h (mx t now) (by omega)) ?_
 have hd := due_length h.length h (mx t now)
 have := tick_l0 a n (mx t now) (due h.length h (mx t now)) (dueIds h.length h (mx t now)) (by omega) _ 0 l [] rfl (by omega) (by simpa using hl)
 exact this
theorem rtick_l0 (a n t : Int) (h : List S85) (ids : List Int) (hb : ids.length < 8796093022207) : ∀ (d i : Nat) (l out : List S42), ids.length - i = d → i ≤ ids.length → out.length + l.length < 2513169434916 → Ev (fun k => stanchionref17_Tick.l0 k ids out (i : Int) a l h n t) (a, (tck (ids.drop i) l out).1, h, n, t, (tck (ids.drop i) l out).2)
 | 0, i, l, out, hd, hi, hc => by
  refine Ev.step (f := fun _ => some (a, l, h, n, t, out)) (fun k => by simp only [stanchionref17_Tick.l0]; rw [if_neg (by omega)]) ?_
  rw [List.drop_of_length_le (by omega)]
  exact Ev.now _
 | d + 1, i, l, out, hd, hi, hc => by
  have hw : wrap64 ((i : Int) + 1) = ((i + 1 : Nat) : Int) := by unfold wrap64; omega
  have hr : rd ids (i : Int) = ids[i] := by unfold rd; rw [Int.toNat_natCast]; exact getD_of ids i 0 (by omega)
  have hdr : ids.drop i = ids[i] :: ids.drop (i + 1) := List.drop_eq_getElem_cons (by omega)
  rw [hdr]
  have F := rfind_ev a l h n t ids[i] (by omega)
  refine Ev.step (f := fun k => (stanchionref17_Find.f k a l h n t ids[i]).bind fun b => if b.2.2.2.2.2.2 = true then (if out.length < 2513169434916 then ((stanchionref17_less.f k a l h n t ids[i]).bind fun z => stanchionref17_Tick.l0 k ids (out ++ [(⟨b.1, b.2.1, b.2.2.1, b.2.2.2.1, b.2.2.2.2.1, b.2.2.2.2.2.1⟩ : S42)]) ((i + 1 : Nat) : Int) z.1 z.2.1 z.2.2.1 z.2.2.2.1 z.2.2.2.2) else none) else stanchionref17_Tick.l0 k ids out ((i + 1 : Nat) : Int) a l h n t) (fun k => ?_) (Ev.bind F ?_)
  ·simp only [stanchionref17_Tick.l0]
   rw [if_pos (by omega), if_pos (by omega), hr, hw]
  ·unfold tck
   cases hf : fnd l ids[i] with
   | none => exact Ev.congr (fun k => if_neg (by decide)) (rtick_l0 a n t h ids hb d (i + 1) l out (by omega) (by omega) hc)
   | some x =>
    have hx := fnd_mem hf
    have hlt : (lss l ids[i]).length < l.length := by
     unfold lss
     rw [List.length_filter_lt_length_iff_exists]
     exact ⟨x, hx.1, by simp [hx.2]⟩
    refine Ev.congr (f := fun k => (stanchionref17_less.f k a l h n t ids[i]).bind fun z => stanchionref17_Tick.l0 k ids (out ++ [x]) ((i + 1 : Nat) : Int) z.1 z.2.1 z.2.2.1 z.2.2.2.1 z.2.2.2.2) (fun k => (if_pos rfl).trans (if_pos (by omega))) ?_
    exact Ev.bind (rless_ev a l h n t ids[i] (by omega)) (rtick_l0 a n t h ids hb d (i + 1) (lss l ids[i]) (out ++ [x]) (by omega) (by omega) (by simp; omega))
theorem rtick_ev (a : Int) (l : List S42) (h : List S85) (n t now : Int) (hl : l.length < 2513169434916) (hh : h.length < 8796093022207) : Ev (fun k => stanchionref17_Tick.f k a l h n t now) (a, (tkAll l h (mx t now)).1, due h.length h (mx t now), n, mx t now, (tkAll l h (mx t now)).2) := by
 have main : ∀ u : Int, Ev (fun k => stanchionref17_Tick.j0 k a l h n u) (a, (tkAll l h u).1, due h.length h u, n, u, (tkAll l h u).2) := fun u => by
  refine Ev.step (f := fun k => (stanchionref15_Due.f k h u).bind fun b => stanchionref17_Tick.l0 k b.2 ([] : List S42) 0 a l b.1 n u) (fun k => by simp only [stanchionref17_Tick.j0]) (Ev.bind (rdue_ev h u (by omega)) ?_)
  have hd := due_length h.length h u
  exact rtick_l0 a n u (due h.length h u) (dueIds h.length h u) (by omega) _ 0 l [] rfl (by omega) (by simpa using hl)
 unfold stanchionref17_Tick.f mx
 by_cases c : now > t
 ·rw [if_pos (show t < now from c)]; simp only [if_pos c]; exact main now
 ·rw [if_neg (show ¬ t < now from c)]; simp only [if_neg c]; exact main t
theorem rof_l0 (a : Int) (l : List S42) (h : List S85) (n t id : Int) (hb : l.length < 4611686018427387904) : ∀ (d i : Nat), l.length - i = d → i ≤ l.length → Ev (fun k => stanchionref17_Of.l0 k id (i : Int) a l h n t) (tup ((l.drop i).find? (fun x => !(id == 0) && x.f4 == id)))
 | 0, i, hd, hi => by
  rw [List.drop_of_length_le (by omega)]
  exact Ev.step (f := fun k => stanchionref17_Of.j1 k id (i : Int) false a l h n t) (fun k => by simp only [stanchionref17_Of.l0]; rw [if_neg (by omega)]) (Ev.step (f := fun _ => some (tup none)) (fun k => by simp only [stanchionref17_Of.j1]; rw [if_neg (by decide)]; rfl) (Ev.now _))
 | d + 1, i, hd, hi => by
  have hw : wrap64 ((i : Int) + 1) = ((i + 1 : Nat) : Int) := by unfold wrap64; omega
  have hdr : l.drop i = l.getD i z42 :: l.drop (i + 1) := by rw [List.drop_eq_getElem_cons (by omega), getD_of l i z42 (by omega)]
  refine Ev.step (f := fun k => stanchionref17_Of.j1 k id (i : Int) (id != 0) a l h n t) (fun k => by simp only [stanchionref17_Of.l0]; rw [if_pos (by omega)]) ?_
  rw [hdr, List.find?_cons]
  by_cases h0 : id = 0
  ·subst h0
   have e : (l.drop (i + 1)).find? (fun x => !((0 : Int) == 0) && x.f4 == 0) = none := List.find?_eq_none.2 (fun x _ => by simp)
   simp only [beq_self_eq_true, Bool.not_true, Bool.false_and] at e ⊢
   rw [e]
   exact Ev.step (f := fun _ => some (tup none)) (fun k => by simp only [stanchionref17_Of.j1]; rw [if_neg (by decide)]; rfl) (Ev.now _)
  ·have h1 : (id != 0) = true := bne_iff_ne.2 h0
   have h2 : (id == 0) = false := beq_eq_false_iff_ne.2 h0
   rw [h1]
   by_cases he : (l.getD i z42).f4 = id
   ·rw [show (!(id == 0) && (l.getD i z42).f4 == id) = true by rw [h2, beq_iff_eq.2 he]; rfl]
    exact Ev.step (f := fun _ => some (tup (some (l.getD i z42)))) (fun k => by simp only [stanchionref17_Of.j1]; rw [if_pos trivial, if_pos (by omega), if_pos (by omega), rds, if_pos he]; rfl) (Ev.now _)
   ·rw [show (!(id == 0) && (l.getD i z42).f4 == id) = false by rw [beq_eq_false_iff_ne.2 he, Bool.and_false]]
    exact Ev.step (f := fun k => stanchionref17_Of.l0 k id ((i + 1 : Nat) : Int) a l h n t) (fun k => by simp only [stanchionref17_Of.j1]; rw [if_pos trivial, if_pos (by omega), if_pos (by omega), rds, if_neg he, hw]) (rof_l0 a l h n t id hb d (i + 1) (by omega) (by omega))
theorem rof_ev (a : Int) (l : List S42) (h : List S85) (n t id : Int) (hb : l.length < 4611686018427387904) : Ev (fun k => stanchionref17_Of.f k a l h n t id) (tup (l.find? (fun x => !(id == 0) && x.f4 == id))) := rof_l0 a l h n t id hb l.length 0 (by omega) (by omega)
theorem rses_l0 (xs ys : List S42) (hl : xs.length = ys.length) (hb : xs.length < 4611686018427387904) : ∀ (d i : Nat), xs.length - i = d → i ≤ xs.length → Ev (fun k => stanchionref17_Sessions.l0 k xs ys (i : Int)) (decide (xs.drop i = ys.drop i))
 | 0, i, hd, hi => by
  refine Ev.step (f := fun _ => some true) (fun k => by simp only [stanchionref17_Sessions.l0]; rw [if_neg (by omega)]) ?_
  rw [List.drop_of_length_le (by omega), List.drop_of_length_le (by omega), decide_eq_true rfl]
  exact Ev.now _
 | d + 1, i, hd, hi => by
  have hw : wrap64 ((i : Int) + 1) = ((i + 1 : Nat) : Int) := by unfold wrap64; omega
  by_cases he : xs.getD i z42 = ys.getD i z42
  ·refine Ev.step (f := fun k => stanchionref17_Sessions.l0 k xs ys ((i + 1 : Nat) : Int)) (fun k => ?_) ?_
   ·simp only [stanchionref17_Sessions.l0]
    rw [if_pos (by omega), if_pos (by omega), if_pos (by omega), rds, rds, se_ne, se_ext.2 he, if_neg (by decide), hw]
   ·rw [decide_eq_decide.2 (show (xs.drop i = ys.drop i) ↔ (xs.drop (i + 1) = ys.drop (i + 1)) by rw [same_step xs ys z42 i (by omega) (by omega)]; simp only [he, true_and])]
    exact rses_l0 xs ys hl hb d (i + 1) (by omega) (by omega)
  ·refine Ev.step (f := fun k => some false) (fun k => ?_) ?_
   ·simp only [stanchionref17_Sessions.l0]
    rw [if_pos (by omega), if_pos (by omega), if_pos (by omega), rds, rds, se_ne, Bool.eq_false_iff.2 (fun h => he (se_ext.1 h)), if_pos (by decide)]
   ·rw [decide_eq_false (fun h => he ((same_step xs ys z42 i (by omega) (by omega)).1 h).1)]
    exact Ev.now _
theorem rses_ev (xs ys : List S42) (hb : xs.length < 4611686018427387904) : Ev (fun k => stanchionref17_Sessions.f k xs ys) (decide (xs = ys)) := by
 unfold stanchionref17_Sessions.f
 by_cases hl : xs.length = ys.length
 ·simp only [if_pos (show (xs.length : Int) = (ys.length : Int) by omega)]
  exact rses_l0 xs ys hl hb xs.length 0 (by omega) (by omega)
 ·simp only [if_neg (show ¬ (xs.length : Int) = (ys.length : Int) by omega)]
  rw [decide_eq_false (fun h => hl (by rw [h]))]
  exact Ev.now _
theorem ral_l0 (xs ys : List S85) (hl : xs.length = ys.length) (hb : xs.length < 4611686018427387904) : ∀ (d i : Nat), xs.length - i = d → i ≤ xs.length → Ev (fun k => stanchionref15_Same.l0 k xs ys (i : Int)) (decide (xs.drop i = ys.drop i))
 | 0, i, hd, hi => by
  refine Ev.step (f := fun _ => some true) (fun k => by simp only [stanchionref15_Same.l0]; rw [if_neg (by omega)]) ?_
  rw [List.drop_of_length_le (by omega), List.drop_of_length_le (by omega), decide_eq_true rfl]
  exact Ev.now _
 | d + 1, i, hd, hi => by
  have hw : wrap64 ((i : Int) + 1) = ((i + 1 : Nat) : Int) := by unfold wrap64; omega
  by_cases he : xs.getD i z85 = ys.getD i z85
  ·refine Ev.step (f := fun k => stanchionref15_Same.l0 k xs ys ((i + 1 : Nat) : Int)) (fun k => ?_) ?_
   ·simp only [stanchionref15_Same.l0]
    rw [if_pos (by omega), if_pos (by omega), if_pos (by omega), rd_nat, rd_nat, if_neg (fun h => (al_ne _ _).1 h he), hw]
   ·rw [decide_eq_decide.2 (show (xs.drop i = ys.drop i) ↔ (xs.drop (i + 1) = ys.drop (i + 1)) by rw [same_step xs ys z85 i (by omega) (by omega)]; simp only [he, true_and])]
    exact ral_l0 xs ys hl hb d (i + 1) (by omega) (by omega)
  ·refine Ev.step (f := fun k => some false) (fun k => ?_) ?_
   ·simp only [stanchionref15_Same.l0]
    rw [if_pos (by omega), if_pos (by omega), if_pos (by omega), rd_nat, rd_nat, if_pos ((al_ne _ _).2 he)]
   ·rw [decide_eq_false (fun h => he ((same_step xs ys z85 i (by omega) (by omega)).1 h).1)]
    exact Ev.now _
theorem ral_ev (xs ys : List S85) (hb : xs.length < 4611686018427387904) : Ev (fun k => stanchionref15_Same.f k xs ys) (decide (xs = ys)) := by
 unfold stanchionref15_Same.f
 by_cases hl : xs.length = ys.length
 ·simp only [if_pos (show (xs.length : Int) = (ys.length : Int) by omega)]
  exact ral_l0 xs ys hl hb xs.length 0 (by omega) (by omega)
 ·simp only [if_neg (show ¬ (xs.length : Int) = (ys.length : Int) by omega)]
  rw [decide_eq_false (fun h => hl (by rw [h]))]
  exact Ev.now _
theorem rsames_ev (a : Int) (l : List S42) (h : List S85) (n t b : Int) (m : List S42) (g : List S85) (n2 t2 : Int) (hl : l.length < 4611686018427387904) (hh : h.length < 4611686018427387904) : Ev (fun k => stanchionref17_Same.f k a l h n t b m g n2 t2) (sm (a, l, h, n, t) (b, m, g, n2, t2)) := by
 unfold stanchionref17_Same.f sm
 refine Ev.bind (rses_ev l m hl) (Ev.bind (ral_ev h g hh) ?_)
 by_cases c2 : l = m
 ·simp only [decide_eq_true c2, if_pos, Bool.true_and]
  by_cases c3 : h = g
  ·simp only [decide_eq_true c3, if_pos, Bool.true_and]
   by_cases c1 : a = b
   ·simp only [if_pos c1, decide_eq_true c1, Bool.true_and]
    by_cases c4 : n = n2
    ·simp only [if_pos c4, decide_eq_true c4, Bool.true_and]
     exact Ev.now _
    ·simp only [if_neg c4, decide_eq_false c4, Bool.false_and]; exact Ev.now _
   ·simp only [if_neg c1, decide_eq_false c1, Bool.false_and]; exact Ev.now _
  ·simp only [decide_eq_false c3, Bool.false_and, Bool.and_false]; exact Ev.congr (f := fun _ => some false) (fun _ => by simp) (Ev.now _)
 ·simp only [decide_eq_false c2, Bool.false_and, Bool.and_false]; exact Ev.congr (f := fun _ => some false) (fun _ => by simp) (Ev.now _)
theorem rsame_self (a : Int) (l : List S42) (h : List S85) (n t : Int) (hl : l.length < 4611686018427387904) (hh : h.length < 4611686018427387904) : Ev (fun k => stanchionref17_Same.f k a l h n t a l h n t) true := by
 have := rsames_ev a l h n t a l h n t hl hh
 rw [sm_self] at this
 exact this
end Go.Proofs.Ytnpmjboofmdflaa.PA
