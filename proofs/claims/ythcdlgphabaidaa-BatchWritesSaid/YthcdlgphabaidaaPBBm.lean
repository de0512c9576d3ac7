/- What batch.May, batch.Do, batch.Same and the document's come to. -/
import Derived.Test.YthcdlgphabaidaaPBx2
import Derived.Test.YthcdlgphabaidaaPBTr
namespace Go.Proofs.Ythcdlgphabaidaa.PB
open Go.RowKit Go.Proofs.YthcdlgphabaidaaW.PrintWords
set_option linter.unusedVariables false
set_option linter.unusedSimpArgs false

theorem ev_eq {α : Type} {g : Nat → Option α} {r s : α} (h : Ev g r) (e : r = s) : Ev g s := e ▸ h
theorem shown_ev : Ev (fun k => stanchionlaw07_shown.f k) true := Ev.of (k := 100) (fun k => stanchionlaw07_shown.mono k) (by decide +kernel)
theorem rdw_get (xs : List S54) (i : Nat) (h : i < xs.length) : rd_T54 xs (i : Int) = xs[i] := by simp [rd_T54, List.getD_eq_getElem?_getD, h]
theorem wrap_pred (i : Nat) (h0 : 1 ≤ i) (h : i < 4611686018427387904) : wrap64 ((i : Int) - 1) = ((i - 1 : Nat) : Int) := by unfold wrap64; omega
def okW (x : S54) : Bool := decide (1 ≤ x.f0.size) && (decide (x.f0.size ≤ 32) && (decide (x.f1.size ≤ 64) && !(x.f2 && (x.f1.toList != ([] : List UInt8)))))
theorem may1_eq (x : S54) : (batch_May_1.f x.f0 x.f1 x.f2).getD false = !okW x := by
  unfold batch_May_1.f okW
  by_cases h1 : 1 ≤ x.f0.size
  · rw [if_neg (by omega), decide_eq_true h1]
    by_cases h2 : x.f0.size ≤ 32
    · rw [if_neg (by omega), decide_eq_true h2]
      by_cases h3 : x.f1.size ≤ 64
      · rw [if_neg (by omega), decide_eq_true h3]
        cases x.f2 <;> simp
      · rw [if_pos (by omega), decide_eq_false h3]; rfl
    · rw [if_pos (by omega), decide_eq_false h2]; rfl
  · rw [if_pos (by omega), decide_eq_false h1]; rfl
def risesW : List S54 → Bool
  | x :: y :: r => ltS x.f0 y.f0 && risesW (y :: r)
  | _ => true
theorem any_okW (l : List S54) : (l.any fun x => (batch_May_1.f x.f0 x.f1 x.f2).getD false) = !l.all okW := by
  induction l with
  | nil => rfl
  | cons x r ih => rw [List.any_cons, ih, may1_eq, List.all_cons, Bool.not_and]
theorem may_l0 (a0 : Int) (a1 : ByteArray) : ∀ (n : Nat) (l : List S54) (i : Nat), l.length - i ≤ n → 1 ≤ i → l.length < 4611686018427387904 →
    Ev (fun k => batch_May.l0 k (i : Int) a0 a1 l) (risesW (l.drop (i - 1)) && l.all okW) := by
  intro n
  have done : ∀ (l : List S54) (i : Nat), l.length ≤ i → 1 ≤ i → Ev (fun k => batch_May.l0 k (i : Int) a0 a1 l) (risesW (l.drop (i - 1)) && l.all okW) := fun l i h h1 => by
    have e : risesW (l.drop (i - 1)) = true := by
      rcases Nat.lt_or_ge (i - 1) l.length with h2 | h2
      · rw [List.drop_eq_getElem_cons h2, List.drop_of_length_le (by omega)]; rfl
      · rw [List.drop_of_length_le h2]; rfl
    rw [e, Bool.true_and]
    refine Ev.step (f := fun k => some (l.all okW)) (fun k => ?_) (Ev.now _)
    simp only [batch_May.l0]
    rw [if_neg (by omega)]
    unfold batch_May_has.f
    rw [Option.bind_some, any_okW, Bool.not_not]
  induction n with
  | zero => intro l i hn h1 hl; exact done l i (by omega) h1
  | succ n ih =>
    intro l i hn h1 hl
    rcases Nat.lt_or_ge i l.length with h | h
    · have hp : i - 1 < l.length := by omega
      have hs : i - 1 + 1 = i := by omega
      rw [List.drop_eq_getElem_cons hp, hs, List.drop_eq_getElem_cons h]
      have e : risesW (l[i - 1] :: l[i] :: l.drop (i + 1)) = (ltS (l[i - 1]).f0 (l[i]).f0 && risesW (l.drop i)) := by
        rw [List.drop_eq_getElem_cons h]; rfl
      rw [e]
      cases hlt : ltS (l[i - 1]).f0 (l[i]).f0 with
      | true =>
        rw [Bool.true_and]
        refine Ev.step (f := fun k => batch_May.l0 k ((i + 1 : Nat) : Int) a0 a1 l) (fun k => ?_) (ih l (i + 1) (by omega) (by omega) hl)
        simp only [batch_May.l0]
        rw [if_pos (by omega), wrap_pred i h1 (by omega), if_pos (by omega), if_pos (by omega), if_pos (by omega), rdw_get _ _ hp, rdw_get _ _ h, if_pos (show Op.bytesLess (l[i - 1]).f0.toList (l[i]).f0.toList = true from hlt), wrap_succ i (by omega)]
      | false =>
        rw [Bool.false_and, Bool.false_and]
        refine Ev.step (f := fun k => some false) (fun k => ?_) (Ev.now _)
        simp only [batch_May.l0]
        rw [if_pos (by omega), wrap_pred i h1 (by omega), if_pos (by omega), if_pos (by omega), if_pos (by omega), rdw_get _ _ hp, rdw_get _ _ h, if_neg (by rw [show Op.bytesLess (l[i - 1]).f0.toList (l[i]).f0.toList = false from hlt]; decide)]
    · exact done l i h h1
def mayB (a0 : Int) (a1 : ByteArray) (l : List S54) : Bool :=
  (decide (a0 = 1) || decide (a0 = 2)) && (decide (1 ≤ a1.size) && (decide (a1.size ≤ 16) && (decide (l.length ≤ 24) && (!(decide (a0 = 2) && decide (0 < l.length)) && (risesW l && l.all okW)))))
theorem may_j0 (a0 : Int) (a1 : ByteArray) (l : List S54) (b : Bool) (hl : l.length < 4611686018427387904) : Ev (fun k => batch_May.j0 k b a0 a1 l) (!b && (risesW l && l.all okW)) := by
  cases b with
  | true => exact Ev.step (f := fun k => some false) (fun k => by simp only [batch_May.j0]; rw [if_pos trivial]) (Ev.now _)
  | false =>
    have := may_l0 a0 a1 l.length l 1 (by omega) (by omega) hl
    exact Ev.step (f := fun k => batch_May.l0 k ((1 : Nat) : Int) a0 a1 l) (fun k => by simp only [batch_May.j0]; rw [if_neg (by decide)]; rfl) this
theorem may_ev (a0 : Int) (a1 : ByteArray) (l : List S54) (hl : l.length < 4611686018427387904) : Ev (fun k => batch_May.f k a0 a1 l) (mayB a0 a1 l) := by
  have J := may_j0 a0 a1 l
  unfold mayB
  by_cases h1 : a0 = 1
  · have n2 : ¬ a0 = 2 := by omega
    by_cases t1 : 1 ≤ a1.size
    · by_cases t2 : a1.size ≤ 16
      · by_cases t3 : l.length ≤ 24
        · refine Ev.congr (fun k => ?_) (ev_eq (J false hl) (by simp [h1, t1, t2, t3]))
          unfold batch_May.f; rw [if_pos h1, if_neg (by omega), if_neg (by omega), if_neg (by omega), if_neg n2]
        · refine Ev.congr (fun k => ?_) (ev_eq (J true hl) (by simp [t3]))
          unfold batch_May.f; rw [if_pos h1, if_neg (by omega), if_neg (by omega), if_pos (by omega)]
      · refine Ev.congr (fun k => ?_) (ev_eq (J true hl) (by simp [t2]))
        unfold batch_May.f; rw [if_pos h1, if_neg (by omega), if_pos (by omega)]
    · refine Ev.congr (fun k => ?_) (ev_eq (J true hl) (by simp [t1]))
      unfold batch_May.f; rw [if_pos h1, if_pos (by omega)]
  · by_cases h2 : a0 = 2
    · by_cases t1 : 1 ≤ a1.size
      · by_cases t2 : a1.size ≤ 16
        · by_cases t3 : l.length ≤ 24
          · refine Ev.congr (fun k => ?_) (ev_eq (J (decide ((l.length : Int) > 0)) hl) ?_)
            · unfold batch_May.f; rw [if_neg h1, if_pos h2, if_neg (by omega), if_neg (by omega), if_neg (by omega)]
            · simp [h2, t1, t2, t3]
          · refine Ev.congr (fun k => ?_) (ev_eq (J true hl) (by simp [t3]))
            unfold batch_May.f; rw [if_neg h1, if_pos h2, if_neg (by omega), if_neg (by omega), if_pos (by omega)]
        · refine Ev.congr (fun k => ?_) (ev_eq (J true hl) (by simp [t2]))
          unfold batch_May.f; rw [if_neg h1, if_pos h2, if_neg (by omega), if_pos (by omega)]
      · refine Ev.congr (fun k => ?_) (ev_eq (J true hl) (by simp [t1]))
        unfold batch_May.f; rw [if_neg h1, if_pos h2, if_pos (by omega)]
    · refine Ev.congr (fun k => ?_) (ev_eq (J true hl) (by simp [h1, h2]))
      unfold batch_May.f; rw [if_neg h1, if_neg h2]
def howB (a0 : Int) : ByteArray := if a0 = 2 then (⟨#[103]⟩ : ByteArray) else (⟨#[99]⟩ : ByteArray)
def doL (d t : List S68) (a0 : Int) (a1 : ByteArray) (ws : List S54) : List S68 × List S68 × Int :=
  if mayB a0 a1 ws = true then (if (findL t a1).2 = true then (d, t, 8) else (ws.foldl stepW d, putL68 t a1 (howB a0), 0)) else (d, t, 1)
theorem decided_eq (d t : List S68) (a : ByteArray) (ht : t.length < 4611686018427387904) : batch_Decided.f d t a = some (findL t a) := by
  unfold batch_Decided.f
  rw [find_eq t a ht]; rfl
theorem do_ev (d t : List S68) (a0 : Int) (a1 : ByteArray) (ws : List S54) (hd : d.length + ws.length < 4398046511104) (ht : t.length < 4398046511104) : Ev (fun k => batch_Do.f k d t a0 a1 ws) (doL d t a0 a1 ws) := by
  unfold batch_Do.f doL
  refine Ev.bind (may_ev a0 a1 ws (by omega)) ?_
  cases mayB a0 a1 ws with
  | false => exact Ev.now _
  | true =>
    simp only [if_pos, decided_eq d t a1 (show t.length < 4611686018427387904 by omega), Option.bind_some]
    by_cases hf : (findL t a1).2 = true
    · simp only [if_pos hf]; exact Ev.now _
    · simp only [if_neg hf]
      unfold howB
      by_cases h2 : a0 = 2
      · simp only [if_pos h2, apply_eq d ws hd, put_eq t _ _ ht, Option.bind_some]; exact Ev.now _
      · simp only [if_neg h2, apply_eq d ws hd, put_eq t _ _ ht, Option.bind_some]; exact Ev.now _
/- the same, where the rows may be as long as any that comes in: a batch that may be has 24 writes at most -/
theorem mayB_len {a0 : Int} {a1 : ByteArray} {ws : List S54} (h : mayB a0 a1 ws = true) : ws.length ≤ 24 := by
  unfold mayB at h
  simp only [Bool.and_eq_true, Bool.or_eq_true, decide_eq_true_eq] at h
  omega
theorem do_ev_s (d t : List S68) (a0 : Int) (a1 : ByteArray) (ws : List S54) (hd : d.length ≤ 4398046511000) (hw : ws.length < 4611686018427387904) (ht : t.length < 4398046511104) : Ev (fun k => batch_Do.f k d t a0 a1 ws) (doL d t a0 a1 ws) := by
  cases hm : mayB a0 a1 ws with
  | true => have := mayB_len hm; exact do_ev d t a0 a1 ws (by omega) ht
  | false =>
    unfold batch_Do.f doL
    refine Ev.bind (may_ev a0 a1 ws hw) ?_
    simp only [hm, if_neg (show ¬ (false = true) by decide)]
    exact Ev.now _
theorem doL_len (d t : List S68) (a0 : Int) (a1 : ByteArray) (ws : List S54) : (doL d t a0 a1 ws).1.length ≤ d.length + ws.length ∧ (doL d t a0 a1 ws).2.1.length ≤ t.length + 1 := by
  unfold doL
  have h1 := fold_len ws d
  have h2 := put_len t a1 (howB a0)
  split
  · split
    · constructor <;> simp <;> omega
    · exact ⟨h1, h2⟩
  · constructor <;> simp <;> omega
theorem find_fold (o : ByteArray) : ∀ (ws : List S54) (d : List S68), (∀ x ∈ ws, x.f0 ≠ o) → findL (ws.foldl stepW d) o = findL d o
  | [], d, h => rfl
  | x :: r, d, h => by
    rw [List.foldl_cons, find_fold o r _ (fun y hy => h y (List.mem_cons_of_mem _ hy))]
    have hx := h x (List.mem_cons_self ..)
    unfold stepW
    split
    · exact find_drop x.f0 o hx d
    · exact find_put d x.f0 x.f1 o hx
theorem risesW_tail : ∀ (x : S54) (r : List S54), risesW (x :: r) = true → ∀ y ∈ r, ltS x.f0 y.f0 = true
  | x, [], h, y, hy => by cases hy
  | x, z :: r, h, y, hy => by
    have h1 : ltS x.f0 z.f0 = true ∧ risesW (z :: r) = true := by simpa [risesW] using h
    rcases List.mem_cons.1 hy with e | e
    · rw [e]; exact h1.1
    · exact ltS_trans h1.1 (risesW_tail z r h1.2 y e)
theorem risesW_drop : ∀ (i : Nat) (l : List S54), risesW l = true → risesW (l.drop i) = true
  | 0, l, h => h
  | i + 1, [], h => rfl
  | i + 1, [x], h => by cases i <;> rfl
  | i + 1, x :: y :: r, h => risesW_drop i (y :: r) (by have h1 : ltS x.f0 y.f0 = true ∧ risesW (y :: r) = true := by simpa [risesW] using h
                                                        exact h1.2)
end Go.Proofs.Ythcdlgphabaidaa.PB
