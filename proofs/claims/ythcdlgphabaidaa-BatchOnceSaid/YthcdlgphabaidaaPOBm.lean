/- What batch.May, batch.Do, batch.Same and the document's come to. -/
import Derived.Test.YthcdlgphabaidaaPOx2
import Derived.Test.YthcdlgphabaidaaPOTr
namespace Go.Proofs.Ythcdlgphabaidaa.PO
open Go.RowKit Go.Proofs.YthcdlgphabaidaaW.PrintWords
set_option linter.unusedVariables false
set_option linter.unusedSimpArgs false

theorem ev_eq {α : Type} {g : Nat → Option α} {r s : α} (h : Ev g r) (e : r = s) : Ev g s := e ▸ h
theorem shown_ev : Ev (fun k => stanchionlaw07_shown.f k) true := Ev.of (k := 100) (fun k => stanchionlaw07_shown.mono k) (by decide +kernel)
theorem rdw_get (xs : List S54) (i : Nat) (h : i < xs.length) : rd_T54 xs (i : Int) = xs[i] := by simp [rd_T54, List.getD_eq_getElem?_getD, h]
theorem wrap_pred (i : Nat) (h0 : 1 ≤ i) (h : i < 4611686018427387904) : wrap64 ((i : Int) - 1) = ((i - 1 : Nat) : Int) := by unfold wrap64; omega
def okW (x : S54) : Bool := decide (1 ≤ x.f0.size) && (decide (x.f0.size ≤ 32) && (decide (x.f1.size ≤ 64) && !(x.f2 && (x.f1.toList != ([] : List UInt8)))))
theorem may1_eq (x : S54) : (batch_May_1.f x.f0 x.f1 x.f2).getD false = !okW x := by
  unfold batch_May_1.f okW
  by_cases h1 : 1 ≤ x.f0.size
  · rw [if_neg (by omega), decide_eq_true h1]
    by_cases h2 : x.f0.size ≤ 32
    · rw [if_neg (by omega), decide_eq_true h2]
      by_cases h3 : x.f1.size ≤ 64
      · rw [if_neg (by omega), decide_eq_true h3]
        cases x.f2 <;> simp
      · rw [if_pos (by omega), decide_eq_false h3]; rfl
    · rw [if_pos (by omega), decide_eq_false h2]; rfl
  · rw [if_pos (by omega), decide_eq_false h1]; rfl
def risesW : List S54 → Bool
  | x :: y :: r => ltS x.f0 y.f0 && risesW (y :: r)
  | _ => true
theorem any_okW (l : List S54) : (l.any fun x => (batch_May_1.f x.f0 x.f1 x.f2).getD false) = !l.all okW := by
  induction l with
  | nil => rfl
  | cons x r ih => rw [List.any_cons, ih, may1_eq, List.all_cons, Bool.not_and]
theorem may_l0 (a0 : Int) (a1 : ByteArray) : ∀ (n : Nat) (l : List S54) (i : Nat), l.length - i ≤ n → 1 ≤ i → l.length < 4611686018427387904 →
    Ev (fun k => batch_May.l0 k (i : Int) a0 a1 l) (risesW (l.drop (i - 1)) && l.all okW) := by
  intro n
  have done : ∀ (l : List S54) (i : Nat), l.length ≤ i → 1 ≤ i → Ev (fun k => batch_May.l0 k (i : Int) a0 a1 l) (risesW (l.drop (i - 1)) && l.all okW) := fun l i h h1 => by
    have e : risesW (l.drop (i - 1)) = true := by
      rcases Nat.lt_or_ge (i - 1) l.length with h2 | h2
      · rw [List.drop_eq_getElem_cons h2, List.drop_of_length_le (by omega)]; rfl
      · rw [List.drop_of_length_le h2]; rfl
    rw [e, Bool.true_and]
    refine Ev.step (f := fun k => some (l.all okW)) (fun k => ?_) (Ev.now _)
    simp only [batch_May.l0]
    rw [if_neg (by omega)]
    unfold batch_May_has.f
    rw [Option.bind_some, any_okW, Bool.not_not]
  induction n with
  | zero => intro l i hn h1 hl; exact done l i (by omega) h1
  | succ n ih =>
    intro l i hn h1 hl
    rcases Nat.lt_or_ge i l.length with h | h
    · have hp : i - 1 < l.length := by omega
      have hs : i - 1 + 1 = i := by omega
      rw [List.drop_eq_getElem_cons hp, hs, List.drop_eq_getElem_cons h]
      have e : risesW (l[i - 1] :: l[i] :: l.drop (i + 1)) = (ltS (l[i - 1]).f0 (l[i]).f0 && risesW (l.drop i)) := by
        rw [List.drop_eq_getElem_cons h]; rfl
      rw [e]
      cases hlt : ltS (l[i - 1]).f0 (l[i]).f0 with
      | true =>
        rw [Bool.true_and]
        refine Ev.step (f := fun k => batch_May.l0 k ((i + 1 : Nat) : Int) a0 a1 l) (fun k => ?_) (ih l (i + 1) (by omega) (by omega) hl)
        simp only [batch_May.l0]
        rw [if_pos (by omega), wrap_pred i h1 (by omega), if_pos (by omega), if_pos (by omega), if_pos (by omega), rdw_get _ _ hp, rdw_get _ _ h, if_pos (show Op.bytesLess (l[i - 1]).f0.toList (l[i]).f0.toList = true from hlt), wrap_succ i (by omega)]
      | false =>
        rw [Bool.false_and, Bool.false_and]
        refine Ev.step (f := fun k => some false) (fun k => ?_) (Ev.now _)
        simp only [batch_May.l0]
        rw [if_pos (by omega), wrap_pred i h1 (by omega), if_pos (by omega), if_pos (by omega), if_pos (by omega), rdw_get _ _ hp, rdw_get _ _ h, if_neg (by rw [show Op.bytesLess (l[i - 1]).f0.toList (l[i]).f0.toList = false from hlt]; decide)]
    · exact done l i h h1
def mayB (a0 : Int) (a1 : ByteArray) (l : List S54) : Bool :=
  (decide (a0 = 1) || decide (a0 = 2)) && (decide (1 ≤ a1.size) && (decide (a1.size ≤ 16) && (decide (l.length ≤ 24) && (!(decide (a0 = 2) && decide (0 < l.length)) && (risesW l && l.all okW)))))
theorem may_j0 (a0 : Int) (a1 : ByteArray) (l : List S54) (b : Bool) (hl : l.length < 4611686018427387904) : Ev (fun k => batch_May.j0 k b a0 a1 l) (!b && (risesW l && l.all okW)) := by
  cases b with
  | true => exact Ev.step (f := fun k => some false) (fun k => by simp only [batch_May.j0]; rw [if_pos trivial]) (Ev.now _)
  | false =>
    have := may_l0 a0 a1 l.length l 1 (by omega) (by omega) hl
    exact Ev.step (f := fun k => batch_May.l0 k ((1 : Nat) : Int) a0 a1 l) (fun k => by simp only [batch_May.j0]; rw [if_neg (by decide)]; rfl) this
theorem may_ev (a0 : Int) (a1 : ByteArray) (l : List S54) (hl : l.length < 4611686018427387904) : Ev (fun k => batch_May.f k a0 a1 l) (mayB a0 a1 l) := by
  have J := may_j0 a0 a1 l
  unfold mayB
  by_cases h1 : a0 = 1
  · have n2 : ¬ a0 = 2 := by omega
    by_cases t1 : 1 ≤ a1.size
    · by_cases t2 : a1.size ≤ 16
      · by_cases t3 : l.length ≤ 24
        · refine Ev.congr (fun k => ?_) (ev_eq (J false hl) (by simp [h1, t1, t2, t3]))
          unfold batch_May.f; rw [if_pos h1, if_neg (by omega), if_neg (by omega), if_neg (by omega), if_neg n2]
        · refine Ev.congr (fun k => ?_) (ev_eq (J true hl) (by simp [t3]))
          unfold batch_May.f; rw [if_pos h1, if_neg (by omega), if_neg (by omega), if_pos (by omega)]
      · refine Ev.congr (fun k => ?_) (ev_eq (J true hl) (by simp [t2]))
        unfold batch_May.f; rw [if_pos h1, if_neg (by omega), if_pos (by omega)]
    · refine Ev.congr (fun k => ?_) (ev_eq (J true hl) (by simp [t1]))
      unfold batch_May.f; rw [if_pos h1, if_pos (by omega)]
  · by_cases h2 : a0 = 2
    · by_cases t1 : 1 ≤ a1.size
      · by_cases t2 : a1.size ≤ 16
        · by_cases t3 : l.length ≤ 24
          · refine Ev.congr (fun k => ?_) (ev_eq (J (decide ((l.length : Int) > 0)) hl) ?_)
            · unfold batch_May.f; rw [if_neg h1, if_pos h2, if_neg (by omega), if_neg (by omega), if_neg (by omega)]
            · simp [h2, t1, t2, t3]
          · refine Ev.congr (fun k => ?_) (ev_eq (J true hl) (by simp [t3]))
            unfold batch_May.f; rw [if_neg h1, if_pos h2, if_neg (by omega), if_neg (by omega), if_pos (by omega)]
        · refine Ev.congr (fun k => ?_) (ev_eq (J true hl) (by simp [t2]))
          unfold batch_May.f; rw [if_neg h1, if_pos h2, if_neg (by omega), if_pos (by omega)]
      · refine Ev.congr (fun k => ?_) (ev_eq (J true hl) (by simp [t1]))
        unfold batch_May.f; rw [if_neg h1, if_pos h2, if_pos (by omega)]
    · refine Ev.congr (fun k => ?_) (ev_eq (J true hl) (by simp [h1, h2]))
      unfold batch_May.f; rw [if_neg h1, if_neg h2]
def howB (a0 : Int) : ByteArray := if a0 = 2 then (⟨#[103]⟩ : ByteArray) else (⟨#[99]⟩ : ByteArray)
def doL (d t : List S68) (a0 : Int) (a1 : ByteArray) (ws : List S54) : List S68 × List S68 × Int :=
  if mayB a0 a1 ws = true then (if (findL t a1).2 = true then (d, t, 8) else (ws.foldl stepW d, putL68 t a1 (howB a0), 0)) else (d, t, 1)
theorem decided_eq (d t : List S68) (a : ByteArray) (ht : t.length < 4611686018427387904) : batch_Decided.f d t a = some (findL t a) := by
  unfold batch_Decided.f
  rw [find_eq t a ht]; rfl
theorem do_ev (d t : List S68) (a0 : Int) (a1 : ByteArray) (ws : List S54) (hd : d.length + ws.length < 4398046511104) (ht : t.length < 4398046511104) : Ev (fun k => batch_Do.f k d t a0 a1 ws) (doL d t a0 a1 ws) := by
  unfold batch_Do.f doL
  refine Ev.bind (may_ev a0 a1 ws (by omega)) ?_
  cases mayB a0 a1 ws with
  | false => exact Ev.now _
  | true =>
    simp only [if_pos, decided_eq d t a1 (show t.length < 4611686018427387904 by omega), Option.bind_some]
    by_cases hf : (findL t a1).2 = true
    · simp only [if_pos hf]; exact Ev.now _
    · simp only [if_neg hf]
      unfold howB
      by_cases h2 : a0 = 2
      · simp only [if_pos h2, apply_eq d ws hd, put_eq t _ _ ht, Option.bind_some]; exact Ev.now _
      · simp only [if_neg h2, apply_eq d ws hd, put_eq t _ _ ht, Option.bind_some]; exact Ev.now _
def decP (a b : List S68) : Bool := (a.map fun x => (x.f0.toList, x.f1.toList)) == (b.map fun x => (x.f0.toList, x.f1.toList))
theorem ne_pair {x y : S68} (h : ¬ x = y) : (!((x.f0.toList) == (y.f0.toList)) || (!((x.f1.toList) == (y.f1.toList)))) = true := by
  by_cases h0 : x.f0.toList = y.f0.toList
  · by_cases h1 : x.f1.toList = y.f1.toList
    · exact absurd (show x = y by cases x; cases y; simp only at h0 h1; rw [str_ext h0, str_ext h1]) h
    · simp [h1]
  · simp [h0]
theorem decP_iff (a b : List S68) : decP a b = true ↔ a = b := by
  unfold decP
  rw [beq_iff_eq]
  constructor
  · intro h
    have inj : ∀ x y : S68, (x.f0.toList, x.f1.toList) = (y.f0.toList, y.f1.toList) → x = y := fun x y e => by
      cases x; cases y
      have e1 := (Prod.mk.inj e).1
      have e2 := (Prod.mk.inj e).2
      simp only at e1 e2
      rw [str_ext e1, str_ext e2]
    exact (List.map_inj_right (fun x y e => inj x y e)).1 h
  · intro h; rw [h]
theorem decP_false {a b : List S68} (h : ¬ a = b) : decP a b = false := by
  cases e : decP a b with
  | false => rfl
  | true => exact absurd ((decP_iff a b).1 e) h
theorem decP_self (a : List S68) : decP a a = true := (decP_iff a a).2 rfl
theorem decP_cons (x : S68) (a b : List S68) : decP (x :: a) (x :: b) = decP a b := by
  cases e : decP a b with
  | true => rw [(decP_iff a b).1 e]; exact decP_self _
  | false => exact decP_false (fun h => by rw [(List.cons.inj h).2, decP_self] at e; cases e)
theorem eqp_l0 : ∀ (n : Nat) (a b : List S68) (i : Nat), a.length - i ≤ n → a.length = b.length → a.length < 4611686018427387904 → Ev (fun k => api_Pair_52.l0 k a b (a.length : Int) (i : Int)) (decP (a.drop i) (b.drop i)) := by
  intro n
  have done : ∀ (a b : List S68) (i : Nat), a.length ≤ i → a.length = b.length → Ev (fun k => api_Pair_52.l0 k a b (a.length : Int) (i : Int)) (decP (a.drop i) (b.drop i)) := fun a b i h e => by
    refine Ev.step (f := fun k => some true) (fun k => by simp only [api_Pair_52.l0]; rw [if_neg (by omega)]) (ev_eq (Ev.now _) ?_)
    rw [List.drop_of_length_le h, List.drop_of_length_le (by omega)]; rfl
  induction n with
  | zero => intro a b i hn e hl; exact done a b i (by omega) e
  | succ n ih =>
    intro a b i hn e hl
    rcases Nat.lt_or_ge i a.length with h | h
    · have h' : i < b.length := by omega
      rw [List.drop_eq_getElem_cons h, List.drop_eq_getElem_cons h']
      by_cases hx : a[i] = b[i]
      · refine Ev.step (f := fun k => api_Pair_52.l0 k a b (a.length : Int) ((i + 1 : Nat) : Int)) (fun k => ?_) (ev_eq (ih a b (i + 1) (by omega) e hl) ?_)
        · simp only [api_Pair_52.l0]
          rw [if_pos (by omega), if_pos (by omega), if_pos (by omega), if_pos (by omega), rd_get _ _ h, rd_get _ _ h', if_neg (by rw [hx]; simp), wrap_succ i (by omega)]
        · rw [hx]; exact (decP_cons _ _ _).symm
      · refine Ev.step (f := fun k => some false) (fun k => ?_) (ev_eq (Ev.now _) ?_)
        · simp only [api_Pair_52.l0]
          rw [if_pos (by omega), if_pos (by omega), if_pos (by omega), if_pos (by omega), rd_get _ _ h, rd_get _ _ h', if_pos (ne_pair hx)]
        · exact (decP_false (fun e => hx (List.cons.inj e).1)).symm
    · exact done a b i h e
theorem eqp_ev (a b : List S68) (h : a.length < 4611686018427387904) : Ev (fun k => api_Pair_52.f k a b) (decP a b) := by
  by_cases e : a.length = b.length
  · have := eqp_l0 a.length a b 0 (by omega) e h
    rw [List.drop_zero, List.drop_zero] at this
    refine Ev.congr (fun k => ?_) this
    unfold api_Pair_52.f
    rw [if_pos (by omega)]; rfl
  · refine Ev.congr (fun k => ?_) (ev_eq (Ev.now false) (decP_false (fun h => e (congrArg List.length h))).symm)
    unfold api_Pair_52.f
    rw [if_neg (by omega)]
theorem bsame_ev (a b c d : List S68) (ha : a.length < 4611686018427387904) (hb : b.length < 4611686018427387904) : Ev (fun k => batch_Same.f k a b c d) (decP a c && decP b d) := by
  unfold batch_Same.f
  refine Ev.bind (eqp_ev a c ha) ?_
  cases decP a c with
  | false => exact Ev.now _
  | true => simp only [if_pos, Bool.true_and]; exact Ev.bind (eqp_ev b d hb) (Ev.now _)
theorem doL_len (d t : List S68) (a0 : Int) (a1 : ByteArray) (ws : List S54) : (doL d t a0 a1 ws).1.length ≤ d.length + ws.length ∧ (doL d t a0 a1 ws).2.1.length ≤ t.length + 1 := by
  unfold doL
  have h1 := fold_len ws d
  have h2 := put_len t a1 (howB a0)
  split
  · split
    · constructor <;> simp <;> omega
    · exact ⟨h1, h2⟩
  · constructor <;> simp <;> omega
end Go.Proofs.Ythcdlgphabaidaa.PO
