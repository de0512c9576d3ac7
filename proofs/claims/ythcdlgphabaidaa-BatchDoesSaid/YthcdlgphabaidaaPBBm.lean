/- What batch.May, batch.Do, batch.Same and the document's come to. -/
import Derived.Test.YthcdlgphabaidaaPBx2
import Derived.Test.YthcdlgphabaidaaPBTr
namespace Go.Proofs.Ythcdlgphabaidaa.PB
open Go.RowKit Go.Proofs.YthcdlgphabaidaaW.PrintWords
set_option linter.unusedVariables false
set_option linter.unusedSimpArgs false

theorem ev_eq {α : Type} {g : Nat → Option α} {r s : α} (h : Ev g r) (e : r = s) : Ev g s := e ▸ h
theorem shown_ev : Ev (fun k => stanchionlaw07_shown.f k) true := Ev.of (k := 100) (fun k => stanchionlaw07_shown.mono k) (by decide +kernel)
theorem rdw_get (xs : List S54) (i : Nat) (h : i < xs.length) : rd_T54 xs (i : Int) = xs[i] := by simp [rd_T54, List.getD_eq_getElem?_getD, h]
theorem wrap_pred (i : Nat) (h0 : 1 ≤ i) (h : i < 4611686018427387904) : wrap64 ((i : Int) - 1) = ((i - 1 : Nat) : Int) := by unfold wrap64; omega
def okW (x : S54) : Bool := decide (1 ≤ x.f0.size) && (decide (x.f0.size ≤ 32) && (decide (x.f1.size ≤ 64) && !(x.f2 && (x.f1.toList != ([] : List UInt8)))))
theorem may1_eq (x : S54) : (batch_May_1.f x.f0 x.f1 x.f2).getD false = !okW x := by
  unfold batch_May_1.f okW
  by_cases h1 : 1 ≤ x.f0.size
  · rw [if_neg (by omega), decide_eq_true h1]
    by_cases h2 : x.f0.size ≤ 32
    · rw [if_neg (by omega), decide_eq_true h2]
      by_cases h3 : x.f1.size ≤ 64
      · rw [if_neg (by omega), decide_eq_true h3]
        cases x.f2 <;> simp
      · rw [if_pos (by omega), decide_eq_false h3]; rfl
    · rw [if_pos (by omega), decide_eq_false h2]; rfl
  · rw [if_pos (by omega), decide_eq_false h1]; rfl
def risesW : List S54 → Bool
  | x :: y :: r => ltS x.f0 y.f0 && risesW (y :: r)
  | _ => true
theorem any_okW (l : List S54) : (l.any fun x => (batch_May_1.f x.f0 x.f1 x.f2).getD false) = !l.all okW := by
  induction l with
  | nil => rfl
  | cons x r ih => rw [List.any_cons, ih, may1_eq, List.all_cons, Bool.not_and]
theorem may_l0 (a0 : Int) (a1 : ByteArray) : ∀ (n : Nat) (l : List S54) (i : Nat), l.length - i ≤ n → 1 ≤ i → l.length < 4611686018427387904 →
    Ev (fun k => batch_May.l0 k (i : Int) a0 a1 l) (risesW (l.drop (i - 1)) && l.all okW) := by
  intro n
  have done : ∀ (l : List S54) (i : Nat), l.length ≤ i → 1 ≤ i → Ev (fun k => batch_May.l0 k (i : Int) a0 a1 l) (risesW (l.drop (i - 1)) && l.all okW) := fun l i h h1 => by
    have e : risesW (l.drop (i - 1)) = true := by
      rcases Nat.lt_or_ge (i - 1) l.length with h2 | h2
      · rw [List.drop_eq_getElem_cons h2, List.drop_of_length_le (by omega)]; rfl
      · rw [List.drop_of_length_le h2]; rfl
    rw [e, Bool.true_and]
    refine Ev.step (f := fun k => some (l.all okW)) (fun k => ?_) (Ev.now _)
    simp only [batch_May.l0]
    rw [if_neg (by omega)]
    unfold batch_May_has.f
    rw [Option.bind_some, any_okW, Bool.not_not]
  induction n with
  | zero => intro l i hn h1 hl; exact done l i (by omega) h1
  | succ n ih =>
    intro l i hn h1 hl
    rcases Nat.lt_or_ge i l.length with h | h
    · have hp : i - 1 < l.length := by omega
      have hs : i - 1 + 1 = i := by omega
      rw [List.drop_eq_getElem_cons hp, hs, List.drop_eq_getElem_cons h]
      have e : risesW (l[i - 1] :: l[i] :: l.drop (i + 1)) = (ltS (l[i - 1]).f0 (l[i]).f0 && risesW (l.drop i)) := by
        rw [List.drop_eq_getElem_cons h]; rfl
      rw [e]
      cases hlt : ltS (l[i - 1]).f0 (l[i]).f0 with
      | true =>
        rw [Bool.true_and]
        refine Ev.step (f := fun k => batch_May.l0 k ((i + 1 : Nat) : Int) a0 a1 l) (fun k => ?_) (ih l (i + 1) (by omega) (by omega) hl)
        simp only [batch_May.l0]
        rw [if_pos (by omega), wrap_pred i h1 (by omega), if_pos (by omega), if_pos (by omega), if_pos (by omega), rdw_get _ _ hp, rdw_get _ _ h, if_pos (show Op.bytesLess (l[i - 1]).f0.toList (l[i]).f0.toList = true from hlt), wrap_succ i (by omega)]
      | false =>
        rw [Bool.false_and, Bool.false_and]
        refine Ev.step (f := fun k => some false) (fun k => ?_) (Ev.now _)
        simp only [batch_May.l0]
        rw [if_pos (by omega), wrap_pred i h1 (by omega), if_pos (by omega), if_pos (by omega), if_pos (by omega), rdw_get _ _ hp, rdw_get _ _ h, if_neg (by rw [show Op.bytesLess (l[i - 1]).f0.toList (l[i]).f0.toList = false from hlt]; decide)]
    · exact done l i h h1
def mayB (a0 : Int) (a1 : ByteArray) (l : List S54) : Bool :=
  (decide (a0 = 1) || decide (a0 = 2)) && (decide (1 ≤ a1.size) && (decide (a1.size ≤ 16) && (decide (l.length ≤ 24) && (!(decide (a0 = 2) && decide (0 < l.length)) && (risesW l && l.all okW)))))
theorem may_j0 (a0 : Int) (a1 : ByteArray) (l : List S54) (b : Bool) (hl : l.length < 4611686018427387904) : Ev (fun k => batch_May.j0 k b a0 a1 l) (!b && (risesW l && l.all okW)) := by
  cases b with
  | true => exact Ev.step (f := fun k => some false) (fun k => by simp only [batch_May.j0]; rw [if_pos trivial]) (Ev.now _)
  | false =>
    have := may_l0 a0 a1 l.length l 1 (by omega) (by omega) hl
    exact Ev.step (f := fun k => batch_May.l0 k ((1 : Nat) : Int) a0 a1 l) (fun k => by simp only [batch_May.j0]; rw [if_neg (by decide)]; rfl) this
theorem may_ev (a0 : Int) (a1 : ByteArray) (l : List S54) (hl : l.length < 4611686018427387904) : Ev (fun k => batch_May.f k a0 a1 l) (mayB a0 a1 l) := by
  have J := may_j0 a0 a1 l
  unfold mayB
  by_cases h1 : a0 = 1
  · have n2 : ¬ a0 = 2 := by omega
    by_cases t1 : 1 ≤ a1.size
    · by_cases t2 : a1.size ≤ 16
      · by_cases t3 : l.length ≤ 24
        · refine Ev.congr (fun k => ?_) (ev_eq (J false hl) (by simp [h1, t1, t2, t3]))
          unfold batch_May.f; rw [if_pos h1, if_neg (by omega), if_neg (by omega), if_neg (by omega), if_neg n2]
        · refine Ev.congr (fun k => ?_) (ev_eq (J true hl) (by simp [t3]))
          unfold batch_May.f; rw [if_pos h1, if_neg (by omega), if_neg (by omega), if_pos (by omega)]
      · refine Ev.congr (fun k => ?_) (ev_eq (J true hl) (by simp [t2]))
        unfold batch_May.f; rw [if_pos h1, if_neg (by omega), if_pos (by omega)]
    · refine Ev.congr (fun k => ?_) (ev_eq (J true hl) (by simp [t1]))
      unfold batch_May.f; rw [if_pos h1, if_pos (by omega)]
  · by_cases h2 : a0 = 2
    · by_cases t1 : 1 ≤ a1.size
      · by_cases t2 : a1.size ≤ 16
        · by_cases t3 : l.length ≤ 24
          · refine Ev.congr (fun k => ?_) (ev_eq (J (decide ((l.length : Int) > 0)) hl) ?_)
            · unfold batch_May.f; rw [if_neg h1, if_pos h2, if_neg (by omega), if_neg (by omega), if_neg (by omega)]
            · simp [h2, t1, t2, t3]
          · refine Ev.congr (fun k => ?_) (ev_eq (J true hl) (by simp [t3]))
            unfold batch_May.f; rw [if_neg h1, if_pos h2, if_neg (by omega), if_neg (by omega), if_pos (by omega)]
        · refine Ev.congr (fun k => ?_) (ev_eq (J true hl) (by simp [t2]))
          unfold batch_May.f; rw [if_neg h1, if_pos h2, if_neg (by omega), if_pos (by omega)]
      · refine Ev.congr (fun k => ?_) (ev_eq (J true hl) (by simp [t1]))
        unfold batch_May.f; rw [if_neg h1, if_pos h2, if_pos (by omega)]
    · refine Ev.congr (fun k => ?_) (ev_eq (J true hl) (by simp [h1, h2]))
      unfold batch_May.f; rw [if_neg h1, if_neg h2]
def chkW : Option ByteArray → List S54 → Bool
  | _, [] => true
  | none, x :: r => okW x && chkW (some x.f0) r
  | some p, x :: r => okW x && (ltS p x.f0 && chkW (some x.f0) r)
theorem chkW_some : ∀ (r : List S54) (x : S54), chkW (some x.f0) r = (risesW (x :: r) && r.all okW)
  | [], x => rfl
  | y :: r, x => by
    rw [chkW, chkW_some r y, List.all_cons]
    show _ = ((ltS x.f0 y.f0 && risesW (y :: r)) && _)
    cases okW y <;> cases ltS x.f0 y.f0 <;> cases risesW (y :: r) <;> cases r.all okW <;> rfl
theorem chkW_none (l : List S54) : chkW none l = (risesW l && l.all okW) := by
  cases l with
  | nil => rfl
  | cons x r =>
    rw [chkW, chkW_some, List.all_cons]
    cases okW x <;> cases risesW (x :: r) <;> cases r.all okW <;> rfl
def prevW (l : List S54) (i : Nat) : Option ByteArray := if h : 0 < i ∧ i - 1 < l.length then some (l[i - 1]'h.2).f0 else none
theorem rmay_l0 (a0 : Int) (a1 : ByteArray) : ∀ (n : Nat) (l : List S54) (i : Nat), l.length - i ≤ n → l.length < 4611686018427387904 → (∀ x ∈ l, x.f0.size < 4611686018427387904) →
    Ev (fun k => stanchionref07_May.l0 k (i : Int) a0 a1 l) (chkW (prevW l i) (l.drop i)) := by
  intro n
  have done : ∀ (l : List S54) (i : Nat), l.length ≤ i → Ev (fun k => stanchionref07_May.l0 k (i : Int) a0 a1 l) (chkW (prevW l i) (l.drop i)) := fun l i h => by
    rw [List.drop_of_length_le h]
    refine Ev.step (f := fun k => some true) (fun k => by simp only [stanchionref07_May.l0]; rw [if_neg (by omega)]) ?_
    exact ev_eq (Ev.now _) (by unfold chkW; rfl)
  induction n with
  | zero => intro l i hn hl hb; exact done l i (by omega)
  | succ n ih =>
    intro l i hn hl hb
    rcases Nat.lt_or_ge i l.length with h | h
    · have hw := rdw_get _ _ h
      have hnx : prevW l (i + 1) = some (l[i]).f0 := by unfold prevW; rw [dif_pos ⟨by omega, by omega⟩]; rfl
      have next := ih l (i + 1) (by omega) hl hb
      rw [hnx] at next
      rw [List.drop_eq_getElem_cons h]
      obtain ⟨x, hx⟩ : ∃ x, x = l[i] := ⟨_, rfl⟩
      have hsx : x.f0.size < 4611686018427387904 := hx ▸ hb _ (List.getElem_mem h)
      rw [← hx] at hw next ⊢
      have hj : ∀ b : Bool, b = !okW x → Ev (fun k => stanchionref07_May.j3 k (i : Int) b a0 a1 l x.f0 x.f1 x.f2) (chkW (prevW l i) (x :: l.drop (i + 1))) := fun b hb' => by
        cases hok : okW x with
        | false =>
          rw [hok] at hb'; subst hb'
          refine Ev.step (f := fun k => some false) (fun k => by simp only [stanchionref07_May.j3]; rw [if_pos (by decide)]) ?_
          refine ev_eq (Ev.now _) ?_
          cases prevW l i <;> unfold chkW <;> rw [hok] <;> rfl
        | true =>
          rw [hok] at hb'; subst hb'
          by_cases h0 : 0 < i
          · have hp : i - 1 < l.length := by omega
            have e : prevW l i = some (l[i - 1]).f0 := by unfold prevW; rw [dif_pos ⟨h0, hp⟩]
            rw [e]
            refine Ev.step (f := fun k => (stanchionref01_Less.f k (l[i - 1]).f0 x.f0).bind fun t => if t = true then stanchionref07_May.l0 k ((i + 1 : Nat) : Int) a0 a1 l else some false) (fun k => ?_) ?_
            · simp only [stanchionref07_May.j3]
              rw [if_neg (by decide), if_pos (by omega), wrap_pred i h0 (by omega), if_pos (by omega), if_pos (by omega), rdw_get _ _ hp, wrap_succ i (by omega)]
            · refine Ev.bind (less_ev _ _ (hb _ (List.getElem_mem hp))) ?_
              cases hlt : ltS (l[i - 1]).f0 x.f0 with
              | true =>
                simp only [if_pos]
                refine ev_eq next ?_
                rw [chkW, hok, hlt]; rfl
              | false =>
                simp only [if_neg (show ¬ (false = true) by decide)]
                refine ev_eq (Ev.now _) ?_
                rw [chkW, hok, hlt]; rfl
          · have e : prevW l i = none := by unfold prevW; rw [dif_neg (fun h => h0 h.1)]
            rw [e]
            refine Ev.step (f := fun k => stanchionref07_May.l0 k ((i + 1 : Nat) : Int) a0 a1 l) (fun k => ?_) (ev_eq next (by rw [chkW, hok]; rfl))
            simp only [stanchionref07_May.j3]
            rw [if_neg (by decide), if_neg (by omega), wrap_succ i (by omega)]
      have hb2 : ∀ b : Bool, b = !okW x → (∀ k, stanchionref07_May.l0 (k + 1) (i : Int) a0 a1 l = stanchionref07_May.j3 k (i : Int) b a0 a1 l x.f0 x.f1 x.f2) → Ev (fun k => stanchionref07_May.l0 k (i : Int) a0 a1 l) (chkW (prevW l i) (x :: l.drop (i + 1))) := fun b h1 h2 => Ev.step h2 (hj b h1)
      by_cases h1 : 1 ≤ x.f0.size
      · by_cases h2 : x.f0.size ≤ 32
        · by_cases h3 : x.f1.size ≤ 64
          · cases h4 : x.f2 with
            | true =>
              refine hb2 (x.f1.toList != ([] : List UInt8)) (by unfold okW; rw [decide_eq_true h1, decide_eq_true h2, decide_eq_true h3, h4]; simp) (fun k => ?_)
              simp only [stanchionref07_May.l0]
              rw [if_pos (by omega), if_pos (by omega), hw, if_neg (by omega), if_neg (by omega), if_neg (by omega), if_pos h4]
            | false =>
              refine hb2 false (by unfold okW; rw [decide_eq_true h1, decide_eq_true h2, decide_eq_true h3, h4]; rfl) (fun k => ?_)
              simp only [stanchionref07_May.l0]
              rw [if_pos (by omega), if_pos (by omega), hw, if_neg (by omega), if_neg (by omega), if_neg (by omega), if_neg (by rw [h4]; decide)]
          · refine hb2 true (by unfold okW; rw [decide_eq_false h3]; simp) (fun k => ?_)
            simp only [stanchionref07_May.l0]
            rw [if_pos (by omega), if_pos (by omega), hw, if_neg (by omega), if_neg (by omega), if_pos (by omega)]
        · refine hb2 true (by unfold okW; rw [decide_eq_false h2]; simp) (fun k => ?_)
          simp only [stanchionref07_May.l0]
          rw [if_pos (by omega), if_pos (by omega), hw, if_neg (by omega), if_pos (by omega)]
      · refine hb2 true (by unfold okW; rw [decide_eq_false h1]; simp) (fun k => ?_)
        simp only [stanchionref07_May.l0]
        rw [if_pos (by omega), if_pos (by omega), hw, if_pos (by omega)]
    · exact done l i h
theorem rmay_j1 (a0 : Int) (a1 : ByteArray) (l : List S54) (b : Bool) (hl : l.length < 4611686018427387904) (hb : ∀ x ∈ l, x.f0.size < 4611686018427387904) : Ev (fun k => stanchionref07_May.j1 k b a0 a1 l) (!b && (risesW l && l.all okW)) := by
  cases b with
  | true => exact Ev.step (f := fun k => some false) (fun k => by simp only [stanchionref07_May.j1]; rw [if_pos trivial]) (Ev.now _)
  | false =>
    have := rmay_l0 a0 a1 l.length l 0 (by omega) hl hb
    rw [show prevW l 0 = none from rfl, List.drop_zero, chkW_none] at this
    exact Ev.step (f := fun k => stanchionref07_May.l0 k ((0 : Nat) : Int) a0 a1 l) (fun k => by simp only [stanchionref07_May.j1]; rw [if_neg (by decide)]; rfl) this
theorem rmay_j0 (a0 : Int) (a1 : ByteArray) (l : List S54) (b : Bool) (hl : l.length < 4611686018427387904) (hb : ∀ x ∈ l, x.f0.size < 4611686018427387904) : Ev (fun k => stanchionref07_May.j0 k b a0 a1 l) (!b && (!(decide (a0 = 2) && decide (0 < l.length)) && (risesW l && l.all okW))) := by
  cases b with
  | true => exact Ev.step (f := fun k => some false) (fun k => by simp only [stanchionref07_May.j0]; rw [if_pos trivial]) (Ev.now _)
  | false =>
    by_cases h2 : a0 = 2
    · refine Ev.step (f := fun k => stanchionref07_May.j1 k (decide ((l.length : Int) > 0)) a0 a1 l) (fun k => by simp only [stanchionref07_May.j0]; rw [if_neg (by decide), if_pos h2]) (ev_eq (rmay_j1 a0 a1 l _ hl hb) (by simp [h2]))
    · refine Ev.step (f := fun k => stanchionref07_May.j1 k false a0 a1 l) (fun k => by simp only [stanchionref07_May.j0]; rw [if_neg (by decide), if_neg h2]) (ev_eq (rmay_j1 a0 a1 l _ hl hb) (by simp [h2]))
theorem rmay_ev (a0 : Int) (a1 : ByteArray) (l : List S54) (hl : l.length < 4611686018427387904) (hb : ∀ x ∈ l, x.f0.size < 4611686018427387904) : Ev (fun k => stanchionref07_May.f k a0 a1 l) (mayB a0 a1 l) := by
  have J := fun b => rmay_j0 a0 a1 l b hl hb
  unfold mayB
  by_cases h1 : 1 ≤ a0
  · by_cases h2 : a0 ≤ 2
    · have e : (decide (a0 = 1) || decide (a0 = 2)) = true := by rcases (by omega : a0 = 1 ∨ a0 = 2) with h | h <;> simp [h]
      rw [e, Bool.true_and]
      by_cases t1 : 1 ≤ a1.size
      · by_cases t2 : a1.size ≤ 16
        · refine Ev.congr (fun k => ?_) (ev_eq (J (decide ((l.length : Int) > 24))) ?_)
          · unfold stanchionref07_May.f; rw [if_neg (by omega), if_neg (by omega), if_neg (by omega), if_neg (by omega)]
          · rw [decide_eq_true t1, decide_eq_true t2, Bool.true_and, Bool.true_and]
            by_cases t3 : l.length ≤ 24
            · rw [decide_eq_true t3, decide_eq_false (by omega)]; rfl
            · rw [decide_eq_false t3, decide_eq_true (by omega)]; rfl
        · refine Ev.congr (fun k => ?_) (ev_eq (J true) (by simp [t2]))
          unfold stanchionref07_May.f; rw [if_neg (by omega), if_neg (by omega), if_neg (by omega), if_pos (by omega)]
      · refine Ev.congr (fun k => ?_) (ev_eq (J true) (by simp [t1]))
        unfold stanchionref07_May.f; rw [if_neg (by omega), if_neg (by omega), if_pos (by omega)]
    · have e : (decide (a0 = 1) || decide (a0 = 2)) = false := by rw [decide_eq_false (by omega), decide_eq_false (by omega)]; rfl
      refine Ev.congr (fun k => ?_) (ev_eq (J true) (by rw [e]; rfl))
      unfold stanchionref07_May.f; rw [if_neg (by omega), if_pos (by omega)]
  · have e : (decide (a0 = 1) || decide (a0 = 2)) = false := by rw [decide_eq_false (by omega), decide_eq_false (by omega)]; rfl
    refine Ev.congr (fun k => ?_) (ev_eq (J true) (by rw [e]; rfl))
    unfold stanchionref07_May.f; rw [if_pos (by omega)]
def howB (a0 : Int) : ByteArray := if a0 = 2 then (⟨#[103]⟩ : ByteArray) else (⟨#[99]⟩ : ByteArray)
def doL (d t : List S68) (a0 : Int) (a1 : ByteArray) (ws : List S54) : List S68 × List S68 × Int :=
  if mayB a0 a1 ws = true then (if (findL t a1).2 = true then (d, t, 8) else (ws.foldl stepW d, putL68 t a1 (howB a0), 0)) else (d, t, 1)
theorem decided_eq (d t : List S68) (a : ByteArray) (ht : t.length < 4611686018427387904) : batch_Decided.f d t a = some (findL t a) := by
  unfold batch_Decided.f
  rw [find_eq t a ht]; rfl
theorem rdecided_ev (d t : List S68) (a : ByteArray) (ht : t.length < 4611686018427387904) : Ev (fun k => stanchionref07_Decided.f k d t a) (findL t a) := by
  unfold stanchionref07_Decided.f
  exact Ev.bind (rfind_ev t a ht) (Ev.now _)
theorem do_ev (d t : List S68) (a0 : Int) (a1 : ByteArray) (ws : List S54) (hd : d.length + ws.length < 4398046511104) (ht : t.length < 4398046511104) : Ev (fun k => batch_Do.f k d t a0 a1 ws) (doL d t a0 a1 ws) := by
  unfold batch_Do.f doL
  refine Ev.bind (may_ev a0 a1 ws (by omega)) ?_
  cases mayB a0 a1 ws with
  | false => exact Ev.now _
  | true =>
    simp only [if_pos, decided_eq d t a1 (show t.length < 4611686018427387904 by omega), Option.bind_some]
    by_cases hf : (findL t a1).2 = true
    · simp only [if_pos hf]; exact Ev.now _
    · simp only [if_neg hf]
      unfold howB
      by_cases h2 : a0 = 2
      · simp only [if_pos h2, apply_eq d ws hd, put_eq t _ _ ht, Option.bind_some]; exact Ev.now _
      · simp only [if_neg h2, apply_eq d ws hd, put_eq t _ _ ht, Option.bind_some]; exact Ev.now _
theorem rdo_ev (d t : List S68) (a0 : Int) (a1 : ByteArray) (ws : List S54) (hd : d.length + ws.length < 4398046511050) (ht : t.length < 4398046511090) (hb : ∀ x ∈ ws, x.f0.size < 4611686018427387904) (h1 : a1.size < 4611686018427387904) : Ev (fun k => stanchionref07_Do.f k d t a0 a1 ws) (doL d t a0 a1 ws) := by
  unfold stanchionref07_Do.f doL
  refine Ev.bind (rmay_ev a0 a1 ws (by omega) hb) ?_
  cases mayB a0 a1 ws with
  | false => exact Ev.now _
  | true =>
    simp only [if_pos]
    refine Ev.bind (rdecided_ev d t a1 (by omega)) ?_
    by_cases hf : (findL t a1).2 = true
    · simp only [if_pos hf]; exact Ev.now _
    · simp only [if_neg hf]
      unfold howB
      by_cases h2 : a0 = 2
      · simp only [if_pos h2]
        exact Ev.bind (rapply_ev d ws hd hb) (Ev.bind (rput_ev t _ _ h1 ht) (Ev.now _))
      · simp only [if_neg h2]
        exact Ev.bind (rapply_ev d ws hd hb) (Ev.bind (rput_ev t _ _ h1 ht) (Ev.now _))
/- the same, where the rows may be as long as any that comes in: a batch that may be has 24 writes at most -/
theorem mayB_len {a0 : Int} {a1 : ByteArray} {ws : List S54} (h : mayB a0 a1 ws = true) : ws.length ≤ 24 := by
  unfold mayB at h
  simp only [Bool.and_eq_true, Bool.or_eq_true, decide_eq_true_eq] at h
  omega
theorem do_ev_s (d t : List S68) (a0 : Int) (a1 : ByteArray) (ws : List S54) (hd : d.length ≤ 4398046511000) (hw : ws.length < 4611686018427387904) (ht : t.length < 4398046511104) : Ev (fun k => batch_Do.f k d t a0 a1 ws) (doL d t a0 a1 ws) := by
  cases hm : mayB a0 a1 ws with
  | true => have := mayB_len hm; exact do_ev d t a0 a1 ws (by omega) ht
  | false =>
    unfold batch_Do.f doL
    refine Ev.bind (may_ev a0 a1 ws hw) ?_
    simp only [hm, if_neg (show ¬ (false = true) by decide)]
    exact Ev.now _
theorem rdo_ev_s (d t : List S68) (a0 : Int) (a1 : ByteArray) (ws : List S54) (hd : d.length ≤ 4398046511000) (hw : ws.length < 4611686018427387904) (ht : t.length < 4398046511090) (hb : ∀ x ∈ ws, x.f0.size < 4611686018427387904) (h1 : a1.size < 4611686018427387904) : Ev (fun k => stanchionref07_Do.f k d t a0 a1 ws) (doL d t a0 a1 ws) := by
  cases hm : mayB a0 a1 ws with
  | true => have := mayB_len hm; exact rdo_ev d t a0 a1 ws (by omega) ht hb h1
  | false =>
    unfold stanchionref07_Do.f doL
    refine Ev.bind (rmay_ev a0 a1 ws hw hb) ?_
    simp only [hm, if_neg (show ¬ (false = true) by decide)]
    exact Ev.now _
def decP (a b : List S68) : Bool := (a.map fun x => (x.f0.toList, x.f1.toList)) == (b.map fun x => (x.f0.toList, x.f1.toList))
theorem ne_pair {x y : S68} (h : ¬ x = y) : (!((x.f0.toList) == (y.f0.toList)) || (!((x.f1.toList) == (y.f1.toList)))) = true := by
  by_cases h0 : x.f0.toList = y.f0.toList
  · by_cases h1 : x.f1.toList = y.f1.toList
    · exact absurd (show x = y by cases x; cases y; simp only at h0 h1; rw [str_ext h0, str_ext h1]) h
    · simp [h1]
  · simp [h0]
theorem decP_iff (a b : List S68) : decP a b = true ↔ a = b := by
  unfold decP
  rw [beq_iff_eq]
  constructor
  · intro h
    have inj : ∀ x y : S68, (x.f0.toList, x.f1.toList) = (y.f0.toList, y.f1.toList) → x = y := fun x y e => by
      cases x; cases y
      have e1 := (Prod.mk.inj e).1
      have e2 := (Prod.mk.inj e).2
      simp only at e1 e2
      rw [str_ext e1, str_ext e2]
    exact (List.map_inj_right (fun x y e => inj x y e)).1 h
  · intro h; rw [h]
theorem decP_false {a b : List S68} (h : ¬ a = b) : decP a b = false := by
  cases e : decP a b with
  | false => rfl
  | true => exact absurd ((decP_iff a b).1 e) h
theorem decP_self (a : List S68) : decP a a = true := (decP_iff a a).2 rfl
theorem decP_cons (x : S68) (a b : List S68) : decP (x :: a) (x :: b) = decP a b := by
  cases e : decP a b with
  | true => rw [(decP_iff a b).1 e]; exact decP_self _
  | false => exact decP_false (fun h => by rw [(List.cons.inj h).2, decP_self] at e; cases e)
theorem eqp_l0 : ∀ (n : Nat) (a b : List S68) (i : Nat), a.length - i ≤ n → a.length = b.length → a.length < 4611686018427387904 → Ev (fun k => api_Pair_52.l0 k a b (a.length : Int) (i : Int)) (decP (a.drop i) (b.drop i)) := by
  intro n
  have done : ∀ (a b : List S68) (i : Nat), a.length ≤ i → a.length = b.length → Ev (fun k => api_Pair_52.l0 k a b (a.length : Int) (i : Int)) (decP (a.drop i) (b.drop i)) := fun a b i h e => by
    refine Ev.step (f := fun k => some true) (fun k => by simp only [api_Pair_52.l0]; rw [if_neg (by omega)]) (ev_eq (Ev.now _) ?_)
    rw [List.drop_of_length_le h, List.drop_of_length_le (by omega)]; rfl
  induction n with
  | zero => intro a b i hn e hl; exact done a b i (by omega) e
  | succ n ih =>
    intro a b i hn e hl
    rcases Nat.lt_or_ge i a.length with h | h
    · have h' : i < b.length := by omega
      rw [List.drop_eq_getElem_cons h, List.drop_eq_getElem_cons h']
      by_cases hx : a[i] = b[i]
      · refine Ev.step (f := fun k => api_Pair_52.l0 k a b (a.length : Int) ((i + 1 : Nat) : Int)) (fun k => ?_) (ev_eq (ih a b (i + 1) (by omega) e hl) ?_)
        · simp only [api_Pair_52.l0]
          rw [if_pos (by omega), if_pos (by omega), if_pos (by omega), if_pos (by omega), rd_get _ _ h, rd_get _ _ h', if_neg (by rw [hx]; simp), wrap_succ i (by omega)]
        · rw [hx]; exact (decP_cons _ _ _).symm
      · refine Ev.step (f := fun k => some false) (fun k => ?_) (ev_eq (Ev.now _) ?_)
        · simp only [api_Pair_52.l0]
          rw [if_pos (by omega), if_pos (by omega), if_pos (by omega), if_pos (by omega), rd_get _ _ h, rd_get _ _ h', if_pos (ne_pair hx)]
        · exact (decP_false (fun e => hx (List.cons.inj e).1)).symm
    · exact done a b i h e
theorem eqp_ev (a b : List S68) (h : a.length < 4611686018427387904) : Ev (fun k => api_Pair_52.f k a b) (decP a b) := by
  by_cases e : a.length = b.length
  · have := eqp_l0 a.length a b 0 (by omega) e h
    rw [List.drop_zero, List.drop_zero] at this
    refine Ev.congr (fun k => ?_) this
    unfold api_Pair_52.f
    rw [if_pos (by omega)]; rfl
  · refine Ev.congr (fun k => ?_) (ev_eq (Ev.now false) (decP_false (fun h => e (congrArg List.length h))).symm)
    unfold api_Pair_52.f
    rw [if_neg (by omega)]
theorem req_l0 : ∀ (n : Nat) (a b : List S68) (i : Nat), a.length - i ≤ n → a.length = b.length → a.length < 4611686018427387904 → Ev (fun k => stanchionref05_Same.l0 k a b (i : Int)) (decP (a.drop i) (b.drop i)) := by
  intro n
  have done : ∀ (a b : List S68) (i : Nat), a.length ≤ i → a.length = b.length → Ev (fun k => stanchionref05_Same.l0 k a b (i : Int)) (decP (a.drop i) (b.drop i)) := fun a b i h e => by
    refine Ev.step (f := fun k => some true) (fun k => by simp only [stanchionref05_Same.l0]; rw [if_neg (by omega)]) (ev_eq (Ev.now _) ?_)
    rw [List.drop_of_length_le h, List.drop_of_length_le (by omega)]; rfl
  induction n with
  | zero => intro a b i hn e hl; exact done a b i (by omega) e
  | succ n ih =>
    intro a b i hn e hl
    rcases Nat.lt_or_ge i a.length with h | h
    · have h' : i < b.length := by omega
      rw [List.drop_eq_getElem_cons h, List.drop_eq_getElem_cons h']
      by_cases hx : a[i] = b[i]
      · refine Ev.step (f := fun k => stanchionref05_Same.l0 k a b ((i + 1 : Nat) : Int)) (fun k => ?_) (ev_eq (ih a b (i + 1) (by omega) e hl) ?_)
        · simp only [stanchionref05_Same.l0]
          rw [if_pos (by omega), if_pos (by omega), if_pos (by omega), rd_get _ _ h, rd_get _ _ h', if_neg (by rw [hx]; simp), wrap_succ i (by omega)]
        · rw [hx]; exact (decP_cons _ _ _).symm
      · refine Ev.step (f := fun k => some false) (fun k => ?_) (ev_eq (Ev.now _) ?_)
        · simp only [stanchionref05_Same.l0]
          rw [if_pos (by omega), if_pos (by omega), if_pos (by omega), rd_get _ _ h, rd_get _ _ h', if_pos (ne_pair hx)]
        · exact (decP_false (fun e => hx (List.cons.inj e).1)).symm
    · exact done a b i h e
theorem req_ev (a b : List S68) (h : a.length < 4611686018427387904) : Ev (fun k => stanchionref05_Same.f k a b) (decP a b) := by
  by_cases e : a.length = b.length
  · have := req_l0 a.length a b 0 (by omega) e h
    rw [List.drop_zero, List.drop_zero] at this
    refine Ev.congr (fun k => ?_) this
    unfold stanchionref05_Same.f
    rw [if_pos (by omega)]; rfl
  · refine Ev.congr (fun k => ?_) (ev_eq (Ev.now false) (decP_false (fun h => e (congrArg List.length h))).symm)
    unfold stanchionref05_Same.f
    rw [if_neg (by omega)]
theorem bsame_ev (a b c d : List S68) (ha : a.length < 4611686018427387904) (hb : b.length < 4611686018427387904) : Ev (fun k => batch_Same.f k a b c d) (decP a c && decP b d) := by
  unfold batch_Same.f
  refine Ev.bind (eqp_ev a c ha) ?_
  cases decP a c with
  | false => exact Ev.now _
  | true => simp only [if_pos, Bool.true_and]; exact Ev.bind (eqp_ev b d hb) (Ev.now _)
theorem rbsame_ev (a b c d : List S68) (ha : a.length < 4611686018427387904) (hb : b.length < 4611686018427387904) : Ev (fun k => stanchionref07_Same.f k a b c d) (decP a c && decP b d) := by
  unfold stanchionref07_Same.f
  refine Ev.bind (req_ev a c ha) ?_
  cases decP a c with
  | false => exact Ev.now _
  | true => simp only [if_pos, Bool.true_and]; exact Ev.bind (req_ev b d hb) (Ev.now _)
theorem doL_len (d t : List S68) (a0 : Int) (a1 : ByteArray) (ws : List S54) : (doL d t a0 a1 ws).1.length ≤ d.length + ws.length ∧ (doL d t a0 a1 ws).2.1.length ≤ t.length + 1 := by
  unfold doL
  have h1 := fold_len ws d
  have h2 := put_len t a1 (howB a0)
  split
  · split
    · constructor <;> simp <;> omega
    · exact ⟨h1, h2⟩
  · constructor <;> simp <;> omega
end Go.Proofs.Ythcdlgphabaidaa.PB
