/- A batch taken from its bytes (the program's and the document's); what is taken stays so where bytes follow; what was told is taken as it was. -/
import Derived.Test.YthcdlgphabaidaaPRBv
namespace Go.Proofs.Ythcdlgphabaidaa.PR
open Go.RowKit Go.Proofs.YthcdlgphabaidaaW.PrintWords
set_option linter.unusedSimpArgs false
set_option linter.unusedVariables false

def tt (l : List UInt8) (most : Nat) : List UInt8 × List UInt8 × Int :=
  if (tn l).2.2 = 0 then (if most < (tn l).1 then ([], [], 4) else if (tn l).2.1.length < (tn l).1 then ([], [], 2) else ((tn l).2.1.take (tn l).1, (tn l).2.1.drop (tn l).1, 0)) else ([], [], (tn l).2.2)
abbrev toBB (x : List UInt8 × List UInt8 × Int) : ByteArray × ByteArray × Int := (mkB x.1, mkB x.2.1, x.2.2)
theorem fin_len (l : List UInt8) (o : Option Nat) : (fin l o).2.1.length ≤ l.length := by
  cases o with
  | none => exact Nat.zero_le _
  | some v =>
    rw [fin_some]
    split
    · exact Nat.zero_le _
    · split
      · simp only [List.length_drop]; omega
      · exact Nat.zero_le _
theorem tn_len (l : List UInt8) : (tn l).2.1.length ≤ l.length := by
  unfold tn
  split
  · exact Nat.zero_le _
  · exact fin_len _ _
theorem tt_len (l : List UInt8) (m : Nat) : (tt l m).2.1.length ≤ l.length := by
  have := tn_len l
  unfold tt
  split
  · split
    · exact Nat.zero_le _
    · split
      · exact Nat.zero_le _
      · simp only [List.length_drop]; omega
  · exact Nat.zero_le _
theorem mk_take (r : List UInt8) (n : Nat) : (mkB r).extract 0 n = mkB (r.take n) := by rw [ext_take, mkB_list]
theorem mk_drop (r : List UInt8) (n : Nat) : (mkB r).extract n (mkB r).size = mkB (r.drop n) := by rw [ext_drop, mkB_list]
theorem tn_ev (l : List UInt8) (hl : l.length < 4611686018427387904) : Ev (fun k => dec_TakeNum.f k (mkB l)) (toB (tn l)) := by
  have := takeNum_ev (mkB l) (by rw [mkB_list]; exact hl)
  unfold tnB at this
  rwa [mkB_list] at this
theorem tt_ev (l : List UInt8) (m : Nat) (hl : l.length < 4611686018427387904) (hm : m < 4611686018427387904) : Ev (fun k => dec_TakeText.f k (mkB l) (m : Int)) (toBB (tt l m)) := by
  have hr := tn_len l
  unfold dec_TakeText.f
  refine Ev.bind (tn_ev l hl) ?_
  unfold tt
  obtain ⟨⟨v, r, e⟩, hx⟩ : ∃ x, x = tn l := ⟨_, rfl⟩
  rw [← hx] at hr ⊢
  have hr : r.length ≤ l.length := hr
  simp only [toB]
  by_cases he : e = 0
  · have hw : IntKind.u64.wrap (m : Int) = (m : Int) := by rw [u64w]; omega
    have hw2 : IntKind.u64.wrap ((mkB r).size : Int) = (r.length : Int) := by rw [u64w, mkB_size]; omega
    simp only [if_pos he, if_neg (show ¬ ((m : Int) < 0) by omega), hw]
    by_cases h4 : m < v
    · rw [if_pos h4, decide_eq_true (show (v : Int) > (m : Int) by omega)]
      exact Ev.step (f := fun k => some ((⟨#[]⟩ : ByteArray), (⟨#[]⟩ : ByteArray), 4)) (fun k => by simp only [dec_TakeText.j0]; rw [if_pos trivial]) (Ev.now _)
    · rw [if_neg h4, decide_eq_false (show ¬ (v : Int) > (m : Int) by omega)]
      by_cases h2 : r.length < v
      · rw [if_pos h2]
        refine Ev.step (f := fun k => some ((⟨#[]⟩ : ByteArray), (⟨#[]⟩ : ByteArray), 2)) (fun k => ?_) (Ev.now _)
        simp only [dec_TakeText.j0]
        rw [if_neg (by decide), hw2, if_pos (by omega)]
      · rw [if_neg h2]
        refine Ev.step (f := fun k => some (mkB (r.take v), mkB (r.drop v), 0)) (fun k => ?_) (Ev.now _)
        simp only [dec_TakeText.j0]
        rw [if_neg (by decide), hw2, if_neg (by omega), if_pos (by omega), if_pos (by rw [mkB_size]; omega), Int.toNat_natCast, mk_take, mk_drop]
  · simp only [if_neg he]
    exact Ev.now _
/- one step of a reader -/
def nT (l : List UInt8) (m : Nat) : Option (Nat × List UInt8) := if (tn l).2.2 = 0 ∧ (tn l).1 ≤ m then some ((tn l).1, (tn l).2.1) else none
def tT (l : List UInt8) (m : Nat) : Option (List UInt8 × List UInt8) := if (tt l m).2.2 = 0 then some ((tt l m).1, (tt l m).2.1) else none
theorem nT_none {l : List UInt8} {m : Nat} (h : nT l m = none) : ¬ ((tn l).2.2 = 0 ∧ (tn l).1 ≤ m) := fun q => by unfold nT at h; rw [if_pos q] at h; cases h
theorem nT_some {l : List UInt8} {m v : Nat} {r : List UInt8} (h : nT l m = some (v, r)) : (tn l).2.2 = 0 ∧ (tn l).1 = v ∧ v ≤ m ∧ (tn l).2.1 = r := by
  unfold nT at h
  split at h
  · rename_i q
    injection h with h
    injection h with h1 h2
    subst h1; subst h2
    exact ⟨q.1, rfl, q.2, rfl⟩
  · cases h
theorem tT_none {l : List UInt8} {m : Nat} (h : tT l m = none) : ¬ (tt l m).2.2 = 0 := fun q => by unfold tT at h; rw [if_pos q] at h; cases h
theorem tT_some {l : List UInt8} {m : Nat} {t r : List UInt8} (h : tT l m = some (t, r)) : (tt l m).2.2 = 0 ∧ (tt l m).1 = t ∧ (tt l m).2.1 = r := by
  unfold tT at h
  split at h
  · rename_i q
    injection h with h
    injection h with h1 h2
    exact ⟨q, h1, h2⟩
  · cases h
theorem num_ok (l : List UInt8) (m : Nat) (hl : l.length < 4611686018427387904) {v : Nat} {r : List UInt8} (h : nT l m = some (v, r)) : Ev (fun k => batch_num.f k (mkB l) true (m : Int)) ((v : Int), mkB r, true) := by
  obtain ⟨h1, h2, h3, h4⟩ := nT_some h
  unfold batch_num.f
  refine Ev.bind (tn_ev l hl) ?_
  simp only [toB, h1, h2, h4, if_pos, if_pos (show (v : Int) ≤ (m : Int) by omega), decide_eq_true (show (v : Int) ≤ (m : Int) by omega)]
  exact Ev.now _
theorem num_no (l : List UInt8) (m : Nat) (hl : l.length < 4611686018427387904) (ok : Bool) (h : ok = true → nT l m = none) : Ev (fun k => batch_num.f k (mkB l) ok (m : Int)) (0, mkB (tn l).2.1, false) := by
  unfold batch_num.f
  refine Ev.bind (tn_ev l hl) ?_
  cases ok with
  | false => simp only [toB, if_neg (show ¬ (false = true) by decide)]; exact Ev.now _
  | true =>
    have hn := nT_none (h rfl)
    simp only [toB, if_pos]
    by_cases he : (tn l).2.2 = 0
    · have hv : ¬ (((tn l).1 : Nat) : Int) ≤ (m : Int) := fun q => hn ⟨he, by omega⟩
      simp only [if_pos he, if_neg hv, decide_eq_false hv]; exact Ev.now _
    · simp only [if_neg he]; exact Ev.now _
theorem text_ok (l : List UInt8) (m : Nat) (hl : l.length < 4611686018427387904) (hm : m < 4611686018427387904) {t r : List UInt8} (h : tT l m = some (t, r)) : Ev (fun k => batch_text.f k (mkB l) true (m : Int)) (mkB t, mkB r, true) := by
  obtain ⟨h1, h2, h3⟩ := tT_some h
  unfold batch_text.f
  refine Ev.bind (tt_ev l m hl hm) ?_
  simp only [toBB, h1, h2, h3, if_pos, beq_self_eq_true]
  exact Ev.now _
theorem text_no (l : List UInt8) (m : Nat) (hl : l.length < 4611686018427387904) (hm : m < 4611686018427387904) (ok : Bool) (h : ok = true → tT l m = none) : Ev (fun k => batch_text.f k (mkB l) ok (m : Int)) (mkB (tt l m).1, mkB (tt l m).2.1, false) := by
  unfold batch_text.f
  refine Ev.bind (tt_ev l m hl hm) ?_
  cases ok with
  | false => simp only [toBB, if_neg (show ¬ (false = true) by decide)]; exact Ev.now _
  | true =>
    have hn := tT_none (h rfl)
    simp only [toBB, if_pos, beq_eq_false_iff_ne.2 hn]
    exact Ev.now _
def errT : Int × ByteArray × List S54 × Int := (0, (⟨#[]⟩ : ByteArray), [], 3)
theorem take_no (kind : Int) (tok : ByteArray) : ∀ (n c i : Nat) (l : List UInt8) (ws : List S54), c - i ≤ n → i ≤ c → c < 4611686018427387904 → ws.length + (c - i) < 3518437208883 → l.length < 4611686018427387904 →
    Ev (fun k => batch_Take.l0 k (c : Int) (i : Int) (mkB l) false kind tok ws) errT := by
  intro n
  have done : ∀ (c i : Nat) (l : List UInt8) (ws : List S54), c ≤ i → Ev (fun k => batch_Take.l0 k (c : Int) (i : Int) (mkB l) false kind tok ws) errT := fun c i l ws h =>
    Ev.step (f := fun k => some errT) (fun k => by simp only [batch_Take.l0]; rw [if_neg (by omega), if_neg (by decide)]; rfl) (Ev.now _)
  induction n with
  | zero => intro c i l ws hn hi hc hw hl; exact done c i l ws (by omega)
  | succ n ih =>
    intro c i l ws hn hi hc hw hl
    rcases Nat.lt_or_ge i c with h | h
    · have l1 := tn_len l; have l2 := tt_len (tn l).2.1 32; have l3 := tt_len (tt (tn l).2.1 32).2.1 64
      refine Ev.step (f := ?ff) (fun k => ?h1) ?h2
      case h1 =>
        simp only [batch_Take.l0]
        rw [if_pos (by omega)]
      refine Ev.bind (num_no l 1 hl false (fun q => by cases q)) (Ev.bind (text_no _ 32 (by omega) (by omega) false (fun q => by cases q)) (Ev.bind (text_no _ 64 (by omega) (by omega) false (fun q => by cases q)) ?_))
      have hw2 : IntKind.u64.wrap ((i : Int) + 1) = ((i + 1 : Nat) : Int) := by rw [u64w]; omega
      simp only [if_pos (show ws.length < 3518437208883 by omega), hw2]
      exact ih c (i + 1) _ _ (by omega) h hc (by rw [List.length_append, List.length_singleton]; omega) (by omega)
    · exact done c i l ws h
def loopP : Nat → List UInt8 → List S54 → Option (List UInt8 × List S54)
  | 0, l, ws => some (l, ws)
  | c + 1, l, ws => (nT l 1).bind fun a => (tT a.2 32).bind fun b => (tT b.2 64).bind fun d => loopP c d.2 (ws ++ [⟨mkB b.1, mkB d.1, decide (a.1 = 1)⟩])
def endT (kind : Int) (tok : ByteArray) : Option (List UInt8 × List S54) → Int × ByteArray × List S54 × Int
  | none => errT
  | some e => if e.1 = [] ∧ mayB kind tok e.2 = true then (kind, tok, e.2, 0) else errT
theorem mk_nil (l : List UInt8) : ((mkB l).toList = ([] : List UInt8)) ↔ l = [] := by rw [mkB_list]
theorem take_l0 (kind : Int) (tok : ByteArray) : ∀ (n c i : Nat) (l : List UInt8) (ws : List S54), c - i = n → i ≤ c → c < 4611686018427387904 → ws.length + (c - i) < 3518437208883 → l.length < 4611686018427387904 →
    Ev (fun k => batch_Take.l0 k (c : Int) (i : Int) (mkB l) true kind tok ws) (endT kind tok (loopP n l ws)) := by
  intro n
  induction n with
  | zero =>
    intro c i l ws hn hi hc hw hl
    refine Ev.step (f := fun k => if (mkB l).toList = ([] : List UInt8) then ((batch_May.f k kind tok ws).bind fun t189 => (if t189 = true then (some (kind, tok, ws, 0)) else (some errT))) else some errT) (fun k => by simp only [batch_Take.l0]; rw [if_neg (by omega), if_pos trivial]; rfl) ?_
    unfold loopP endT
    by_cases h0 : l = []
    · simp only [if_pos ((mk_nil l).2 h0)]
      refine Ev.bind (may_ev kind tok ws (by omega)) ?_
      by_cases hm : mayB kind tok ws = true
      · simp only [if_pos hm, if_pos (show l = [] ∧ mayB kind tok ws = true from ⟨h0, hm⟩)]; exact Ev.now _
      · simp only [if_neg hm, if_neg (show ¬ (l = [] ∧ mayB kind tok ws = true) from fun q => hm q.2)]; exact Ev.now _
    · simp only [if_neg (fun q => h0 ((mk_nil l).1 q)), if_neg (show ¬ (l = [] ∧ mayB kind tok ws = true) from fun q => h0 q.1)]; exact Ev.now _
  | succ n ih =>
    intro c i l ws hn hi hc hw hl
    have hw2 : IntKind.u64.wrap ((i : Int) + 1) = ((i + 1 : Nat) : Int) := by rw [u64w]; omega
    have l1 := tn_len l
    refine Ev.step (f := ?ff) (fun k => ?h1) ?h2
    case h1 =>
      simp only [batch_Take.l0]
      rw [if_pos (by omega)]
    unfold loopP
    cases ha : nT l 1 with
    | none =>
      have l2 := tt_len (tn l).2.1 32; have l3 := tt_len (tt (tn l).2.1 32).2.1 64
      refine Ev.bind (num_no l 1 hl true (fun _ => ha)) (Ev.bind (text_no _ 32 (by omega) (by omega) false (fun q => by cases q)) (Ev.bind (text_no _ 64 (by omega) (by omega) false (fun q => by cases q)) ?_))
      simp only [if_pos (show ws.length < 3518437208883 by omega), hw2]
      exact take_no kind tok _ c (i + 1) _ _ (Nat.le_refl _) (by omega) hc (by rw [List.length_append, List.length_singleton]; omega) (by omega)
    | some a =>
      obtain ⟨v, r⟩ := a
      have hr := (nT_some ha).2.2.2
      rw [hr] at l1
      refine Ev.bind (num_ok l 1 hl ha) ?_
      simp only [Option.bind_some]
      have l2 := tt_len r 32
      cases hb : tT r 32 with
      | none =>
        have l3 := tt_len (tt r 32).2.1 64
        refine Ev.bind (text_no r 32 (by omega) (by omega) true (fun _ => hb)) (Ev.bind (text_no _ 64 (by omega) (by omega) false (fun q => by cases q)) ?_)
        simp only [if_pos (show ws.length < 3518437208883 by omega), hw2]
        exact take_no kind tok _ c (i + 1) _ _ (Nat.le_refl _) (by omega) hc (by rw [List.length_append, List.length_singleton]; omega) (by omega)
      | some b =>
        obtain ⟨t, r2⟩ := b
        have hr2 := (tT_some hb).2.2
        rw [hr2] at l2
        refine Ev.bind (text_ok r 32 (by omega) (by omega) hb) ?_
        simp only [Option.bind_some]
        have l3 := tt_len r2 64
        cases hd : tT r2 64 with
        | none =>
          refine Ev.bind (text_no r2 64 (by omega) (by omega) true (fun _ => hd)) ?_
          simp only [if_pos (show ws.length < 3518437208883 by omega), hw2]
          exact take_no kind tok _ c (i + 1) _ _ (Nat.le_refl _) (by omega) hc (by rw [List.length_append, List.length_singleton]; omega) (by omega)
        | some d =>
          obtain ⟨t2, r3⟩ := d
          have hr3 := (tT_some hd).2.2
          rw [hr3] at l3
          refine Ev.bind (text_ok r2 64 (by omega) (by omega) hd) ?_
          have e1 : (((v : Nat) : Int) == 1) = decide (v = 1) := by
            by_cases q : v = 1
            · subst q; rfl
            · rw [decide_eq_false q]; exact beq_eq_false_iff_ne.2 (by omega)
          simp only [if_pos (show ws.length < 3518437208883 by omega), hw2, e1, Option.bind_some]
          exact ih c (i + 1) r3 _ (by omega) (by omega) hc (by rw [List.length_append, List.length_singleton]; omega) (by omega)
def takeP (l : List UInt8) : Option (Nat × ByteArray × List UInt8 × List S54) :=
  (nT l 2).bind fun a => (tT a.2 16).bind fun b => (nT b.2 24).bind fun n => (loopP n.1 n.2 []).bind fun e => some (a.1, mkB b.1, e.1, e.2)
def takeR (l : List UInt8) : Int × ByteArray × List S54 × Int :=
  match takeP l with
  | none => errT
  | some e => endT (e.1 : Int) e.2.1 (some (e.2.2.1, e.2.2.2))
theorem takeR_cut {l : List UInt8} {v n : Nat} {r t r2 r3 : List UInt8} (ha : nT l 2 = some (v, r)) (hb : tT r 16 = some (t, r2)) (hn : nT r2 24 = some (n, r3)) : takeR l = endT (v : Int) (mkB t) (loopP n r3 []) := by
  unfold takeR takeP
  rw [ha, Option.bind_some, hb, Option.bind_some, hn, Option.bind_some]
  cases loopP n r3 [] with
  | none => rfl
  | some e => rfl
theorem take_ev (l : List UInt8) (hl : l.length < 4611686018427387904) : Ev (fun k => batch_Take.f k (mkB l)) (takeR l) := by
  have l1 := tn_len l
  unfold batch_Take.f batch_reader.f
  simp only [Option.bind_some]
  cases ha : nT l 2 with
  | none =>
    have e : takeR l = errT := by unfold takeR takeP; rw [ha]; rfl
    have l2 := tt_len (tn l).2.1 16; have l3 := tn_len (tt (tn l).2.1 16).2.1
    rw [e]
    refine Ev.bind (num_no l 2 hl true (fun _ => ha)) (Ev.bind (text_no _ 16 (by omega) (by omega) false (fun q => by cases q)) (Ev.bind (num_no _ 24 (by omega) false (fun q => by cases q)) ?_))
    exact take_no _ _ _ 0 0 _ _ (Nat.le_refl _) (by omega) (by omega) (by simp) (by omega)
  | some a =>
    obtain ⟨v, r⟩ := a
    obtain ⟨_, _, hv, hr⟩ := nT_some ha
    rw [hr] at l1
    refine Ev.bind (num_ok l 2 hl ha) ?_
    have l2 := tt_len r 16
    cases hb : tT r 16 with
    | none =>
      have e : takeR l = errT := by unfold takeR takeP; rw [ha, Option.bind_some, hb]; rfl
      have l3 := tn_len (tt r 16).2.1
      rw [e]
      refine Ev.bind (text_no r 16 (by omega) (by omega) true (fun _ => hb)) (Ev.bind (num_no _ 24 (by omega) false (fun q => by cases q)) ?_)
      exact take_no _ _ _ 0 0 _ _ (Nat.le_refl _) (by omega) (by omega) (by simp) (by omega)
    | some b =>
      obtain ⟨t, r2⟩ := b
      have hr2 := (tT_some hb).2.2
      rw [hr2] at l2
      refine Ev.bind (text_ok r 16 (by omega) (by omega) hb) ?_
      have l3 := tn_len r2
      cases hn : nT r2 24 with
      | none =>
        have e : takeR l = errT := by unfold takeR takeP; rw [ha, Option.bind_some, hb, Option.bind_some, hn]; rfl
        rw [e]
        refine Ev.bind (num_no r2 24 (by omega) true (fun _ => hn)) ?_
        exact take_no _ _ _ 0 0 _ _ (Nat.le_refl _) (by omega) (by omega) (by simp) (by omega)
      | some c =>
        obtain ⟨n, r3⟩ := c
        obtain ⟨_, _, hv3, hr3⟩ := nT_some hn
        rw [hr3] at l3
        refine Ev.bind (num_ok r2 24 (by omega) hn) ?_
        rw [takeR_cut ha hb hn]
        have hw : wrap64 (v : Int) = (v : Int) := by unfold wrap64; omega
        simp only [hw]
        exact take_l0 (v : Int) (mkB t) n n 0 r3 [] (by omega) (by omega) (by omega) (by simp; omega) (by omega)
/- two batches that are the same -/
theorem writes_l0 : ∀ (n : Nat) (l : List S54) (i : Nat), l.length - i ≤ n → l.length < 4611686018427387904 → Ev (fun k => stanchionref05_Writes.l0 k l l (i : Int)) true := by
  intro n
  have done : ∀ (l : List S54) (i : Nat), l.length ≤ i → Ev (fun k => stanchionref05_Writes.l0 k l l (i : Int)) true := fun l i h =>
    Ev.step (f := fun k => some true) (fun k => by simp only [stanchionref05_Writes.l0]; rw [if_neg (by omega)]) (Ev.now _)
  induction n with
  | zero => intro l i hn hl; exact done l i (by omega)
  | succ n ih =>
    intro l i hn hl
    rcases Nat.lt_or_ge i l.length with h | h
    · refine Ev.step (f := fun k => stanchionref05_Writes.l0 k l l ((i + 1 : Nat) : Int)) (fun k => ?_) (ih l (i + 1) (by omega) hl)
      simp only [stanchionref05_Writes.l0]
      rw [if_pos (by omega), if_pos (by omega), if_pos (by omega), if_neg (by simp), wrap_succ i (by omega)]
    · exact done l i h
theorem same_batch (a0 : Int) (a1 : ByteArray) (l : List S54) (hl : l.length < 4611686018427387904) : Ev (fun k => stanchionref07_SameBatch.f k a0 a1 l a0 a1 l) true := by
  have hw : Ev (fun k => stanchionref05_Writes.f k l l) true := by
    unfold stanchionref05_Writes.f
    simp only [if_pos]
    exact writes_l0 l.length l 0 (by omega) hl
  unfold stanchionref07_SameBatch.f
  refine Ev.bind hw ?_
  simp only [if_pos, beq_self_eq_true]
  exact Ev.now _
end Go.Proofs.Ythcdlgphabaidaa.PR
