/- What the run's functions come to in plain words: may, the sum, seal and open, a row's bytes, and the row of bytes; what was written is taken as it was. -/
import Derived.Test.YtbhkopbalhhpgaaPLRn
namespace Go.Proofs.Ytbhkopbalhhpgaa.PL
open Go.RowKit Go.Proofs.YtbhkopbalhhpgaaW.PrintWords
set_option linter.unusedVariables false
set_option linter.unusedSimpArgs false

theorem rdR_get (xs : List S62) (i : Nat) (h : i < xs.length) : rd_T62 xs (i : Int) = xs[i] := by simp [rd_T62, List.getD_eq_getElem?_getD, h]
/- may -/
def riR : List S62 → Bool
  | [] => true
  | [_] => true
  | x :: y :: r => ltS x.f0 y.f0 && riR (y :: r)
theorem riR_l0 : ∀ (n : Nat) (l : List S62) (i : Nat), 0 < i → l.length - i ≤ n → l.length < 4611686018427387904 → Ev (fun k => table_Right.l0 k l (i : Int)) (riR (l.drop (i - 1))) := by
  intro n
  have fin : ∀ (l : List S62) (i : Nat), 0 < i → ¬ i < l.length → Ev (fun k => table_Right.l0 k l (i : Int)) (riR (l.drop (i - 1))) := by
    intro l i h0 hn
    refine Ev.step (f := fun k => some true) (fun k => by simp only [table_Right.l0]; rw [if_neg (by omega)]) ?_
    have e : riR (l.drop (i - 1)) = true := by
      have hd : (l.drop (i - 1)).length ≤ 1 := by rw [List.length_drop]; omega
      match h : l.drop (i - 1), hd with
      | [], _ => rfl
      | [_], _ => rfl
    rw [e]
    exact Ev.now _
  induction n with
  | zero => intro l i h0 hn hl; exact fin l i h0 (by omega)
  | succ n ih =>
    intro l i h0 hn hl
    by_cases hi : i < l.length
    · have hw : wrap64 ((i : Int) - 1) = ((i - 1 : Nat) : Int) := by unfold wrap64; omega
      have h1 : i - 1 < l.length := by omega
      have e : riR (l.drop (i - 1)) = (ltS (l[i - 1]).f0 (l[i]).f0 && riR (l.drop i)) := by
        rw [List.drop_eq_getElem_cons h1, show i - 1 + 1 = i by omega, List.drop_eq_getElem_cons hi]
        rfl
      rw [e]
      refine Ev.step (f := fun k => if ltS (l[i - 1]).f0 (l[i]).f0 = true then table_Right.l0 k l ((i + 1 : Nat) : Int) else some false) (fun k => ?_) ?_
      · simp only [table_Right.l0]
        rw [if_pos (by omega), hw, if_pos (by omega), if_pos (by omega), if_pos (by omega), rdR_get _ _ h1, rdR_get _ _ hi, wrap_succ i (by omega)]
        rfl
      · cases ltS (l[i - 1]).f0 (l[i]).f0 with
        | true =>
          rw [Bool.true_and]
          simp only [if_pos]
          have := ih l (i + 1) (by omega) (by omega) hl
          rwa [Nat.add_sub_cancel] at this
        | false => exact Ev.now _
    · exact fin l i h0 hi
theorem right_ev' (l : List S62) (hl : l.length < 4611686018427387904) : Ev (fun k => table_Right.f k l) (riR l) := riR_l0 l.length l 1 (by omega) (by omega) hl
def longR (x : S62) : Bool := (run_may_1.f x.f0 x.f1).getD false
def mayR (l : List S62) : Bool := if riR l = true then !(l.any longR) else false
theorem mayR_ev (l : List S62) (hl : l.length < 4611686018427387904) : Ev (fun k => run_may.f k l) (mayR l) := by
  unfold run_may.f
  refine Ev.bind (right_ev' l hl) ?_
  unfold mayR
  cases riR l with
  | true =>
    simp only [if_pos]
    exact Ev.now _
  | false => exact Ev.now _
theorem mayR_long {l : List S62} (h : mayR l = true) : ∀ x ∈ l, x.f0.size ≤ 65536 ∧ x.f1.size ≤ 65536 := by
  intro x hx
  unfold mayR at h
  split at h
  · have ha : l.any longR = false := by cases e : l.any longR <;> simp_all
    have hq := (List.any_eq_false.1 ha) x hx
    unfold longR run_may_1.f at hq
    by_cases h1 : (x.f0.size : Int) > 65536
    · rw [if_pos h1] at hq; exact absurd rfl hq
    · rw [if_neg h1] at hq
      by_cases h2 : (x.f1.size : Int) > 65536
      · rw [decide_eq_true h2] at hq; exact absurd rfl hq
      · omega
  · cases h
/- the sum; seal and open -/
def sv (s : ByteArray) : Nat := (IntKind.u64.wrap (sumJ (sumT s s.size))).toNat
theorem sv_eq (s : ByteArray) : IntKind.u64.wrap (sumJ (sumT s s.size)) = ((sv s : Nat) : Int) := by
  unfold sv
  rw [u64w]
  omega
theorem sv_lt (s : ByteArray) : sv s < 18446744073709551616 := by
  unfold sv
  rw [u64w]
  omega
def sealL (s : ByteArray) : List UInt8 := textL s ++ numL (sv s)
theorem seal_eq (s : ByteArray) (h : s.size < 4611686018427387000) : sum_Seal.f s = some (mkB (sealL s)) := by
  have h1 := textL_len s; have h2 := numL_len (sv s)
  unfold sum_Seal.f
  rw [text_eq s (by omega), Option.bind_some]
  unfold sum_Of.f
  rw [if_pos (by omega), Option.bind_some, sv_eq, num_eq _ (sv_lt s), Option.bind_some, numB_eq, mkB_size, mkB_size, if_pos (by omega)]
  refine congrArg some (str_ext ?_)
  rw [app_list, mkB_list, mkB_list, mkB_list]
  rfl
def openL (l : List UInt8) (m : Nat) : List UInt8 × List UInt8 × Int :=
  if (tt l m).2.2 = 0 then (if (tn (tt l m).2.1).2.2 = 0 then (if (tn (tt l m).2.1).1 = sv (mkB (tt l m).1) then ((tt l m).1, (tn (tt l m).2.1).2.1, 0) else ([], [], 10)) else ([], [], (tn (tt l m).2.1).2.2)) else ([], [], (tt l m).2.2)
theorem tt_len1 (l : List UInt8) (m : Nat) : (tt l m).1.length ≤ l.length := by
  have := tn_len l
  unfold tt
  split
  · split
    · exact Nat.zero_le _
    · split
      · exact Nat.zero_le _
      · simp only [List.length_take]; omega
  · exact Nat.zero_le _
theorem openL_len (l : List UInt8) (m : Nat) : (openL l m).1.length ≤ l.length := by
  have := tt_len1 l m
  unfold openL
  split
  · split
    · split
      · exact this
      · exact Nat.zero_le _
    · exact Nat.zero_le _
  · exact Nat.zero_le _
theorem open_ev (l : List UInt8) (m : Nat) (hl : l.length < 4611686018427387904) (hm : m < 4611686018427387904) : Ev (fun k => sum_Open.f k (mkB l) (m : Int)) (toBB (openL l m)) := by
  have h1 := tt_len l m; have h2 := tt_len1 l m
  unfold sum_Open.f
  refine Ev.bind (tt_ev l m hl hm) ?_
  unfold openL
  obtain ⟨⟨t, r, e⟩, hx⟩ : ∃ x, x = tt l m := ⟨_, rfl⟩
  rw [← hx] at h1 h2 ⊢
  have h1 : r.length ≤ l.length := h1
  have h2 : t.length ≤ l.length := h2
  simp only [toBB]
  by_cases he : e = 0
  · simp only [if_pos he]
    refine Ev.bind (tn_ev r (by omega)) ?_
    obtain ⟨⟨v, r2, e2⟩, hy⟩ : ∃ y, y = tn r := ⟨_, rfl⟩
    rw [← hy]
    simp only [toB]
    by_cases he2 : e2 = 0
    · simp only [if_pos he2, sum_Of.f, if_pos (show (mkB t).size < 4611686018427387904 by rw [mkB_size]; omega), Option.bind_some, sv_eq]
      by_cases hv : v = sv (mkB t)
      · simp only [if_pos hv, if_pos (show (v : Int) = ((sv (mkB t) : Nat) : Int) by omega)]
        exact Ev.now _
      · simp only [if_neg hv, if_neg (show ¬ (v : Int) = ((sv (mkB t) : Nat) : Int) by omega)]
        exact Ev.now _
    · simp only [if_neg he2]
      exact Ev.now _
  · simp only [if_neg he]
    exact Ev.now _
/- the row of bytes -/
def loopR : Nat → List UInt8 → List S62 → List UInt8 × List S62
  | 0, t, l => (t, l)
  | c + 1, t, l => match tT t 65536 with
    | none => (t, l)
    | some a => match tT a.2 65536 with
      | none => (t, l)
      | some b => loopR c b.2 (l ++ [⟨mkB a.1, mkB b.1⟩])
def endR (n : Nat) (e : List UInt8 × List S62) : List S62 × Int := if e.2.length = n then (if e.1 = [] then (if mayR e.2 = true then (e.2, 0) else ([], 3)) else ([], 3)) else ([], 3)
theorem mkB_nil (l : List UInt8) : ((mkB l).toList = ([] : List UInt8)) ↔ l = [] := by rw [mkB_list]
theorem fin_ev (t : List UInt8) (n : Nat) (l : List S62) (hl : l.length < 4398046511105) :
    Ev (fun k => (if (IntKind.u64.wrap ((l.length : Int))) = (n : Int) then (if (mkB t).toList = ([] : List UInt8) then ((run_may.f k l).bind fun t145 => (if t145 = true then (some (l, (0 : Int))) else (some (([] : List (S62)), 3)))) else (some (([] : List (S62)), 3))) else (some (([] : List (S62)), 3)))) (endR n (t, l)) := by
  have hw : IntKind.u64.wrap (l.length : Int) = (l.length : Int) := by rw [u64w]; omega
  rw [hw]
  unfold endR
  by_cases h1 : l.length = n
  · simp only [if_pos h1, if_pos (show (l.length : Int) = (n : Int) by omega)]
    by_cases h2 : t = []
    · simp only [if_pos h2, if_pos ((mkB_nil t).2 h2)]
      refine Ev.bind (mayR_ev l (by omega)) ?_
      by_cases h3 : mayR l = true
      · simp only [if_pos h3]; exact Ev.now _
      · simp only [if_neg h3]; exact Ev.now _
    · simp only [if_neg h2, if_neg (fun q => h2 ((mkB_nil t).1 q))]; exact Ev.now _
  · simp only [if_neg h1, if_neg (show ¬ (l.length : Int) = (n : Int) by omega)]; exact Ev.now _
theorem tn_lt (l : List UInt8) (h : (tn l).2.2 = 0) : (tn l).2.1.length < l.length := by
  unfold tn at h ⊢
  split at h
  · exact absurd h (by decide)
  · rename_i hc
    rw [if_neg hc]
    cases hv : valD (l.take (nd l)) 0 with
    | none => rw [hv] at h; exact absurd (show (3 : Int) = 0 from h) (by decide)
    | some v =>
      rw [hv, fin_some] at h
      rw [fin_some]
      split at h
      · exact absurd h (by decide)
      · rename_i hl
        split at h
        · rename_i h59
          rw [if_neg hl, if_pos h59]
          simp only [List.length_drop]
          omega
        · exact absurd h (by decide)
theorem tT_lt {l : List UInt8} {m : Nat} {t r : List UInt8} (h : tT l m = some (t, r)) : r.length < l.length := by
  obtain ⟨h1, h2, h3⟩ := tT_some h
  rw [← h3]
  unfold tt at h1 ⊢
  by_cases he : (tn l).2.2 = 0
  · have := tn_lt l he
    rw [if_pos he] at h1 ⊢
    by_cases h4 : m < (tn l).1
    · rw [if_pos h4] at h1; exact absurd h1 (by decide)
    · rw [if_neg h4] at h1 ⊢
      by_cases h5 : (tn l).2.1.length < (tn l).1
      · rw [if_pos h5] at h1; exact absurd h1 (by decide)
      · rw [if_neg h5]
        simp only [List.length_drop]
        omega
  · rw [if_neg he] at h1; exact absurd h1 he
theorem rtake_l0 : ∀ (c n i : Nat) (t : List UInt8) (l : List S62), n - i = c → i ≤ n → n < 18446744073709551616 → l.length + t.length < 4398046511104 →
    Ev (fun k => run_Take.l0 k (mkB t) (n : Int) l (n : Int) (i : Int)) (endR n (loopR c t l)) := by
  intro c
  induction c with
  | zero =>
    intro n i t l hn hi h64 hl
    refine Ev.step (f := ?ff) (fun k => ?h1) ?h2
    case h1 =>
      simp only [run_Take.l0]
      rw [if_neg (by omega)]
    exact fin_ev t n l (by omega)
  | succ c ih =>
    intro n i t l hn hi h64 hl
    have hw : IntKind.u64.wrap ((i : Int) + 1) = ((i + 1 : Nat) : Int) := by rw [u64w]; omega
    refine Ev.step (f := ?ff2) (fun k => ?h3) ?h4
    case h3 =>
      simp only [run_Take.l0]
      rw [if_pos (by omega)]
    refine Ev.bind (tt_ev t 65536 (by omega) (by omega)) ?_
    cases ha : tT t 65536 with
    | none =>
      have e : loopR (c + 1) t l = (t, l) := by simp only [loopR, ha]
      rw [e]
      simp only [toBB, if_neg (tT_none ha)]
      exact fin_ev t n l (by omega)
    | some a =>
      obtain ⟨x, r⟩ := a
      obtain ⟨h1, h2, h3⟩ := tT_some ha
      have hr := tT_lt ha
      simp only [toBB, if_pos h1, h2, h3]
      refine Ev.bind (tt_ev r 65536 (by omega) (by omega)) ?_
      cases hb : tT r 65536 with
      | none =>
        have e : loopR (c + 1) t l = (t, l) := by simp only [loopR, ha, hb]
        rw [e]
        simp only [toBB, if_neg (tT_none hb)]
        exact fin_ev t n l (by omega)
      | some b =>
        obtain ⟨y, r2⟩ := b
        obtain ⟨k1, k2, k3⟩ := tT_some hb
        have hr2 := tT_lt hb
        have e : loopR (c + 1) t l = loopR c r2 (l ++ [⟨mkB x, mkB y⟩]) := by simp only [loopR, ha, hb]
        rw [e]
        simp only [toBB, if_pos k1, k2, k3, if_pos (show l.length < 4398046511104 by omega), hw]
        exact ih n (i + 1) r2 _ (by omega) (by omega) h64 (by rw [List.length_append, List.length_singleton]; omega)
theorem valD_lt : ∀ (l : List UInt8) (v u : Nat), v < 18446744073709551616 → valD l v = some u → u < 18446744073709551616
  | [], v, u, hv, h => by
    unfold valD at h
    injection h with h
    omega
  | b :: r, v, u, hv, h => by
    unfold valD at h
    split at h
    · cases h
    · exact valD_lt r _ u (by omega) h
theorem tn_val (l : List UInt8) : (tn l).1 < 18446744073709551616 := by
  unfold tn
  split
  · decide
  · cases hv : valD (l.take (nd l)) 0 with
    | none => exact (by decide : 0 < 18446744073709551616)
    | some v =>
      have := valD_lt _ _ _ (by decide) hv
      rw [fin_some]
      split
      · exact (by decide : 0 < 18446744073709551616)
      · split
        · exact this
        · exact (by decide : 0 < 18446744073709551616)
def takeQ (l : List UInt8) : List S62 × Int :=
  if (openL l 1073741824).2.2 = 0 ∧ (tn (openL l 1073741824).1).2.2 = 0 ∧ (openL l 1073741824).2.1 = [] then endR (tn (openL l 1073741824).1).1 (loopR (tn (openL l 1073741824).1).1 (tn (openL l 1073741824).1).2.1 []) else ([], 3)
theorem takeQ_ev (l : List UInt8) (hl : l.length < 4398046511104) : Ev (fun k => run_Take.f k (mkB l)) (takeQ l) := by
  have h1 := openL_len l 1073741824
  have h2 := tn_len (openL l 1073741824).1
  have h3 := tn_val (openL l 1073741824).1
  unfold run_Take.f
  refine Ev.bind (open_ev l 1073741824 (by omega) (by omega)) ?_
  unfold takeQ
  obtain ⟨⟨t, r, e⟩, hx⟩ : ∃ x, x = openL l 1073741824 := ⟨_, rfl⟩
  rw [← hx] at h1 h2 h3 ⊢
  have h1 : t.length ≤ l.length := h1
  have h2 : (tn t).2.1.length ≤ t.length := h2
  have h3 : (tn t).1 < 18446744073709551616 := h3
  simp only [toBB]
  refine Ev.bind (tn_ev t (by omega)) ?_
  obtain ⟨⟨n, t2, e2⟩, hy⟩ : ∃ y, y = tn t := ⟨_, rfl⟩
  rw [← hy] at h2 h3 ⊢
  have h2 : t2.length ≤ t.length := h2
  have h3 : n < 18446744073709551616 := h3
  simp only [toB]
  have bad : Ev (fun k => run_Take.j0 k (mkB t2) (n : Int) true) (([] : List S62), (3 : Int)) :=
    Ev.step (f := fun k => some (([] : List S62), (3 : Int))) (fun k => by simp only [run_Take.j0]; rw [if_pos trivial]) (Ev.now _)
  by_cases he : e = 0
  · simp only [if_pos he]
    by_cases he2 : e2 = 0
    · simp only [if_pos he2]
      by_cases hr : r = []
      · rw [if_pos ⟨he, he2, hr⟩, mkB_list, hr]
        refine Ev.step (f := fun k => run_Take.l0 k (mkB t2) (n : Int) ([] : List S62) (n : Int) 0) (fun k => by simp only [run_Take.j0]; rw [if_neg (by decide)]) ?_
        exact rtake_l0 n n 0 t2 [] (by omega) (by omega) h3 (by simp only [List.length_nil]; omega)
      · rw [if_neg (fun q => hr q.2.2), mkB_list, bne_iff_ne.2 hr]
        exact bad
    · simp only [if_neg he2]
      rw [if_neg (fun q => he2 q.2.1)]
      exact bad
  · simp only [if_neg he]
    rw [if_neg (fun q => he q.1)]
    exact bad
/- a row's bytes -/
def encR (x : S62) : List UInt8 := textL x.f0 ++ textL x.f1
theorem encR_len (x : S62) : (encR x).length ≤ 42 + x.f0.size + x.f1.size := by
  have h1 := textL_len x.f0; have h2 := textL_len x.f1
  unfold encR
  rw [List.length_append]; omega
def rowsR (l : List S62) : List UInt8 := (l.map encR).flatten
theorem rowsR_cons (x : S62) (l : List S62) : rowsR (x :: l) = encR x ++ rowsR l := by simp [rowsR]
def bodyR (l : List S62) : List UInt8 := numL l.length ++ rowsR l
theorem rbytes_l0' : ∀ (n : Nat) (l : List S62) (i : Nat) (acc : List UInt8), l.length - i ≤ n → i ≤ l.length → acc.length + (rowsR (l.drop i)).length ≤ 140737488355328 → l.length < 4611686018427387904 →
    (∀ x ∈ l, x.f0.size < 4611686018427387904 ∧ x.f1.size < 4611686018427387904) → Ev (fun k => run_Bytes.l0 k (mkB acc) l (l.length : Int) (i : Int)) (mkB (sealL (mkB (acc ++ rowsR (l.drop i)))), 0) := by
  intro n
  have done : ∀ (l : List S62) (i : Nat) (acc : List UInt8), l.length ≤ i → acc.length ≤ 140737488355328 → Ev (fun k => run_Bytes.l0 k (mkB acc) l (l.length : Int) (i : Int)) (mkB (sealL (mkB (acc ++ rowsR (l.drop i)))), 0) := fun l i acc h ha => by
    rw [List.drop_of_length_le h]
    refine Ev.step (f := fun k => some (mkB (sealL (mkB acc)), 0)) (fun k => by simp only [run_Bytes.l0]; rw [if_neg (by omega), seal_eq _ (by rw [mkB_size]; omega), Option.bind_some]) (ev_eq (Ev.now _) ?_)
    simp [rowsR]
  induction n with
  | zero => intro l i acc hn hi ho hl hb; exact done l i acc (by omega) (by omega)
  | succ n ih =>
    intro l i acc hn hi ho hl hb
    rcases Nat.lt_or_ge i l.length with h | h
    · have hx := hb _ (List.getElem_mem h)
      rw [List.drop_eq_getElem_cons h, rowsR_cons] at ho ⊢
      obtain ⟨w, hw⟩ : ∃ w, w = l[i] := ⟨_, rfl⟩
      rw [← hw] at hx ho ⊢
      rw [List.length_append] at ho
      have hE : (encR w).length = (textL w.f0).length + (textL w.f1).length := by unfold encR; rw [List.length_append]
      have ht1 := textL_len w.f0; have ht2 := textL_len w.f1
      have e : mkB acc ++ (mkB (textL w.f0) ++ mkB (textL w.f1)) = mkB (acc ++ encR w) := by
        refine str_ext ?_
        simp only [app_list, mkB_list, encR, List.append_assoc]
      have next := ih l (i + 1) (acc ++ encR w) (by omega) h (by rw [List.length_append]; omega) hl hb
      rw [List.append_assoc] at next
      refine Ev.step (fun k => ?_) next
      simp only [run_Bytes.l0]
      rw [if_pos (by omega), if_pos (by omega), if_pos (by omega), rdR_get _ _ h, ← hw, text_eq _ hx.1, Option.bind_some, text_eq _ hx.2, Option.bind_some, mkB_size, mkB_size, if_pos (by omega),
        ByteArray.size_append, mkB_size, mkB_size, mkB_size, if_pos (by omega), e, wrap_succ i (by omega)]
    · exact done l i acc h (by omega)
theorem bytesR_ev (l : List S62) (hl : l.length < 4611686018427387904) (ho : (bodyR l).length ≤ 140737488355328)
    (hb : ∀ x ∈ l, x.f0.size < 4611686018427387904 ∧ x.f1.size < 4611686018427387904) : Ev (fun k => run_Bytes.f k l) (if mayR l = true then (mkB (sealL (mkB (bodyR l))), 0) else ((⟨#[]⟩ : ByteArray), 1)) := by
  unfold run_Bytes.f
  refine Ev.bind (mayR_ev l hl) ?_
  by_cases hm : mayR l = true
  · rw [if_pos hm]
    have hq : IntKind.u64.wrap (l.length : Int) = ((l.length : Nat) : Int) := by rw [u64w]; omega
    have n2 := numL_len l.length
    have e : (⟨#[]⟩ : ByteArray) ++ mkB (numL l.length) = mkB (numL l.length) := by
      refine str_ext ?_
      have : (⟨#[]⟩ : ByteArray).toList = [] := mkB_list []
      simp only [app_list, mkB_list, this, List.nil_append]
    have next := rbytes_l0' l.length l 0 (numL l.length) (by omega) (by omega) (by rw [List.drop_zero]; unfold bodyR at ho; rw [List.length_append] at ho; exact ho) hl hb
    simp only [if_pos hm, hq, num_eq l.length (show l.length < 18446744073709551616 by omega), numB_eq, Option.bind_some, mkB_size, if_pos (show 0 + (numL l.length).length ≤ 140737488355328 by omega), e]
    refine ev_eq next ?_
    rw [List.drop_zero]
    rfl
  · rw [if_neg hm]; simp only [if_neg hm]; exact Ev.now _
theorem loopR_back : ∀ (l acc : List S62) (q : List UInt8), (∀ x ∈ l, x.f0.size ≤ 65536 ∧ x.f1.size ≤ 65536) → loopR l.length (rowsR l ++ q) acc = (q, acc ++ l)
  | [], acc, q, _ => by simp [loopR, rowsR]
  | w :: r, acc, q, h => by
    have hw := h w List.mem_cons_self
    have e : (⟨mkB w.f0.toList, mkB w.f1.toList⟩ : S62) = w := by rw [mkB_self, mkB_self]
    have h1 : tT (rowsR (w :: r) ++ q) 65536 = some (w.f0.toList, textL w.f1 ++ (rowsR r ++ q)) := by
      rw [rowsR_cons]
      unfold encR
      rw [List.append_assoc, List.append_assoc]
      exact tT_text w.f0 65536 _ hw.1 (by omega)
    have h2 : tT (textL w.f1 ++ (rowsR r ++ q)) 65536 = some (w.f1.toList, rowsR r ++ q) := tT_text w.f1 65536 _ hw.2 (by omega)
    rw [List.length_cons]
    simp only [loopR, h1, h2, e]
    rw [loopR_back r (acc ++ [w]) q (fun x hx => h x (List.mem_cons_of_mem _ hx)), List.append_assoc]
    rfl
theorem takeQ_back {l : List S62} (h : mayR l = true) (ho : (bodyR l).length ≤ 1073741824) : openL (sealL (mkB (bodyR l))) 1073741824 = (bodyR l, [], 0) ∧ takeQ (sealL (mkB (bodyR l))) = (l, 0) := by
  have hlen : l.length < 18446744073709551616 := by
    have : l.length ≤ (rowsR l).length := by
      clear h ho
      induction l with
      | nil => exact Nat.zero_le _
      | cons x r ih =>
        rw [rowsR_cons, List.length_append, List.length_cons]
        have : 1 ≤ (encR x).length := by
          unfold encR textL numL
          have hp : 0 < (dg 20 x.f0.size [59]).length := List.length_pos_iff.2 (dg_ne 19 x.f0.size [59])
          simp only [List.length_append]
          omega
        omega
    unfold bodyR at ho
    rw [List.length_append] at ho
    omega
  have h1 : tT (sealL (mkB (bodyR l))) 1073741824 = some (bodyR l, numL (sv (mkB (bodyR l)))) := by
    have := tT_text (mkB (bodyR l)) 1073741824 (numL (sv (mkB (bodyR l)))) (by rw [mkB_size]; exact ho) (by omega)
    rw [mkB_list] at this
    exact this
  obtain ⟨p1, p2, p3⟩ := tT_some h1
  have h2 : tn (numL (sv (mkB (bodyR l)))) = (sv (mkB (bodyR l)), [], 0) := by
    have := tn_num (sv (mkB (bodyR l))) [] (sv_lt _)
    rwa [List.append_nil] at this
  have ho2 : openL (sealL (mkB (bodyR l))) 1073741824 = (bodyR l, [], 0) := by
    unfold openL
    rw [p1, p2, p3, h2, if_pos rfl, if_pos rfl, if_pos rfl]
  refine ⟨ho2, ?_⟩
  have h3 : tn (bodyR l) = (l.length, rowsR l, 0) := tn_num l.length (rowsR l) hlen
  have h4 := loopR_back l [] [] (mayR_long h)
  rw [List.append_nil, List.nil_append] at h4
  unfold takeQ
  rw [ho2, h3, if_pos ⟨rfl, rfl, rfl⟩, h4]
  unfold endR
  rw [if_pos rfl, if_pos rfl, if_pos h]
theorem sameR_l0 : ∀ (n : Nat) (l : List S62) (i : Nat), l.length - i ≤ n → l.length < 4611686018427387904 → Ev (fun k => stanchionref05_Same.l0 k l l (i : Int)) true := by
  intro n
  induction n with
  | zero => intro l i hn hl; exact Ev.step (f := fun k => some true) (fun k => by simp only [stanchionref05_Same.l0]; rw [if_neg (by omega)]) (Ev.now _)
  | succ n ih =>
    intro l i hn hl
    by_cases hi : i < l.length
    · refine Ev.step (f := fun k => stanchionref05_Same.l0 k l l ((i + 1 : Nat) : Int)) (fun k => ?_) (ih l (i + 1) (by omega) hl)
      simp only [stanchionref05_Same.l0]
      rw [if_pos (by omega), if_pos (by omega), if_pos (by omega), if_neg (by simp), wrap_succ i (by omega)]
    · exact Ev.step (f := fun k => some true) (fun k => by simp only [stanchionref05_Same.l0]; rw [if_neg (by omega)]) (Ev.now _)
theorem sameR_ev (l : List S62) (hl : l.length < 4611686018427387904) : Ev (fun k => stanchionref05_Same.f k l l) true := by
  refine Ev.congr (fun k => ?_) (sameR_l0 l.length l 0 (by omega) hl)
  unfold stanchionref05_Same.f
  rw [if_pos rfl]
  rfl
theorem rshown_ev : Ev (fun k => stanchionlaw06_shown.f k) true := Ev.of stanchionlaw06_shown.mono (k := 100) (by decide +kernel)
end Go.Proofs.Ytbhkopbalhhpgaa.PL
