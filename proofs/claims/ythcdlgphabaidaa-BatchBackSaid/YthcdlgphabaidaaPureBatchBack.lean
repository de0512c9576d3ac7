/- What the law BatchBack comes to: true, where the input is of the bulk that is asked. -/
import Derived.Test.YthcdlgphabaidaaGdBatchBack
import Derived.Test.YthcdlgphabaidaaPRBw
namespace Go.Proofs.Ythcdlgphabaidaa.PR
open Go.RowKit Go.Proofs.YthcdlgphabaidaaW.PrintWords
set_option linter.unusedVariables false
set_option linter.unusedSimpArgs false

/- bytes behind change nothing of what is taken -/
theorem tn_app {l : List UInt8} (q : List UInt8) (h : (tn l).2.2 = 0) : tn (l ++ q) = ((tn l).1, (tn l).2.1 ++ q, 0) := by
  unfold tn at h
  split at h
  · exact absurd h (by decide)
  · rename_i hc
    cases hv : valD (l.take (nd l)) 0 with
    | none => rw [hv] at h; exact absurd (show (3 : Int) = 0 from h) (by decide)
    | some v =>
      rw [hv, fin_some] at h
      split at h
      · exact absurd h (by decide)
      · rename_i hl
        split at h
        · rename_i h59
          have hlt : nd l < l.length := by omega
          have hsp : l = l.take (nd l) ++ 59 :: l.drop (nd l + 1) := by
            have e := h59.1
            rw [List.getElem?_eq_getElem hlt, Option.some.injEq] at e
            rw [← e, ← List.drop_eq_getElem_cons hlt, List.take_append_drop]
          have hlen : (l.take (nd l)).length = nd l := by rw [List.length_take]; omega
          have hnd : nd (l ++ q) = nd l := by
            have e : l ++ q = l.take (nd l) ++ 59 :: (l.drop (nd l + 1) ++ q) := by
              conv => lhs; rw [hsp]
              rw [List.append_assoc, List.cons_append]
            rw [e, nd_app _ _ _ (nd_digits l) (by decide), hlen]
          have hhd : (l ++ q).head? = l.head? := by
            cases l with
            | nil => simp at hlt
            | cons x r => rfl
          have ht : (l ++ q).take (nd l) = l.take (nd l) := by rw [List.take_append_of_le_length (by omega)]
          have hg : (l ++ q)[nd l]? = l[nd l]? := List.getElem?_append_left hlt
          have hdr : (l ++ q).drop (nd l + 1) = l.drop (nd l + 1) ++ q := by rw [List.drop_append_of_le_length (by omega)]
          unfold tn
          rw [hnd, hhd, if_neg hc, if_neg hc, ht, hv, fin_some, fin_some, hnd, if_neg (by rw [List.length_append]; omega), if_neg hl, hg, if_pos h59, if_pos h59, hdr]
        · exact absurd h (by decide)
theorem nT_app {l : List UInt8} {m v : Nat} {r : List UInt8} (q : List UInt8) (h : nT l m = some (v, r)) : nT (l ++ q) m = some (v, r ++ q) := by
  obtain ⟨h1, h2, h3, h4⟩ := nT_some h
  unfold nT
  rw [tn_app q h1, h2, h4, if_pos ⟨rfl, h3⟩]
theorem tT_app {l : List UInt8} {m : Nat} {t r : List UInt8} (q : List UInt8) (h : tT l m = some (t, r)) : tT (l ++ q) m = some (t, r ++ q) := by
  obtain ⟨h1, h2, h3⟩ := tT_some h
  unfold tt at h1 h2 h3
  by_cases he : (tn l).2.2 = 0
  · rw [if_pos he] at h1 h2 h3
    by_cases h4 : m < (tn l).1
    · rw [if_pos h4] at h1; exact absurd h1 (by decide)
    · rw [if_neg h4] at h1 h2 h3
      by_cases h5 : (tn l).2.1.length < (tn l).1
      · rw [if_pos h5] at h1; exact absurd h1 (by decide)
      · rw [if_neg h5] at h2 h3
        have e : tt (l ++ q) m = (t, r ++ q, 0) := by
          unfold tt
          rw [tn_app q he, if_pos rfl, if_neg h4, if_neg (by rw [List.length_append]; omega)]
          rw [← h2, ← h3]
          simp only []
          rw [List.take_append_of_le_length (by omega), List.drop_append_of_le_length (by omega)]
        unfold tT
        rw [e, if_pos rfl]
  · rw [if_neg he] at h1; exact absurd h1 he
theorem loopP_app (q : List UInt8) : ∀ (n : Nat) (l : List UInt8) (ws : List S54) (e : List UInt8 × List S54), loopP n l ws = some e → loopP n (l ++ q) ws = some (e.1 ++ q, e.2) := by
  intro n
  induction n with
  | zero => intro l ws e h; unfold loopP at h ⊢; cases h; rfl
  | succ n ih =>
    intro l ws e h
    unfold loopP at h ⊢
    cases ha : nT l 1 with
    | none => rw [ha] at h; cases h
    | some a =>
      obtain ⟨v, r⟩ := a
      rw [ha, Option.bind_some] at h
      rw [nT_app q ha, Option.bind_some]
      cases hb : tT r 32 with
      | none => simp only [hb] at h; cases h
      | some b =>
        obtain ⟨t, r2⟩ := b
        simp only [hb, Option.bind_some] at h
        simp only [tT_app q hb, Option.bind_some]
        cases hd : tT r2 64 with
        | none => simp only [hd] at h; cases h
        | some d =>
          obtain ⟨t2, r3⟩ := d
          simp only [hd, Option.bind_some] at h
          simp only [tT_app q hd, Option.bind_some]
          exact ih _ _ _ h
theorem takeP_app (q : List UInt8) {l : List UInt8} {e : Nat × ByteArray × List UInt8 × List S54} (h : takeP l = some e) : takeP (l ++ q) = some (e.1, e.2.1, e.2.2.1 ++ q, e.2.2.2) := by
  unfold takeP at h ⊢
  cases ha : nT l 2 with
  | none => rw [ha] at h; cases h
  | some a =>
    obtain ⟨v, r⟩ := a
    rw [ha, Option.bind_some] at h
    rw [nT_app q ha, Option.bind_some]
    cases hb : tT r 16 with
    | none => simp only [hb] at h; cases h
    | some b =>
      obtain ⟨t, r2⟩ := b
      simp only [hb, Option.bind_some] at h
      simp only [tT_app q hb, Option.bind_some]
      cases hn : nT r2 24 with
      | none => simp only [hn] at h; cases h
      | some c =>
        obtain ⟨n, r3⟩ := c
        simp only [hn, Option.bind_some] at h
        simp only [nT_app q hn, Option.bind_some]
        cases hp : loopP n r3 [] with
        | none => rw [hp] at h; cases h
        | some z =>
          rw [hp, Option.bind_some] at h
          rw [loopP_app q n r3 [] z hp, Option.bind_some]
          cases h
          rfl
/- what was told is taken as it was -/
theorem valD_app : ∀ (a b : List UInt8) (v : Nat), valD (a ++ b) v = (valD a v).bind (valD b)
  | [], b, v => rfl
  | x :: a, b, v => by
    rw [List.cons_append]
    unfold valD
    split
    · rfl
    · exact valD_app a b _
theorem dg_acc : ∀ (k v : Nat) (acc : List UInt8), dg k v acc = dg k v [] ++ acc
  | 0, v, acc => rfl
  | k + 1, v, acc => by
    unfold dg
    split
    · rfl
    · rw [dg_acc k (v / 10) (UInt8.ofNat (48 + v % 10) :: acc), dg_acc k (v / 10) [UInt8.ofNat (48 + v % 10)], List.append_assoc]; rfl
theorem dig_nat (v : Nat) : (UInt8.ofNat (48 + v % 10)).toNat = 48 + v % 10 := by
  rw [UInt8.toNat_ofNat']; omega
theorem dg_val : ∀ (k v : Nat), v < 10 ^ k → v < 18446744073709551616 → valD (dg k v []) 0 = some v
  | 0, v, h, _ => by
    have : v = 0 := by simpa using h
    subst this; rfl
  | k + 1, v, h, h64 => by
    unfold dg
    split
    · rename_i h0
      unfold valD valD
      rw [dig_nat, if_neg (by omega)]
      congr 1; omega
    · rw [dg_acc, valD_app, dg_val k (v / 10) (by rw [Nat.pow_succ] at h; omega) (by omega), Option.bind_some]
      unfold valD valD
      rw [dig_nat, if_neg (by omega)]
      congr 1; omega
theorem dg_dig : ∀ (k v : Nat), ∀ x ∈ dg k v [], isD x = true
  | 0, v, x, hx => by cases hx
  | k + 1, v, x, hx => by
    have hd : isD (UInt8.ofNat (48 + v % 10)) = true := by
      unfold isD
      rw [dig_nat]
      simp only [Bool.and_eq_true, decide_eq_true_eq]; omega
    unfold dg at hx
    split at hx
    · rw [List.mem_singleton.1 hx]; exact hd
    · rw [dg_acc] at hx
      rcases List.mem_append.1 hx with hx | hx
      · exact dg_dig k _ x hx
      · rw [List.mem_singleton.1 hx]; exact hd
theorem head_app {a b : List UInt8} (h : a ≠ []) : (a ++ b).head? = a.head? := by
  cases a with
  | nil => exact absurd rfl h
  | cons x r => rfl
theorem dg_ne (k v : Nat) (acc : List UInt8) : dg (k + 1) v acc ≠ [] := by
  unfold dg
  split
  · exact List.cons_ne_nil _ _
  · rw [dg_acc]; simp
theorem dg_head : ∀ (k v : Nat), v < 10 ^ k → (dg k v []).head? = some 48 → v = 0
  | 0, v, h, _ => by simpa using h
  | k + 1, v, h, hh => by
    unfold dg at hh
    split at hh
    · rename_i h0
      have e : UInt8.ofNat (48 + v % 10) = 48 := by simpa using hh
      have e2 := congrArg UInt8.toNat e
      rw [dig_nat] at e2
      have : (48 : UInt8).toNat = 48 := rfl
      omega
    · rename_i h0
      rw [dg_acc] at hh
      cases k with
      | zero => rw [Nat.pow_succ] at h; omega
      | succ k =>
        have hne := dg_ne k (v / 10) []
        rw [head_app hne] at hh
        have := dg_head (k + 1) (v / 10) (by rw [Nat.pow_succ] at h; omega) hh
        omega
theorem tn_num (v : Nat) (q : List UInt8) (h64 : v < 18446744073709551616) : tn (numL v ++ q) = (v, q, 0) := by
  have e : numL v ++ q = dg 20 v [] ++ 59 :: q := by unfold numL; rw [dg_acc, List.append_assoc]; rfl
  have hn : nd (dg 20 v [] ++ 59 :: q) = (dg 20 v []).length := nd_app _ _ _ (dg_dig 20 v) (by decide)
  have hl := dg_len 20 v []
  have hp : 0 < (dg 20 v []).length := List.length_pos_iff.2 (dg_ne 19 v [])
  have hc : ¬ (20 < (dg 20 v []).length ∨ (1 < (dg 20 v []).length ∧ (dg 20 v [] ++ 59 :: q).head? = some 48)) := by
    rintro (h | ⟨h1, h2⟩)
    · simp only [List.length_nil] at hl; omega
    · rw [head_app (dg_ne 19 v [])] at h2
      have := dg_head 20 v (by omega) h2
      subst this
      exact absurd h1 (by decide)
  rw [e]
  unfold tn
  rw [hn, if_neg hc, List.take_left', dg_val 20 v (by omega) h64, fin_some, hn, if_neg (by rw [List.length_append, List.length_cons]; omega), if_pos ⟨by rw [List.getElem?_append_right (Nat.le_refl _), Nat.sub_self]; rfl, by omega⟩]
  · congr 2
    rw [List.drop_append, List.drop_of_length_le (by omega)]
    simp
  · rfl
theorem nT_num (v m : Nat) (q : List UInt8) (h64 : v < 18446744073709551616) (h : v ≤ m) : nT (numL v ++ q) m = some (v, q) := by
  unfold nT
  rw [tn_num v q h64, if_pos ⟨rfl, h⟩]
theorem tT_text (s : ByteArray) (m : Nat) (q : List UInt8) (h : s.size ≤ m) (hm : m < 18446744073709551616) : tT (textL s ++ q) m = some (s.toList, q) := by
  have e : tt (textL s ++ q) m = (s.toList, q, 0) := by
    unfold tt textL
    rw [List.append_assoc, tn_num _ _ (by omega), if_pos rfl, if_neg (by omega), if_neg (by rw [List.length_append, str_len]; omega)]
    simp only []
    rw [← str_len, List.take_left', List.drop_left'] <;> rfl
  unfold tT
  rw [e, if_pos rfl]
theorem loop_back : ∀ (ws : List S54) (acc : List S54) (q : List UInt8), (∀ x ∈ ws, x.f0.size ≤ 32 ∧ x.f1.size ≤ 64) → loopP ws.length (wsL ws ++ q) acc = some (q, acc ++ ws)
  | [], acc, q, _ => by unfold loopP; simp [wsL]
  | w :: r, acc, q, h => by
    have hw := h w List.mem_cons_self
    have hb : bitN w.f2 ≤ 1 := by unfold bitN; split <;> omega
    have e : (⟨mkB w.f0.toList, mkB w.f1.toList, decide (bitN w.f2 = 1)⟩ : S54) = w := by
      rw [mkB_self, mkB_self]
      have : decide (bitN w.f2 = 1) = w.f2 := by cases hf : w.f2 <;> rfl
      rw [this]
    rw [List.length_cons, wsL_cons]
    unfold loopP encL
    simp only [List.append_assoc]
    rw [nT_num _ 1 _ (by omega) hb, Option.bind_some]
    simp only [tT_text w.f0 32 _ hw.1 (by omega), Option.bind_some, tT_text w.f1 64 _ hw.2 (by omega), e]
    rw [loop_back r (acc ++ [w]) q (fun x hx => h x (List.mem_cons_of_mem _ hx)), List.append_assoc]
    rfl
theorem take_back {a0 : Int} {a1 : ByteArray} {ws : List S54} (h : mayB a0 a1 ws = true) : takeP (bytesL a0.toNat a1 ws) = some (a0.toNat, a1, [], ws) := by
  obtain ⟨h1, h2, h3, h4⟩ := may_parts h
  unfold takeP bytesL
  rw [nT_num _ 2 _ (by omega) (by omega), Option.bind_some]
  simp only [tT_text a1 16 _ h2 (by omega), Option.bind_some, nT_num ws.length 24 _ (by omega) h3, mkB_self]
  have := loop_back ws [] [] h4
  rw [List.append_nil, List.nil_append] at this
  rw [this, Option.bind_some]
theorem takeR_of {l : List UInt8} {e : Nat × ByteArray × List UInt8 × List S54} (h : takeP l = some e) : takeR l = endT (e.1 : Int) e.2.1 (some (e.2.2.1, e.2.2.2)) := by
  unfold takeR; rw [h]
theorem takeR_errno (l : List UInt8) (h : ∀ e, takeP l = some e → e.2.2.1 = [] → False) : (takeR l).2.2.2 = 3 := by
  unfold takeR
  cases hp : takeP l with
  | none => rfl
  | some e =>
    have := h e hp
    unfold endT
    simp only []
    rw [if_neg (fun q => this q.1)]; rfl
theorem stanchionlaw07_BatchBack.pure : stanchionlaw07_BatchBack.Pure := by
  intro x0 x1 hx0 hx1
  apply Ev.rounds
  unfold stanchionlaw07_BatchBack.f
  have h0 := hx0.2.2.1
  have hk : ∀ x ∈ x0.f2, x.f0.size < 4611686018427387904 ∧ x.f1.size < 4611686018427387904 := fun x hx => by
    have := hx0.2.2.2 x hx
    have h2 := this.1; have h3 := this.2.1
    omega
  refine Ev.bind shown_ev (Ev.bind (bytes_ev _ _ _ (by omega) hk) ?_)
  by_cases hm : mayB x0.f0 x0.f1 x0.f2 = true
  · obtain ⟨p1, p2, p3, p4⟩ := may_parts hm
    have hbk := take_back hm
    have hlen : (bytesL x0.f0.toNat x0.f1 x0.f2).length ≤ 109951162777600 := by
      have ho := wsL_small x0.f2 p4
      have n0 := numL_len x0.f0.toNat; have n1 := textL_len x0.f1; have n2 := numL_len x0.f2.length
      unfold bytesL
      rw [List.length_append, List.length_append, List.length_append]; omega
    obtain ⟨L, hL⟩ : ∃ L, L = bytesL x0.f0.toNat x0.f1 x0.f2 := ⟨_, rfl⟩
    rw [← hL] at hbk hlen ⊢
    have r1 : takeR L = (x0.f0, x0.f1, x0.f2, 0) := by
      rw [takeR_of hbk]
      have hz : ((x0.f0.toNat : Nat) : Int) = x0.f0 := by omega
      unfold endT
      simp only [hz, hm, true_and, if_pos]
    have r2 : (takeR (L ++ [48])).2.2.2 = 3 := takeR_errno _ (fun e he h => by
      rw [takeP_app [48] hbk] at he
      cases he
      cases h)
    have q48 : mkB L ++ (⟨#[48]⟩ : ByteArray) = mkB (L ++ [48]) := str_ext (by
      have e : (⟨#[48]⟩ : ByteArray).toList = [48] := mkB_list [48]
      rw [app_list, mkB_list, mkB_list, e])
    rw [if_pos hm]
    simp only [if_pos]
    refine Ev.bind (take_ev L (by omega)) ?_
    rw [r1]
    refine Ev.bind (same_batch _ _ _ (by omega)) ?_
    simp only [mkB_size, if_pos (show L.length + 1 ≤ 9223372036854775807 by omega), q48]
    refine Ev.bind (take_ev (L ++ [48]) (by rw [List.length_append, List.length_singleton]; omega)) ?_
    simp only [if_pos, r2]
    have fin_ : Ev (fun k => stanchionlaw07_BatchBack.j0 k x1 true (mkB L) false) true := by
      by_cases c1 : x1 < 0
      · refine Ev.step (f := fun k => some true) (fun k => ?_) (Ev.now _)
        simp only [stanchionlaw07_BatchBack.j0]
        rw [if_neg (by decide), if_pos c1]
      · by_cases c2 : x1 ≥ (L.length : Int)
        · refine Ev.step (f := fun k => some true) (fun k => ?_) (Ev.now _)
          simp only [stanchionlaw07_BatchBack.j0]
          rw [if_neg (by decide), if_neg c1, mkB_size, if_pos c2]
        · have r3 : (takeR (L.take x1.toNat)).2.2.2 = 3 := takeR_errno _ (fun e he h => by
            have hq := takeP_app (L.drop x1.toNat) he
            rw [List.take_append_drop, hbk, h, List.nil_append] at hq
            injection hq with hq
            have hq := congrArg (fun z => z.2.2.1) hq
            have hz : (L.drop x1.toNat).length = 0 := by rw [← show ([] : List UInt8) = L.drop x1.toNat from hq]; rfl
            rw [List.length_drop] at hz
            omega)
          refine Ev.step (f := fun k => (batch_Take.f k (mkB (L.take x1.toNat))).bind fun bt265 => (if true = true then (some (bt265.2.2.2 == 3)) else (some false))) (fun k => ?_) (Ev.bind (take_ev _ (by rw [List.length_take]; omega)) ?_)
          · simp only [stanchionlaw07_BatchBack.j0]
            rw [if_neg (by decide), if_neg c1, mkB_size, if_neg c2, if_pos (by omega), if_pos (by omega), mk_take]
          · simp only [if_pos, r3]
            exact Ev.now _
    exact fin_
  · rw [if_neg hm]
    simp only [if_pos, if_neg (show ¬ ((1 : Int) = 0) by decide)]
    refine Ev.bind (may_ev _ _ _ (by omega)) ?_
    have : mayB x0.f0 x0.f1 x0.f2 = false := by simpa using hm
    rw [this]
    exact Ev.now _
end Go.Proofs.Ythcdlgphabaidaa.PR
