/- A number's and a text's bytes, a batch's bytes (the program's and the document's). -/
import Derived.Test.YthcdlgphabaidaaPRBt
namespace Go.Proofs.Ythcdlgphabaidaa.PR
open Go.RowKit Go.Proofs.YthcdlgphabaidaaW.PrintWords

theorem may_kind {a0 : Int} {a1 : ByteArray} {ws : List S54} (h : mayB a0 a1 ws = true) : a0 = 1 ∨ a0 = 2 := by
  unfold mayB at h
  simp only [Bool.and_eq_true, Bool.or_eq_true, decide_eq_true_eq] at h
  omega
theorem may_parts {a0 : Int} {a1 : ByteArray} {ws : List S54} (h : mayB a0 a1 ws = true) : (a0 = 1 ∨ a0 = 2) ∧ a1.size ≤ 16 ∧ ws.length ≤ 24 ∧ ∀ x ∈ ws, x.f0.size ≤ 32 ∧ x.f1.size ≤ 64 := by
  have hk := may_kind h
  unfold mayB at h
  simp only [Bool.and_eq_true, Bool.or_eq_true, decide_eq_true_eq, List.all_eq_true] at h
  refine ⟨hk, by omega, by omega, fun x hx => ?_⟩
  have hw : okW x = true := by
    have := h.2.2.2.2.2.2
    exact this x hx
  unfold okW at hw
  simp only [Bool.and_eq_true, decide_eq_true_eq] at hw
  exact ⟨hw.2.1, hw.2.2.1⟩
def numL (v : Nat) : List UInt8 := dg 20 v [59]
theorem numB_eq (v : Nat) : numB v = mkB (numL v) := rfl
theorem dg_len : ∀ (k v : Nat) (acc : List UInt8), (dg k v acc).length ≤ k + acc.length
  | 0, v, acc => by unfold dg; omega
  | k + 1, v, acc => by
    unfold dg
    split
    · rw [List.length_cons]; omega
    · have := dg_len k (v / 10) (UInt8.ofNat (48 + v % 10) :: acc)
      rw [List.length_cons] at this; omega
theorem numL_len (v : Nat) : (numL v).length ≤ 21 := dg_len 20 v [59]
theorem num_eq (v : Nat) (h64 : v < 18446744073709551616) : dec_Num.f (v : Int) = some (numB v) := by
  unfold dec_Num.f
  rw [if_pos (by omega), if_pos (by omega), Int.toNat_natCast]
def textL (s : ByteArray) : List UInt8 := numL s.size ++ s.toList
theorem textL_len (s : ByteArray) : (textL s).length ≤ 21 + s.size := by
  have := numL_len s.size
  unfold textL
  rw [List.length_append, str_len]; omega
theorem text_eq (s : ByteArray) (h : s.size < 4611686018427387904) : dec_Text.f s = some (mkB (textL s)) := by
  have hn := numL_len s.size
  unfold dec_Text.f
  rw [u64w, Int.emod_eq_of_lt (by omega) (by omega), num_eq _ (by omega), Option.bind_some, if_pos (by rw [numB_eq, mkB_size]; omega)]
  congr 1
  refine str_ext ?_
  rw [app_list, numB_eq, mkB_list, mkB_list]; rfl
def bitN (b : Bool) : Nat := if b = true then 1 else 0
def encL (w : S54) : List UInt8 := numL (bitN w.f2) ++ (textL w.f0 ++ textL w.f1)
theorem encL_len (w : S54) : (encL w).length ≤ 63 + w.f0.size + w.f1.size := by
  have h0 := numL_len (bitN w.f2); have h1 := textL_len w.f0; have h2 := textL_len w.f1
  unfold encL
  rw [List.length_append, List.length_append]; omega
def wsL (ws : List S54) : List UInt8 := (ws.map encL).flatten
theorem wsL_cons (w : S54) (r : List S54) : wsL (w :: r) = encL w ++ wsL r := by simp [wsL]
def bytesL (a0 : Nat) (a1 : ByteArray) (ws : List S54) : List UInt8 := numL a0 ++ (textL a1 ++ (numL ws.length ++ wsL ws))
theorem wsL_small : ∀ ws : List S54, (∀ x ∈ ws, x.f0.size ≤ 32 ∧ x.f1.size ≤ 64) → (wsL ws).length ≤ 159 * ws.length
  | [], _ => by simp [wsL]
  | w :: r, h => by
    have h1 := wsL_small r (fun x hx => h x (List.mem_cons_of_mem _ hx))
    have h2 := encL_len w
    have h3 := h w List.mem_cons_self
    rw [wsL_cons, List.length_append, List.length_cons]; omega
theorem bytes_l0 : ∀ (n : Nat) (ws : List S54) (i : Nat) (acc : List UInt8), ws.length - i ≤ n → i ≤ ws.length → acc.length + (wsL (ws.drop i)).length ≤ 140737488355328 → ws.length < 4611686018427387904 →
    (∀ x ∈ ws, x.f0.size < 4611686018427387904 ∧ x.f1.size < 4611686018427387904) → Ev (fun k => batch_Bytes.l0 k (mkB acc) ws (ws.length : Int) (i : Int)) (mkB (acc ++ wsL (ws.drop i)), 0) := by
  intro n
  have done : ∀ (ws : List S54) (i : Nat) (acc : List UInt8), ws.length ≤ i → Ev (fun k => batch_Bytes.l0 k (mkB acc) ws (ws.length : Int) (i : Int)) (mkB (acc ++ wsL (ws.drop i)), 0) := fun ws i acc h => by
    rw [List.drop_of_length_le h]
    refine Ev.step (f := fun k => some (mkB acc, 0)) (fun k => by simp only [batch_Bytes.l0]; rw [if_neg (by omega)]) (ev_eq (Ev.now _) ?_)
    simp [wsL]
  induction n with
  | zero => intro ws i acc hn hi ho hl hb; exact done ws i acc (by omega)
  | succ n ih =>
    intro ws i acc hn hi ho hl hb
    rcases Nat.lt_or_ge i ws.length with h | h
    · have hx := hb _ (List.getElem_mem h)
      rw [List.drop_eq_getElem_cons h, wsL_cons] at ho ⊢
      obtain ⟨w, hw⟩ : ∃ w, w = ws[i] := ⟨_, rfl⟩
      rw [← hw] at hx ho ⊢
      rw [List.length_append] at ho
      have hE : (encL w).length = (numL (bitN w.f2)).length + ((textL w.f0).length + (textL w.f1).length) := by unfold encL; rw [List.length_append, List.length_append]
      have hn1 := numL_len (bitN w.f2); have ht1 := textL_len w.f0; have ht2 := textL_len w.f1
      have e : mkB acc ++ ((mkB (numL (bitN w.f2)) ++ mkB (textL w.f0)) ++ mkB (textL w.f1)) = mkB (acc ++ encL w) := by
        refine str_ext ?_
        simp only [app_list, mkB_list, encL, List.append_assoc]
      have next := ih ws (i + 1) (acc ++ encL w) (by omega) h (by rw [List.length_append]; omega) hl hb
      rw [List.append_assoc] at next
      refine Ev.step (fun k => ?_) next
      simp only [batch_Bytes.l0]
      rw [if_pos (by omega), if_pos (by omega), if_pos (by omega), rdw_get _ _ h, ← hw]
      cases hf : w.f2 with
      | true =>
        rw [if_pos rfl, show dec_Num.f 1 = some (mkB (numL (bitN w.f2))) by rw [hf]; exact num_eq 1 (by decide), Option.bind_some, text_eq _ hx.1, Option.bind_some, mkB_size, mkB_size, if_pos (by omega), text_eq _ hx.2, Option.bind_some,
          ByteArray.size_append, mkB_size, mkB_size, mkB_size, if_pos (by omega), ByteArray.size_append, ByteArray.size_append, mkB_size, mkB_size, mkB_size, mkB_size, if_pos (by omega), e, wrap_succ i (by omega)]
      | false =>
        rw [if_neg (by decide), show dec_Num.f 0 = some (mkB (numL (bitN w.f2))) by rw [hf]; exact num_eq 0 (by decide), Option.bind_some, text_eq _ hx.1, Option.bind_some, mkB_size, mkB_size, if_pos (by omega), text_eq _ hx.2, Option.bind_some,
          ByteArray.size_append, mkB_size, mkB_size, mkB_size, if_pos (by omega), ByteArray.size_append, ByteArray.size_append, mkB_size, mkB_size, mkB_size, mkB_size, if_pos (by omega), e, wrap_succ i (by omega)]
    · exact done ws i acc h
theorem bytes_ev (a0 : Int) (a1 : ByteArray) (ws : List S54) (hl : ws.length < 4611686018427387904)
    (hb : ∀ x ∈ ws, x.f0.size < 4611686018427387904 ∧ x.f1.size < 4611686018427387904) : Ev (fun k => batch_Bytes.f k a0 a1 ws) (if mayB a0 a1 ws = true then (mkB (bytesL a0.toNat a1 ws), 0) else ((⟨#[]⟩ : ByteArray), 1)) := by
  unfold batch_Bytes.f
  refine Ev.bind (may_ev a0 a1 ws hl) ?_
  by_cases hm : mayB a0 a1 ws = true
  · obtain ⟨hk, h1, p3, p4⟩ := may_parts hm
    have ho := wsL_small ws p4
    have hw : IntKind.u64.wrap a0 = ((a0.toNat : Nat) : Int) := by rw [u64w]; omega
    have hq : IntKind.u64.wrap (ws.length : Int) = ((ws.length : Nat) : Int) := by rw [u64w]; omega
    have n0 := numL_len a0.toNat; have n1 := textL_len a1; have n2 := numL_len ws.length
    have e : (⟨#[]⟩ : ByteArray) ++ ((mkB (numL a0.toNat) ++ mkB (textL a1)) ++ mkB (numL ws.length)) = mkB (numL a0.toNat ++ (textL a1 ++ numL ws.length)) := by
      refine str_ext ?_
      have : (⟨#[]⟩ : ByteArray).toList = [] := mkB_list []
      simp only [app_list, mkB_list, this, List.append_assoc, List.nil_append]
    have next := bytes_l0 ws.length ws 0 (numL a0.toNat ++ (textL a1 ++ numL ws.length)) (by omega) (by omega) (by rw [List.drop_zero, List.length_append, List.length_append]; omega) hl hb
    rw [if_pos hm]
    simp only [if_pos hm, hw, hq, num_eq a0.toNat (show a0.toNat < 18446744073709551616 by omega), text_eq a1 (show a1.size < 4611686018427387904 by omega), num_eq ws.length (show ws.length < 18446744073709551616 by omega), numB_eq, Option.bind_some, ByteArray.size_append, mkB_size, if_pos (show (numL a0.toNat).length + (textL a1).length ≤ 9223372036854775807 by omega), if_pos (show (numL a0.toNat).length + (textL a1).length + (numL ws.length).length ≤ 9223372036854775807 by omega), if_pos (show 0 + ((numL a0.toNat).length + (textL a1).length + (numL ws.length).length) ≤ 140737488355328 by omega), e]
    refine ev_eq next ?_
    rw [List.drop_zero]
    simp only [bytesL, List.append_assoc]
  · rw [if_neg hm]; simp only [if_neg hm]; exact Ev.now _
end Go.Proofs.Ythcdlgphabaidaa.PR
