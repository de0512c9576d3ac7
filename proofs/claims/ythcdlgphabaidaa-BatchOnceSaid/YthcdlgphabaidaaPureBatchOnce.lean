/- What the law BatchOnce comes to: true, where the input is of the bulk that is asked. -/
import Derived.Test.YthcdlgphabaidaaGdBatchOnce
import Derived.Test.YthcdlgphabaidaaPOBm
namespace Go.Proofs.Ythcdlgphabaidaa.PO
open Go.RowKit Go.Proofs.YthcdlgphabaidaaW.PrintWords

theorem rdb_get (xs : List S37) (i : Nat) (h : i < xs.length) : rd_T37 xs (i : Int) = xs[i] := by simp [rd_T37, List.getD_eq_getElem?_getD, h]
/-- What a batch that is done, or not, leaves behind. -/
theorem doL_cases (d t : List S68) (b : S37) :
    ((findL t b.f1).2 = true ∨ mayB b.f0 b.f1 b.f2 = false) ∧ (∃ e : Int, e ≠ 0 ∧ doL d t b.f0 b.f1 b.f2 = (d, t, e)) ∨
    mayB b.f0 b.f1 b.f2 = true ∧ (findL t b.f1).2 = false ∧ doL d t b.f0 b.f1 b.f2 = (b.f2.foldl stepW d, putL68 t b.f1 (howB b.f0), 0) := by
  unfold doL
  cases hm : mayB b.f0 b.f1 b.f2 with
  | false => exact .inl ⟨.inr rfl, 1, by decide, by rw [if_neg (by decide)]⟩
  | true =>
    cases hf : (findL t b.f1).2 with
    | true => exact .inl ⟨.inl rfl, 8, by decide, by rw [if_pos rfl, if_pos rfl]⟩
    | false => exact .inr ⟨rfl, rfl, by rw [if_pos rfl, if_neg (by decide)]⟩
theorem may_kind {a0 : Int} {a1 : ByteArray} {ws : List S54} (h : mayB a0 a1 ws = true) : a0 = 1 ∨ a0 = 2 := by
  unfold mayB at h
  simp only [Bool.and_eq_true, Bool.or_eq_true, decide_eq_true_eq] at h
  omega
theorem how_kind {a0 : Int} (h : a0 = 1 ∨ a0 = 2) : (((howB a0).toList == ([99] : List UInt8)) != (a0 == 1)) = false := by
  have e : (⟨#[99]⟩ : ByteArray).toList = [99] := by rw [str_data]
  have e2 : (⟨#[103]⟩ : ByteArray).toList = [103] := by rw [str_data]
  rcases h with rfl | rfl
  · unfold howB; rw [if_neg (by decide), e]; rfl
  · unfold howB; rw [if_pos rfl, e2]; rfl
theorem may_len {a0 : Int} {a1 : ByteArray} {ws : List S54} (h : mayB a0 a1 ws = true) : ws.length ≤ 24 := by
  unfold mayB at h
  simp only [Bool.and_eq_true, Bool.or_eq_true, decide_eq_true_eq] at h
  omega
theorem once_l0 : ∀ (n : Nat) (l : List S37) (i : Nat) (d t : List S68), l.length - i ≤ n → i ≤ l.length → d.length ≤ 24 * i → t.length ≤ i → l.length ≤ 140737488351232 → (∀ x ∈ l, x.f2.length * 40 ≤ 140737488351232) → Ev (fun k => stanchionlaw07_BatchOnce.l0 k l true (i : Int) d t) true := by
  intro n
  have fin : ∀ (l : List S37) (d t : List S68) (i : Nat), Ev (fun k => stanchionlaw07_BatchOnce.j1 k l true (i : Int) false d t) true := fun l d t i =>
    Ev.step (f := fun k => some true) (fun k => by simp only [stanchionlaw07_BatchOnce.j1]; rw [if_neg (by decide)]) (Ev.now _)
  have done : ∀ (l : List S37) (d t : List S68) (i : Nat), (l.length ≤ i ∨ 200 ≤ i) → Ev (fun k => stanchionlaw07_BatchOnce.l0 k l true (i : Int) d t) true := fun l d t i h => by
    refine Ev.step (f := fun k => stanchionlaw07_BatchOnce.j1 k l true (i : Int) false d t) (fun k => ?_) (fin l d t i)
    simp only [stanchionlaw07_BatchOnce.l0]
    by_cases h1 : (i : Int) < (l.length : Int)
    · rw [if_pos h1, decide_eq_false (by omega)]
    · rw [if_neg h1]
  induction n with
  | zero => intro l i d t hn hi ho ht hl hb; exact done l d t i (by omega)
  | succ n ih =>
    intro l i d t hn hi ho ht hl hb
    by_cases h : i < l.length ∧ i < 200
    · obtain ⟨b, hbe⟩ : ∃ b, b = l[i]'h.1 := ⟨_, rfl⟩
      have hw := hb (l[i]'h.1) (List.getElem_mem h.1)
      rw [← hbe] at hw
      have p0 : (0 : Int) ≤ (i : Int) := by omega
      have p1 : (i : Int) < (l.length : Int) := by omega
      refine Ev.step (f := fun k => stanchionlaw07_BatchOnce.j1 k l true (i : Int) true d t) (fun k => by simp only [stanchionlaw07_BatchOnce.l0]; rw [if_pos p1, decide_eq_true (by omega)]) ?_
      have next : ∀ d' t' : List S68, d'.length ≤ d.length + 24 → t'.length ≤ t.length + 1 → Ev (fun k => stanchionlaw07_BatchOnce.l0 k l true (wrap64 ((i : Int) + 1)) d' t') true := fun d' t' h1 h2 => by
        rw [wrap_succ i (by omega)]
        exact ih l (i + 1) d' t' (by omega) h.1 (by omega) (by omega) hl hb
      refine Ev.step (f := ?ff) (fun k => ?h1) ?h2
      case h1 =>
        simp only [stanchionlaw07_BatchOnce.j1]
        rw [if_pos trivial, if_pos p0, if_pos p1, rdb_get _ _ h.1, ← hbe, decided_eq d t b.f1 (by omega), Option.bind_some]
      refine Ev.bind (do_ev d t b.f0 b.f1 b.f2 (by omega) (by omega)) ?_
      rcases doL_cases d t b with ⟨hc, e, he, hd⟩ | ⟨hm, hf, hd⟩
      · rw [hd]
        simp only [decided_eq d t b.f1 (show t.length < 4611686018427387904 by omega), Option.bind_some, if_neg he]
        have end2 : ∀ is : Bool, Ev (fun k => stanchionlaw07_BatchOnce.j2 k l true (i : Int) e (findL t b.f1).1 is false d t) true := fun is => by
          refine Ev.step (f := fun k => stanchionlaw07_BatchOnce.j3 k l true (i : Int) e false d t) (fun k => ?_) ?_
          · simp only [stanchionlaw07_BatchOnce.j2]
            rw [if_neg (by decide), if_neg he]
          refine Ev.step (f := fun k => (batch_Do.f k d t b.f0 b.f1 b.f2).bind fun bt237 => stanchionlaw07_BatchOnce.l0 k l true (wrap64 ((i : Int) + 1)) d t) (fun k => ?_) (Ev.bind (do_ev d t b.f0 b.f1 b.f2 (by omega) (by omega)) (next d t (by omega) (by omega)))
          simp only [stanchionlaw07_BatchOnce.j3]
          rw [if_neg (by decide), if_pos p0, if_pos p1, rdb_get _ _ h.1, ← hbe]
          simp only [if_neg he]
        cases hf : (findL t b.f1).2 with
        | true =>
          simp only [if_pos]
          refine Ev.bind (bsame_ev d t d t (by omega) (by omega)) ?_
          rw [decP_self, decP_self]
          exact end2 true
        | false =>
          simp only [if_neg (show ¬ (false = true) by decide)]
          exact end2 false
      · have hq := may_len hm
        have hL := doL_len d t b.f0 b.f1 b.f2
        rw [hd] at hL ⊢
        obtain ⟨d', hd'⟩ : ∃ d', d' = b.f2.foldl stepW d := ⟨_, rfl⟩
        obtain ⟨t', ht'⟩ : ∃ t', t' = putL68 t b.f1 (howB b.f0) := ⟨_, rfl⟩
        have hown : findL t' b.f1 = (howB b.f0, true) := by rw [ht']; exact find_put_own _ _ _
        rw [← hd', ← ht'] at hL ⊢
        have hl1 : d'.length ≤ d.length + b.f2.length := hL.1
        have hl2 : t'.length ≤ t.length + 1 := hL.2
        have hd2 : doL d' t' b.f0 b.f1 b.f2 = (d', t', 8) := by
          unfold doL
          rw [if_pos hm, hown, if_pos rfl]
        simp only [decided_eq d' t' b.f1 (show t'.length < 4611686018427387904 by omega), Option.bind_some, hf, hown, if_neg (show ¬ (false = true) by decide)]
        refine Ev.step (f := fun k => stanchionlaw07_BatchOnce.j3 k l true (i : Int) 0 false d' t') (fun k => ?_) ?_
        · simp only [stanchionlaw07_BatchOnce.j2]
          rw [if_neg (by decide), if_pos trivial, if_pos trivial, if_pos p0, if_pos p1, rdb_get _ _ h.1, ← hbe, how_kind (may_kind hm)]
        refine Ev.step (f := ?fg) (fun k => ?h3) ?h4
        case h3 =>
          simp only [stanchionlaw07_BatchOnce.j3]
          rw [if_neg (by decide), if_pos p0, if_pos p1, rdb_get _ _ h.1, ← hbe]
        refine Ev.bind (do_ev d' t' b.f0 b.f1 b.f2 (by omega) (by omega)) ?_
        rw [hd2]
        simp only [if_pos]
        refine Ev.bind (bsame_ev d' t' d' t' (by omega) (by omega)) ?_
        rw [decP_self, decP_self]
        simp only [Bool.and_self, if_pos]
        exact next d' t' (by omega) hl2
    · exact done l d t i (by omega)
theorem stanchionlaw07_BatchOnce.pure : stanchionlaw07_BatchOnce.Pure := by
  intro x0 hx0
  apply Ev.rounds
  unfold stanchionlaw07_BatchOnce.f
  have h0 := hx0.1
  exact Ev.bind shown_ev (once_l0 x0.length x0 0 [] [] (by omega) (by omega) (by simp) (by simp) (by omega) (fun x hx => (hx0.2 x hx).2.2.1))
end Go.Proofs.Ythcdlgphabaidaa.PO
