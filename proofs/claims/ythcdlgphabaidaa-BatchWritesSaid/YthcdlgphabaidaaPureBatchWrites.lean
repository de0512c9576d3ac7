/- What the law BatchWrites comes to: true, where the input is of the bulk that is asked. -/
import Derived.Test.YthcdlgphabaidaaGdBatchWrites
import Derived.Test.YthcdlgphabaidaaPBBm
namespace Go.Proofs.Ythcdlgphabaidaa.PB
open Go.RowKit Go.Proofs.YthcdlgphabaidaaW.PrintWords

theorem find_own (d : List S68) (ws : List S54) (i : Nat) (h : i < ws.length) (hr : risesW ws = true) : findL (ws.foldl stepW d) (ws[i]).f0 = if (ws[i]).f2 = true then (⟨#[]⟩, false) else ((ws[i]).f1, true) := by
  have e : ws = ws.take i ++ ws[i] :: ws.drop (i + 1) := by rw [← List.drop_eq_getElem_cons h, List.take_append_drop]
  have hd := risesW_drop i ws hr
  rw [List.drop_eq_getElem_cons h] at hd
  have ht := risesW_tail _ _ hd
  obtain ⟨x, hx⟩ : ∃ x, x = ws[i] := ⟨_, rfl⟩
  rw [← hx] at e ht ⊢
  rw [e, List.foldl_append, List.foldl_cons, find_fold x.f0 _ _ (fun y hy e => by have := ht y hy; rw [e, ltS_irrefl] at this; cases this)]
  unfold stepW
  split
  · exact find_drop_own _ _
  · exact find_put_own _ _ _
theorem stanchionlaw07_BatchWrites.pure : stanchionlaw07_BatchWrites.Pure := by
  intro x0 x1 x2 hx0 hx1 hx2
  apply Ev.rounds
  unfold stanchionlaw07_BatchWrites.f
  have h0 := hx0.1.1
  have h1 := hx0.2.1
  have h2 := hx1.2.2.1
  have hk0 : ∀ x ∈ x0.f0, x.f0.size < 4611686018427387904 := fun x hx => by
    have := (hx0.1.2 x hx).1
    omega
  have hl := doL_len x0.f0 x0.f1 x1.f0 x1.f1 x1.f2
  refine Ev.bind shown_ev (Ev.bind (do_ev_s _ _ _ _ _ (by omega) (by omega) (by omega)) (Ev.bind (right_ev _ (by omega) hk0) ?_))
  by_cases c0 : (doL x0.f0 x0.f1 x1.f0 x1.f1 x1.f2).2.2 = 0
  · simp only [if_pos c0]
    cases hr : rises x0.f0 with
    | false => simp only [if_neg (show ¬ (false = true) by decide)]; exact Ev.now _
    | true =>
      simp only [if_pos]
      by_cases c1 : x2 < 0
      · simp only [if_pos c1]; exact Ev.now _
      · simp only [if_neg c1]
        by_cases c2 : x2 ≥ (x1.f2.length : Int)
        · simp only [if_pos c2]; exact Ev.now _
        · simp only [if_neg c2]
          obtain ⟨i, rfl⟩ : ∃ i : Nat, x2 = (i : Int) := ⟨x2.toNat, by omega⟩
          have h : i < x1.f2.length := by omega
          have p1 : (0 : Int) ≤ (i : Int) := by omega
          have p2 : (i : Int) < (x1.f2.length : Int) := by omega
          simp only [if_pos p1, if_pos p2, rdw_get _ _ h]
          have hm : mayB x1.f0 x1.f1 x1.f2 = true ∧ ¬ (findL x0.f1 x1.f1).2 = true := by
            unfold doL at c0
            by_cases m : mayB x1.f0 x1.f1 x1.f2 = true
            · rw [if_pos m] at c0
              by_cases f : (findL x0.f1 x1.f1).2 = true
              · rw [if_pos f] at c0; exact absurd (show (8 : Int) = 0 from c0) (by decide)
              · exact ⟨m, f⟩
            · rw [if_neg m] at c0; exact absurd (show (1 : Int) = 0 from c0) (by decide)
          have hd : (doL x0.f0 x0.f1 x1.f0 x1.f1 x1.f2).1 = x1.f2.foldl stepW x0.f0 := by
            unfold doL; rw [if_pos hm.1, if_neg hm.2]
          have hri : risesW x1.f2 = true := by
            have := hm.1
            unfold mayB at this
            simp only [Bool.and_eq_true] at this
            exact this.2.2.2.2.2.1
          rw [hd]
          refine Ev.bind (rfind_ev _ _ (by rw [← hd]; omega)) ?_
          rw [find_own _ _ i h hri]
          cases (x1.f2[i]).f2 with
          | true => simp only [if_pos]; exact Ev.now _
          | false => simp only [if_neg (show ¬ (false = true) by decide), Bool.not_false, beq_self_eq_true, if_pos]; exact Ev.now _
  · simp only [if_neg c0]; exact Ev.now _
end Go.Proofs.Ythcdlgphabaidaa.PB
