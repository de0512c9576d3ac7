/- What the law BatchApart comes to: true, where the input is of the bulk that is asked. -/
import Derived.Test.YthcdlgphabaidaaGdBatchApart
import Derived.Test.YthcdlgphabaidaaPBBm
namespace Go.Proofs.Ythcdlgphabaidaa.PB
open Go.RowKit Go.Proofs.YthcdlgphabaidaaW.PrintWords

theorem apart_l0 (o tk : ByteArray) (d t : List S68) (a0 : Int) (a1 : ByteArray) (ws : List S54) (hw : ws.length < 4611686018427387904) (hd : d.length + ws.length < 4611686018427387904) (ht : t.length + 1 < 4611686018427387904) : ∀ (n : Nat) (i : Nat), ws.length - i ≤ n → (∀ x ∈ ws.take i, x.f0 ≠ o) →
    Ev (fun k => stanchionlaw07_BatchApart.l0 k o tk true (i : Int) d t a0 a1 ws (doL d t a0 a1 ws).1 (doL d t a0 a1 ws).2.1) true := by
  intro n
  have hl := doL_len d t a0 a1 ws
  have done : ∀ i : Nat, ws.length ≤ i → (∀ x ∈ ws.take i, x.f0 ≠ o) → Ev (fun k => stanchionlaw07_BatchApart.l0 k o tk true (i : Int) d t a0 a1 ws (doL d t a0 a1 ws).1 (doL d t a0 a1 ws).2.1) true := fun i h hx => by
    rw [List.take_of_length_le h] at hx
    have hf : findL (doL d t a0 a1 ws).1 o = findL d o := by
      unfold doL
      split
      · split
        · rfl
        · exact find_fold o ws d hx
      · rfl
    have hk : tk ≠ a1 → findL (doL d t a0 a1 ws).2.1 tk = findL t tk := fun h => by
      unfold doL
      split
      · split
        · rfl
        · exact find_put t a1 (howB a0) tk (fun e => h e.symm)
      · rfl
    refine Ev.step (f := fun k => (stanchionref05_Find.f k d o).bind fun bt335 => ((stanchionref05_Find.f k (doL d t a0 a1 ws).1 o).bind fun bt337 => ((batch_Decided.f d t tk).bind fun bt339 => ((batch_Decided.f (doL d t a0 a1 ws).1 (doL d t a0 a1 ws).2.1 tk).bind fun bt341 => (if true = true then (if bt335.1.toList = bt337.1.toList then (if (bt335.2 == bt337.2) = true then (if tk.toList = a1.toList then (some true) else (if bt339.1.toList = bt341.1.toList then (some (bt339.2 == bt341.2)) else (some false))) else (some false)) else (some false)) else (some false)))))) (fun k => by simp only [stanchionlaw07_BatchApart.l0]; rw [if_neg (by omega)]) ?_
    refine Ev.bind (rfind_ev d o (by omega)) (Ev.bind (rfind_ev _ o (by omega)) ?_)
    simp only [decided_eq d t tk (show t.length < 4611686018427387904 by omega), decided_eq (doL d t a0 a1 ws).1 (doL d t a0 a1 ws).2.1 tk (show (doL d t a0 a1 ws).2.1.length < 4611686018427387904 by omega), Option.bind_some, hf, if_pos, beq_self_eq_true]
    by_cases e : tk.toList = a1.toList
    · simp only [if_pos e]; exact Ev.now _
    · simp only [if_neg e, hk (fun h => e (by rw [h])), if_pos, beq_self_eq_true]; exact Ev.now _
  induction n with
  | zero => intro i hn hx; exact done i (by omega) hx
  | succ n ih =>
    intro i hn hx
    rcases Nat.lt_or_ge i ws.length with h | h
    · by_cases e : (ws[i]).f0.toList = o.toList
      · refine Ev.step (f := fun k => some true) (fun k => ?_) (Ev.now _)
        simp only [stanchionlaw07_BatchApart.l0]
        rw [if_pos (by omega), if_pos (by omega), rdw_get _ _ h, if_pos e]
      · refine Ev.step (f := fun k => stanchionlaw07_BatchApart.l0 k o tk true ((i + 1 : Nat) : Int) d t a0 a1 ws (doL d t a0 a1 ws).1 (doL d t a0 a1 ws).2.1) (fun k => ?_) (ih (i + 1) (by omega) (fun x hm => ?_))
        · simp only [stanchionlaw07_BatchApart.l0]
          rw [if_pos (by omega), if_pos (by omega), rdw_get _ _ h, if_neg e, wrap_succ i (by omega)]
        · rw [List.take_succ_eq_append_getElem h, List.mem_append] at hm
          rcases hm with hm | hm
          · exact hx x hm
          · rw [List.mem_singleton.1 hm]; exact fun h => e (by rw [h])
    · exact done i h hx
theorem stanchionlaw07_BatchApart.pure : stanchionlaw07_BatchApart.Pure := by
  intro x0 hx0
  apply Ev.rounds
  unfold stanchionlaw07_BatchApart.f
  have h0 := hx0.1.1.1
  have h1 := hx0.1.2.1
  have h2 := hx0.2.1.2.2.1
  exact Ev.bind shown_ev (Ev.bind (do_ev_s _ _ _ _ _ (by omega) (by omega) (by omega)) (apart_l0 _ _ _ _ _ _ _ (by omega) (by omega) (by omega) x0.f1.f2.length 0 (by omega) (fun x hx => by simp at hx)))
end Go.Proofs.Ythcdlgphabaidaa.PB
