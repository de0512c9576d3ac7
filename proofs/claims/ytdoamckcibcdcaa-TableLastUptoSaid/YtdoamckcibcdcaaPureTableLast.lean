/- What the law TableLast comes to: true, where the input is of the bulk that is asked. -/
import Derived.Test.YtdoamckcibcdcaaGdTableLast
import Derived.Test.YtdoamckcibcdcaaTb3
namespace Go.Proofs.Ytdoamckcibcdcaa.PB
open Go.RowKit Go.Proofs.YtdoamckcibcdcaaW.PrintWords

/-- What the last write of a key says of it. -/
def lastW (key : ByteArray) (s : ByteArray × Bool) (x : S56) : ByteArray × Bool := if x.f0.toList = key.toList then (if x.f2 = true then (⟨#[]⟩, !x.f2) else (x.f1, !x.f2)) else s
theorem find_fold (key : ByteArray) : ∀ (ws : List S56) (l : List S59), findL (ws.foldl stepW l) key = ws.foldl (lastW key) (findL l key)
  | [], l => rfl
  | x :: ws, l => by
    rw [List.foldl_cons, List.foldl_cons, find_fold key ws (stepW l x)]
    congr 1
    unfold stepW lastW
    by_cases h : x.f0.toList = key.toList
    · rw [if_pos h]
      have hk := str_ext h
      by_cases h2 : x.f2 = true
      · rw [if_pos h2, if_pos h2, hk, find_drop_own, h2]; rfl
      · have h3 : x.f2 = false := by simpa using h2
        rw [if_neg h2, if_neg h2, hk, find_put_own, h3]; rfl
    · have hne : x.f0 ≠ key := fun e => h (by rw [e])
      rw [if_neg h]
      by_cases h2 : x.f2 = true
      · rw [if_pos h2]; exact find_drop _ _ hne _
      · rw [if_neg h2]; exact find_put _ _ _ _ hne
theorem last_l0 (l : List S59) (key : ByteArray) : ∀ (n : Nat) (ws : List S56) (s : ByteArray × Bool) (i : Nat), ws.length - i ≤ n → ws.length < 4611686018427387904 → l.length + ws.length < 4398046511000 → (ws.drop i).foldl (lastW key) s = findL (ws.foldl stepW l) key →
    Ev (fun k => stanchionlaw05_TableLast.l0 k l ws key s.1 s.2 (i : Int)) true := by
  intro n
  have fin : ∀ (ws : List S56) (s : ByteArray × Bool) (i : Nat), ¬ i < ws.length → l.length + ws.length < 4398046511000 → (ws.drop i).foldl (lastW key) s = findL (ws.foldl stepW l) key → Ev (fun k => stanchionlaw05_TableLast.l0 k l ws key s.1 s.2 (i : Int)) true := by
    intro ws s i hn hl h
    rw [List.drop_of_length_le (by omega)] at h
    have hfl := fold_len ws l
    refine Ev.step (f := fun k => some true) (fun k => ?_) (Ev.now _)
    simp only [stanchionlaw05_TableLast.l0]
    rw [if_neg (by omega), apply_eq l ws (by omega), Option.bind_some, find_eq _ _ (by omega), Option.bind_some, ← h]
    simp
  induction n with
  | zero => intro ws s i hn hw hl h; exact fin ws s i (by omega) hl h
  | succ n ih =>
    intro ws s i hn hw hl h
    by_cases hlt : i < ws.length
    · have e1 : rd_T56 ws (i : Int) = ws[i] := by simp [rd_T56, List.getD_eq_getElem?_getD, hlt]
      rw [List.drop_eq_getElem_cons hlt, List.foldl_cons] at h
      have nx := ih ws (lastW key s ws[i]) (i + 1) (by omega) hw hl h
      refine Ev.step (f := fun k => stanchionlaw05_TableLast.l0 k l ws key (lastW key s ws[i]).1 (lastW key s ws[i]).2 ((i + 1 : Nat) : Int)) (fun k => ?_) nx
      simp only [stanchionlaw05_TableLast.l0]
      rw [if_pos (show (i : Int) < (ws.length : Int) by omega), if_pos (show (0 : Int) ≤ (i : Int) by omega), e1, wrap_succ i (by omega)]
      unfold lastW
      by_cases h1 : (ws[i]).f0.toList = key.toList
      · rw [if_pos h1, if_pos h1]
        by_cases h2 : (ws[i]).f2 = true
        · rw [if_pos h2, if_pos h2]
        · rw [if_neg h2, if_neg h2]
      · rw [if_neg h1, if_neg h1]
    · exact fin ws s i hlt hl h
theorem stanchionlaw05_TableLast.pure : stanchionlaw05_TableLast.Pure := by
  intro x0 x1 x2 hx0 hx1 hx2 hb
  apply Ev.rounds
  unfold stanchionlaw05_TableLast.f
  have hl : x0.length ≤ 1048576 ∧ x1.length ≤ 1048576 := by
    have h1 := sum_len b59 (fun x => by unfold b59 b9; omega) x0
    have h2 := sum_len b56 (fun x => by unfold b56 b9; omega) x1
    unfold b22 b47 at hb
    omega
  simp only [find_eq x0 x2 (by omega), Option.bind_some]
  refine Ev.bind shown_ev (Ev.bind (tright_ev x0 (by omega)) ?_)
  simp only [if_pos]
  cases rises x0 with
  | false => exact Ev.step (f := fun _ => some true) (fun k => by simp only [stanchionlaw05_TableLast.j0]; exact if_pos rfl) (Ev.now _)
  | true =>
    refine Ev.step (f := fun k => stanchionlaw05_TableLast.l0 k x0 x1 x2 (findL x0 x2).1 (findL x0 x2).2 ((0 : Nat) : Int)) (fun k => ?_) ?_
    · simp only [stanchionlaw05_TableLast.j0]
      exact if_neg (by decide)
    · exact last_l0 x0 x2 x1.length x1 (findL x0 x2) 0 (by omega) (by omega) (by omega) (by rw [List.drop_zero, find_fold])
end Go.Proofs.Ytdoamckcibcdcaa.PB
