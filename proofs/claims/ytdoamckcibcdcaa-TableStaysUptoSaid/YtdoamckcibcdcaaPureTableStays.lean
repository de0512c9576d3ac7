/- What the law TableStays comes to: true, where the input is of the bulk that is asked. -/
import Derived.Test.YtdoamckcibcdcaaGdTableStays
import Derived.Test.YtdoamckcibcdcaaTb3
namespace Go.Proofs.Ytdoamckcibcdcaa.PB
open Go.RowKit Go.Proofs.YtdoamckcibcdcaaW.PrintWords

theorem stanchionlaw05_TableStays.pure : stanchionlaw05_TableStays.Pure := by
  intro x0 hx0 hb
  apply Ev.rounds
  unfold stanchionlaw05_TableStays.f
  have hl : x0.f0.length ≤ 1048576 ∧ x0.f3.length ≤ 1048576 := by
    have h1 := sum_len b59 (fun x => by unfold b59 b9; omega) x0.f0
    have h2 := sum_len b56 (fun x => by unfold b56 b9; omega) x0.f3
    unfold b53 b22 b47 at hb
    omega
  have hk : x0.f1.size < 4611686018427387904 := by have := hx0.2.1; unfold g9 at *; omega
  have hs : ∀ x ∈ x0.f0, x.f0.size < 4611686018427387904 := fun x hx => by have := (hx0.1.2 x hx).1; omega
  have hw : ∀ x ∈ x0.f3, x.f0.size < 4611686018427387904 := fun x hx => by have := (hx0.2.2.2.1.2 x hx).1; omega
  have l1 := put_len x0.f0 x0.f1 x0.f2
  have l2 := drop_len x0.f0 x0.f1
  have l3 := fold_len x0.f3 x0.f0
  refine Ev.bind shown_ev (Ev.bind (right_ev x0.f0 (by omega) hs) ?_)
  simp only [if_pos]
  cases hr : rises x0.f0 with
  | false => exact Ev.step (f := fun _ => some true) (fun k => by simp only [stanchionlaw05_TableStays.j0]; exact if_pos rfl) (Ev.now _)
  | true =>
    have hsrt := (rises_srt x0.f0).1 hr
    have r1 : rises (putL59 x0.f0 x0.f1 x0.f2) = true := (rises_srt _).2 (srt_put _ _ hsrt)
    have r2 : rises (dropL59 x0.f0 x0.f1) = true := (rises_srt _).2 (srt_filter _ hsrt)
    have r3 : rises (x0.f3.foldl stepW x0.f0) = true := (rises_srt _).2 (srt_fold _ _ hsrt)
    have r4 : rises (x0.f0.filter (betw x0.f4 x0.f5)) = true := (rises_srt _).2 (srt_filter _ hsrt)
    have l4 := List.length_filter_le (betw x0.f4 x0.f5) x0.f0
    have e1 := right_ev (putL59 x0.f0 x0.f1 x0.f2) (by omega) (size_put hs hk)
    have e2 := right_ev (dropL59 x0.f0 x0.f1) (by omega) (fun x hx => hs x (List.mem_filter.1 hx).1)
    have e3 := right_ev (x0.f3.foldl stepW x0.f0) (by omega) (size_fold _ _ hs hw)
    have e4 := right_ev (x0.f0.filter (betw x0.f4 x0.f5)) (by omega) (fun x hx => hs x (List.mem_filter.1 hx).1)
    rw [r1] at e1
    rw [r2] at e2
    rw [r3] at e3
    rw [r4] at e4
    refine Ev.step (f := fun k => (table_Range.f k x0.f0 x0.f4 x0.f5 (x0.f0.length : Int)).bind fun t317 => ((stanchionref05_Right.f k (putL59 x0.f0 x0.f1 x0.f2)).bind fun t324 => (if t324 = true then ((stanchionref05_Right.f k (dropL59 x0.f0 x0.f1)).bind fun t325 => (if t325 = true then ((stanchionref05_Right.f k (x0.f3.foldl stepW x0.f0)).bind fun t326 => (if t326 = true then ((stanchionref05_Right.f k t317).bind fun t327 => (if t327 = true then some true else (some false))) else (some false))) else (some false))) else (some false)))) (fun k => ?_) ?_
    · simp only [stanchionlaw05_TableStays.j0]
      rw [if_neg (by decide)]
      simp only [put_eq x0.f0 x0.f1 x0.f2 (by omega), drop_eq x0.f0 x0.f1 (by omega), apply_eq x0.f0 x0.f3 (by omega), find_eq (putL59 x0.f0 x0.f1 x0.f2) x0.f1 (by omega), find_eq (dropL59 x0.f0 x0.f1) x0.f1 (by omega), Option.bind_some, find_put_own, find_drop_own, if_pos, Bool.not_false]
    · refine Ev.bind (range_all _ _ _ (by omega)) (Ev.bind e1 ?_)
      simp only [if_pos]
      refine Ev.bind e2 ?_
      simp only [if_pos]
      refine Ev.bind e3 ?_
      simp only [if_pos]
      refine Ev.bind e4 ?_
      simp only [if_pos]
      exact Ev.now _
end Go.Proofs.Ytdoamckcibcdcaa.PB
