/- What the law TableMost comes to: true, whatever is handed in. -/
import Derived.Test.YtdoamckcibcdcaaGdTableMost
import Derived.Test.YtdoamckcibcdcaaTb
namespace Go.Proofs.Ytdoamckcibcdcaa.PB
open Go.RowKit Go.Proofs.YtdoamckcibcdcaaW.PrintWords

theorem stanchionlaw05_TableMost.pure : stanchionlaw05_TableMost.Pure := by
  intro x0 hx0
  apply Ev.rounds
  unfold stanchionlaw05_TableMost.f
  have hlen : x0.f0.length < 4398046511104 := by have := hx0.1.1; omega
  obtain ⟨F, hF⟩ : ∃ F, F = x0.f0.filter (betw x0.f1 x0.f2) := ⟨_, rfl⟩
  have hFl : F.length ≤ x0.f0.length := by rw [hF]; exact List.length_filter_le _ _
  have h1 := range_all x0.f0 x0.f1 x0.f2 hlen
  have h2 := range_ev x0.f0 x0.f1 x0.f2 x0.f3 hlen
  rw [← hF] at h1 h2
  refine Ev.bind shown_ev (Ev.bind h1 (Ev.bind h2 ?_))
  have fin (a b : List S59) (h : a = b) (hb : b.length < 4398046511104) : Ev (fun k => (stanchionref05_Same.f k a b).bind fun t => some t) true := Ev.bind (same_ev a b h (by omega)) (Ev.now _)
  by_cases hn : x0.f3 < 0
  · simp only [if_pos hn, if_neg (show ¬ (0 > (F.length : Int)) by omega), if_pos (show (0 : Int) ≤ (F.length : Int) by omega)]
    exact fin _ _ (by rw [show x0.f3.toNat = 0 by omega]) (by simp)
  · simp only [if_neg hn]
    by_cases hm : x0.f3 > (F.length : Int)
    · simp only [if_pos hm, if_pos (show (0 : Int) ≤ (F.length : Int) by omega), if_pos (show (F.length : Int) ≤ (F.length : Int) by omega)]
      exact fin _ _ (by rw [Int.toNat_natCast, List.take_of_length_le (by omega), List.take_of_length_le (by omega)]) (by rw [List.length_take]; omega)
    · simp only [if_neg hm, if_pos (show (0 : Int) ≤ x0.f3 by omega), if_pos (show x0.f3 ≤ (F.length : Int) by omega)]
      exact fin _ _ rfl (by rw [List.length_take]; omega)
end Go.Proofs.Ytdoamckcibcdcaa.PB
