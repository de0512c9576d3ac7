/- What the law TableParts comes to: true, whatever is handed in. -/
import Derived.Test.YtdoamckcibcdcaaGdTableParts
import Derived.Test.YtdoamckcibcdcaaTb
namespace Go.Proofs.Ytdoamckcibcdcaa.PB
open Go.RowKit Go.Proofs.YtdoamckcibcdcaaW.PrintWords

/-- Of a row that rises: what lies from lo to mid, and what lies from mid to hi, is what lies from lo to hi. -/
theorem parts (lo mid hi : ByteArray) (hm : ltS mid lo = false) (hn : mid.toList ≠ []) (hh : hi.toList = [] ∨ ltS hi mid = false) : ∀ l : List S59, rises l = true →
    l.filter (betw lo mid) ++ l.filter (betw mid hi) = l.filter (betw lo hi)
  | [], _ => rfl
  | x :: l, hr => by
    have ih := parts lo mid hi hm hn hh l (rises_tail hr)
    have hm0 : decide (mid.toList = ([] : List UInt8)) = false := decide_eq_false hn
    cases hx : ltS x.f0 mid with
    | true =>
      have h2 : betw mid hi x = false := by unfold betw; rw [hx]; rfl
      have h1 : betw lo mid x = betw lo hi x := by
        unfold betw
        rw [hx, Bool.or_true, Bool.and_true]
        have : (decide (hi.toList = ([] : List UInt8)) || ltS x.f0 hi) = true := by
          rcases hh with h | h
          · simp [h]
          · rw [lt_of_lt_le hx h, Bool.or_true]
        rw [this, Bool.and_true]
      rw [List.filter_cons, List.filter_cons, List.filter_cons, h2, h1, if_neg (show ¬ (false = true) by decide)]
      cases betw lo hi x with
      | true => rw [if_pos rfl, if_pos rfl, List.cons_append, ih]
      | false => rw [if_neg (by decide), if_neg (by decide)]; exact ih
    | false =>
      have hno : ∀ y, ltS y.f0 mid = false → betw lo mid y = false := fun y hy => by unfold betw; rw [hy, hm0]; simp
      have hsame : ∀ y, ltS y.f0 mid = false → betw mid hi y = betw lo hi y := fun y hy => by
        unfold betw
        rw [hy]
        have : ltS y.f0 lo = false := le_trans hm hy
        rw [this]
      have hall : ∀ y ∈ x :: l, ltS y.f0 mid = false := by
        intro y hy
        rcases List.mem_cons.1 hy with rfl | hy
        · exact hx
        · exact le_trans hx (ltS_asymm (rises_head l x hr y hy))
      rw [List.filter_eq_nil_iff.2 (fun y hy => by rw [hno y (hall y hy)]; decide), List.nil_append]
      exact List.filter_congr (fun y hy => hsame y (hall y hy))

theorem stanchionlaw05_TableParts.pure : stanchionlaw05_TableParts.Pure := by
  intro x0 hx0
  apply Ev.rounds
  unfold stanchionlaw05_TableParts.f
  have hlen : x0.f0.length < 4398046511000 := by have := hx0.1.1; omega
  have hb : ∀ x ∈ x0.f0, x.f0.size < 4611686018427387904 := fun x hx => by have := (hx0.1.2 x hx).1; omega
  refine Ev.bind shown_ev (Ev.bind (right_ev x0.f0 (by omega) hb) ?_)
  simp only [if_pos]
  have out : Ev (fun k => stanchionlaw05_TableParts.j0 k x0.f0 x0.f1 x0.f2 x0.f3 true true) true := Ev.step (f := fun _ => some true) (fun k => by simp only [stanchionlaw05_TableParts.j0]; exact if_pos trivial) (Ev.now _)
  cases hr : rises x0.f0 with
  | false => exact out
  | true =>
    simp only [if_pos]
    by_cases h1 : x0.f2.toList = ([] : List UInt8)
    · simp only [if_pos h1]; exact out
    simp only [if_neg h1]
    cases h2 : Op.bytesLess x0.f2.toList x0.f1.toList with
    | true => simp only [if_pos]; exact out
    | false =>
      simp only [if_neg (show ¬ (false = true) by decide)]
      have go (hh : x0.f3.toList = [] ∨ ltS x0.f3 x0.f2 = false) : Ev (fun k => stanchionlaw05_TableParts.j0 k x0.f0 x0.f1 x0.f2 x0.f3 true false) true := by
        have hp := parts x0.f1 x0.f2 x0.f3 h2 h1 hh x0.f0 hr
        have g1 := range_all x0.f0 x0.f1 x0.f2 (by omega)
        have g2 := range_all x0.f0 x0.f2 x0.f3 (by omega)
        have g3 := range_all x0.f0 x0.f1 x0.f3 (by omega)
        obtain ⟨a, ha⟩ : ∃ a, a = x0.f0.filter (betw x0.f1 x0.f2) := ⟨_, rfl⟩
        obtain ⟨b, hb⟩ : ∃ b, b = x0.f0.filter (betw x0.f2 x0.f3) := ⟨_, rfl⟩
        obtain ⟨c, hc⟩ : ∃ c, c = x0.f0.filter (betw x0.f1 x0.f3) := ⟨_, rfl⟩
        have la : a.length ≤ x0.f0.length := by rw [ha]; exact List.length_filter_le _ _
        have lb : b.length ≤ x0.f0.length := by rw [hb]; exact List.length_filter_le _ _
        have lc : c.length ≤ x0.f0.length := by rw [hc]; exact List.length_filter_le _ _
        rw [← ha] at g1
        rw [← hb] at g2
        rw [← hc] at g3
        rw [← ha, ← hb, ← hc] at hp
        refine Ev.step (f := fun k => (table_Range.f k x0.f0 x0.f1 x0.f2 (x0.f0.length : Int)).bind fun t132 => ((table_Range.f k x0.f0 x0.f2 x0.f3 (x0.f0.length : Int)).bind fun t135 => ((some (([] : List (S59)) : List (S59))).bind fun y138 => (if y138.length + t132.length < 4398046511104 then ((some (y138 ++ t132 : List (S59))).bind fun y141 => (if y141.length + t135.length < 4398046511104 then ((table_Range.f k x0.f0 x0.f1 x0.f3 (x0.f0.length : Int)).bind fun t147 => ((stanchionref05_Same.f k (y141 ++ t135) t147).bind fun t150 => (some t150))) else (none))) else (none))))) (fun k => by simp only [stanchionlaw05_TableParts.j0]; exact if_neg (by decide)) ?_
        refine Ev.bind g1 (Ev.bind g2 ?_)
        simp only [Option.bind_some, List.nil_append, List.length_nil, if_pos (show 0 + a.length < 4398046511104 by omega)]
        by_cases hab : a.length + b.length < 4398046511104
        · simp only [if_pos hab]
          exact Ev.bind g3 (Ev.bind (same_ev _ _ hp (by omega)) (Ev.now _))
        · have : (a ++ b).length = c.length := by rw [hp]
          rw [List.length_append] at this
          omega
      by_cases h3 : x0.f3.toList = ([] : List UInt8)
      · simp only [if_pos h3]; exact go (.inl h3)
      · simp only [if_neg h3]
        cases h4 : Op.bytesLess x0.f3.toList x0.f2.toList with
        | true => exact out
        | false => exact go (.inr h4)
end Go.Proofs.Ytdoamckcibcdcaa.PB
