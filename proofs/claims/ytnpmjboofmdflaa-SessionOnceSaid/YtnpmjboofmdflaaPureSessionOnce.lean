/- What the law SessionOnce comes to: true, whatever is handed in. -/
import Derived.Test.YtnpmjboofmdflaaGdSessionOnce
import Derived.Test.YtnpmjboofmdflaaPBSa
namespace Go.Proofs.Ytnpmjboofmdflaa.PB
open Go.RowKit Go.Proofs.YtnpmjboofmdflaaW.PrintWords Go.Proofs.YtnpmjboofmdflaaW.PrintMore Go.Proofs.Ytnpmjboofmdflaa.Hp

theorem judge_ok {ep qe qs : Int} {o : Option S42} (h : (judge ep qe qs o).2 = 0) : qe = ep ∧ ∃ x, o = some x ∧ ¬ qs < 1 ∧ ¬ qs = x.f1 ∧ qs = wrap64 (x.f1 + 1) ∧ x.f2 = false := by
  unfold judge at h
  by_cases he : qe = ep
  · rw [if_pos he] at h
    refine ⟨he, ?_⟩
    cases o with
    | none => exact absurd (show (7 : Int) = 0 from h) (by decide)
    | some x =>
      refine ⟨x, rfl, ?_⟩
      by_cases h1 : qs < 1
      · simp only [if_pos h1] at h; exact absurd h (by decide)
      · simp only [if_neg h1] at h
        by_cases h2 : qs = x.f1
        · simp only [if_pos h2] at h
          by_cases h3 : x.f2 = true
          · simp only [if_pos h3] at h; exact absurd h (by decide)
          · simp only [if_neg h3] at h; exact absurd h (by decide)
        · simp only [if_neg h2] at h
          by_cases h4 : qs = wrap64 (x.f1 + 1)
          · simp only [if_pos h4] at h
            by_cases h3 : x.f2 = true
            · simp only [if_pos h3] at h; exact absurd h (by decide)
            · exact ⟨h1, h2, h4, by simpa using h3⟩
          · simp only [if_neg h4] at h; exact absurd h (by decide)
  · rw [if_neg he] at h; exact absurd h (by decide)
theorem stanchionlaw17_SessionOnce.pure : stanchionlaw17_SessionOnce.Pure := by
  intro x0 hx0
  obtain ⟨⟨a, l, h, n, t⟩, ⟨q0, q1, q2, q3, q4, q5, q6, q7, q8, q9, q10⟩, c, last⟩ := x0
  obtain ⟨hS, hQ, hc, hL⟩ := hx0
  have hr : Rng l := fun y hy => wf64 (hS.2.1.2 y hy).2.1
  have ht := wfu64 hS.2.2.2.2
  have hl : l.length < 2513169434916 := by have := hS.2.1.1; simp only at this; omega
  have hh : h.length + 2 < 8796093022207 := by have := hS.2.2.1.1; simp only at this; omega
  have hq3 := wf64 hQ.2.2.2.1
  simp only at ht hq3 ⊢
  apply Ev.rounds
  unfold stanchionlaw17_SessionOnce.f
  refine Ev.bind shown17_ev (Ev.bind (judge_ev a l h n t q0 q1 q2 q3 q4 _ _ _ _ _ _ hr) ?_)
  by_cases hj : (judge a q1 q3 (fnd l q2)).2 = 0
  · simp only [if_pos hj]
    obtain ⟨he, x, hx, h1, h2, h3, h4⟩ := judge_ok hj
    have hxr := hr x (fnd_mem hx).1
    have T1 := take_ev a l h n t q2 c hl (by omega) ht.1 ht.2
    by_cases hb : x.f1 ≥ 1073741824
    · rw [show tk l h t q2 c = (l, h, 4) from by unfold tk; rw [hx]; exact if_pos hb] at T1
      exact Ev.bind T1 (Ev.congr (f := fun _ => some true) (fun _ => by simp) (Ev.now _))
    · rw [show tk l h t q2 c = (upd l q2 (uTake c), ren h t q2, 0) from by unfold tk; rw [hx]; exact if_neg hb] at T1
      refine Ev.bind T1 ?_
      have hf1 : fnd (upd l q2 (uTake c)) q2 = some (uTake c x) := by rw [fnd_upd_isSome q2 (uTake c) (fun _ => rfl), hx]; rfl
      have hr1 : Rng (upd l q2 (uTake c)) := upd_rng q2 (uTake c) (fun y _ => wrap64_in _) l hr
      have hl1 : (upd l q2 (uTake c)).length < 2513169434916 := by rw [upd_len]; exact hl
      have hw : wrap64 (x.f1 + 1) = x.f1 + 1 := by unfold wrap64; omega
      have hq : q3 = x.f1 + 1 := by rw [h3, hw]
      have J1 : judge a q1 q3 (fnd (upd l q2 (uTake c)) q2) = ((⟨#[]⟩ : ByteArray), 12) := by
        rw [hf1]
        unfold judge uTake
        rw [if_pos he]
        simp only [hw]
        rw [if_neg h1, if_pos hq]
        rfl
      have W := answer_eq a (upd l q2 (uTake c)) (ren h t q2) n t q2 last hl1
      rw [show wth (upd l q2 (uTake c)) q2 (uAnswer last) = (upd (upd l q2 (uTake c)) q2 (uAnswer last), 0) from by unfold wth; rw [hf1]] at W
      have hf2 : fnd (upd (upd l q2 (uTake c)) q2 (uAnswer last)) q2 = some (uAnswer last (uTake c x)) := by rw [fnd_upd_isSome q2 (uAnswer last) (fun _ => rfl), hf1]; rfl
      have hr2 : Rng (upd (upd l q2 (uTake c)) q2 (uAnswer last)) := upd_rng q2 (uAnswer last) (fun y h => h) _ hr1
      have hl2 : (upd (upd l q2 (uTake c)) q2 (uAnswer last)).length < 2513169434916 := by rw [upd_len]; exact hl1
      have J2 : judge a q1 q3 (fnd (upd (upd l q2 (uTake c)) q2 (uAnswer last)) q2) = (last, 8) := by
        rw [hf2]
        unfold judge uAnswer uTake
        rw [if_pos he]
        simp only [hw]
        rw [if_neg h1, if_pos hq]
        rfl
      have hrl := ren_len h t q2
      have T2 := take_ev a (upd (upd l q2 (uTake c)) q2 (uAnswer last)) (ren h t q2) n t q2 c hl2 (by omega) ht.1 ht.2
      have E1 := judge_ev a (upd l q2 (uTake c)) (ren h t q2) n t q0 q1 q2 q3 q4 q5 q6 q7 q8 q9 q10 hr1
      have E2 := judge_ev a (upd (upd l q2 (uTake c)) q2 (uAnswer last)) (ren h t q2) n t q0 q1 q2 q3 q4 q5 q6 q7 q8 q9 q10 hr2
      rw [J1] at E1
      rw [J2] at E2
      refine Ev.bind E1 ?_
      simp only [W, Option.bind_some]
      refine Ev.bind E2 (Ev.bind T2 ?_)
      obtain ⟨z, hz⟩ : ∃ z, z = tk (upd (upd l q2 (uTake c)) q2 (uAnswer last)) (ren h t q2) t q2 c := ⟨_, rfl⟩
      rw [← hz]
      unfold tk at hz
      rw [hf2] at hz
      by_cases hb2 : x.f1 + 1 ≥ 1073741824
      · have hz' : z = (upd (upd l q2 (uTake c)) q2 (uAnswer last), ren h t q2, 4) := by
          rw [hz]
          exact if_pos (by show wrap64 (x.f1 + 1) ≥ 1073741824; rw [hw]; exact hb2)
        rw [hz']
        refine Ev.bind (judge_ev a _ (ren h t q2) n t q0 q1 q2 q3 q4 q5 q6 q7 q8 q9 q10 hr2) ?_
        exact Ev.congr (f := fun _ => some true) (fun _ => by simp) (Ev.now _)
      · have hz' : z = (upd (upd (upd l q2 (uTake c)) q2 (uAnswer last)) q2 (uTake c), ren (ren h t q2) t q2, 0) := by
          rw [hz]
          exact if_neg (by show ¬ wrap64 (x.f1 + 1) ≥ 1073741824; rw [hw]; exact hb2)
        rw [hz']
        have hf3 : fnd (upd (upd (upd l q2 (uTake c)) q2 (uAnswer last)) q2 (uTake c)) q2 = some (uTake c (uAnswer last (uTake c x))) := by rw [fnd_upd_isSome q2 (uTake c) (fun _ => rfl), hf2]; rfl
        have hr3 : Rng (upd (upd (upd l q2 (uTake c)) q2 (uAnswer last)) q2 (uTake c)) := upd_rng q2 (uTake c) (fun y _ => wrap64_in _) _ hr2
        have E3 := judge_ev a _ (ren (ren h t q2) t q2) n t q0 q1 q2 q3 q4 q5 q6 q7 q8 q9 q10 hr3
        have hw2 : wrap64 (x.f1 + 1 + 1) = x.f1 + 2 := by unfold wrap64; omega
        have hw3 : wrap64 (x.f1 + 2 + 1) = x.f1 + 3 := by unfold wrap64; omega
        rw [hf3, show judge a q1 q3 (some (uTake c (uAnswer last (uTake c x)))) = ((⟨#[]⟩ : ByteArray), 15) from by
          unfold judge uTake uAnswer
          rw [if_pos he]
          simp only [hw, hw2, hw3]
          rw [if_neg h1, if_neg (by omega), if_neg (by omega)]] at E3
        refine Ev.bind E3 ?_
        exact Ev.congr (f := fun _ => some true) (fun _ => by simp) (Ev.now _)
  · simp only [if_neg hj]
    exact Ev.now _
end Go.Proofs.Ytnpmjboofmdflaa.PB
