/- What the law SessionNew comes to: true, whatever is handed in. -/
import Derived.Test.YtnpmjboofmdflaaGdSessionNew
import Derived.Test.YtnpmjboofmdflaaPBSs
namespace Go.Proofs.Ytnpmjboofmdflaa.PB
open Go.RowKit Go.Proofs.YtnpmjboofmdflaaW.PrintWords Go.Proofs.YtnpmjboofmdflaaW.PrintMore Go.Proofs.Ytnpmjboofmdflaa.Hp

theorem fnd_snoc (l : List S42) (y : S42) (o : Int) (h : y.f0 ≠ o) : fnd (l ++ [y]) o = fnd l o := by
  unfold fnd
  rw [List.find?_append]
  have : [y].find? (fun x => x.f0 == o) = none := by simp [h]
  rw [this, Option.or_none]
theorem stanchionlaw17_SessionNew.pure : stanchionlaw17_SessionNew.Pure := by
  intro x0 c o hx0 hc ho
  obtain ⟨a, l, h, n, t⟩ := x0
  have ht := wfu64 hx0.2.2.2.2
  have hn := wf64 hx0.2.2.2.1
  have hl : l.length < 2513169434916 := by have := hx0.2.1.1; simp only at this; omega
  have hh : h.length + 2 < 8796093022207 := by have := hx0.2.2.1.1; simp only at this; omega
  simp only at ht hn ⊢
  apply Ev.rounds
  unfold stanchionlaw17_SessionNew.f
  refine Ev.bind shown17_ev (Ev.bind (open_ev a l h n t c hl (by omega) ht.1 ht.2) ?_)
  obtain ⟨z, hz⟩ : ∃ z, z = opn_ l h n t c := ⟨_, rfl⟩
  rw [← hz]
  unfold opn_ at hz
  by_cases c1 : (l.length : Int) ≥ 6
  · rw [if_pos c1] at hz
    rw [hz]
    refine Ev.congr (f := fun k => (session_Same.f k a l h n t a l h n t).bind fun t => some t) (fun _ => by simp) ?_
    exact Ev.bind (ssame_ev a l h n t (by omega) (by omega)) (Ev.now _)
  · rw [if_neg c1] at hz
    by_cases c2 : n > 1073741824
    · rw [if_pos c2] at hz
      rw [hz]
      refine Ev.congr (f := fun k => (session_Same.f k a l h n t a l h n t).bind fun t => some t) (fun _ => by simp) ?_
      exact Ev.bind (ssame_ev a l h n t (by omega) (by omega)) (Ev.now _)
    · rw [if_neg c2] at hz
      rw [hz]
      have hw : wrap64 ((l.length : Int) + 1) = (l.length : Int) + 1 := by unfold wrap64; omega
      have hg : rd_T42 (l ++ [(⟨n, 0, false, (⟨#[]⟩ : ByteArray), 0, c⟩ : S42)]) (l.length : Int) = ⟨n, 0, false, (⟨#[]⟩ : ByteArray), 0, c⟩ := by rw [rds]; simp
      simp only [if_pos, find_eq, Option.bind_some, hw, hg]
      by_cases ho2 : o = n
      · exact Ev.congr (f := fun _ => some true) (fun _ => by simp [ho2, snil]; omega) (Ev.now _)
      · rw [fnd_snoc l _ o (fun e => ho2 e.symm)]
        exact Ev.congr (f := fun _ => some true) (fun _ => by simp [ho2, snil]; omega) (Ev.now _)
end Go.Proofs.Ytnpmjboofmdflaa.PB
