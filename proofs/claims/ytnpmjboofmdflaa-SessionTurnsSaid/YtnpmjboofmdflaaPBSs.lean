/- Whether two rows of sessions, or of alarms, are the same. -/
import Derived.Test.YtnpmjboofmdflaaPBSa
namespace Go.Proofs.Ytnpmjboofmdflaa.PB
open Go.RowKit Go.Proofs.YtnpmjboofmdflaaW.PrintWords Go.Proofs.YtnpmjboofmdflaaW.PrintMore Go.Proofs.Ytnpmjboofmdflaa.Hp

theorem se_ext {x y : S42} : (x.f0 == y.f0 && (x.f1 == y.f1 && (x.f2 == y.f2 && (x.f3.toList == y.f3.toList && (x.f4 == y.f4 && (x.f5 == y.f5)))))) = true ↔ x = y := by
  obtain ⟨a0, a1, a2, a3, a4, a5⟩ := x
  obtain ⟨b0, b1, b2, b3, b4, b5⟩ := y
  constructor
  · intro h
    simp only [Bool.and_eq_true, beq_iff_eq] at h
    obtain ⟨rfl, rfl, rfl, h3, rfl, rfl⟩ := h
    rw [sext h3]
  · intro h
    injection h with h0 h1 h2 h3 h4 h5
    subst h0; subst h1; subst h2; subst h3; subst h4; subst h5
    simp
theorem se_ne (x y : S42) : (!(x.f0 == y.f0) || (!(x.f1 == y.f1) || (!(x.f2 == y.f2) || (!(x.f3.toList == y.f3.toList) || (!(x.f4 == y.f4) || (!(x.f5 == y.f5))))))) = !(x.f0 == y.f0 && (x.f1 == y.f1 && (x.f2 == y.f2 && (x.f3.toList == y.f3.toList && (x.f4 == y.f4 && (x.f5 == y.f5)))))) := by
  simp only [Bool.not_and]
theorem al_ne (x y : S85) : ((!(x.f0 == y.f0) || (!(x.f1 == y.f1))) = true) ↔ x ≠ y := by
  obtain ⟨a0, a1⟩ := x
  obtain ⟨b0, b1⟩ := y
  simp
  constructor
  · rintro (h | h) e e2
    · exact h e
    · exact h e2
  · intro h
    by_cases e : a0 = b0
    · exact .inr (h e)
    · exact .inl e
theorem same_step {α : Type} (xs ys : List α) (d : α) (i : Nat) (hx : i < xs.length) (hy : i < ys.length) : (xs.drop i = ys.drop i) ↔ (xs.getD i d = ys.getD i d ∧ xs.drop (i + 1) = ys.drop (i + 1)) := by
  rw [List.drop_eq_getElem_cons hx, List.drop_eq_getElem_cons hy, getD_of xs i d hx, getD_of ys i d hy, List.cons.injEq]
noncomputable instance : DecidableEq S42 := fun _ _ => Classical.propDecidable _
noncomputable instance : DecidableEq S85 := fun _ _ => Classical.propDecidable _
noncomputable def sm (a b : St) : Bool := decide (a.1 = b.1) && (decide (a.2.1 = b.2.1) && (decide (a.2.2.1 = b.2.2.1) && (decide (a.2.2.2.1 = b.2.2.2.1) && decide (a.2.2.2.2 = b.2.2.2.2))))
theorem sm_self (a : St) : sm a a = true := by simp [sm]
end Go.Proofs.Ytnpmjboofmdflaa.PB
