/- What the law AuditParts comes to: true, whatever is handed in. -/
import Derived.Test.YtlacmlceedkfoaaGdAuditParts
import Derived.Test.YtlacmlceedkfoaaPBTy
namespace Go.Proofs.Ytlacmlceedkfoaa.PB
open Go.RowKit Go.Proofs.YtlacmlceedkfoaaW.PrintWords

theorem seenN_bulk : ∀ l : List S46, seenN l ≤ (l.map b46).sum
  | [] => Nat.le_refl _
  | d :: l => by
    have h1 := seenN_bulk l
    have h2 := sum_len b27 (fun x => by unfold b27 b9; omega) d.f1
    rw [seenN_cons, List.map_cons, List.sum_cons]
    simp only [b46, b9, b28]
    omega
theorem stanchionlaw19_AuditParts.pure : stanchionlaw19_AuditParts.Pure := by
  intro x0 x1 x2 hx0 hx1 hx2 hb
  apply Ev.rounds
  unfold stanchionlaw19_AuditParts.f stanchionlaw19_shown.f
  have h0 : x0.length ≤ 1048576 := by
    have := sum_len b59 (fun x => by unfold b59 b9; omega) x0
    simp only [b23] at hb
    omega
  have h1 : seenN x1 ≤ 1048576 ∧ x1.length ≤ 1048576 := by
    have := seenN_bulk x1
    have := sum_len b46 (fun x => by unfold b46 b9; omega) x1
    simp only [b37] at hb
    omega
  have h2 : seenN x2 ≤ 1048576 ∧ x2.length ≤ 1048576 := by
    have := seenN_bulk x2
    have := sum_len b46 (fun x => by unfold b46 b9; omega) x2
    simp only [b37] at hb
    omega
  have ha := serialA_len x1 x0
  have hb1 := serialA_le x1 x0
  have hb2 := serialA_le x2 (serialA x0 x1).1
  have hc := serialA_len (x1 ++ x2) x0
  have hsa := seenN_append x1 x2
  have hp := serialA_append x1 x2 x0
  simp only [Option.bind_some]
  refine Ev.bind (serial_ev x0 x1 (by omega) (by omega)) (Ev.bind (serial_ev (serialA x0 x1).1 x2 (by omega) (by omega)) ?_)
  simp only [List.length_nil, Nat.zero_add, List.nil_append, if_pos (show x1.length < 3518437208883 by omega), if_pos (show x1.length + x2.length < 3518437208883 by omega)]
  refine Ev.bind (serial_ev x0 (x1 ++ x2) (by omega) (by simp; omega)) ?_
  by_cases c : (serialA x0 x1).2 < x1.length
  · rw [if_pos c] at hp
    have c' : ((serialA x0 x1).2 : Int) < (x1.length : Int) := by omega
    simp only [if_pos c', if_pos, hp]
    exact Ev.bind (same_ev _ _ rfl (by omega)) (Ev.now _)
  · rw [if_neg c] at hp
    have c' : ¬ ((serialA x0 x1).2 : Int) < (x1.length : Int) := by omega
    have e : (serialA x0 x1).2 = x1.length := by omega
    have e2 : (((serialA x0 (x1 ++ x2)).2 : Nat) : Int) = wrap64 (((serialA x0 x1).2 : Int) + ((serialA (serialA x0 x1).1 x2).2 : Int)) := by
      rw [hp]
      unfold wrap64
      show ((x1.length + (serialA (serialA x0 x1).1 x2).2 : Nat) : Int) = _
      omega
    have e3 : (serialA x0 (x1 ++ x2)).1 = (serialA (serialA x0 x1).1 x2).1 := by rw [hp]
    simp only [if_neg c', if_pos, if_pos e2]
    exact Ev.bind (same_ev _ _ e3.symm (by omega)) (Ev.now _)
end Go.Proofs.Ytlacmlceedkfoaa.PB
