/- What the law AuditSerials comes to: true, whatever is handed in. -/
import Derived.Test.YtlacmlceedkfoaaGdAuditSerials
import Derived.Test.YtlacmlceedkfoaaPETp
namespace Go.Proofs.Ytlacmlceedkfoaa.PE
open Go.RowKit Go.Proofs.YtlacmlceedkfoaaW.PrintWords

theorem seenN_bulkS : ∀ l : List S46, seenN l ≤ (l.map b46).sum
  | [] => Nat.le_refl _
  | d :: l => by
    have h1 := seenN_bulkS l
    have h2 := sum_len b27 (fun x => by unfold b27 b9; omega) d.f1
    rw [seenN_cons, List.map_cons, List.sum_cons]
    simp only [b46, b9, b28]
    omega
theorem stanchionlaw19_AuditSerials.pure : stanchionlaw19_AuditSerials.Pure := by
  intro x0 x1 x2 hx0 hx1 hx2 hb
  apply Ev.rounds
  unfold stanchionlaw19_AuditSerials.f stanchionlaw19_shown.f
  have h0 : x0.length + seenN x1 ≤ 1048576 ∧ x1.length ≤ 1048576 ∧ x2.length ≤ 1048576 := by
    have h1 := sum_len b59 (fun x => by unfold b59 b9; omega) x0
    have h2 := seenN_bulkS x1
    have h3 := sum_len b46 (fun x => by unfold b46 b9; omega) x1
    have h4 := sum_len b9 (fun x => by unfold b9; omega) x2
    simp only [b23, b37, b42] at hb
    omega
  obtain ⟨h0, h1, h2⟩ := h0
  have hbs : ∀ x ∈ x0, x.f0.size < 4611686018427387904 := fun x hx => by have := (hx0.2 x hx).1; omega
  have hls : ∀ d ∈ x1, ∀ s ∈ d.f1, s.f0.f1.size < 4611686018427387904 := fun d hd s hs => by have := ((hx1.2 d hd).2.2 s hs).1.2.1; omega
  have hg : ∀ d ∈ orderL x1 x2, d.f1.length < 4611686018427387904 ∧ ∀ s ∈ d.f1, s.f3.length < 4611686018427387904 := by
    intro d hd
    have hm := hx1.2 d (orderL_mem x1 x2 d hd)
    refine ⟨by have := hm.2.1; omega, fun s hs => ?_⟩
    have := (hm.2.2 s hs).2.2.2.1
    omega
  have hal := serialA_len x1 x0
  have hol := orderL_len x1 x2
  simp only [Option.bind_some]
  refine Ev.bind (serial_ev x0 x1 (by omega) (by omega)) (Ev.bind (rserial_ev x0 x1 (by omega) (by omega) hbs hls) (Ev.bind (same_ev (serialA x0 x1).1 (serialA x0 x1).1 rfl (by omega)) ?_))
  simp only [if_pos]
  exact Ev.bind (order_ev x1 x2 (by omega) (by omega)) (Ev.bind (rorder_ev x1 x2 (by omega) (by omega)) (Ev.bind (deals_ev _ (by omega) hg) (Ev.now _)))
end Go.Proofs.Ytlacmlceedkfoaa.PE
