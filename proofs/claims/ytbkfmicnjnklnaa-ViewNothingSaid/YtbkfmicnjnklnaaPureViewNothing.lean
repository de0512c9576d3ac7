/- What the law ViewNothing comes to: true, whatever is handed in. -/
import Derived.Test.YtbkfmicnjnklnaaGdViewNothing
import Derived.Test.YtbkfmicnjnklnaaPBTw
namespace Go.Proofs.Ytbkfmicnjnklnaa.PB
open Go.RowKit Go.Proofs.YtbkfmicnjnklnaaW.PrintWords

theorem stanchionlaw12_ViewNothing.pure : stanchionlaw12_ViewNothing.Pure := by
  intro x0 hx0
  apply Ev.rounds
  unfold stanchionlaw12_ViewNothing.f
  have hlen : x0.f0.length < 4398046511000 := by have := hx0.1.1; omega
  have hb : ∀ x ∈ x0.f0, x.f0.size < 4611686018427387904 := fun x hx => by have := (hx0.1.2 x hx).1; omega
  have hl : ((x0.f0.filter (betw x0.f2 x0.f3)).take x0.f4.toNat).length ≤ x0.f0.length := by
    rw [List.length_take]
    have := List.length_filter_le (betw x0.f2 x0.f3) x0.f0
    omega
  have hg : view_Get.f ([] : List S33) x0.f0 x0.f1 = some (findL x0.f0 x0.f1) := by
    unfold view_Get.f
    rw [show ixOf (geq33 x0.f1) ([] : List S33) = -1 from rfl, if_pos (by decide)]
    exact find_eq _ _ (by omega)
  have hs : Ev (fun k => view_Scan.f k ([] : List S33) x0.f0 x0.f2 x0.f3 x0.f4) ((x0.f0.filter (betw x0.f2 x0.f3)).take x0.f4.toNat) := by
    unfold view_Scan.f
    simp only [apply_eq x0.f0 [] (by simp; omega), Option.bind_some, List.foldl_nil]
    exact Ev.bind (range_ev _ _ _ _ (by omega)) (Ev.now _)
  have h1 : Ev (fun k => view_Size.f k ([] : List S33)) 0 := Ev.of (view_Size.mono _) (k := 3) (by decide +kernel)
  have h2 : Ev (fun k => view_Rises.f k ([] : List S33)) true := Ev.of (view_Rises.mono _) (k := 3) (by decide +kernel)
  simp only [hg, Option.bind_some]
  refine Ev.bind vshown_ev (Ev.bind (rfind_ev x0.f0 x0.f1 (by omega)) ?_)
  simp only [if_pos, beq_self_eq_true]
  refine Ev.bind hs (Ev.bind (rrange_ev x0.f0 x0.f2 x0.f3 x0.f4 (by omega) hb) (Ev.bind (same_ev _ _ rfl (by omega)) ?_))
  simp only [if_pos]
  refine Ev.bind h1 ?_
  simp only [if_pos]
  exact Ev.bind h2 (Ev.now _)
end Go.Proofs.Ytbkfmicnjnklnaa.PB
