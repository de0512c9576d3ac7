/- What the law SessionActs comes to: true, whatever is handed in. -/
import Derived.Test.YtnpmjboofmdflaaGdSessionActs
import Derived.Test.YtnpmjboofmdflaaPASz
namespace Go.Proofs.Ytnpmjboofmdflaa.PA
open Go.RowKit Go.Proofs.YtnpmjboofmdflaaW.PrintWords Go.Proofs.YtnpmjboofmdflaaW.PrintMore Go.Proofs.Ytnpmjboofmdflaa.Hp

theorem tup_same (o : Option S42) : ((tup o).1 == (tup o).1 && ((tup o).2.1 == (tup o).2.1 && ((tup o).2.2.1 == (tup o).2.2.1 && ((tup o).2.2.2.1.toList == (tup o).2.2.2.1.toList && ((tup o).2.2.2.2.1 == (tup o).2.2.2.2.1 && ((tup o).2.2.2.2.2.1 == (tup o).2.2.2.2.2.1)))))) = true := by simp
theorem opn_len (l : List S42) (h : List S85) (n t c : Int) : (opn_ l h n t c).1.length ≤ l.length + 1 ∧ (opn_ l h n t c).2.1.length ≤ h.length + 1 := by
 unfold opn_
 split
 ·exact ⟨Nat.le_succ _, Nat.le_succ _⟩
 ·split
  ·exact ⟨Nat.le_succ _, Nat.le_succ _⟩
  ·exact ⟨by simp, ren_len h t n⟩
theorem rnw_len (l : List S42) (h : List S85) (t id : Int) : (rnw l h t id).1.length ≤ h.length + 1 := by
 unfold rnw
 split
 ·exact Nat.le_succ _
 ·exact ren_len h t id
theorem cls_len (l : List S42) (h : List S85) (id : Int) : (cls l h id).1.length ≤ l.length ∧ (cls l h id).2.1.length ≤ h.length := by
 unfold cls
 split
 ·exact ⟨Nat.le_refl _, Nat.le_refl _⟩
 ·have := drops_len id h []
  exact ⟨lss_len l id, by simpa using this⟩
theorem tck_len : ∀ (ids : List Int) (l out : List S42), (tck ids l out).1.length ≤ l.length ∧ (tck ids l out).2.length ≤ out.length + ids.length
 | [], l, out => ⟨Nat.le_refl _, Nat.le_refl _⟩
 | i :: r, l, out => by
  unfold tck
  split
  ·have := tck_len r l out
   exact ⟨this.1, by have := this.2; simp; omega⟩
  ·have h1 := tck_len r (lss l i) (out ++ [by assumption])
   have h2 := lss_len l i
   refine ⟨by have := h1.1; omega, by have := h1.2; simp at this ⊢; omega⟩
theorem stanchionlaw17_SessionActs.pure : stanchionlaw17_SessionActs.Pure := by
 intro x0 hx0
 obtain ⟨⟨a, l, h, n, t⟩, id, c, now, ep, ⟨b, m, g, n2, t2⟩⟩ := x0
 obtain ⟨hS, _⟩ := hx0
 have ht := wfu64 hS.2.2.2.2
 simp only at ht ⊢
 apply Ev.rounds
 unfold stanchionlaw17_SessionActs.f
 refine Ev.bind shown17_ev ?_
 unfold stanchionlaw17_few.f
 by_cases hq : (l.length : Int) ≤ 100 ∧ (h.length : Int) ≤ 100
 ·have hl : l.length ≤ 100 := by omega
  have hh : h.length ≤ 100 := by omega
  have o1 := opn_len l h n t c
  have o2 := rnw_len l h t id
  have o3 := cls_len l h id
  have d1 := due_length h.length h (mx t now)
  have o4 := tck_len (dueIds h.length h (mx t now)) l []
  simp only [if_pos hq.1, decide_eq_true hq.2, Option.bind_some, if_pos, Bool.not_true]
  refine Ev.step (f := _) (fun k => by simp only [stanchionlaw17_SessionActs.j0]; rw [if_neg (by decide)]) ?_
  refine Ev.bind (open_ev a l h n t c (by omega) (by omega) ht.1 ht.2) (Ev.bind (ropen_ev a l h n t c (by omega) (by omega) ht.1 ht.2) ?_)
  refine Ev.bind (renew_ev a l h n t id (by omega) ht.1 ht.2) (Ev.bind (rrenew_ev a l h n t id (by omega) (by omega) ht.1 ht.2) ?_)
  refine Ev.bind (close_ev a l h n t id (by omega) (by omega)) (Ev.bind (rclose_ev a l h n t id (by omega) (by omega)) ?_)
  refine Ev.bind (tick_ev a l h n t now (by omega) (by omega)) (Ev.bind (rtick_ev a l h n t now (by omega) (by omega)) ?_)
  simp only [find_eq, of_eq, Option.bind_some]
  refine Ev.bind (rfind_ev a l h n t id (by omega)) (Ev.bind (rof_ev a l h n t c (by omega)) ?_)
  refine Ev.bind (rsame_self _ _ _ _ _ (by omega) (by omega)) ?_
  simp only [if_pos]
  refine Ev.bind (rsame_self _ _ _ _ _ (by omega) (by omega)) ?_
  simp only [if_pos]
  refine Ev.bind (rsame_self _ _ _ _ _ (by omega) (by omega)) ?_
  simp only [if_pos]
  refine Ev.bind (rsame_self _ _ _ _ _ (by show (tck _ l []).1.length < _; have := o4.1; omega) (by omega)) ?_
  refine Ev.step (f := _) (fun k => by simp only [stanchionlaw17_SessionActs.j1]; rw [if_pos (tup_same _), if_pos (beq_self_eq_true _), if_pos (tup_same _), beq_self_eq_true]) ?_
  refine Ev.step (f := _) (fun k => by simp only [stanchionlaw17_SessionActs.j2, if_true]; rfl) ?_
  refine Ev.bind (Ev.congr (fun _ => rfl) (rses_ev _ _ (by show (tck _ l []).2.length < _; have := o4.2; simp at this; omega))) ?_
  simp only [decide_true, if_pos]
  refine Ev.bind (sames_ev a l h n t b m g n2 t2 (by omega) (by omega)) (Ev.bind (rsames_ev a l h n t b m g n2 t2 (by omega) (by omega)) ?_)
  simp only [beq_self_eq_true, if_pos]
  refine Ev.bind (ssame_ev a l h n t (by omega) (by omega)) ?_
  simp only [if_pos]
  unfold session_New.f stanchionref17_New.f
  simp only [Option.bind_some]
  exact Ev.bind (rsame_self _ _ _ _ _ (by simp) (by simp)) (Ev.now _)
 ·have hf : (if (l.length : Int) ≤ 100 then some (decide ((h.length : Int) ≤ 100)) else some false) = some false := by
   by_cases h1 : (l.length : Int) ≤ 100
   ·rw [if_pos h1, decide_eq_false (fun h2 => hq ⟨h1, h2⟩)]
   ·rw [if_neg h1]
  simp only [hf, Option.bind_some, if_pos, Bool.not_false]
  exact Ev.step (f := fun _ => some true) (fun k => by simp only [stanchionlaw17_SessionActs.j0]; exact if_pos trivial) (Ev.now _)
end Go.Proofs.Ytnpmjboofmdflaa.PA
