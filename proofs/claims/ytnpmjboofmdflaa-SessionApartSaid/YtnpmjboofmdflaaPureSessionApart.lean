/- What the law SessionApart comes to: true, whatever is handed in. -/
import Derived.Test.YtnpmjboofmdflaaGdSessionApart
import Derived.Test.YtnpmjboofmdflaaPBSa
namespace Go.Proofs.Ytnpmjboofmdflaa.PB
open Go.RowKit Go.Proofs.YtnpmjboofmdflaaW.PrintWords Go.Proofs.YtnpmjboofmdflaaW.PrintMore Go.Proofs.Ytnpmjboofmdflaa.Hp

theorem wth_other (l : List S42) (id o : Int) (u : S42 → S42) (hu : ∀ x, (u x).f0 = x.f0) (h : id ≠ o) : fnd (wth l id u).1 o = fnd l o := by
  unfold wth
  cases fnd l id with
  | none => rfl
  | some x => show fnd (upd l id u) o = _; rw [fnd_upd id u hu, if_neg (fun e => h e.symm)]
theorem wth_len (l : List S42) (id : Int) (u : S42 → S42) : (wth l id u).1.length = l.length := by
  unfold wth
  cases fnd l id with
  | none => rfl
  | some x => exact upd_len id u l
theorem tk_other (l : List S42) (h : List S85) (t id c o : Int) (hne : id ≠ o) : fnd (tk l h t id c).1 o = fnd l o := by
  unfold tk
  cases fnd l id with
  | none => rfl
  | some x =>
    show fnd (if x.f1 ≥ 1073741824 then (l, h, (4 : Int)) else (upd l id (uTake c), ren h t id, 0)).1 o = _
    split
    · rfl
    · show fnd (upd l id (uTake c)) o = _
      rw [fnd_upd id (uTake c) (fun _ => rfl), if_neg (fun e => hne e.symm)]
theorem tk_len (l : List S42) (h : List S85) (t id c : Int) : (tk l h t id c).1.length = l.length ∧ (tk l h t id c).2.1.length ≤ h.length + 1 := by
  unfold tk
  cases fnd l id with
  | none => exact ⟨rfl, Nat.le_succ _⟩
  | some x =>
    show (if x.f1 ≥ 1073741824 then (l, h, (4 : Int)) else (upd l id (uTake c), ren h t id, 0)).1.length = _ ∧ (if x.f1 ≥ 1073741824 then (l, h, (4 : Int)) else (upd l id (uTake c), ren h t id, 0)).2.1.length ≤ _
    split
    · exact ⟨rfl, Nat.le_succ _⟩
    · exact ⟨upd_len _ _ _, ren_len _ _ _⟩
theorem cls_other (l : List S42) (h : List S85) (id o : Int) (hne : id ≠ o) : fnd (cls l h id).1 o = fnd l o := by
  unfold cls
  cases fnd l id with
  | none => rfl
  | some x => show fnd (lss l id) o = _; rw [fnd_lss, if_neg (fun e => hne e.symm)]
theorem cls_gone (l : List S42) (h : List S85) (id : Int) : fnd (cls l h id).1 id = none := by
  unfold cls
  cases hf : fnd l id with
  | none => exact hf
  | some x => show fnd (lss l id) id = _; rw [fnd_lss, if_pos rfl]
theorem stanchionlaw17_SessionApart.pure : stanchionlaw17_SessionApart.Pure := by
  intro x0 hx0
  obtain ⟨⟨a, l, h, n, t⟩, id, o, c, last, txn⟩ := x0
  obtain ⟨hS, _⟩ := hx0
  have ht := wfu64 hS.2.2.2.2
  have hl : l.length < 2513169434916 := by have := hS.2.1.1; simp only at this; omega
  have hh : h.length + 2 < 8796093022207 := by have := hS.2.2.1.1; simp only at this; omega
  simp only at ht ⊢
  apply Ev.rounds
  unfold stanchionlaw17_SessionApart.f
  refine Ev.bind shown17_ev ?_
  by_cases he : id = o
  · simp only [if_pos he]; exact Ev.now _
  · simp only [if_neg he, find_eq, Option.bind_some]
    have k1 := tk_len l h t id c
    refine Ev.bind (take_ev a l h n t id c hl (by omega) ht.1 ht.2) ?_
    simp only [answer_eq a _ (tk l h t id c).2.1 n t id last (show (tk l h t id c).1.length < 2513169434916 by rw [k1.1]; exact hl), Option.bind_some]
    have k2 : (wth (tk l h t id c).1 id (uAnswer last)).1.length < 2513169434916 := by rw [wth_len, k1.1]; exact hl
    simp only [bind_eq a _ (tk l h t id c).2.1 n t id txn k2, Option.bind_some]
    have k3 : (wth (wth (tk l h t id c).1 id (uAnswer last)).1 id (uBind txn)).1.length < 2513169434916 := by rw [wth_len]; exact k2
    refine Ev.bind (close_ev a _ (tk l h t id c).2.1 n t id k3 (by omega)) ?_
    have e1 : fnd (cls (wth (wth (tk l h t id c).1 id (uAnswer last)).1 id (uBind txn)).1 (tk l h t id c).2.1 id).1 o = fnd l o := by
      rw [cls_other _ _ _ _ he, wth_other _ _ _ (uBind txn) (fun _ => rfl) he, wth_other _ _ _ (uAnswer last) (fun _ => rfl) he, tk_other _ _ _ _ _ _ he]
    simp only [e1, cls_gone]
    exact Ev.congr (f := fun _ => some true) (fun _ => by simp [tup]) (Ev.now _)
end Go.Proofs.Ytnpmjboofmdflaa.PB
