/- Whether two rows of sessions, or of alarms, are the same. -/
import Derived.Test.YtnpmjboofmdflaaPBSa
namespace Go.Proofs.Ytnpmjboofmdflaa.PB
open Go.RowKit Go.Proofs.YtnpmjboofmdflaaW.PrintWords Go.Proofs.YtnpmjboofmdflaaW.PrintMore Go.Proofs.Ytnpmjboofmdflaa.Hp

theorem se_ext {x y : S42} : (x.f0 == y.f0 && (x.f1 == y.f1 && (x.f2 == y.f2 && (x.f3.toList == y.f3.toList && (x.f4 == y.f4 && (x.f5 == y.f5)))))) = true ↔ x = y := by
  obtain ⟨a0, a1, a2, a3, a4, a5⟩ := x
  obtain ⟨b0, b1, b2, b3, b4, b5⟩ := y
  constructor
  · intro h
    simp only [Bool.and_eq_true, beq_iff_eq] at h
    obtain ⟨rfl, rfl, rfl, h3, rfl, rfl⟩ := h
    rw [sext h3]
  · intro h
    injection h with h0 h1 h2 h3 h4 h5
    subst h0; subst h1; subst h2; subst h3; subst h4; subst h5
    simp
theorem se_ne (x y : S42) : (!(x.f0 == y.f0) || (!(x.f1 == y.f1) || (!(x.f2 == y.f2) || (!(x.f3.toList == y.f3.toList) || (!(x.f4 == y.f4) || (!(x.f5 == y.f5))))))) = !(x.f0 == y.f0 && (x.f1 == y.f1 && (x.f2 == y.f2 && (x.f3.toList == y.f3.toList && (x.f4 == y.f4 && (x.f5 == y.f5)))))) := by
  simp only [Bool.not_and]
theorem al_ne (x y : S85) : ((!(x.f0 == y.f0) || (!(x.f1 == y.f1))) = true) ↔ x ≠ y := by
  obtain ⟨a0, a1⟩ := x
  obtain ⟨b0, b1⟩ := y
  simp
  constructor
  · rintro (h | h) e e2
    · exact h e
    · exact h e2
  · intro h
    by_cases e : a0 = b0
    · exact .inr (h e)
    · exact .inl e
theorem same_step {α : Type} (xs ys : List α) (d : α) (i : Nat) (hx : i < xs.length) (hy : i < ys.length) : (xs.drop i = ys.drop i) ↔ (xs.getD i d = ys.getD i d ∧ xs.drop (i + 1) = ys.drop (i + 1)) := by
  rw [List.drop_eq_getElem_cons hx, List.drop_eq_getElem_cons hy, getD_of xs i d hx, getD_of ys i d hy, List.cons.injEq]
noncomputable instance : DecidableEq S42 := fun _ _ => Classical.propDecidable _
noncomputable instance : DecidableEq S85 := fun _ _ => Classical.propDecidable _
theorem sl49 (xs ys : List S42) (hl : xs.length = ys.length) (hb : xs.length < 4611686018427387904) : ∀ (d i : Nat), xs.length - i = d → i ≤ xs.length → Ev (fun k => api_Session_49.l0 k xs ys (xs.length : Int) (i : Int)) (decide (xs.drop i = ys.drop i))
  | 0, i, hd, hi => by
    refine Ev.step (f := fun _ => some true) (fun k => by simp only [api_Session_49.l0]; rw [if_neg (by omega)]) ?_
    rw [List.drop_of_length_le (by omega), List.drop_of_length_le (by omega), decide_eq_true rfl]
    exact Ev.now _
  | d + 1, i, hd, hi => by
    have hw : wrap64 ((i : Int) + 1) = ((i + 1 : Nat) : Int) := by unfold wrap64; omega
    by_cases he : xs.getD i z42 = ys.getD i z42
    · refine Ev.step (f := fun k => api_Session_49.l0 k xs ys (xs.length : Int) ((i + 1 : Nat) : Int)) (fun k => ?_) ?_
      · simp only [api_Session_49.l0]
        rw [if_pos (by omega), if_pos (by omega), if_pos (by omega), if_pos (by omega), rds, rds, se_ne, se_ext.2 he, if_neg (by decide), hw]
      · rw [decide_eq_decide.2 (show (xs.drop i = ys.drop i) ↔ (xs.drop (i + 1) = ys.drop (i + 1)) by rw [same_step xs ys z42 i (by omega) (by omega)]; simp only [he, true_and])]
        exact sl49 xs ys hl hb d (i + 1) (by omega) (by omega)
    · refine Ev.step (f := fun k => some false) (fun k => ?_) ?_
      · simp only [api_Session_49.l0]
        rw [if_pos (by omega), if_pos (by omega), if_pos (by omega), if_pos (by omega), rds, rds, se_ne, Bool.eq_false_iff.2 (fun h => he (se_ext.1 h)), if_pos (by decide)]
      · rw [decide_eq_false (fun h => he ((same_step xs ys z42 i (by omega) (by omega)).1 h).1)]
        exact Ev.now _
theorem s49_ev (xs ys : List S42) (hb : xs.length < 4611686018427387904) : Ev (fun k => api_Session_49.f k xs ys) (decide (xs = ys)) := by
  unfold api_Session_49.f
  by_cases hl : xs.length = ys.length
  · simp only [if_pos (show (xs.length : Int) = (ys.length : Int) by omega)]
    exact sl49 xs ys hl hb xs.length 0 (by omega) (by omega)
  · simp only [if_neg (show ¬ (xs.length : Int) = (ys.length : Int) by omega)]
    rw [decide_eq_false (fun h => hl (by rw [h]))]
    exact Ev.now _
theorem sl50 (xs ys : List S85) (hl : xs.length = ys.length) (hb : xs.length < 4611686018427387904) : ∀ (d i : Nat), xs.length - i = d → i ≤ xs.length → Ev (fun k => api_Alarm_50.l0 k xs ys (xs.length : Int) (i : Int)) (decide (xs.drop i = ys.drop i))
  | 0, i, hd, hi => by
    refine Ev.step (f := fun _ => some true) (fun k => by simp only [api_Alarm_50.l0]; rw [if_neg (by omega)]) ?_
    rw [List.drop_of_length_le (by omega), List.drop_of_length_le (by omega), decide_eq_true rfl]
    exact Ev.now _
  | d + 1, i, hd, hi => by
    have hw : wrap64 ((i : Int) + 1) = ((i + 1 : Nat) : Int) := by unfold wrap64; omega
    by_cases he : xs.getD i z85 = ys.getD i z85
    · refine Ev.step (f := fun k => api_Alarm_50.l0 k xs ys (xs.length : Int) ((i + 1 : Nat) : Int)) (fun k => ?_) ?_
      · simp only [api_Alarm_50.l0]
        rw [if_pos (by omega), if_pos (by omega), if_pos (by omega), if_pos (by omega), rd_nat, rd_nat, if_neg (fun h => (al_ne _ _).1 h he), hw]
      · rw [decide_eq_decide.2 (show (xs.drop i = ys.drop i) ↔ (xs.drop (i + 1) = ys.drop (i + 1)) by rw [same_step xs ys z85 i (by omega) (by omega)]; simp only [he, true_and])]
        exact sl50 xs ys hl hb d (i + 1) (by omega) (by omega)
    · refine Ev.step (f := fun k => some false) (fun k => ?_) ?_
      · simp only [api_Alarm_50.l0]
        rw [if_pos (by omega), if_pos (by omega), if_pos (by omega), if_pos (by omega), rd_nat, rd_nat, if_pos ((al_ne _ _).2 he)]
      · rw [decide_eq_false (fun h => he ((same_step xs ys z85 i (by omega) (by omega)).1 h).1)]
        exact Ev.now _
theorem s50_ev (xs ys : List S85) (hb : xs.length < 4611686018427387904) : Ev (fun k => api_Alarm_50.f k xs ys) (decide (xs = ys)) := by
  unfold api_Alarm_50.f
  by_cases hl : xs.length = ys.length
  · simp only [if_pos (show (xs.length : Int) = (ys.length : Int) by omega)]
    exact sl50 xs ys hl hb xs.length 0 (by omega) (by omega)
  · simp only [if_neg (show ¬ (xs.length : Int) = (ys.length : Int) by omega)]
    rw [decide_eq_false (fun h => hl (by rw [h]))]
    exact Ev.now _
/-- Are two the same? -/
noncomputable def sm (a b : St) : Bool := decide (a.1 = b.1) && (decide (a.2.1 = b.2.1) && (decide (a.2.2.1 = b.2.2.1) && (decide (a.2.2.2.1 = b.2.2.2.1) && decide (a.2.2.2.2 = b.2.2.2.2))))
theorem sm_self (a : St) : sm a a = true := by simp [sm]
theorem sames_ev (a : Int) (l : List S42) (h : List S85) (n t b : Int) (m : List S42) (g : List S85) (n2 t2 : Int) (hl : l.length < 4611686018427387904) (hh : h.length < 4611686018427387904) : Ev (fun k => session_Same.f k a l h n t b m g n2 t2) (sm (a, l, h, n, t) (b, m, g, n2, t2)) := by
  unfold session_Same.f sm
  by_cases c1 : a = b
  · simp only [if_pos c1, decide_eq_true c1, Bool.true_and]
    refine Ev.bind (s49_ev l m hl) ?_
    by_cases c2 : l = m
    · simp only [decide_eq_true c2, if_pos, Bool.true_and]
      refine Ev.bind (s50_ev h g hh) ?_
      by_cases c3 : h = g
      · simp only [decide_eq_true c3, if_pos, Bool.true_and]
        by_cases c4 : n = n2
        · simp only [if_pos c4, decide_eq_true c4, Bool.true_and]
          exact Ev.now _
        · simp only [if_neg c4, decide_eq_false c4, Bool.false_and]; exact Ev.now _
      · simp only [decide_eq_false c3, Bool.false_and]; exact Ev.congr (f := fun _ => some false) (fun _ => by simp) (Ev.now _)
    · simp only [decide_eq_false c2, Bool.false_and]; exact Ev.congr (f := fun _ => some false) (fun _ => by simp) (Ev.now _)
  · simp only [if_neg c1, decide_eq_false c1, Bool.false_and]; exact Ev.now _
theorem ssame_ev (a : Int) (l : List S42) (h : List S85) (n t : Int) (hl : l.length < 4611686018427387904) (hh : h.length < 4611686018427387904) : Ev (fun k => session_Same.f k a l h n t a l h n t) true := by
  have := sames_ev a l h n t a l h n t hl hh
  rw [sm_self] at this
  exact this
end Go.Proofs.Ytnpmjboofmdflaa.PB
