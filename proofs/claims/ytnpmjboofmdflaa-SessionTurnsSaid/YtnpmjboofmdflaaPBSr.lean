/- What the document's session functions come to: the same as the program's. -/
import Derived.Test.YtnpmjboofmdflaaPBSs
namespace Go.Proofs.Ytnpmjboofmdflaa.PB
open Go.RowKit Go.Proofs.YtnpmjboofmdflaaW.PrintWords Go.Proofs.YtnpmjboofmdflaaW.PrintMore Go.Proofs.Ytnpmjboofmdflaa.Hp

theorem rat_l0 (a : Int) (l : List S42) (h : List S85) (n t id : Int) (hb : l.length < 4611686018427387904) : ∀ (d i : Nat), l.length - i = d → i ≤ l.length → (∀ j, j < i → ((l.getD j z42).f0 == id) = false) → Ev (fun k => stanchionref17_at.l0 k id (i : Int) a l h n t) (ixOf (fun x => x.f0 == id) l)
  | 0, i, hd, hi, hn => by
    rw [ixOf_miss (fun x => x.f0 == id) l z42 (fun j hj => hn j (by omega))]
    exact Ev.step (f := fun _ => some (-1)) (fun k => by simp only [stanchionref17_at.l0]; rw [if_neg (by omega)]) (Ev.now _)
  | d + 1, i, hd, hi, hn => by
    have hw : wrap64 ((i : Int) + 1) = ((i + 1 : Nat) : Int) := by unfold wrap64; omega
    by_cases he : (l.getD i z42).f0 = id
    · rw [ixOf_hit (fun x => x.f0 == id) l z42 i (by omega) (by simpa using he) hn]
      exact Ev.step (f := fun _ => some (i : Int)) (fun k => by simp only [stanchionref17_at.l0]; rw [if_pos (by omega), if_pos (by omega), rds, if_pos he]) (Ev.now _)
    · refine Ev.step (f := fun k => stanchionref17_at.l0 k id ((i + 1 : Nat) : Int) a l h n t) (fun k => by simp only [stanchionref17_at.l0]; rw [if_pos (by omega), if_pos (by omega), rds, if_neg he, hw]) ?_
      refine rat_l0 a l h n t id hb d (i + 1) (by omega) (by omega) (fun j hj => ?_)
      rcases Nat.lt_succ_iff_lt_or_eq.1 hj with hj | rfl
      · exact hn j hj
      · simpa using he
theorem rat_ev (a : Int) (l : List S42) (h : List S85) (n t id : Int) (hb : l.length < 4611686018427387904) : Ev (fun k => stanchionref17_at.f k a l h n t id) (ixOf (fun x => x.f0 == id) l) := rat_l0 a l h n t id hb l.length 0 (by omega) (by omega) (fun j hj => absurd hj (by omega))
theorem rfind_ev (a : Int) (l : List S42) (h : List S85) (n t id : Int) (hb : l.length < 4611686018427387904) : Ev (fun k => stanchionref17_Find.f k a l h n t id) (tup (fnd l id)) := by
  unfold stanchionref17_Find.f
  refine Ev.bind (rat_ev a l h n t id hb) ?_
  rcases find_ix (fun x => x.f0 == id) l with ⟨h1, h2⟩ | ⟨i, h1, hl, h2, _, _⟩
  · rw [h1, show fnd l id = none from h2]; exact Ev.congr (f := fun _ => some (tup none)) (fun _ => if_pos (by omega)) (Ev.now _)
  · rw [h1, show fnd l id = some _ from h2]
    refine Ev.congr (f := fun _ => some (tup (some (l.getD i z42)))) (fun _ => ?_) (Ev.now _)
    rw [if_neg (by omega), if_pos (by omega), if_pos (by omega), rds]; rfl
theorem rjudge_ev (a : Int) (l : List S42) (h : List S85) (n t q0 q1 q2 q3 : Int) (q4 : ByteArray) (q5 : Int) (q6 q7 q8 q9 : ByteArray) (q10 : Int) (hb : l.length < 4611686018427387904) :
    Ev (fun k => stanchionref17_Judge.f k a l h n t q0 q1 q2 q3 q4 q5 q6 q7 q8 q9 q10) (judge a q1 q3 (fnd l q2)) := by
  unfold stanchionref17_Judge.f judge
  by_cases he : q1 = a
  · simp only [if_pos he]
    refine Ev.bind (rfind_ev a l h n t q2 hb) ?_
    cases fnd l q2 with
    | none => exact Ev.now _
    | some x =>
      refine Ev.congr (f := fun _ => some (if q3 < 1 then ((⟨#[]⟩ : ByteArray), 15) else if q3 = x.f1 then (if x.f2 = true then ((⟨#[]⟩ : ByteArray), 12) else (x.f3, 8)) else if q3 = wrap64 (x.f1 + 1) then (if x.f2 = true then ((⟨#[]⟩ : ByteArray), 11) else ((⟨#[]⟩ : ByteArray), 0)) else ((⟨#[]⟩ : ByteArray), 15))) (fun _ => ?_) (Ev.now _)
      refine (if_pos rfl).trans ?_
      show (if q3 < 1 then _ else if q3 = x.f1 then (if x.f2 = true then _ else some (x.f3, 8)) else if q3 = wrap64 (x.f1 + 1) then (if x.f2 = true then _ else _) else _) = _
      split
      · rfl
      · split
        · split <;> rfl
        · split
          · split <;> rfl
          · rfl
  · simp only [if_neg he]; exact Ev.now _
theorem upd_const (id : Int) (u : S42 → S42) (x : S42) : ∀ l : List S42, fnd l id = some x → upd l id (fun _ => u x) = upd l id u
  | [], h => by simp [fnd] at h
  | y :: r, h => by
    unfold fnd at h
    unfold upd
    by_cases hy : y.f0 = id
    · rw [List.find?_cons, show (y.f0 == id) = true by simpa using hy] at h
      injection h with h
      subst h
      rw [if_pos (by simpa using hy), if_pos (by simpa using hy)]
    · rw [List.find?_cons, show (y.f0 == id) = false by simpa using hy] at h
      rw [if_neg (by simpa using hy), if_neg (by simpa using hy), upd_const id u x r h]
theorem sput_ev (a : Int) (l : List S42) (h : List S85) (n t : Int) (x : S42) (hl : l.length < 2513169434916) (hx : fnd l x.f0 ≠ none) : Ev (fun k => stanchionref17_put.f k a l h n t x.f0 x.f1 x.f2 x.f3 x.f4 x.f5) (a, upd l x.f0 (fun _ => x), h, n, t) := by
  unfold stanchionref17_put.f
  refine Ev.bind (rat_ev a l h n t x.f0 (by omega)) ?_
  rcases find_ix (fun y => y.f0 == x.f0) l with ⟨h1, h2⟩ | ⟨i, h1, hi, h2, h3, h4⟩
  · exact absurd h2 hx
  · rw [h1]
    refine Ev.congr (f := fun _ => some (a, upd l x.f0 (fun _ => x), h, n, t)) (fun _ => ?_) (Ev.now _)
    simp only [Option.bind_some, List.length_nil, Nat.zero_add, List.nil_append, if_pos hl]
    rw [if_pos (by omega), if_pos (by omega), ← upd_set x.f0 (fun _ => x) l i hi (by simpa using h3) h4]
    rfl
theorem rren_ev (a : Int) (l : List S42) (h : List S85) (n t id : Int) (hh : h.length < 8796093022207) (h0 : 0 ≤ t) (h1 : t < 18446744073709551616) : Ev (fun k => stanchionref17_renewed.f k a l h n t id) (a, l, ren h t id, n, t) := by
  unfold stanchionref17_renewed.f
  have hd := drops_len id h []
  simp only [List.length_nil, Nat.add_zero] at hd
  by_cases c : IntKind.u64.wrap (t + 20) < t
  · simp only [if_pos c]
    have e : dueAt t = 18446744073709551615 := by
      rw [IntKind.wrap_u64] at c
      unfold dueAt
      rw [if_neg (by omega)]
    refine Ev.bind (rdrop_ev h id hh) ?_
    unfold ren
    rw [e]
    exact Ev.bind (rput_ev (drops h id []) ⟨18446744073709551615, id⟩ (by omega)) (Ev.now _)
  · simp only [if_neg c]
    have e : IntKind.u64.wrap (t + 20) = dueAt t := by
      rw [IntKind.wrap_u64] at c ⊢
      unfold dueAt
      split <;> omega
    rw [e]
    exact Ev.bind (rdrop_ev h id hh) (Ev.bind (rput_ev (drops h id []) ⟨dueAt t, id⟩ (by omega)) (Ev.now _))
theorem rtake_ev (a : Int) (l : List S42) (h : List S85) (n t id c : Int) (hl : l.length < 2513169434916) (hh : h.length < 8796093022207) (h0 : 0 ≤ t) (h1 : t < 18446744073709551616) : Ev (fun k => stanchionref17_Take.f k a l h n t id c) (a, (tk l h t id c).1, (tk l h t id c).2.1, n, t, (tk l h t id c).2.2) := by
  unfold stanchionref17_Take.f tk
  refine Ev.bind (rfind_ev a l h n t id (by omega)) ?_
  cases hf : fnd l id with
  | none => exact Ev.now _
  | some x =>
    have hid : x.f0 = id := (fnd_mem hf).2
    by_cases hb : x.f1 ≥ 1073741824
    · refine Ev.congr (f := fun _ => some (a, l, h, n, t, 4)) (fun _ => ?_) (by simp only [if_pos hb]; exact Ev.now _)
      exact (if_pos rfl).trans (if_pos hb)
    · refine Ev.congr (f := fun k => (stanchionref17_put.f k a l h n t x.f0 (wrap64 (x.f1 + 1)) true (⟨#[]⟩ : ByteArray) x.f4 c).bind fun b => (stanchionref17_renewed.f k b.1 b.2.1 b.2.2.1 b.2.2.2.1 b.2.2.2.2 id).bind fun z => some (z.1, z.2.1, z.2.2.1, z.2.2.2.1, z.2.2.2.2, 0)) (fun _ => (if_pos rfl).trans (if_neg hb)) ?_
      simp only [if_neg hb]
      have P := sput_ev a l h n t (uTake c x) hl (by show fnd l x.f0 ≠ none; rw [hid, hf]; simp)
      rw [show (uTake c x).f0 = id from hid, upd_const id (uTake c) x l hf] at P
      refine Ev.bind (Ev.congr (fun k => by rw [hid]; rfl) P) ?_
      exact Ev.bind (rren_ev a _ h n t id hh h0 h1) (Ev.now _)
theorem ranswer_ev (a : Int) (l : List S42) (h : List S85) (n t id : Int) (c : ByteArray) (hl : l.length < 2513169434916) : Ev (fun k => stanchionref17_Answer.f k a l h n t id c) (a, (wth l id (uAnswer c)).1, h, n, t, (wth l id (uAnswer c)).2) := by
  unfold stanchionref17_Answer.f wth
  refine Ev.bind (rfind_ev a l h n t id (by omega)) ?_
  cases hf : fnd l id with
  | none => exact Ev.now _
  | some x =>
    have hid : x.f0 = id := (fnd_mem hf).2
    refine Ev.congr (f := fun k => (stanchionref17_put.f k a l h n t x.f0 x.f1 false c x.f4 x.f5).bind fun b => some (b.1, b.2.1, b.2.2.1, b.2.2.2.1, b.2.2.2.2, 0)) (fun _ => if_pos rfl) ?_
    have P := sput_ev a l h n t (uAnswer c x) hl (by show fnd l x.f0 ≠ none; rw [hid, hf]; simp)
    rw [show (uAnswer c x).f0 = id from hid, upd_const id (uAnswer c) x l hf] at P
    exact Ev.bind (Ev.congr (fun k => by rw [hid]; rfl) P) (Ev.now _)
theorem rbind_ev (a : Int) (l : List S42) (h : List S85) (n t id c : Int) (hl : l.length < 2513169434916) : Ev (fun k => stanchionref17_Bind.f k a l h n t id c) (a, (wth l id (uBind c)).1, h, n, t, (wth l id (uBind c)).2) := by
  unfold stanchionref17_Bind.f wth
  refine Ev.bind (rfind_ev a l h n t id (by omega)) ?_
  cases hf : fnd l id with
  | none => exact Ev.now _
  | some x =>
    have hid : x.f0 = id := (fnd_mem hf).2
    refine Ev.congr (f := fun k => (stanchionref17_put.f k a l h n t x.f0 x.f1 x.f2 x.f3 c x.f5).bind fun b => some (b.1, b.2.1, b.2.2.1, b.2.2.2.1, b.2.2.2.2, 0)) (fun _ => if_pos rfl) ?_
    have P := sput_ev a l h n t (uBind c x) hl (by show fnd l x.f0 ≠ none; rw [hid, hf]; simp)
    rw [show (uBind c x).f0 = id from hid, upd_const id (uBind c) x l hf] at P
    exact Ev.bind (Ev.congr (fun k => by rw [hid]; rfl) P) (Ev.now _)
theorem rses_l0 (xs ys : List S42) (hl : xs.length = ys.length) (hb : xs.length < 4611686018427387904) : ∀ (d i : Nat), xs.length - i = d → i ≤ xs.length → Ev (fun k => stanchionref17_Sessions.l0 k xs ys (i : Int)) (decide (xs.drop i = ys.drop i))
  | 0, i, hd, hi => by
    refine Ev.step (f := fun _ => some true) (fun k => by simp only [stanchionref17_Sessions.l0]; rw [if_neg (by omega)]) ?_
    rw [List.drop_of_length_le (by omega), List.drop_of_length_le (by omega), decide_eq_true rfl]
    exact Ev.now _
  | d + 1, i, hd, hi => by
    have hw : wrap64 ((i : Int) + 1) = ((i + 1 : Nat) : Int) := by unfold wrap64; omega
    by_cases he : xs.getD i z42 = ys.getD i z42
    · refine Ev.step (f := fun k => stanchionref17_Sessions.l0 k xs ys ((i + 1 : Nat) : Int)) (fun k => ?_) ?_
      · simp only [stanchionref17_Sessions.l0]
        rw [if_pos (by omega), if_pos (by omega), if_pos (by omega), rds, rds, se_ne, se_ext.2 he, if_neg (by decide), hw]
      · rw [decide_eq_decide.2 (show (xs.drop i = ys.drop i) ↔ (xs.drop (i + 1) = ys.drop (i + 1)) by rw [same_step xs ys z42 i (by omega) (by omega)]; simp only [he, true_and])]
        exact rses_l0 xs ys hl hb d (i + 1) (by omega) (by omega)
    · refine Ev.step (f := fun k => some false) (fun k => ?_) ?_
      · simp only [stanchionref17_Sessions.l0]
        rw [if_pos (by omega), if_pos (by omega), if_pos (by omega), rds, rds, se_ne, Bool.eq_false_iff.2 (fun h => he (se_ext.1 h)), if_pos (by decide)]
      · rw [decide_eq_false (fun h => he ((same_step xs ys z42 i (by omega) (by omega)).1 h).1)]
        exact Ev.now _
theorem rses_ev (xs ys : List S42) (hb : xs.length < 4611686018427387904) : Ev (fun k => stanchionref17_Sessions.f k xs ys) (decide (xs = ys)) := by
  unfold stanchionref17_Sessions.f
  by_cases hl : xs.length = ys.length
  · simp only [if_pos (show (xs.length : Int) = (ys.length : Int) by omega)]
    exact rses_l0 xs ys hl hb xs.length 0 (by omega) (by omega)
  · simp only [if_neg (show ¬ (xs.length : Int) = (ys.length : Int) by omega)]
    rw [decide_eq_false (fun h => hl (by rw [h]))]
    exact Ev.now _
theorem ral_l0 (xs ys : List S85) (hl : xs.length = ys.length) (hb : xs.length < 4611686018427387904) : ∀ (d i : Nat), xs.length - i = d → i ≤ xs.length → Ev (fun k => stanchionref15_Same.l0 k xs ys (i : Int)) (decide (xs.drop i = ys.drop i))
  | 0, i, hd, hi => by
    refine Ev.step (f := fun _ => some true) (fun k => by simp only [stanchionref15_Same.l0]; rw [if_neg (by omega)]) ?_
    rw [List.drop_of_length_le (by omega), List.drop_of_length_le (by omega), decide_eq_true rfl]
    exact Ev.now _
  | d + 1, i, hd, hi => by
    have hw : wrap64 ((i : Int) + 1) = ((i + 1 : Nat) : Int) := by unfold wrap64; omega
    by_cases he : xs.getD i z85 = ys.getD i z85
    · refine Ev.step (f := fun k => stanchionref15_Same.l0 k xs ys ((i + 1 : Nat) : Int)) (fun k => ?_) ?_
      · simp only [stanchionref15_Same.l0]
        rw [if_pos (by omega), if_pos (by omega), if_pos (by omega), rd_nat, rd_nat, if_neg (fun h => (al_ne _ _).1 h he), hw]
      · rw [decide_eq_decide.2 (show (xs.drop i = ys.drop i) ↔ (xs.drop (i + 1) = ys.drop (i + 1)) by rw [same_step xs ys z85 i (by omega) (by omega)]; simp only [he, true_and])]
        exact ral_l0 xs ys hl hb d (i + 1) (by omega) (by omega)
    · refine Ev.step (f := fun k => some false) (fun k => ?_) ?_
      · simp only [stanchionref15_Same.l0]
        rw [if_pos (by omega), if_pos (by omega), if_pos (by omega), rd_nat, rd_nat, if_pos ((al_ne _ _).2 he)]
      · rw [decide_eq_false (fun h => he ((same_step xs ys z85 i (by omega) (by omega)).1 h).1)]
        exact Ev.now _
theorem ral_ev (xs ys : List S85) (hb : xs.length < 4611686018427387904) : Ev (fun k => stanchionref15_Same.f k xs ys) (decide (xs = ys)) := by
  unfold stanchionref15_Same.f
  by_cases hl : xs.length = ys.length
  · simp only [if_pos (show (xs.length : Int) = (ys.length : Int) by omega)]
    exact ral_l0 xs ys hl hb xs.length 0 (by omega) (by omega)
  · simp only [if_neg (show ¬ (xs.length : Int) = (ys.length : Int) by omega)]
    rw [decide_eq_false (fun h => hl (by rw [h]))]
    exact Ev.now _
theorem rsames_ev (a : Int) (l : List S42) (h : List S85) (n t b : Int) (m : List S42) (g : List S85) (n2 t2 : Int) (hl : l.length < 4611686018427387904) (hh : h.length < 4611686018427387904) : Ev (fun k => stanchionref17_Same.f k a l h n t b m g n2 t2) (sm (a, l, h, n, t) (b, m, g, n2, t2)) := by
  unfold stanchionref17_Same.f sm
  refine Ev.bind (rses_ev l m hl) (Ev.bind (ral_ev h g hh) ?_)
  by_cases c2 : l = m
  · simp only [decide_eq_true c2, if_pos, Bool.true_and]
    by_cases c3 : h = g
    · simp only [decide_eq_true c3, if_pos, Bool.true_and]
      by_cases c1 : a = b
      · simp only [if_pos c1, decide_eq_true c1, Bool.true_and]
        by_cases c4 : n = n2
        · simp only [if_pos c4, decide_eq_true c4, Bool.true_and]
          exact Ev.now _
        · simp only [if_neg c4, decide_eq_false c4, Bool.false_and]; exact Ev.now _
      · simp only [if_neg c1, decide_eq_false c1, Bool.false_and]; exact Ev.now _
    · simp only [decide_eq_false c3, Bool.false_and, Bool.and_false]; exact Ev.congr (f := fun _ => some false) (fun _ => by simp) (Ev.now _)
  · simp only [decide_eq_false c2, Bool.false_and, Bool.and_false]; exact Ev.congr (f := fun _ => some false) (fun _ => by simp) (Ev.now _)
theorem rsame_self (a : Int) (l : List S42) (h : List S85) (n t : Int) (hl : l.length < 4611686018427387904) (hh : h.length < 4611686018427387904) : Ev (fun k => stanchionref17_Same.f k a l h n t a l h n t) true := by
  have := rsames_ev a l h n t a l h n t hl hh
  rw [sm_self] at this
  exact this
end Go.Proofs.Ytnpmjboofmdflaa.PB
