/- What the law SessionLease comes to: true, whatever is handed in. -/
import Derived.Test.YtnpmjboofmdflaaGdSessionLease
import Derived.Test.YtnpmjboofmdflaaPBSr
namespace Go.Proofs.Ytnpmjboofmdflaa.PB
open Go.RowKit Go.Proofs.YtnpmjboofmdflaaW.PrintWords Go.Proofs.YtnpmjboofmdflaaW.PrintMore Go.Proofs.Ytnpmjboofmdflaa.Hp

theorem due_ids (id : Int) : ∀ (n : Nat) (xs : List S85) (t : Int), (due n xs t).countP (fun x => decide (x.f1 = id)) + (dueIds n xs t).count id = xs.countP (fun x => decide (x.f1 = id))
  | 0, xs, t => by simp [due, dueIds]
  | n + 1, xs, t => by
    unfold due dueIds
    split
    · rename_i h
      have ih := due_ids id n (pop lt z85 xs) t
      have hp := pop_count (lt := lt) (d := z85) (fun x => decide (x.f1 = id)) h.1
      rw [List.count_cons]
      by_cases q : (xs.getD 0 z85).f1 = id
      · rw [if_pos (by simpa using q)] at hp
        rw [if_pos (by simpa using q)]
        omega
      · rw [if_neg (by simpa using q)] at hp
        rw [if_neg (by simpa using q)]
        omega
    · simp
theorem ren_count (h : List S85) (t id : Int) (p : S85 → Bool) (hp : ∀ x, p x = true → x.f1 = id) : (ren h t id).countP p = if p ⟨dueAt t, id⟩ = true then 1 else 0 := by
  unfold ren
  rw [put_count]
  have : (drops h id []).countP p = 0 := by
    rw [List.countP_eq_zero]
    intro x hx hq
    exact drops_none id h x hx (hp x hq)
  omega
theorem nil_heap : Heap lt z85 ([] : List S85) := fun i _ hi => absurd hi (by simp)
theorem in_due (h : List S85) (t id u : Int) : (id ∈ dueIds (ren h t id).length (ren h t id) u) ↔ dueAt t ≤ u := by
  have hH : Heap lt z85 (ren h t id) := put_heap lt_ord (drops_heap id h [] nil_heap) _
  have c1 := due_ids id (ren h t id).length (ren h t id) u
  rw [ren_count h t id (fun x => decide (x.f1 = id)) (fun x hx => by simpa using hx), if_pos (by simp)] at c1
  have c2 := due_count (fun x => decide (x.f1 = id) && decide (¬ x.f0 ≤ u)) (ren h t id).length (ren h t id) u (fun x hx => by simp at hx; omega)
  rw [ren_count h t id (fun x => decide (x.f1 = id) && decide (¬ x.f0 ≤ u)) (fun x hx => by simp at hx; exact hx.1)] at c2
  have hd := due_done (ren h t id).length (ren h t id) u (Nat.le_refl _) hH
  have c3 : (due (ren h t id).length (ren h t id) u).countP (fun x => decide (x.f1 = id) && decide (¬ x.f0 ≤ u)) = (due (ren h t id).length (ren h t id) u).countP (fun x => decide (x.f1 = id)) := by
    apply List.countP_congr
    intro x hx
    have := hd x hx
    simp
    intro _
    omega
  rw [c3] at c2
  rw [← List.count_pos_iff]
  by_cases q : dueAt t ≤ u
  · rw [if_neg (by simp; omega)] at c2
    constructor
    · exact fun _ => q
    · intro _; omega
  · rw [if_pos (by simp; omega)] at c2
    constructor
    · intro hc; omega
    · exact fun hq => absurd hq q
theorem fnd_tck (o : Int) : ∀ (ids : List Int) (l out : List S42), fnd (tck ids l out).1 o = if o ∈ ids then none else fnd l o
  | [], l, out => by simp [tck]
  | i :: r, l, out => by
    unfold tck
    cases hf : fnd l i with
    | none =>
      show fnd (tck r l out).1 o = _
      rw [fnd_tck o r l out]
      by_cases q : o = i
      · subst q; simp [hf]
      · simp [q]
    | some x =>
      show fnd (tck r (lss l i) (out ++ [x])).1 o = _
      rw [fnd_tck o r _ _, fnd_lss]
      by_cases q : o = i
      · subst q; simp
      · simp [q]
theorem any_tck (o : Int) : ∀ (ids : List Int) (l out : List S42), (tck ids l out).2.any (fun x => x.f0 == o) = (out.any (fun x => x.f0 == o) || (decide (o ∈ ids) && (fnd l o).isSome))
  | [], l, out => by simp [tck]
  | i :: r, l, out => by
    unfold tck
    cases hf : fnd l i with
    | none =>
      show (tck r l out).2.any _ = _
      rw [any_tck o r l out]
      by_cases q : o = i
      · subst q; simp [hf]
      · simp [q]
    | some x =>
      show (tck r (lss l i) (out ++ [x])).2.any _ = _
      rw [any_tck o r _ _, fnd_lss]
      have hx := (fnd_mem hf).2
      by_cases q : o = i
      · subst q; simp [hf, hx]
      · have : (x.f0 == o) = false := by simp; rw [hx]; exact fun e => q e.symm
        simp [q, this]
theorem lease_l0 (id n : Int) (is : Bool) (his : is = decide (n < 20)) (xs : List S42) (hb : xs.length < 4611686018427387904) : ∀ (d i : Nat) (b : Bool), xs.length - i = d → i ≤ xs.length → (b || (xs.drop i).any (fun x => x.f0 == id)) = decide (n ≥ 20) → Ev (fun k => stanchionlaw17_SessionLease.l0 k id n xs is b (i : Int)) true
  | 0, i, b, hd, hi, hr => by
    rw [List.drop_of_length_le (by omega), List.any_nil, Bool.or_false] at hr
    refine Ev.step (f := fun _ => some true) (fun k => ?_) (Ev.now _)
    simp only [stanchionlaw17_SessionLease.l0]
    rw [if_neg (by omega), his, hr, if_pos (by simp)]
    simp
  | d + 1, i, b, hd, hi, hr => by
    have hw : wrap64 ((i : Int) + 1) = ((i + 1 : Nat) : Int) := by unfold wrap64; omega
    have hdr : xs.drop i = xs.getD i z42 :: xs.drop (i + 1) := by rw [List.drop_eq_getElem_cons (by omega), getD_of xs i z42 (by omega)]
    rw [hdr, List.any_cons] at hr
    cases b with
    | true =>
      refine Ev.step (f := fun k => stanchionlaw17_SessionLease.l0 k id n xs is true ((i + 1 : Nat) : Int)) (fun k => ?_) (lease_l0 id n is his xs hb d (i + 1) true (by omega) (by omega) (by simpa using hr))
      simp only [stanchionlaw17_SessionLease.l0]
      rw [if_pos (by omega), hw]
      exact if_pos trivial
    | false =>
      refine Ev.step (f := fun k => stanchionlaw17_SessionLease.l0 k id n xs is ((xs.getD i z42).f0 == id) ((i + 1 : Nat) : Int)) (fun k => ?_) (lease_l0 id n is his xs hb d (i + 1) _ (by omega) (by omega) (by simpa using hr))
      simp only [stanchionlaw17_SessionLease.l0]
      rw [if_pos (by omega), if_neg (by decide), if_pos (by omega), rds, hw]
theorem stanchionlaw17_SessionLease.pure : stanchionlaw17_SessionLease.Pure := by
  intro x0 id m hx0 hid hm
  obtain ⟨a, l, h, n, t⟩ := x0
  have ht := wfu64 hx0.2.2.2.2
  have hm := wfu64 hm
  simp only at ht hm ⊢
  apply Ev.rounds
  unfold stanchionlaw17_SessionLease.f
  have up (q : Bool) (hq : q = true) : Ev (fun k => stanchionlaw17_SessionLease.j0 k id m true q a l h n t) true := by
    subst hq
    refine Ev.step (f := fun _ => some true) (fun k => ?_) (Ev.now _)
    simp only [stanchionlaw17_SessionLease.j0]
    exact if_pos trivial
  refine Ev.bind shown17_ev ?_
  have hlh : h.length < 1152921504606846976 := by have := hx0.2.2.1.1; simp only at this; omega
  obtain ⟨b, hev, hiff⟩ := rheap_ev h hlh
  unfold stanchionlaw17_few.f
  by_cases hq : (l.length : Int) ≤ 100 ∧ (h.length : Int) ≤ 100
  · have hl : l.length ≤ 100 := by omega
    have hh : h.length ≤ 100 := by omega
    simp only [if_pos hq.1, decide_eq_true hq.2, Option.bind_some, if_pos]
    refine Ev.bind hev ?_
    cases b with
    | false => exact up _ rfl
    | true =>
      simp only [if_pos]
      by_cases c1 : t > 4611686018427387904
      · simp only [if_pos c1]; exact up _ rfl
      · simp only [if_neg c1]
        by_cases c2 : m > 4611686018427387904
        · exact up _ (decide_eq_true c2)
        · rw [decide_eq_false c2]
          have R := renew_ev a l h n t id (by omega) ht.1 ht.2
          refine Ev.step (f := _) (fun k => by simp only [stanchionlaw17_SessionLease.j0]; rw [if_neg (by decide)]) (Ev.bind R ?_)
          unfold rnw
          cases hf : fnd l id with
          | none => exact Ev.congr (f := fun _ => some true) (fun _ => by simp) (Ev.now _)
          | some x =>
            have hu : IntKind.u64.wrap (t + m) = t + m := by rw [IntKind.wrap_u64]; omega
            have hmx : mx t (t + m) = t + m := by unfold mx; split <;> omega
            have hrl := ren_len h t id
            have K := tick_ev a l (ren h t id) n t (t + m) (by omega) (by omega)
            rw [hmx] at K
            refine Ev.congr (f := fun k => (session_Tick.f k a l (ren h t id) n t (t + m)).bind fun bt828 => (session_Find.f bt828.1 bt828.2.1 bt828.2.2.1 bt828.2.2.2.1 bt828.2.2.2.2.1 id).bind fun bt841 => stanchionlaw17_SessionLease.l0 k id m bt828.2.2.2.2.2 bt841.2.2.2.2.2.2 false 0) (fun k => (if_pos rfl).trans (by rw [hu])) (Ev.bind K ?_)
            simp only [find_eq, Option.bind_some]
            have hin := in_due h t id (t + m)
            have hda : dueAt t = t + 20 := by unfold dueAt; rw [if_pos (by omega)]
            rw [hda] at hin
            have e1 : (tup (fnd (tkAll l (ren h t id) (t + m)).1 id)).2.2.2.2.2.2 = decide (m < 20) := by
              unfold tkAll
              rw [fnd_tck]
              by_cases q : m < 20
              · rw [if_neg (fun hc => by have := hin.1 hc; omega), hf, decide_eq_true q]; rfl
              · rw [if_pos (hin.2 (by omega)), decide_eq_false q]; rfl
            have e2 : (tkAll l (ren h t id) (t + m)).2.any (fun x => x.f0 == id) = decide (m ≥ 20) := by
              unfold tkAll
              rw [any_tck, hf]
              by_cases q : m ≥ 20
              · rw [decide_eq_true (hin.2 (by omega)), decide_eq_true q]; rfl
              · rw [decide_eq_false (fun hc => q (by have := hin.1 hc; omega)), decide_eq_false q]; rfl
            have hlen : (tkAll l (ren h t id) (t + m)).2.length < 4611686018427387904 := by
              have d1 := due_length (ren h t id).length (ren h t id) (t + m)
              have : ∀ (ids : List Int) (l out : List S42), (tck ids l out).2.length ≤ out.length + ids.length := by
                intro ids
                induction ids with
                | nil => intro l out; exact Nat.le_refl _
                | cons i r ih =>
                  intro l out
                  unfold tck
                  split
                  · have := ih l out; simp; omega
                  · have := ih (lss l i) (out ++ [by assumption]); simp at this ⊢; omega
              have := this (dueIds (ren h t id).length (ren h t id) (t + m)) l []
              unfold tkAll
              simp at this
              omega
            exact lease_l0 id m _ e1 _ hlen _ 0 false rfl (by omega) (by simpa using e2)
  · have hf : (if (l.length : Int) ≤ 100 then some (decide ((h.length : Int) ≤ 100)) else some false) = some false := by
      by_cases h1 : (l.length : Int) ≤ 100
      · rw [if_pos h1, decide_eq_false (fun h2 => hq ⟨h1, h2⟩)]
      · rw [if_neg h1]
    simp only [hf, Option.bind_some]
    refine Ev.bind hev ?_
    exact up _ rfl
end Go.Proofs.Ytnpmjboofmdflaa.PB
