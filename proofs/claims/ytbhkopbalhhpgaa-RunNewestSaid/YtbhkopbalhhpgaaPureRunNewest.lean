/- What the law RunNewest comes to: true, whatever is handed in. -/
import Derived.Test.YtbhkopbalhhpgaaGdRunNewest
import Derived.Test.YtbhkopbalhhpgaaPNMw
namespace Go.Proofs.Ytbhkopbalhhpgaa.PN
open Go.RowKit Go.Proofs.YtbhkopbalhhpgaaW.PrintWords
set_option linter.unusedVariables false
set_option linter.unusedSimpArgs false

theorem nw_l3 (all M : List S57) (i : Nat) (hi : i < all.length) (hM : M.length < 4611686018427387904) (hn : Ev (fun k => stanchionlaw06_RunNewest.l2 k true all M ((i + 1 : Nat) : Int)) true) (hl : all.length < 4611686018427387904) :
    ∀ (n j : Nat) (b : Bool), M.length - j ≤ n → j ≤ M.length → (b = true ∨ ∃ p, j ≤ p ∧ ∃ h : p < M.length, (M[p]).f0.toList = (all[i]).f0.toList) → Ev (fun k => stanchionlaw06_RunNewest.l3 k true all M (i : Int) b (j : Int)) true := by
  intro n
  have fin : ∀ (j : Nat) (b : Bool), M.length ≤ j → (b = true ∨ ∃ p, j ≤ p ∧ ∃ h : p < M.length, (M[p]).f0.toList = (all[i]).f0.toList) → Ev (fun k => stanchionlaw06_RunNewest.l3 k true all M (i : Int) b (j : Int)) true := by
    intro j b hj hb
    have hb : b = true := by
      rcases hb with h | ⟨p, h1, h2, _⟩
      · exact h
      · omega
    subst hb
    refine Ev.step (fun k => ?_) hn
    simp only [stanchionlaw06_RunNewest.l3]
    rw [if_neg (by omega), if_pos trivial, wrap_succ i (by omega)]
  induction n with
  | zero => intro j b h1 h2 h3; exact fin j b (by omega) h3
  | succ n ih =>
    intro j b h1 h2 h3
    rcases Nat.lt_or_ge j M.length with h | h
    · cases b with
      | true =>
        refine Ev.step (f := fun k => stanchionlaw06_RunNewest.l3 k true all M (i : Int) true ((j + 1 : Nat) : Int)) (fun k => ?_) (ih (j + 1) true (by omega) (by omega) (.inl rfl))
        simp only [stanchionlaw06_RunNewest.l3]
        rw [if_pos (by omega), if_pos trivial, wrap_succ j (by omega)]
      | false =>
        refine Ev.step (f := fun k => stanchionlaw06_RunNewest.l3 k true all M (i : Int) ((M[j]).f0.toList == (all[i]).f0.toList) ((j + 1 : Nat) : Int)) (fun k => ?_) (ih (j + 1) _ (by omega) (by omega) ?_)
        · simp only [stanchionlaw06_RunNewest.l3]
          rw [if_pos (by omega), if_neg (by decide), if_pos (by omega), if_pos (by omega), if_pos (by omega), wrap_succ j (by omega), rdW_get _ _ h, rdW_get _ _ hi]
        · rcases h3 with h3 | ⟨p, hp1, hp2, hp3⟩
          · cases h3
          · rcases Nat.eq_or_lt_of_le hp1 with e | e
            · subst e
              exact .inl (by simpa using hp3)
            · exact .inr ⟨p, e, hp2, hp3⟩
    · exact fin j b h h3
theorem nw_l2 (all M : List S57) (hM : M.length < 4611686018427387904) (hl : all.length < 4611686018427387904) (hk : ∀ y ∈ all, ∃ x ∈ M, x.f0.toList = y.f0.toList) :
    ∀ (n i : Nat), all.length - i ≤ n → i ≤ all.length → Ev (fun k => stanchionlaw06_RunNewest.l2 k true all M (i : Int)) true := by
  intro n
  have fin : ∀ i : Nat, all.length ≤ i → Ev (fun k => stanchionlaw06_RunNewest.l2 k true all M (i : Int)) true := fun i h => by
    refine Ev.step (f := fun k => some true) (fun k => ?_) (Ev.now _)
    simp only [stanchionlaw06_RunNewest.l2]
    rw [if_neg (by omega)]
  induction n with
  | zero => intro i h1 h2; exact fin i (by omega)
  | succ n ih =>
    intro i h1 h2
    rcases Nat.lt_or_ge i all.length with h | h
    · obtain ⟨x, hx, hxe⟩ := hk all[i] (List.getElem_mem h)
      obtain ⟨p, hp, rfl⟩ := List.getElem_of_mem hx
      refine Ev.step (f := fun k => stanchionlaw06_RunNewest.l3 k true all M (i : Int) false ((0 : Nat) : Int)) (fun k => ?_) (nw_l3 all M i h hM (ih (i + 1) (by omega) (by omega)) hl M.length 0 false (by omega) (by omega) (.inr ⟨p, Nat.zero_le _, hp, hxe⟩))
      simp only [stanchionlaw06_RunNewest.l2]
      rw [if_pos (by omega)]
      rfl
    · exact fin i h
theorem nw_l1 (all M : List S57) (i : Nat) (hi : i < M.length) (hM : M.length < 4611686018427387904) (hl : all.length < 4611686018427387904) (hn : Ev (fun k => stanchionlaw06_RunNewest.l0 k true all M ((i + 1 : Nat) : Int)) true) :
    ∀ (n j : Nat) (x : S57), all.length - j ≤ n → j ≤ all.length → (lastW (all.drop j) (M[i]).f0.toList).getD x = M[i] → Ev (fun k => stanchionlaw06_RunNewest.l1 k true all M (i : Int) (j : Int) x.f0 x.f1 x.f2) true := by
  intro n
  have fin : ∀ (j : Nat) (x : S57), all.length ≤ j → (lastW (all.drop j) (M[i]).f0.toList).getD x = M[i] → Ev (fun k => stanchionlaw06_RunNewest.l1 k true all M (i : Int) (j : Int) x.f0 x.f1 x.f2) true := by
    intro j x hj hx
    rw [List.drop_of_length_le hj] at hx
    simp only [lastW, Option.getD_none] at hx
    refine Ev.step (fun k => ?_) hn
    simp only [stanchionlaw06_RunNewest.l1]
    rw [if_neg (by omega), if_pos (by omega), if_pos (by omega), rdW_get _ _ hi, hx, if_neg (by simp), wrap_succ i (by omega)]
  induction n with
  | zero => intro j x h1 h2 h3; exact fin j x (by omega) h3
  | succ n ih =>
    intro j x h1 h2 h3
    rcases Nat.lt_or_ge j all.length with h | h
    · rw [List.drop_eq_getElem_cons h] at h3
      by_cases c : (all[j]).f0.toList = (M[i]).f0.toList
      · refine Ev.step (f := fun k => stanchionlaw06_RunNewest.l1 k true all M (i : Int) ((j + 1 : Nat) : Int) (all[j]).f0 (all[j]).f1 (all[j]).f2) (fun k => ?_) (ih (j + 1) all[j] (by omega) (by omega) ?_)
        · simp only [stanchionlaw06_RunNewest.l1]
          rw [if_pos (by omega), if_pos (by omega), if_pos (by omega), if_pos (by omega), rdW_get _ _ hi, rdW_get _ _ h, if_pos c, wrap_succ j (by omega)]
        · refine Eq.trans ?_ h3
          simp only [lastW]
          rw [if_pos c]
          cases lastW (all.drop (j + 1)) (M[i]).f0.toList <;> rfl
      · refine Ev.step (f := fun k => stanchionlaw06_RunNewest.l1 k true all M (i : Int) ((j + 1 : Nat) : Int) x.f0 x.f1 x.f2) (fun k => ?_) (ih (j + 1) x (by omega) (by omega) ?_)
        · simp only [stanchionlaw06_RunNewest.l1]
          rw [if_pos (by omega), if_pos (by omega), if_pos (by omega), if_pos (by omega), rdW_get _ _ hi, rdW_get _ _ h, if_neg c, wrap_succ j (by omega)]
        · refine Eq.trans ?_ h3
          simp only [lastW]
          rw [if_neg c]
          cases lastW (all.drop (j + 1)) (M[i]).f0.toList <;> rfl
    · exact fin j x h h3
theorem nw_l0 (all M : List S57) (hM : M.length < 4611686018427387904) (hl : all.length < 4611686018427387904) (hs : M.Pairwise (fun x y => ltS x.f0 y.f0 = true)) (hL : ∀ x ∈ M, lastW all x.f0.toList = some x) (hk : ∀ y ∈ all, ∃ x ∈ M, x.f0.toList = y.f0.toList) :
    ∀ (n i : Nat), M.length - i ≤ n → i ≤ M.length → Ev (fun k => stanchionlaw06_RunNewest.l0 k true all M (i : Int)) true := by
  intro n
  have fin : ∀ i : Nat, M.length ≤ i → Ev (fun k => stanchionlaw06_RunNewest.l0 k true all M (i : Int)) true := fun i h => by
    refine Ev.step (f := fun k => stanchionlaw06_RunNewest.l2 k true all M ((0 : Nat) : Int)) (fun k => ?_) (nw_l2 all M hM hl hk all.length 0 (by omega) (by omega))
    simp only [stanchionlaw06_RunNewest.l0]
    rw [if_neg (by omega)]
    rfl
  induction n with
  | zero => intro i h1 h2; exact fin i (by omega)
  | succ n ih =>
    intro i h1 h2
    rcases Nat.lt_or_ge i M.length with h | h
    · have hlast := hL M[i] (List.getElem_mem h)
      have e1 := nw_l1 all M i h hM hl (ih (i + 1) (by omega) (by omega)) all.length 0 (⟨(⟨#[]⟩ : ByteArray), (⟨#[]⟩ : ByteArray), false⟩ : S57) (by omega) (by omega) (by rw [List.drop_zero, hlast]; rfl)
      have e2 : Ev (fun k => stanchionlaw06_RunNewest.j2 k true all M (i : Int) false) true := by
        refine Ev.step (fun k => ?_) e1
        simp only [stanchionlaw06_RunNewest.j2]
        rw [if_neg (by decide)]
        rfl
      refine Ev.step (fun k => ?_) e2
      simp only [stanchionlaw06_RunNewest.l0]
      rw [if_pos (by omega)]
      by_cases c : (i : Int) > 0
      · have hw : wrap64 ((i : Int) - 1) = ((i - 1 : Nat) : Int) := by unfold wrap64; omega
        have hlt : ltS (M[i - 1]).f0 (M[i]).f0 = true := List.pairwise_iff_getElem.1 hs (i - 1) i (by omega) h (by omega)
        unfold ltS at hlt
        rw [if_pos c, hw, if_pos (by omega), if_pos (by omega), if_pos (by omega), rdW_get _ _ (by omega), rdW_get _ _ h, hlt]
        rfl
      · rw [if_neg c]
    · exact fin i h
theorem stanchionlaw06_RunNewest.pure : stanchionlaw06_RunNewest.Pure := by
  intro x0 x1 hx0 hx1
  apply Ev.rounds
  unfold stanchionlaw06_RunNewest.f
  refine Ev.bind mshown_ev ?_
  have big : ∀ b : Bool, (b = true ∨ x0.length + x1.length ≤ 1000000) → Ev (fun k => stanchionlaw06_RunNewest.j0 k x0 x1 true b) true := by
    intro b hb
    cases b with
    | true =>
      refine Ev.step (f := fun k => some true) (fun k => ?_) (Ev.now _)
      simp only [stanchionlaw06_RunNewest.j0]
      rw [if_pos trivial]
    | false =>
      have hn : x0.length + x1.length ≤ 1000000 := by
        rcases hb with h | h
        · cases h
        · exact h
      have hz : ∀ x ∈ x0 ++ x1, x.f0.size ≤ 9223372036854775807 := fun x hx => by
        rcases List.mem_append.1 hx with h | h
        · have := (hx0.2 x h).1; omega
        · have := (hx1.2 x h).1; omega
      have hlen := mgL_len (x0 ++ x1)
      rw [List.length_append] at hlen
      refine Ev.step (fun k => ?_) (nw_l0 (x0 ++ x1) (mgL (x0 ++ x1)) (by omega) (by rw [List.length_append]; omega) (mgL_strict _) (fun x hx => (mgL_mem _ x).1 hx) (mgL_key _) (mgL (x0 ++ x1)).length 0 (by omega) (by omega))
      simp only [stanchionlaw06_RunNewest.j0]
      rw [if_neg (by decide), Option.bind_some, List.length_nil, Nat.zero_add, if_pos (by omega), Option.bind_some, List.nil_append, if_pos (by omega), merge_eq x0 x1 hn hz, Option.bind_some]
      rfl
  by_cases c : (x0.length : Int) > 300
  · simp only [if_pos c]
    exact big true (.inl rfl)
  · simp only [if_neg c]
    by_cases c2 : (x1.length : Int) > 300
    · rw [decide_eq_true c2]
      exact big true (.inl rfl)
    · rw [decide_eq_false c2]
      exact big false (.inr (by omega))
end Go.Proofs.Ytbhkopbalhhpgaa.PN
