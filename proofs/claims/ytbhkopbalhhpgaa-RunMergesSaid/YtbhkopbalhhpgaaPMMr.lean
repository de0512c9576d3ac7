/- The document's merge: those for whose keys no later one is there, each laid into a row that rises. -/
import Derived.Test.YtbhkopbalhhpgaaPMMf
import Derived.Test.YtbhkopbalhhpgaaPMTr
namespace Go.Proofs.Ytbhkopbalhhpgaa.PM
open Go.RowKit Go.Proofs.YtbhkopbalhhpgaaW.PrintWords
set_option linter.unusedVariables false
set_option linter.unusedSimpArgs false

def insW (x : S57) : List S57 → List S57
  | [] => [x]
  | y :: ys => if ltS y.f0 x.f0 = true then y :: insW x ys else x :: y :: ys
theorem insW_at (x : S57) : ∀ (A C : List S57), (∀ y ∈ A, ltS y.f0 x.f0 = true) → (∀ y C', C = y :: C' → ltS y.f0 x.f0 = false) → insW x (A ++ C) = A ++ x :: C
  | [], [], _, _ => rfl
  | [], y :: C, _, h => by
    have := h y C rfl
    simp only [List.nil_append, insW, this]
    rw [if_neg (by decide)]
  | a :: A, C, hA, hC => by
    simp only [List.cons_append, insW]
    rw [if_pos (hA a (List.mem_cons_self ..)), insW_at x A C (fun y hy => hA y (List.mem_cons_of_mem _ hy)) hC]
theorem insW_perm (x : S57) : ∀ l : List S57, (insW x l).Perm (x :: l)
  | [] => List.Perm.refl _
  | y :: ys => by
    simp only [insW]
    split
    · exact ((insW_perm x ys).cons y).trans (List.Perm.swap x y ys)
    · exact List.Perm.refl _
theorem leW_lt (x y : S57) : leW x y = !ltS y.f0 x.f0 := rfl
theorem insW_sorted (x : S57) : ∀ l : List S57, l.Pairwise (fun a b => leW a b = true) → (insW x l).Pairwise (fun a b => leW a b = true)
  | [], _ => by simp [insW]
  | y :: ys, h => by
    rw [List.pairwise_cons] at h
    simp only [insW]
    split
    · rename_i c
      rw [List.pairwise_cons]
      refine ⟨fun z hz => ?_, insW_sorted x ys h.2⟩
      rcases List.mem_cons.1 ((insW_perm x ys).mem_iff.1 hz) with rfl | hz
      · rw [leW_lt, ltS_asymm c]; rfl
      · exact h.1 z hz
    · rename_i c
      have c' : leW x y = true := by rw [leW_lt]; simpa using c
      rw [List.pairwise_cons]
      refine ⟨fun z hz => ?_, List.pairwise_cons.2 h⟩
      rcases List.mem_cons.1 hz with rfl | hz
      · exact c'
      · exact leW_trans _ _ _ c' (h.1 z hz)
theorem mgL_of {all l : List S57} (hp : l.Perm (lasts all)) (hs : l.Pairwise (fun a b => leW a b = true)) : l = mgL all := by
  refine List.Perm.eq_of_pairwise (le := fun (a b : S57) => leW a b = true) (fun a b ha hb h1 h2 => ?_) hs (List.pairwise_mergeSort leW_trans leW_total _) (hp.trans (List.mergeSort_perm _ _).symm)
  have ka := (mem_lasts all a).1 (hp.mem_iff.1 ha)
  have kb := (mem_lasts all b).1 ((List.mergeSort_perm _ _).mem_iff.1 hb)
  rw [leW_anti h1 h2, kb] at ka
  exact (Option.some.inj ka).symm
def sameK (x y : S57) : Bool := y.f0.toList == x.f0.toList
theorem rm_l1 (all out : List S57) (i : Nat) (hi : i < all.length) (hl : all.length < 4611686018427387904) (r : List S57) :
    ∀ (n j : Nat) (b : Bool), all.length - j ≤ n → j ≤ all.length → Ev (fun k => if (b && !(all.drop j).any (sameK all[i])) = true then stanchionref06_Merge.l2 k all out (i : Int) ((0 : Nat) : Int) else stanchionref06_Merge.l0 k all out ((i + 1 : Nat) : Int)) r → Ev (fun k => stanchionref06_Merge.l1 k all out (i : Int) b (j : Int)) r := by
  intro n
  have fin : ∀ (j : Nat) (b : Bool), all.length ≤ j → Ev (fun k => if (b && !(all.drop j).any (sameK all[i])) = true then stanchionref06_Merge.l2 k all out (i : Int) ((0 : Nat) : Int) else stanchionref06_Merge.l0 k all out ((i + 1 : Nat) : Int)) r → Ev (fun k => stanchionref06_Merge.l1 k all out (i : Int) b (j : Int)) r := by
    intro j b hj h
    rw [List.drop_of_length_le hj, List.any_nil, Bool.not_false, Bool.and_true] at h
    refine Ev.step (fun k => ?_) h
    simp only [stanchionref06_Merge.l1]
    rw [if_neg (by omega), wrap_succ i (by omega)]
    rfl
  induction n with
  | zero => intro j b h1 h2 h; exact fin j b (by omega) h
  | succ n ih =>
    intro j b h1 h2 h
    rcases Nat.lt_or_ge j all.length with hj | hj
    · rw [List.drop_eq_getElem_cons hj, List.any_cons, Bool.not_or] at h
      cases b with
      | true =>
        refine Ev.step (f := fun k => stanchionref06_Merge.l1 k all out (i : Int) (!sameK all[i] all[j]) ((j + 1 : Nat) : Int)) (fun k => ?_) (ih (j + 1) _ (by omega) (by omega) (by rw [Bool.true_and] at h; exact h))
        simp only [stanchionref06_Merge.l1]
        rw [if_pos (by omega), if_pos trivial, if_pos (by omega), if_pos (by omega), if_pos (by omega), wrap_succ j (by omega), rdW_get _ _ hj, rdW_get _ _ hi]
        rfl
      | false =>
        refine Ev.step (f := fun k => stanchionref06_Merge.l1 k all out (i : Int) false ((j + 1 : Nat) : Int)) (fun k => ?_) (ih (j + 1) false (by omega) (by omega) (by simpa using h))
        simp only [stanchionref06_Merge.l1]
        rw [if_pos (by omega), if_neg (by decide), wrap_succ j (by omega)]
    · exact fin j b hj h
theorem rm_l2 (all out : List S57) (i : Nat) (hi : i < all.length) (hl : all.length < 1000001) (ho : out.length ≤ 1000000) (hb : ∀ x ∈ out, x.f0.size < 4611686018427387904) (r : List S57)
    (hr : Ev (fun k => stanchionref06_Merge.l0 k all (insW all[i] out) ((i + 1 : Nat) : Int)) r) :
    ∀ (n p : Nat), out.length - p ≤ n → p ≤ out.length → (∀ y ∈ out.take p, ltS y.f0 (all[i]).f0 = true) → Ev (fun k => stanchionref06_Merge.l2 k all out (i : Int) (p : Int)) r := by
  intro n
  have e0 : (⟨(all[i]).f0, (all[i]).f1, (all[i]).f2⟩ : S57) = all[i] := rfl
  have lay : ∀ p : Nat, p ≤ out.length → (∀ y ∈ out.take p, ltS y.f0 (all[i]).f0 = true) → (∀ y C', out.drop p = y :: C' → ltS y.f0 (all[i]).f0 = false) → out.take p ++ [all[i]] ++ out.drop p = insW all[i] out := by
    intro p hp hA hC
    have := insW_at all[i] (out.take p) (out.drop p) hA hC
    rw [List.take_append_drop] at this
    rw [this, List.append_assoc]
    rfl
  have fin : ∀ p : Nat, p = out.length → (∀ y ∈ out.take p, ltS y.f0 (all[i]).f0 = true) → Ev (fun k => stanchionref06_Merge.l2 k all out (i : Int) (p : Int)) r := by
    intro p hp hA
    refine Ev.step (fun k => ?_) hr
    have hlay := lay p (by omega) hA (fun y C' h => by rw [List.drop_of_length_le (by omega)] at h; cases h)
    have l1 : (out.take p).length = p := by rw [List.length_take]; omega
    simp only [stanchionref06_Merge.l2]
    rw [if_neg (by omega), Option.bind_some, if_pos (by omega), if_pos (by omega), Option.bind_some, Int.toNat_natCast, List.length_nil, Nat.zero_add, if_pos (by omega), Option.bind_some, List.nil_append, if_pos (by omega), if_pos (by omega), if_pos (by omega), Option.bind_some, Option.bind_some, rdW_get _ _ hi, e0, hlay, wrap_succ i (by omega), if_pos (by rw [List.length_append, List.length_drop, l1]; simp; omega)]
  induction n with
  | zero => intro p h1 h2 hA; exact fin p (by omega) hA
  | succ n ih =>
    intro p h1 h2 hA
    rcases Nat.lt_or_ge p out.length with hp | hp
    · have hless := less_ev (out[p]).f0 (all[i]).f0 (hb _ (List.getElem_mem hp))
      refine Ev.step (f := fun k => (stanchionref01_Less.f k (out[p]).f0 (all[i]).f0).bind fun t => if t = true then stanchionref06_Merge.l2 k all out (i : Int) ((p + 1 : Nat) : Int) else stanchionref06_Merge.l0 k all (out.take p ++ [all[i]] ++ out.drop p) ((i + 1 : Nat) : Int)) (fun k => ?_) (Ev.bind hless ?_)
      · simp only [stanchionref06_Merge.l2]
        have l1 : (out.take p).length = p := by rw [List.length_take]; omega
        rw [if_pos (by omega), if_pos (by omega), if_pos (by omega), if_pos (by omega), rdW_get _ _ hp, rdW_get _ _ hi, wrap_succ p (by omega)]
        congr 1
        funext t
        cases t with
        | true => simp only [if_pos]
        | false =>
          rw [if_neg (by decide), if_neg (by decide), Option.bind_some, if_pos (by omega), Option.bind_some, Int.toNat_natCast, List.length_nil, Nat.zero_add, if_pos (by omega), Option.bind_some, List.nil_append, if_pos (by omega), Option.bind_some, Option.bind_some, e0, wrap_succ i (by omega), if_pos (by rw [List.length_append, List.length_drop, l1]; simp; omega)]
      · cases hq : ltS (out[p]).f0 (all[i]).f0 with
        | true =>
          simp only [if_pos]
          refine ih (p + 1) (by omega) (by omega) (fun y hy => ?_)
          rw [List.take_succ_eq_append_getElem hp] at hy
          rcases List.mem_append.1 hy with hy | hy
          · exact hA y hy
          · rw [List.mem_singleton.1 hy]; exact hq
        | false =>
          simp only [if_neg (show ¬ (false = true) by decide)]
          rw [lay p (by omega) hA (fun y C' h => by
            rw [List.drop_eq_getElem_cons hp] at h
            rw [← (List.cons.inj h).1]
            exact hq)]
          exact hr
    · exact fin p (by omega) hA
theorem insW_len (x : S57) (l : List S57) : (insW x l).length = l.length + 1 := (insW_perm x l).length_eq
theorem rm_l0 (all : List S57) (hl : all.length ≤ 1000000) (hb : ∀ x ∈ all, x.f0.size < 4611686018427387904) :
    ∀ (n i : Nat) (out : List S57), all.length - i ≤ n → i ≤ all.length → out.length ≤ i → (∀ x ∈ out, x.f0.size < 4611686018427387904) → (out ++ lasts (all.drop i)).Perm (lasts all) → out.Pairwise (fun a b => leW a b = true) →
    Ev (fun k => stanchionref06_Merge.l0 k all out (i : Int)) (mgL all) := by
  intro n
  have fin : ∀ (i : Nat) (out : List S57), all.length ≤ i → (out ++ lasts (all.drop i)).Perm (lasts all) → out.Pairwise (fun a b => leW a b = true) → Ev (fun k => stanchionref06_Merge.l0 k all out (i : Int)) (mgL all) := by
    intro i out h hp hs
    rw [List.drop_of_length_le h] at hp
    simp only [lasts, List.append_nil] at hp
    rw [← mgL_of hp hs]
    refine Ev.step (f := fun k => some out) (fun k => ?_) (Ev.now _)
    simp only [stanchionref06_Merge.l0]
    rw [if_neg (by omega)]
  induction n with
  | zero => intro i out h1 h2 h3 h4 h5 h6; exact fin i out (by omega) h5 h6
  | succ n ih =>
    intro i out h1 h2 h3 h4 h5 h6
    rcases Nat.lt_or_ge i all.length with hi | hi
    · rw [List.drop_eq_getElem_cons hi] at h5
      simp only [lasts] at h5
      refine Ev.step (f := fun k => stanchionref06_Merge.l1 k all out (i : Int) true ((i + 1 : Nat) : Int)) (fun k => ?_) (rm_l1 all out i hi (by omega) _ all.length (i + 1) true (by omega) (by omega) ?_)
      · simp only [stanchionref06_Merge.l0]
        rw [if_pos (by omega), wrap_succ i (by omega)]
      · have es : (all.drop (i + 1)).any (sameK all[i]) = (all.drop (i + 1)).any (fun y => y.f0.toList == (all[i]).f0.toList) := rfl
        rw [es, Bool.true_and]
        cases hq : (all.drop (i + 1)).any (fun y => y.f0.toList == (all[i]).f0.toList) with
        | true =>
          rw [hq, if_pos rfl] at h5
          simp only [Bool.not_true, if_neg (show ¬ (false = true) by decide)]
          exact ih (i + 1) out (by omega) (by omega) (by omega) h4 h5 h6
        | false =>
          rw [hq, if_neg (by decide)] at h5
          simp only [Bool.not_false, if_pos]
          have hp := insW_perm all[i] out
          refine rm_l2 all out i hi (by omega) (by omega) h4 _ (ih (i + 1) (insW all[i] out) (by omega) (by omega) (by rw [insW_len]; omega) (fun x hx => ?_) ?_ (insW_sorted _ _ h6)) out.length 0 (by omega) (by omega) (fun y hy => by rw [List.take_zero] at hy; cases hy)
          · rcases List.mem_cons.1 (hp.mem_iff.1 hx) with rfl | hx
            · exact hb _ (List.getElem_mem hi)
            · exact h4 x hx
          · refine List.Perm.trans ?_ h5
            refine (hp.append_right _).trans ?_
            rw [List.cons_append]
            exact (List.perm_middle).symm
    · exact fin i out hi h5 h6
theorem rmerge_ev (x0 x1 : List S57) (hl : x0.length + x1.length ≤ 1000000) (hb : ∀ x ∈ x0 ++ x1, x.f0.size < 4611686018427387904) : Ev (fun k => stanchionref06_Merge.f k x0 x1) (mgL (x0 ++ x1)) := by
  refine Ev.congr (fun k => ?_) (rm_l0 (x0 ++ x1) (by rw [List.length_append]; exact hl) hb (x0 ++ x1).length 0 [] (by omega) (by omega) (by simp) (fun x hx => by cases hx) (by rw [List.drop_zero, List.nil_append]) List.Pairwise.nil)
  unfold stanchionref06_Merge.f
  rw [Option.bind_some, List.length_nil, Nat.zero_add, if_pos (by omega), Option.bind_some, List.nil_append, if_pos (by omega)]
  rfl
theorem writes_l0 (l : List S57) (hl : l.length < 4611686018427387904) : ∀ (n i : Nat), l.length - i ≤ n → Ev (fun k => stanchionref05_Writes.l0 k l l (i : Int)) true := by
  intro n
  have fin : ∀ i : Nat, l.length ≤ i → Ev (fun k => stanchionref05_Writes.l0 k l l (i : Int)) true := fun i h => by
    refine Ev.step (f := fun k => some true) (fun k => ?_) (Ev.now _)
    simp only [stanchionref05_Writes.l0]
    rw [if_neg (by omega)]
  induction n with
  | zero => intro i h; exact fin i (by omega)
  | succ n ih =>
    intro i h
    rcases Nat.lt_or_ge i l.length with hi | hi
    · refine Ev.step (fun k => ?_) (ih (i + 1) (by omega))
      simp only [stanchionref05_Writes.l0]
      rw [if_pos (by omega), if_pos (by omega), if_pos (by omega), if_neg (by simp), wrap_succ i (by omega)]
    · exact fin i hi
theorem writes_ev (l : List S57) (hl : l.length < 4611686018427387904) : Ev (fun k => stanchionref05_Writes.f k l l) true := by
  refine Ev.congr (fun k => ?_) (writes_l0 l hl l.length 0 (by omega))
  unfold stanchionref05_Writes.f
  rw [if_pos rfl]
  rfl
end Go.Proofs.Ytbhkopbalhhpgaa.PM
