/- What the law RunWhole comes to: true, whatever is handed in. -/
import Derived.Test.YtbhkopbalhhpgaaGdRunWhole
import Derived.Test.YtbhkopbalhhpgaaPHDw
namespace Go.Proofs.Ytbhkopbalhhpgaa.PH
open Go.RowKit Go.Proofs.YtbhkopbalhhpgaaW.PrintWords
set_option linter.unusedVariables false
set_option linter.unusedSimpArgs false

abbrev fr (n : ByteArray) : ByteArray := (⟨#[110, 46]⟩ : ByteArray) ++ n
theorem fr_ne (n : ByteArray) : fr n ≠ n := fun h => by
  have h2 := congrArg ByteArray.size h
  rw [ByteArray.size_append] at h2
  have h3 : (⟨#[110, 46]⟩ : ByteArray).size = 2 := rfl
  omega
theorem nil_app (s : ByteArray) : (⟨#[]⟩ : ByteArray) ++ s = s := str_ext (by
  have : (⟨#[]⟩ : ByteArray).toList = [] := mkB_list []
  rw [app_list, this, List.nil_append])
theorem app_nil (s : ByteArray) : s ++ (⟨#[]⟩ : ByteArray) = s := str_ext (by
  have : (⟨#[]⟩ : ByteArray).toList = [] := mkB_list []
  rw [app_list, this, List.append_nil])
/-- The files' bytes, behind a laying. -/
def Bl (y : S38) : Prop := y.f1.size ≤ 4503599627370496 ∧ y.f2.size ≤ 2251799813685248
theorem wj0_ok (l : List S38) (r f : Int) (o : Bool) (n s : ByteArray) (hl : l.length < 2932031007401) (hb : Bd l) (hs : s.size ≤ 1125899906842624) : ∃ q, Ev (fun k => run_Lay.j0 k n s (fr n) l r f o) q ∧ q.1.length ≤ l.length + 1 ∧ (∀ y ∈ q.1, Bl y) ∧
    (q.2.2.2.2 ≠ 0 → q.1.find? (isF n) = l.find? (isF n)) ∧
    (q.2.2.2.2 = 0 → (∀ y ∈ l, y.f0 ≠ fr n) → l.countP (isF n) ≤ 1 → q.1.find? (isF n) = some ⟨n, s, (⟨#[]⟩ : ByteArray)⟩) := by
  obtain ⟨⟨a1, a2, a3, a4, a5⟩, he1, hl1, hb1, hp1, hf1⟩ := append_ok l r f o (fr n) s hl hb hs
  have hl1 : a1.length ≤ l.length + 1 := hl1
  have hb1 : ∀ y ∈ a1, y.f1.size ≤ 1125899906842624 ∧ y.f2.size ≤ 2251799813685248 := hb1
  have hp1 : a5 = 0 → (∀ y ∈ l, y.f0 ≠ fr n) → a1 = l ++ [⟨fr n, (⟨#[]⟩ : ByteArray), s⟩] := hp1
  have hf1 : a1.find? (isF n) = l.find? (isF n) := hf1 n (fun e => fr_ne n e.symm)
  have hbl : ∀ y ∈ a1, Bl y := fun y hy => by have := hb1 y hy; unfold Bl; omega
  have st : ∀ (R : List S38 × Int × Int × Bool × Int) (F : Nat → Option (List S38 × Int × Int × Bool × Int)), (∀ k, F k = run_Lay.j0 (k + 1) n s (fr n) l r f o) → Ev F R → Ev (fun k => run_Lay.j0 k n s (fr n) l r f o) R := fun R F h1 h2 => Ev.step (fun k => (h1 k).symm) h2
  by_cases e1 : a5 = 0
  · obtain ⟨⟨b1, b2, b3, b4, b5⟩, he2, hl2, hp2, hf2, hb2⟩ := sync_ok a1 a2 a3 a4 (fr n) (by omega) hb1
    have hl2 : b1.length = a1.length := hl2
    have hp2 : b5 = 0 → ∃ A x C, a1 = A ++ x :: C ∧ (∀ y ∈ A, y.f0 ≠ fr n) ∧ x.f0 = fr n ∧ b1 = A ++ ⟨x.f0, x.f1 ++ x.f2, (⟨#[]⟩ : ByteArray)⟩ :: C := hp2
    have hf2 : b1.find? (isF n) = a1.find? (isF n) := hf2 n (fun e => fr_ne n e.symm)
    have hb2 : ∀ y ∈ b1, Bl y := hb2
    by_cases e2 : b5 = 0
    · obtain ⟨⟨c1, c2, c3, c4, c5⟩, he3, hl3, hq3, hk3, hp3⟩ := rename_ok b1 b2 b3 b4 (fr n) n (fr_ne n) (by omega) Bl hb2 (fun y h => h)
      have hl3 : c1.length ≤ b1.length := hl3
      have hk3 : c5 ≠ 0 → c1 = b1 := hk3
      have hp3 : c5 = 0 → b1.countP (isF n) ≤ 1 → ∃ A x C, c1 = A ++ ⟨n, x.f1, x.f2⟩ :: C ∧ (∀ y ∈ A, y.f0 ≠ n) ∧ x ∈ b1 ∧ x.f0 = fr n := hp3
      refine ⟨(c1, c2, c3, c4, c5), st _ _ (fun k => by simp only [run_Lay.j0]; rfl) (Ev.bind he1 ?_), by show c1.length ≤ _; omega, hq3, ?_, ?_⟩
      · simp only [if_pos e1, he2, Option.bind_some, if_pos e2, he3]
        exact Ev.now _
      · intro h5
        have h5 : c5 ≠ 0 := h5
        show c1.find? (isF n) = _
        rw [hk3 h5, hf2, hf1]
      · intro h5 hno hc
        have h5 : c5 = 0 := h5
        have ea := hp1 e1 hno
        obtain ⟨A, x, C, h1, hA, hx, h2⟩ := hp2 e2
        have i1 := at_hit A x C (fr n) hA hx
        have i2 := at_hit l ⟨fr n, (⟨#[]⟩ : ByteArray), s⟩ [] (fr n) hno rfl
        have hll : A.length = l.length := by
          rw [← h1, ea, i2] at i1
          omega
        have hq := List.append_inj (h1.symm.trans ea) hll
        have hx2 : x = ⟨fr n, (⟨#[]⟩ : ByteArray), s⟩ := by
          have := hq.2
          injection this
        have hC : C = [] := by
          have := hq.2
          injection this
        have hb1' : b1 = l ++ [⟨fr n, s, (⟨#[]⟩ : ByteArray)⟩] := by
          rw [h2, hq.1, hx2, hC]
          simp only [nil_app]
        have hcc : b1.countP (isF n) ≤ 1 := by
          rw [hb1', List.countP_append, List.countP_cons_of_neg (by rw [(isF_no n _).2 (fr_ne n)]; decide)]
          simpa using hc
        obtain ⟨A3, x3, C3, k1, k2, k3, k4⟩ := hp3 h5 hcc
        show c1.find? (isF n) = _
        rw [hb1'] at k3
        rcases List.mem_append.1 k3 with k3 | k3
        · exact absurd k4 (hno x3 k3)
        · have := List.mem_singleton.1 k3
          subst this
          rw [k1, List.find?_append, List.find?_eq_none.2 (fun y hy => by rw [(isF_no n y).2 (k2 y hy)]; decide), List.find?_cons, (isF_iff n _).2 rfl]
          rfl
    · refine ⟨(b1, b2, b3, b4, b5), st _ _ (fun k => by simp only [run_Lay.j0]; rfl) (Ev.bind he1 ?_), by show b1.length ≤ _; omega, hb2, fun _ => by show b1.find? (isF n) = _; rw [hf2, hf1], fun h => absurd h e2⟩
      simp only [if_pos e1, he2, Option.bind_some, if_neg e2]
      exact Ev.now _
  · refine ⟨(a1, a2, a3, a4, a5), st _ _ (fun k => by simp only [run_Lay.j0]; rfl) (Ev.bind he1 ?_), hl1, hbl, fun _ => hf1, fun h => absurd h e1⟩
    simp only [if_neg e1]
    exact Ev.now _
theorem wlay_ok (l : List S38) (r f : Int) (o : Bool) (n s : ByteArray) (hl : l.length < 2932031007401) (hb : Bd l) (hs : s.size ≤ 1125899906842624) (hn : n.size ≤ 4611686018427387904) : ∃ q, Ev (fun k => run_Lay.f k l r f o n s) q ∧ q.1.length ≤ l.length + 1 ∧ (∀ y ∈ q.1, Bl y) ∧
    (q.2.2.2.2 ≠ 0 → q.1.find? (isF n) = l.find? (isF n)) ∧
    (q.2.2.2.2 = 0 → l.countP (isF n) ≤ 1 → l.countP (isF (fr n)) ≤ 1 → q.1.find? (isF n) = some ⟨n, s, (⟨#[]⟩ : ByteArray)⟩) := by
  unfold run_Lay.f
  simp only [if_pos (show 2 + n.size ≤ 9223372036854775807 by omega)]
  rcases find_eq_ l r f o (fr n) with ⟨_, hno, hf⟩ | ⟨A, x, C, hl0, hA, hx, hf⟩
  · simp only [hf, Option.bind_some, if_neg (show ¬ (false = true) by decide)]
    obtain ⟨q, h1, h2, h3, h4, h5⟩ := wj0_ok l r f o n s hl hb hs
    exact ⟨q, h1, h2, h3, h4, fun e hc _ => h5 e hno hc⟩
  · simp only [hf, Option.bind_some, if_pos]
    obtain ⟨⟨a1, a2, a3, a4, a5⟩, he, hle, hme, hp, hfd⟩ := delete_ok l r f o (fr n) (by omega)
    have hle : a1.length ≤ l.length := hle
    have hme : ∀ y ∈ a1, y ∈ l := hme
    have hp : a5 = 0 → ∃ A x C, l = A ++ x :: C ∧ (∀ y ∈ A, y.f0 ≠ fr n) ∧ x.f0 = fr n ∧ a1 = A ++ C := hp
    have hfd : a1.find? (isF n) = l.find? (isF n) := hfd n (fun e => fr_ne n e.symm)
    simp only [he, Option.bind_some]
    by_cases e1 : a5 = 0
    · simp only [if_pos e1]
      obtain ⟨q, h1, h2, h3, h4, h5⟩ := wj0_ok a1 a2 a3 a4 n s (by omega) (fun y hy => hb y (hme y hy)) hs
      refine ⟨q, h1, by omega, h3, fun e => (h4 e).trans hfd, fun e hc hc2 => ?_⟩
      obtain ⟨A', x', C', k1, k2, k3, k4⟩ := hp e1
      refine h5 e (fun y hy => ?_) ?_
      · rw [k4] at hy
        rcases List.mem_append.1 hy with hy | hy
        · exact k2 y hy
        · intro hyf
          rw [k1, List.countP_append, List.countP_cons_of_pos ((isF_iff _ x').2 k3)] at hc2
          have : 0 < C'.countP (isF (fr n)) := List.countP_pos_iff.2 ⟨y, hy, (isF_iff _ y).2 hyf⟩
          omega
      · rw [k1, List.countP_append, List.countP_cons] at hc
        rw [k4, List.countP_append]
        omega
    · simp only [if_neg e1]
      refine ⟨_, Ev.now _, by show a1.length ≤ _; omega, fun y hy => ?_, fun _ => hfd, fun h => absurd h e1⟩
      have := hb y (hme y hy)
      unfold Bl; omega
/- the document's place of a file, and a file -/
theorem wat_l0 (n : ByteArray) (r f : Int) (o : Bool) : ∀ (m : Nat) (l : List S38) (i : Nat), l.length - i ≤ m → i ≤ l.length → (∀ y ∈ l.take i, y.f0 ≠ n) → l.length < 4611686018427387904 →
    Ev (fun k => stanchionref03_at.l0 k n (i : Int) l r f o) (atD l n) := by
  intro m
  have done : ∀ (l : List S38) (i : Nat), l.length ≤ i → (∀ y ∈ l.take i, y.f0 ≠ n) → Ev (fun k => stanchionref03_at.l0 k n (i : Int) l r f o) (atD l n) := fun l i h hn => by
    rw [List.take_of_length_le h] at hn
    rw [at_none l n hn]
    exact Ev.step (f := fun k => some (-1)) (fun k => by simp only [stanchionref03_at.l0]; rw [if_neg (by omega)]) (Ev.now _)
  induction m with
  | zero => intro l i hm hi hn hl; exact done l i (by omega) hn
  | succ m ih =>
    intro l i hm hi hn hl
    rcases Nat.lt_or_ge i l.length with h | h
    · by_cases q : (l[i]).f0.toList = n.toList
      · have e : atD l n = (i : Int) := by
          have hs : l = l.take i ++ l[i] :: l.drop (i + 1) := by rw [← List.drop_eq_getElem_cons h, List.take_append_drop]
          have hh := at_hit (l.take i) l[i] (l.drop (i + 1)) n hn (str_ext q)
          rw [← hs] at hh
          rw [hh, List.length_take]
          omega
        rw [e]
        refine Ev.step (f := fun k => some (i : Int)) (fun k => ?_) (Ev.now _)
        simp only [stanchionref03_at.l0]
        rw [if_pos (by omega), if_pos (by omega), rdF_get _ _ h, if_pos q]
      · refine Ev.step (fun k => ?_) (ih l (i + 1) (by omega) h (fun y hy => ?_) hl)
        · simp only [stanchionref03_at.l0]
          rw [if_pos (by omega), if_pos (by omega), rdF_get _ _ h, if_neg q, wrap_succ i (by omega)]
        · rw [List.take_succ_eq_append_getElem h] at hy
          rcases List.mem_append.1 hy with hy | hy
          · exact hn y hy
          · rw [List.mem_singleton.1 hy]
            exact fun e => q (by rw [e])
    · exact done l i h hn
def viewF : Option S38 → ByteArray × ByteArray × ByteArray × Bool
  | none => ((⟨#[]⟩ : ByteArray), (⟨#[]⟩ : ByteArray), (⟨#[]⟩ : ByteArray), false)
  | some x => (x.f0, x.f1, x.f2, true)
theorem wfind_ev (l : List S38) (r f : Int) (o : Bool) (n : ByteArray) (hl : l.length < 4611686018427387904) : Ev (fun k => stanchionref03_Find.f k l r f o n) (viewF (l.find? (isF n))) := by
  unfold stanchionref03_Find.f
  refine Ev.bind (g := fun k => stanchionref03_at.f k l r f o n) (wat_l0 n r f o l.length l 0 (by omega) (by omega) (fun y hy => by rw [List.take_zero] at hy; cases hy) hl) ?_
  rcases at_split l n with ⟨h, hn⟩ | ⟨A, x, C, rfl, hA, hx, h⟩
  · rw [h, List.find?_eq_none.2 (fun y hy => by rw [(isF_no n y).2 (hn y hy)]; decide)]
    simp only [if_pos (show (-1 : Int) < 0 by decide)]
    exact Ev.now _
  · have h1 : A.length < (A ++ x :: C).length := by simp
    rw [h, List.find?_append, List.find?_eq_none.2 (fun y hy => by rw [(isF_no n y).2 (hA y hy)]; decide), List.find?_cons, (isF_iff n x).2 hx]
    simp only [if_neg (show ¬ (A.length : Int) < 0 by omega), if_pos (show (0 : Int) ≤ (A.length : Int) by omega), if_pos (show (A.length : Int) < ((A ++ x :: C).length : Int) by omega), rdF_get _ _ h1, get_mid _ _ _ h1]
    exact Ev.now _
/- a crash: of each file a part of what waits is kept -/
def crF (x : S38) (m : Nat) : S38 := ⟨x.f0, x.f1 ++ x.f2.extract 0 m, (⟨#[]⟩ : ByteArray)⟩
def keep (ks : List Int) (i : Nat) (z : Nat) : Nat := if h : i < ks.length then (if ks[i] > 0 then (if ks[i] > (z : Int) then z else ks[i].toNat) else 0) else 0
def crL (ks : List Int) : Nat → List S38 → List S38
  | _, [] => []
  | i, x :: l => crF x (keep ks i x.f2.size) :: crL ks (i + 1) l
theorem keep_le (ks : List Int) (i z : Nat) : keep ks i z ≤ z := by
  unfold keep
  split
  · split
    · split
      · exact Nat.le_refl _
      · omega
    · exact Nat.zero_le _
  · exact Nat.zero_le _
theorem crL_find (n : ByteArray) (ks : List Int) : ∀ (l : List S38) (i : Nat), (l.find? (isF n) = none ∧ (crL ks i l).find? (isF n) = none) ∨ ∃ x m, m ≤ x.f2.size ∧ l.find? (isF n) = some x ∧ (crL ks i l).find? (isF n) = some (crF x m)
  | [], i => .inl ⟨rfl, rfl⟩
  | x :: l, i => by
    unfold crL
    rw [List.find?_cons, List.find?_cons]
    have e : isF n (crF x (keep ks i x.f2.size)) = isF n x := rfl
    rw [e]
    cases isF n x with
    | true => exact .inr ⟨x, _, keep_le ks i _, rfl, rfl⟩
    | false => exact crL_find n ks l (i + 1)
theorem crL_len (ks : List Int) : ∀ (l : List S38) (i : Nat), (crL ks i l).length = l.length
  | [], _ => rfl
  | x :: l, i => by unfold crL; rw [List.length_cons, List.length_cons, crL_len ks l (i + 1)]
theorem crL_count (ks : List Int) (p : ByteArray) : ∀ (l : List S38) (i : Nat), (crL ks i l).countP (isF p) = l.countP (isF p)
  | [], _ => rfl
  | x :: l, i => by
    unfold crL
    rw [List.countP_cons, List.countP_cons, crL_count ks p l (i + 1)]
    rfl
theorem crL_nil (l : List S38) (i : Nat) : ∀ y ∈ crL [] i l, y.f2 = (⟨#[]⟩ : ByteArray) ∧ ∃ x ∈ l, y.f1 = x.f1 := by
  induction l generalizing i with
  | nil => intro y hy; cases hy
  | cons x l ih =>
    intro y hy
    unfold crL at hy
    rcases List.mem_cons.1 hy with hy | hy
    · subst hy
      have e : keep [] i x.f2.size = 0 := by unfold keep; rw [dif_neg (by simp)]
      refine ⟨rfl, x, List.mem_cons_self, ?_⟩
      rw [e]
      show x.f1 ++ x.f2.extract 0 0 = x.f1
      have e2 : x.f2.extract 0 0 = (⟨#[]⟩ : ByteArray) := str_ext (by rw [ext_list]; simp [mkB_list []])
      rw [e2, app_nil]
    · obtain ⟨h1, z, hz, h2⟩ := ih (i + 1) y hy
      exact ⟨h1, z, List.mem_cons_of_mem _ hz, h2⟩
theorem rd_int (xs : List Int) (i : Nat) (h : i < xs.length) : rd xs (i : Int) = xs[i] := by simp [rd, List.getD_eq_getElem?_getD, h]
theorem crash_l0 (ks : List Int) (hk : ks.length < 4611686018427387904) (a b : Int) (c : Bool) (g : Int) : ∀ (m : Nat) (l : List S38) (i : Nat) (out : List S38) (r : Int), l.length - i ≤ m → i ≤ l.length → l.length < 2932031007402 → out.length + (l.length - i) < 2932031007402 → (∀ y ∈ l, Bl y) →
    ∃ r', Ev (fun k => stanchionref03_Crash.l0 k ks (i : Int) l a b c out r g false) (out ++ crL ks i (l.drop i), r', g, false) := by
  intro m
  have done : ∀ (l : List S38) (i : Nat) (out : List S38) (r : Int), l.length ≤ i → ∃ r', Ev (fun k => stanchionref03_Crash.l0 k ks (i : Int) l a b c out r g false) (out ++ crL ks i (l.drop i), r', g, false) := fun l i out r h => by
    rw [List.drop_of_length_le h]
    refine ⟨r, Ev.step (f := fun k => some (out, r, g, false)) (fun k => by simp only [stanchionref03_Crash.l0]; rw [if_neg (by omega)]) (ev_eq (Ev.now _) ?_)⟩
    unfold crL
    rw [List.append_nil]
  induction m with
  | zero => intro l i out r hm hi hll ho hb; exact done l i out r (by omega)
  | succ m ih =>
    intro l i out r hm hi hll ho hb
    rcases Nat.lt_or_ge i l.length with h | h
    · obtain ⟨x, hx⟩ : ∃ x, x = l[i] := ⟨_, rfl⟩
      have hbx := hb _ (List.getElem_mem h)
      rw [← hx] at hbx
      obtain ⟨hb1, hb2⟩ := hbx
      rw [List.drop_eq_getElem_cons h, ← hx]
      have hA : (i : Int) < (l.length : Int) := Int.ofNat_lt.2 h
      have hB : (0 : Int) ≤ (i : Int) := Int.natCast_nonneg i
      have w3 := wrap_succ i (by omega)
      have hol : out.length < 2932031007402 := by omega
      have hx0 : rd_T38 l (i : Int) = x := by rw [rdF_get _ _ h, hx]
      have next : ∀ (z : Nat) (r2 : Int), z = keep ks i x.f2.size → ∃ r', Ev (fun k => stanchionref03_Crash.l0 k ks (wrap64 ((i : Int) + 1)) l a b c (out ++ [⟨x.f0, x.f1 ++ x.f2.extract 0 z, (⟨#[]⟩ : ByteArray)⟩]) r2 g false) (out ++ crL ks i (x :: l.drop (i + 1)), r', g, false) := fun z r2 hz => by
        obtain ⟨r', hr⟩ := ih l (i + 1) (out ++ [⟨x.f0, x.f1 ++ x.f2.extract 0 z, (⟨#[]⟩ : ByteArray)⟩]) r2 (by omega) h hll (by rw [List.length_append, List.length_singleton]; omega) hb
        rw [List.append_assoc] at hr
        refine ⟨r', ?_⟩
        rw [w3]
        unfold crL crF
        rw [← hz]
        exact hr
      have hext : ∀ z : Nat, x.f1.size + (x.f2.extract 0 z).size ≤ 9223372036854775807 := fun z => by rw [ByteArray.size_extract]; omega
      have zero : keep ks i x.f2.size = 0 → ∃ r', Ev (fun k => stanchionref03_Crash.j1 k ks (i : Int) 0 false l a b c out r g false x.f0 x.f1 x.f2) (out ++ crL ks i (x :: l.drop (i + 1)), r', g, false) := fun hz => by
        obtain ⟨r', hr⟩ := next 0 (wrap64 ((wrap64 (r + (x.f2.size : Int))) - 0)) hz.symm
        refine ⟨r', Ev.step (fun k => ?_) hr⟩
        have hq : ¬ ((0 : Int) > (x.f2.size : Int)) := by omega
        have hq2 : (0 : Int) ≤ (x.f2.size : Int) := by omega
        simp only [stanchionref03_Crash.j1, if_neg (show ¬ (false = true) by decide), if_neg hq, if_pos (show (0 : Int) ≤ 0 by decide), if_pos hq2, Int.toNat_zero, if_pos (hext 0), if_pos hol]
      by_cases c1 : i < ks.length
      · have hC : (i : Int) < (ks.length : Int) := Int.ofNat_lt.2 c1
        have hrd := rd_int ks i c1
        by_cases c2 : ks[i] > 0
        · have main : ∃ r', Ev (fun k => stanchionref03_Crash.j1 k ks (i : Int) 0 true l a b c out r g false x.f0 x.f1 x.f2) (out ++ crL ks i (x :: l.drop (i + 1)), r', g, false) := by
            by_cases c3 : ks[i] > (x.f2.size : Int)
            · obtain ⟨r', hr⟩ := next x.f2.size (wrap64 ((wrap64 (r + (x.f2.size : Int))) - (x.f2.size : Int))) (by unfold keep; rw [dif_pos c1, if_pos c2, if_pos c3])
              refine ⟨r', Ev.step (fun k => ?_) hr⟩
              simp only [stanchionref03_Crash.j1, if_pos, if_pos hB, if_pos hC, hrd, if_pos c3, if_pos (show (0 : Int) ≤ (x.f2.size : Int) by omega), if_pos (Int.le_refl (x.f2.size : Int)), Int.toNat_natCast, if_pos (hext x.f2.size), if_pos hol]
            · obtain ⟨r', hr⟩ := next (ks[i]).toNat (wrap64 ((wrap64 (r + (x.f2.size : Int))) - ks[i])) (by unfold keep; rw [dif_pos c1, if_pos c2, if_neg c3])
              refine ⟨r', Ev.step (fun k => ?_) hr⟩
              simp only [stanchionref03_Crash.j1, if_pos, if_pos hB, if_pos hC, hrd, if_neg c3, if_pos (show (0 : Int) ≤ ks[i] by omega), if_pos (show ks[i] ≤ (x.f2.size : Int) by omega), if_pos (hext (ks[i]).toNat), if_pos hol]
          obtain ⟨r', hr⟩ := main
          refine ⟨r', Ev.step (fun k => ?_) hr⟩
          simp only [stanchionref03_Crash.l0, if_pos hA, if_pos hB, if_pos hC, hrd, decide_eq_true c2, hx0]
        · obtain ⟨r', hr⟩ := zero (by unfold keep; rw [dif_pos c1, if_neg c2])
          refine ⟨r', Ev.step (fun k => ?_) hr⟩
          simp only [stanchionref03_Crash.l0, if_pos hA, if_pos hB, if_pos hC, hrd, decide_eq_false c2, hx0]
      · have hC : ¬ ((i : Int) < (ks.length : Int)) := fun q => c1 (Int.ofNat_lt.1 q)
        obtain ⟨r', hr⟩ := zero (by unfold keep; rw [dif_neg c1])
        refine ⟨r', Ev.step (fun k => ?_) hr⟩
        simp only [stanchionref03_Crash.l0, if_pos hA, if_pos hB, if_neg hC, hx0]
    · exact done l i out r h
theorem crash_ev (ks : List Int) (hk : ks.length < 4611686018427387904) (l : List S38) (a b : Int) (c : Bool) (hl : l.length < 2932031007402) (hb : ∀ y ∈ l, Bl y) : ∃ r', Ev (fun k => stanchionref03_Crash.f k l a b c ks) (crL ks 0 l, r', -1, false) := by
  obtain ⟨r', h⟩ := crash_l0 ks hk a b c (-1) l.length l 0 [] a (by omega) (by omega) hl (by simp only [List.length_nil]; omega) hb
  refine ⟨r', ?_⟩
  rw [List.drop_zero, List.nil_append] at h
  exact h
/- the law: no two files of one name, or nothing is asked -/
theorem whole_end (n s : ByteArray) (fu : Int) (ks : List Int) (hk : ks.length < 4611686018427387904) (l : List S38) (a b : Int) (c : Bool) (hl : l.length < 2932031007401) (hb : Bd l) (hn : n.size ≤ 140737488351232) (hs : s.size ≤ 140737488351232) (i : Nat) (hi : l.length ≤ i)
    (hc : ∀ p, l.countP (isF p) ≤ 1) : Ev (fun k => stanchionlaw06_RunWhole.l0 k n s fu ks true (i : Int) l a b c) true := by
  have hb0 : ∀ y ∈ l, Bl y := fun y hy => by have := hb y hy; unfold Bl; omega
  obtain ⟨r1, hcr⟩ := crash_ev [] (by decide) l a b c (by omega) hb0
  have hd : Bd (crL [] 0 l) := fun y hy => by
    obtain ⟨h2, x, hx, h1⟩ := crL_nil l 0 y hy
    have := hb x hx
    rw [h1, h2]
    exact ⟨this.1, by decide⟩
  refine Ev.step (f := ?ff) (fun k => ?g1) ?g2
  case g1 =>
    simp only [stanchionlaw06_RunWhole.l0]
    rw [if_neg (by omega)]
  refine Ev.bind hcr ?_
  obtain ⟨fu2, harm⟩ : ∃ fu2, stanchionref03_Arm.f (crL [] 0 l) r1 (-1) false fu = some (crL [] 0 l, r1, fu2, false) := by
    unfold stanchionref03_Arm.f
    by_cases q : fu < 0
    · exact ⟨_, if_pos q⟩
    · exact ⟨_, if_neg q⟩
  simp only [harm, Option.bind_some]
  have hlen : (crL [] 0 l).length = l.length := crL_len _ _ _
  refine Ev.bind (wfind_ev (crL [] 0 l) r1 fu2 false n (by omega)) ?_
  obtain ⟨⟨q1, q2, q3, q4, q5⟩, he, hql, hqb, hq0, hq1⟩ := wlay_ok (crL [] 0 l) r1 fu2 false n s (by omega) hd (by omega) (by omega)
  have hql : q1.length ≤ (crL [] 0 l).length + 1 := hql
  have hqb : ∀ y ∈ q1, Bl y := hqb
  have hq0 : q5 ≠ 0 → q1.find? (isF n) = (crL [] 0 l).find? (isF n) := hq0
  have hq1 : q5 = 0 → (crL [] 0 l).countP (isF n) ≤ 1 → (crL [] 0 l).countP (isF (fr n)) ≤ 1 → q1.find? (isF n) = some ⟨n, s, (⟨#[]⟩ : ByteArray)⟩ := hq1
  refine Ev.bind he ?_
  obtain ⟨r2, hc2⟩ := crash_ev ks hk q1 q2 q3 q4 (by omega) hqb
  refine Ev.bind hc2 ?_
  have hlen2 : (crL ks 0 q1).length = q1.length := crL_len _ _ _
  refine Ev.bind (wfind_ev (crL ks 0 q1) r2 (-1) false n (by omega)) ?_
  have hem : ∀ (y : S38) (m : Nat), m ≤ y.f2.size → y.f2 = (⟨#[]⟩ : ByteArray) → y.f1 ++ y.f2.extract 0 m = y.f1 := fun y m _ h2 => by
    have e2 : y.f2.extract 0 m = (⟨#[]⟩ : ByteArray) := str_ext (by rw [ext_list, h2]; simp [mkB_list []])
    rw [e2, app_nil]
  simp only []
  by_cases q : q5 = 0
  · have hv := hq1 q (by rw [crL_count]; exact hc n) (by rw [crL_count]; exact hc (fr n))
    rcases crL_find n ks q1 0 with ⟨h1, _⟩ | ⟨x, m, hm, h1, h2⟩
    · rw [hv] at h1; cases h1
    · rw [hv] at h1
      cases h1
      rw [h2]
      have e := hem ⟨n, s, (⟨#[]⟩ : ByteArray)⟩ m hm rfl
      have e : s ++ (⟨#[]⟩ : ByteArray).extract 0 m = s := e
      simp only [viewF, crF, if_pos q, if_pos, e, beq_self_eq_true]
      exact Ev.now _
  · have hv := hq0 q
    rcases crL_find n ks q1 0 with ⟨h1, h2⟩ | ⟨x, m, hm, h1, h2⟩
    · rw [hv] at h1
      rw [h1, h2]
      simp only [viewF, if_neg q, if_pos, beq_self_eq_true]
      exact Ev.now _
    · rw [hv] at h1
      have hx2 : x.f2 = (⟨#[]⟩ : ByteArray) := (crL_nil l 0 x (List.mem_of_find?_eq_some h1)).1
      have e := hem x m hm hx2
      rw [h1, h2]
      simp only [viewF, crF, if_neg q, if_pos, e, beq_self_eq_true]
      exact Ev.now _
theorem whole_l (n s : ByteArray) (fu : Int) (ks : List Int) (hk : ks.length < 4611686018427387904) (l : List S38) (a b : Int) (c : Bool) (hl : l.length < 2932031007401) (hb : Bd l) (hn : n.size ≤ 140737488351232) (hs : s.size ≤ 140737488351232) :
    ∀ (m i : Nat), l.length - i ≤ m → i ≤ l.length → (∀ p, (l.take i).countP (isF p) ≤ 1) → Ev (fun k => stanchionlaw06_RunWhole.l0 k n s fu ks true (i : Int) l a b c) true := by
  intro m
  induction m with
  | zero => intro i hm hi hc; exact whole_end n s fu ks hk l a b c hl hb hn hs i (by omega) (fun p => by have := hc p; rwa [List.take_of_length_le (by omega)] at this)
  | succ m ih =>
    intro i hm hi hc
    rcases Nat.lt_or_ge i l.length with h | h
    · have hA : (i : Int) < (l.length : Int) := Int.ofNat_lt.2 h
      have hB : (0 : Int) ≤ (i : Int) := Int.natCast_nonneg i
      have w3 := wrap_succ i (by omega)
      have hgm : l.length - (i + 1) ≤ m := by omega
      have inner : ∀ (t j : Nat), i - j ≤ t → j ≤ i → (∀ y ∈ l.take j, y.f0 ≠ (l[i]).f0) → Ev (fun k => stanchionlaw06_RunWhole.l1 k n s fu ks true (i : Int) (j : Int) l a b c) true := by
        intro t
        have fin : ∀ j, i ≤ j → j ≤ i → (∀ y ∈ l.take j, y.f0 ≠ (l[i]).f0) → Ev (fun k => stanchionlaw06_RunWhole.l1 k n s fu ks true (i : Int) (j : Int) l a b c) true := fun j hj hj2 hno => by
          have e : j = i := Nat.le_antisymm hj2 hj
          subst e
          have g := ih (j + 1) hgm h (fun p => by
            rw [List.take_succ_eq_append_getElem h, List.countP_append, List.countP_singleton]
            by_cases q : isF p l[j] = true
            · rw [if_pos q]
              have hz : (l.take j).countP (isF p) = 0 := by
                rw [List.countP_eq_zero]
                intro y hy
                rw [(isF_no p y).2 (by rw [← (isF_iff p _).1 q]; exact hno y hy)]
                decide
              omega
            · rw [if_neg q]
              have := hc p
              omega)
          refine Ev.step (fun k => ?_) g
          simp only [stanchionlaw06_RunWhole.l1, w3, if_neg (Int.lt_irrefl (j : Int))]
        induction t with
        | zero => intro j ht hj hno; exact fin j (by omega) hj hno
        | succ t iht =>
          intro j ht hj hno
          rcases Nat.lt_or_ge j i with hji | hji
          · have hjl : j < l.length := Nat.lt_trans hji h
            have hC : (j : Int) < (i : Int) := Int.ofNat_lt.2 hji
            have hD : (0 : Int) ≤ (j : Int) := Int.natCast_nonneg j
            have hE : (j : Int) < (l.length : Int) := Int.ofNat_lt.2 hjl
            have hgt : i - (j + 1) ≤ t := by omega
            have w4 := wrap_succ j (by omega)
            by_cases q : (l[i]).f0.toList = (l[j]).f0.toList
            · refine Ev.step (f := fun k => some true) (fun k => ?_) (Ev.now _)
              simp only [stanchionlaw06_RunWhole.l1, if_pos hC, if_pos hB, if_pos hA, if_pos hD, if_pos hE, rdF_get _ _ h, rdF_get _ _ hjl, if_pos q]
            · refine Ev.step (fun k => ?_) (iht (j + 1) hgt hji (fun y hy => ?_))
              · simp only [stanchionlaw06_RunWhole.l1, if_pos hC, if_pos hB, if_pos hA, if_pos hD, if_pos hE, rdF_get _ _ h, rdF_get _ _ hjl, if_neg q, w4]
              · rw [List.take_succ_eq_append_getElem hjl] at hy
                rcases List.mem_append.1 hy with hy | hy
                · exact hno y hy
                · rw [List.mem_singleton.1 hy]
                  exact fun e => q (by rw [e])
          · exact fin j hji hj hno
      refine Ev.step (fun k => ?_) (inner i 0 (by omega) (Nat.zero_le _) (fun y hy => by rw [List.take_zero] at hy; cases hy))
      simp only [stanchionlaw06_RunWhole.l0, if_pos hA]
      rfl
    · exact whole_end n s fu ks hk l a b c hl hb hn hs i h (fun p => by have := hc p; rwa [List.take_of_length_le h] at this)
theorem stanchionlaw06_RunWhole.pure : stanchionlaw06_RunWhole.Pure := by
  intro x0 hx0
  apply Ev.rounds
  unfold stanchionlaw06_RunWhole.f
  have hf := hx0.1.1.1
  have hk := hx0.2.2.2.2.1
  have hbd : Bd x0.f0.f0 := fun y hy => by
    have := hx0.1.1.2 y hy
    have h2 := this.2.1; have h3 := this.2.2
    omega
  refine Ev.bind rshown_ev ?_
  exact whole_l x0.f1 x0.f2 x0.f3 x0.f4 (by omega) x0.f0.f0 x0.f0.f1 x0.f0.f2 x0.f0.f3 (by omega) hbd hx0.2.1 hx0.2.2.1 x0.f0.f0.length 0 (by omega) (Nat.zero_le _) (fun p => by rw [List.take_zero]; exact Nat.zero_le _)
end Go.Proofs.Ytbhkopbalhhpgaa.PH
