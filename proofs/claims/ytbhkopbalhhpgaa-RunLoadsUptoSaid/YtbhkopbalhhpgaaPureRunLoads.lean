/- What the law RunLoads comes to: true, where the input is of the bulk that is asked. -/
import Derived.Test.YtbhkopbalhhpgaaGdRunLoads
import Derived.Test.YtbhkopbalhhpgaaPLDk
namespace Go.Proofs.Ytbhkopbalhhpgaa.PL
open Go.RowKit Go.Proofs.YtbhkopbalhhpgaaW.PrintWords
set_option linter.unusedVariables false
set_option linter.unusedSimpArgs false

abbrev fr (n : ByteArray) : ByteArray := (⟨#[110, 46]⟩ : ByteArray) ++ n
theorem fr_ne (n : ByteArray) : fr n ≠ n := fun h => by
  have h2 := congrArg ByteArray.size h
  rw [ByteArray.size_append] at h2
  have h3 : (⟨#[110, 46]⟩ : ByteArray).size = 2 := rfl
  omega
theorem nil_app (s : ByteArray) : (⟨#[]⟩ : ByteArray) ++ s = s := str_ext (by
  have : (⟨#[]⟩ : ByteArray).toList = [] := mkB_list []
  rw [app_list, this, List.nil_append])
theorem app_nil (s : ByteArray) : s ++ (⟨#[]⟩ : ByteArray) = s := str_ext (by
  have : (⟨#[]⟩ : ByteArray).toList = [] := mkB_list []
  rw [app_list, this, List.append_nil])
theorem j0_ok (l : List S38) (r f : Int) (o : Bool) (n s : ByteArray) (hl : l.length < 2932031007401) (hb : Bd l) (hs : s.size ≤ 1125899906842624) : ∃ q, Ev (fun k => run_Lay.j0 k n s (fr n) l r f o) q ∧
    (q.2.2.2.2 = 0 → (∀ y ∈ l, y.f0 ≠ fr n) → l.countP (isF n) ≤ 1 → ∃ A C, q.1 = A ++ ⟨n, s, (⟨#[]⟩ : ByteArray)⟩ :: C ∧ ∀ y ∈ A, y.f0 ≠ n) := by
  obtain ⟨⟨a1, a2, a3, a4, a5⟩, he1, hl1, hb1, hp1⟩ := append_ok l r f o (fr n) s hl hb hs
  have hl1 : a1.length ≤ l.length + 1 := hl1
  have hb1 : ∀ y ∈ a1, y.f1.size ≤ 1125899906842624 ∧ y.f2.size ≤ 2251799813685248 := hb1
  have hp1 : a5 = 0 → (∀ y ∈ l, y.f0 ≠ fr n) → a1 = l ++ [⟨fr n, (⟨#[]⟩ : ByteArray), s⟩] := hp1
  have st : ∀ (R : List S38 × Int × Int × Bool × Int) (F : Nat → Option (List S38 × Int × Int × Bool × Int)), (∀ k, F k = run_Lay.j0 (k + 1) n s (fr n) l r f o) → Ev F R → Ev (fun k => run_Lay.j0 k n s (fr n) l r f o) R := fun R F h1 h2 => Ev.step (fun k => (h1 k).symm) h2
  by_cases e1 : a5 = 0
  · obtain ⟨⟨b1, b2, b3, b4, b5⟩, he2, hl2, hp2⟩ := sync_ok a1 a2 a3 a4 (fr n) (by omega) hb1
    have hl2 : b1.length = a1.length := hl2
    have hp2 : b5 = 0 → ∃ A x C, a1 = A ++ x :: C ∧ (∀ y ∈ A, y.f0 ≠ fr n) ∧ x.f0 = fr n ∧ b1 = A ++ ⟨x.f0, x.f1 ++ x.f2, (⟨#[]⟩ : ByteArray)⟩ :: C := hp2
    by_cases e2 : b5 = 0
    · obtain ⟨⟨c1, c2, c3, c4, c5⟩, he3, hp3⟩ := rename_ok b1 b2 b3 b4 (fr n) n (fr_ne n) (by omega)
      have hp3 : c5 = 0 → b1.countP (isF n) ≤ 1 → ∃ A x C, c1 = A ++ ⟨n, x.f1, x.f2⟩ :: C ∧ (∀ y ∈ A, y.f0 ≠ n) ∧ x ∈ b1 ∧ x.f0 = fr n := hp3
      refine ⟨(c1, c2, c3, c4, c5), st _ _ (fun k => by simp only [run_Lay.j0]; rfl) (Ev.bind he1 ?_), ?_⟩
      · simp only [if_pos e1, he2, Option.bind_some, if_pos e2, he3]
        exact Ev.now _
      · intro h5 hno hc
        have h5 : c5 = 0 := h5
        have ea := hp1 e1 hno
        obtain ⟨A, x, C, h1, hA, hx, h2⟩ := hp2 e2
        have i1 := at_hit A x C (fr n) hA hx
        have i2 := at_hit l ⟨fr n, (⟨#[]⟩ : ByteArray), s⟩ [] (fr n) hno rfl
        have hll : A.length = l.length := by
          rw [← h1, ea, i2] at i1
          omega
        have hq := List.append_inj (h1.symm.trans ea) hll
        have hx2 : x = ⟨fr n, (⟨#[]⟩ : ByteArray), s⟩ := by
          have := hq.2
          injection this
        have hC : C = [] := by
          have := hq.2
          injection this
        have hb1' : b1 = l ++ [⟨fr n, s, (⟨#[]⟩ : ByteArray)⟩] := by
          rw [h2, hq.1, hx2, hC]
          simp only [nil_app]
        have hcc : b1.countP (isF n) ≤ 1 := by
          rw [hb1', List.countP_append, List.countP_cons_of_neg (by rw [(isF_no n _).2 (fr_ne n)]; decide)]
          simpa using hc
        obtain ⟨A3, x3, C3, k1, k2, k3, k4⟩ := hp3 h5 hcc
        rw [hb1'] at k3
        rcases List.mem_append.1 k3 with k3 | k3
        · exact absurd k4 (hno x3 k3)
        · have := List.mem_singleton.1 k3
          subst this
          exact ⟨A3, C3, k1, k2⟩
    · refine ⟨(b1, b2, b3, b4, b5), st _ _ (fun k => by simp only [run_Lay.j0]; rfl) (Ev.bind he1 ?_), fun h => absurd h e2⟩
      simp only [if_pos e1, he2, Option.bind_some, if_neg e2]
      exact Ev.now _
  · refine ⟨(a1, a2, a3, a4, a5), st _ _ (fun k => by simp only [run_Lay.j0]; rfl) (Ev.bind he1 ?_), fun h => absurd h e1⟩
    simp only [if_neg e1]
    exact Ev.now _
theorem lay_ok (l : List S38) (r f : Int) (o : Bool) (n s : ByteArray) (hl : l.length < 2932031007401) (hb : Bd l) (hs : s.size ≤ 1125899906842624) (hn : n.size ≤ 4611686018427387904) : ∃ q, Ev (fun k => run_Lay.f k l r f o n s) q ∧
    (q.2.2.2.2 = 0 → l.countP (isF n) ≤ 1 → l.countP (isF (fr n)) ≤ 1 → ∃ A C, q.1 = A ++ ⟨n, s, (⟨#[]⟩ : ByteArray)⟩ :: C ∧ ∀ y ∈ A, y.f0 ≠ n) := by
  unfold run_Lay.f
  simp only [if_pos (show 2 + n.size ≤ 9223372036854775807 by omega)]
  rcases find_eq_ l r f o (fr n) with ⟨_, hno, hf⟩ | ⟨A, x, C, hl0, hA, hx, hf⟩
  · simp only [hf, Option.bind_some, if_neg (show ¬ (false = true) by decide)]
    obtain ⟨q, h1, h2⟩ := j0_ok l r f o n s hl hb hs
    exact ⟨q, h1, fun e hc _ => h2 e hno hc⟩
  · simp only [hf, Option.bind_some, if_pos]
    obtain ⟨⟨a1, a2, a3, a4, a5⟩, he, hle, hme, hp⟩ := delete_ok l r f o (fr n) (by omega)
    have hle : a1.length ≤ l.length := hle
    have hme : ∀ y ∈ a1, y ∈ l := hme
    have hp : a5 = 0 → ∃ A x C, l = A ++ x :: C ∧ (∀ y ∈ A, y.f0 ≠ fr n) ∧ x.f0 = fr n ∧ a1 = A ++ C := hp
    simp only [he, Option.bind_some]
    by_cases e1 : a5 = 0
    · simp only [if_pos e1]
      obtain ⟨q, h1, h2⟩ := j0_ok a1 a2 a3 a4 n s (by omega) (fun y hy => hb y (hme y hy)) hs
      refine ⟨q, h1, fun e hc hc2 => ?_⟩
      obtain ⟨A', x', C', k1, k2, k3, k4⟩ := hp e1
      refine h2 e (fun y hy => ?_) ?_
      · rw [k4] at hy
        rcases List.mem_append.1 hy with hy | hy
        · exact k2 y hy
        · intro hyf
          rw [k1, List.countP_append, List.countP_cons_of_pos ((isF_iff _ x').2 k3)] at hc2
          have : 0 < C'.countP (isF (fr n)) := List.countP_pos_iff.2 ⟨y, hy, (isF_iff _ y).2 hyf⟩
          omega
      · rw [k1, List.countP_append, List.countP_cons] at hc
        rw [k4, List.countP_append]
        omega
    · simp only [if_neg e1]
      exact ⟨_, Ev.now _, fun h => absurd h e1⟩
theorem read_mid (A : List S38) (x : S38) (C : List S38) (r f : Int) (o : Bool) (n : ByteArray) (hA : ∀ y ∈ A, y.f0 ≠ n) (hx : x.f0 = n) (hb : x.f1.size + x.f2.size ≤ 9223372036854775807) : disk_Read.f (A ++ x :: C) r f o n = some (x.f1 ++ x.f2, 0) := by
  have h1 : A.length < (A ++ x :: C).length := by simp
  unfold disk_Read.f disk_Find.f
  rw [at_eq, Option.bind_some, at_hit A x C n hA hx, if_neg (by omega), if_pos (by omega), if_pos (by omega), rdF_get _ _ h1, get_mid _ _ _ h1, Option.bind_some]
  simp only [if_pos, if_pos hb]
theorem rowsR_small : ∀ l : List S62, (rowsR l).length ≤ 21 * (l.map b62).sum
  | [] => Nat.zero_le _
  | x :: r => by
    have h1 := rowsR_small r
    have h2 := encR_len x
    rw [rowsR_cons, List.length_append, List.map_cons, List.sum_cons]
    simp only [b62, b9]
    omega
theorem loads_l0 (n : ByteArray) (rows : List S62) (r f : Int) (o : Bool) (l : List S38) (hl : l.length < 2932031007401) (hb : Bd l) (hn : n.size ≤ 140737488351232) (hr : rows.length < 4611686018427387904) (hbody : (bodyR rows).length ≤ 1073741824)
    (hk : ∀ x ∈ rows, x.f0.size < 4611686018427387904 ∧ x.f1.size < 4611686018427387904) : ∀ (m i c1 c2 : Nat), l.length - i ≤ m → i ≤ l.length → c1 = (l.take i).countP (isF n) → c2 = (l.take i).countP (isF (fr n)) →
    Ev (fun k => stanchionlaw06_RunLoads.l0 k n rows true (c1 : Int) (c2 : Int) (i : Int) l r f o) true := by
  have hn2 : 2 + n.size ≤ 9223372036854775807 := by omega
  intro m
  have up : ∀ (F : List S38 × Int × Int × Bool) (k1 : Nat → Option Bool), (∀ k, k1 k = some true) → Ev k1 true := fun F k1 h => by
    have : k1 = fun _ => some true := funext h
    rw [this]; exact Ev.now _
  have yes : ∀ (L : List S38) (a b : Int) (c : Bool), Ev (fun k => stanchionlaw06_RunLoads.j1 k n rows true true L a b c) true := fun L a b c =>
    Ev.step (f := fun _ => some true) (fun k => by simp only [stanchionlaw06_RunLoads.j1]; rw [if_pos trivial]) (Ev.now _)
  have done : ∀ i c1 c2 : Nat, l.length ≤ i → c1 = l.countP (isF n) → c2 = l.countP (isF (fr n)) → Ev (fun k => stanchionlaw06_RunLoads.l0 k n rows true (c1 : Int) (c2 : Int) (i : Int) l r f o) true := by
    intro i c1 c2 hi h1 h2
    refine Ev.step (f := ?ff) (fun k => ?g1) ?g2
    case g1 =>
      simp only [stanchionlaw06_RunLoads.l0]
      rw [if_neg (by omega)]
    refine Ev.bind (bytesR_ev rows hr (by omega) hk) ?_
    by_cases hm : mayR rows = true
    · obtain ⟨ho, hbk⟩ := takeQ_back hm hbody
      have hlen : (sealL (mkB (bodyR rows))).length ≤ 1073741866 := by
        have t1 := textL_len (mkB (bodyR rows)); have t2 := numL_len (sv (mkB (bodyR rows)))
        rw [mkB_size] at t1
        unfold sealL
        rw [List.length_append]
        omega
      obtain ⟨L, hL⟩ : ∃ L, L = sealL (mkB (bodyR rows)) := ⟨_, rfl⟩
      rw [← hL] at ho hbk hlen ⊢
      rw [if_pos hm]
      obtain ⟨⟨a1, a2, a3, a4, a5⟩, he, hp⟩ := lay_ok l r f o n (mkB L) hl hb (by rw [mkB_size]; omega) (by omega)
      have hp : a5 = 0 → l.countP (isF n) ≤ 1 → l.countP (isF (fr n)) ≤ 1 → ∃ A C, a1 = A ++ ⟨n, mkB L, (⟨#[]⟩ : ByteArray)⟩ :: C ∧ ∀ y ∈ A, y.f0 ≠ n := hp
      refine Ev.bind he ?_
      simp only []
      by_cases q1 : (c1 : Int) > 1
      · simp only [if_pos q1]; exact yes _ _ _ _
      · simp only [if_neg q1]
        by_cases q2 : (c2 : Int) > 1
        · simp only [if_pos q2]; exact yes _ _ _ _
        · simp only [if_neg q2, if_pos]
          by_cases q3 : a5 = 0
          · obtain ⟨A, C, k1, k2⟩ := hp q3 (by omega) (by omega)
            have e0 : (a5 != 0) = false := by rw [q3]; rfl
            rw [e0]
            refine Ev.step (f := fun k => (run_Load.f k a1 a2 a3 a4 n).bind fun bt628 => (if true = true then (if bt628.2 = 0 then ((stanchionref05_Same.f k rows bt628.1).bind fun t632 => (some t632)) else (some false)) else (some false))) (fun k => by simp only [stanchionlaw06_RunLoads.j1]; rw [if_neg (by decide)]) ?_
            have hz : (⟨#[]⟩ : ByteArray).size = 0 := rfl
            have hrd := read_mid A ⟨n, mkB L, (⟨#[]⟩ : ByteArray)⟩ C a2 a3 a4 n k2 rfl (by rw [mkB_size, hz]; omega)
            unfold run_Load.f
            rw [k1, hrd]
            simp only [Option.bind_some, if_pos, app_nil]
            refine Ev.bind (g := fun k => (run_Take.f k (mkB L)).bind fun bt532 => some (bt532.1, bt532.2)) (Ev.bind (takeQ_ev L (by omega)) (Ev.now _)) ?_
            rw [hbk]
            simp only [if_pos]
            exact Ev.bind (sameR_ev rows hr) (Ev.now _)
          · have e0 : (a5 != 0) = true := bne_iff_ne.2 q3
            rw [e0]; exact yes _ _ _ _
    · rw [if_neg hm]
      obtain ⟨⟨a1, a2, a3, a4, a5⟩, he, hp⟩ := lay_ok l r f o n (⟨#[]⟩ : ByteArray) hl hb (by decide) (by omega)
      refine Ev.bind he ?_
      simp only []
      by_cases q1 : (c1 : Int) > 1
      · simp only [if_pos q1]; exact yes _ _ _ _
      · simp only [if_neg q1]
        by_cases q2 : (c2 : Int) > 1
        · simp only [if_pos q2]; exact yes _ _ _ _
        · simp only [if_neg q2, if_neg (show ¬ ((1 : Int) = 0) by decide)]; exact yes _ _ _ _
  induction m with
  | zero => intro i c1 c2 hm hi h1 h2; exact done i c1 c2 (by omega) (by rw [h1, List.take_of_length_le (by omega)]) (by rw [h2, List.take_of_length_le (by omega)])
  | succ m ih =>
    intro i c1 c2 hm hi h1 h2
    rcases Nat.lt_or_ge i l.length with h | h
    · have b1 : c1 ≤ i := by rw [h1]; exact Nat.le_trans List.countP_le_length (by rw [List.length_take]; omega)
      have b2 : c2 ≤ i := by rw [h2]; exact Nat.le_trans List.countP_le_length (by rw [List.length_take]; omega)
      have hgm : l.length - (i + 1) ≤ m := by omega
      have w1 := wrap_succ c1 (by omega); have w2 := wrap_succ c2 (by omega); have w3 := wrap_succ i (by omega)
      have g := ih (i + 1) (c1 + if isF n l[i] = true then 1 else 0) (c2 + if isF (fr n) l[i] = true then 1 else 0) hgm h
        (by rw [List.take_succ_eq_append_getElem h, List.countP_append, List.countP_singleton, h1]) (by rw [List.take_succ_eq_append_getElem h, List.countP_append, List.countP_singleton, h2])
      refine Ev.step (fun k => ?_) g
      have hA : (i : Int) < (l.length : Int) := Int.ofNat_lt.2 h
      have hB : (0 : Int) ≤ (i : Int) := Int.natCast_nonneg i
      simp only [stanchionlaw06_RunLoads.l0, if_pos hA, if_pos hB, rdF_get _ _ h]
      by_cases q1 : (l[i]).f0.toList = n.toList
      · have e1 : isF n l[i] = true := beq_iff_eq.2 q1
        by_cases q2 : (l[i]).f0.toList = ((⟨#[110, 46]⟩ : ByteArray) ++ n).toList
        · have e2 : isF (fr n) l[i] = true := beq_iff_eq.2 q2
          simp only [if_pos q1, if_pos hn2, if_pos q2, e1, e2, if_true, w1, w2, w3]
        · have e2 : isF (fr n) l[i] = false := beq_eq_false_iff_ne.2 q2
          simp only [if_pos q1, if_pos hn2, if_neg q2, e1, e2, if_true, w1, w3, if_neg (show ¬ (false = true) by decide), Nat.add_zero]
      · have e1 : isF n l[i] = false := beq_eq_false_iff_ne.2 q1
        by_cases q2 : (l[i]).f0.toList = ((⟨#[110, 46]⟩ : ByteArray) ++ n).toList
        · have e2 : isF (fr n) l[i] = true := beq_iff_eq.2 q2
          simp only [if_neg q1, if_pos hn2, if_pos q2, e1, e2, if_true, w2, w3, if_neg (show ¬ (false = true) by decide), Nat.add_zero]
        · have e2 : isF (fr n) l[i] = false := beq_eq_false_iff_ne.2 q2
          simp only [if_neg q1, if_pos hn2, if_neg q2, e1, e2, w3, if_neg (show ¬ (false = true) by decide), Nat.add_zero]
    · exact done i c1 c2 h (by rw [h1, List.take_of_length_le h]) (by rw [h2, List.take_of_length_le h])
theorem stanchionlaw06_RunLoads.pure : stanchionlaw06_RunLoads.Pure := by
  intro x0 x1 x2 hx0 hx1 hx2 hb
  apply Ev.rounds
  unfold stanchionlaw06_RunLoads.f
  have h0 := hx2.1
  have hf := hx0.1.1
  have hk : ∀ x ∈ x2, x.f0.size < 4611686018427387904 ∧ x.f1.size < 4611686018427387904 := fun x hx => by
    have := hx2.2 x hx
    have h2 := this.1; have h3 := this.2
    omega
  have hbd : Bd x0.f0 := fun y hy => by
    have := hx0.1.2 y hy
    have h2 := this.2.1; have h3 := this.2.2
    omega
  have hbody : (bodyR x2).length ≤ 1073741824 := by
    have h1 := rowsR_small x2
    have h2 := numL_len x2.length
    simp only [b22] at hb
    unfold bodyR
    rw [List.length_append]
    omega
  refine Ev.bind rshown_ev ?_
  exact loads_l0 x1 x2 x0.f1 x0.f2 x0.f3 x0.f0 (by omega) hbd hx1 (by omega) hbody hk x0.f0.length 0 0 0 (by omega) (by omega) rfl rfl
end Go.Proofs.Ytbhkopbalhhpgaa.PL
