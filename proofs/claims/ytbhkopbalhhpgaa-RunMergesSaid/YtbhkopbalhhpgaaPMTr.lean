/- The document's table functions in plain words: order, right, same, find, range, put, drop, writes. -/
import Derived.Test.YtbhkopbalhhpgaaPMx3
import Derived.Test.YtbhkopbalhhpgaaPMx4
import Derived.Test.YtbhkopbalhhpgaaPMTa
namespace Go.Proofs.Ytbhkopbalhhpgaa.PM
open Go.RowKit Go.Proofs.YtbhkopbalhhpgaaW.PrintWords
set_option linter.unusedVariables false
set_option linter.unusedSimpArgs false

theorem less_l0 : ∀ (n : Nat) (a b : ByteArray) (i : Nat), a.size - i ≤ n → i ≤ a.size → i ≤ b.size → a.size < 4611686018427387904 →
    Ev (fun k => stanchionref01_Less.l0 k a b (i : Int)) (Op.bytesLess (a.toList.drop i) (b.toList.drop i)) := by
  intro n
  induction n with
  | zero =>
    intro a b i hn ha hb hs
    have hi : i = a.size := by omega
    refine Ev.step (f := fun k => stanchionref01_Less.j1 k a b (i : Int) false) (fun k => by simp only [stanchionref01_Less.l0]; rw [if_neg (by omega)]) ?_
    refine Ev.step (f := fun k => some (decide ((a.size : Int) < (b.size : Int)))) (fun k => by simp only [stanchionref01_Less.j1]; rfl) ?_
    have e : Op.bytesLess (a.toList.drop i) (b.toList.drop i) = decide ((a.size : Int) < (b.size : Int)) := by
      rw [List.drop_of_length_le (l := a.toList) (by rw [str_len]; omega)]
      rcases Nat.lt_or_ge i b.size with h | h
      · rw [List.drop_eq_getElem_cons (by rw [str_len]; exact h)]
        exact (decide_eq_true (by omega)).symm
      · rw [List.drop_of_length_le (by rw [str_len]; omega)]
        exact (decide_eq_false (by omega)).symm
    rw [e]
    exact Ev.now _
  | succ n ih =>
    intro a b i hn ha hb hs
    rcases Nat.lt_or_ge i a.size with hi | hi
    · rcases Nat.lt_or_ge i b.size with hj | hj
      · refine Ev.step (f := fun k => stanchionref01_Less.j1 k a b (i : Int) true) (fun k => by simp only [stanchionref01_Less.l0]; rw [if_pos (by omega), decide_eq_true (by omega)]) ?_
        have ga : i < a.toList.length := by rw [str_len]; exact hi
        have gb : i < b.toList.length := by rw [str_len]; exact hj
        rw [List.drop_eq_getElem_cons ga, List.drop_eq_getElem_cons gb]
        refine Ev.step (f := fun k => if (bt a i) = (bt b i) then stanchionref01_Less.l0 k a b ((i + 1 : Nat) : Int) else some (decide ((bt a i) < (bt b i)))) (fun k => ?_) ?_
        · simp only [stanchionref01_Less.j1]
          rw [if_pos trivial, if_pos (by omega), if_pos (by omega), if_pos (by omega), show wrap64 ((i : Int) + 1) = ((i + 1 : Nat) : Int) by unfold wrap64; omega]
        · rw [bt_get a i ga, bt_get b i gb]
          by_cases e : a.toList[i] = b.toList[i]
          · simp only [if_pos (show ((a.toList[i]).toNat : Int) = ((b.toList[i]).toNat : Int) by rw [e])]
            have : Op.bytesLess (a.toList[i] :: a.toList.drop (i + 1)) (b.toList[i] :: b.toList.drop (i + 1)) = Op.bytesLess (a.toList.drop (i + 1)) (b.toList.drop (i + 1)) := by
              rw [← e]; simp [Op.bytesLess]
            rw [this]
            exact ih a b (i + 1) (by omega) (by omega) (by omega) hs
          · have ne : ¬ ((a.toList[i]).toNat : Int) = ((b.toList[i]).toNat : Int) := fun h => e (UInt8.toNat_inj.1 (by omega))
            simp only [if_neg ne]
            have : Op.bytesLess (a.toList[i] :: a.toList.drop (i + 1)) (b.toList[i] :: b.toList.drop (i + 1)) = decide (((a.toList[i]).toNat : Int) < ((b.toList[i]).toNat : Int)) := by
              simp [Op.bytesLess, e, UInt8.lt_iff_toNat_lt]
            rw [this]
            exact Ev.now _
      · refine Ev.step (f := fun k => stanchionref01_Less.j1 k a b (i : Int) false) (fun k => by simp only [stanchionref01_Less.l0]; rw [if_pos (by omega), decide_eq_false (by omega)]) ?_
        refine Ev.step (f := fun k => some (decide ((a.size : Int) < (b.size : Int)))) (fun k => by simp only [stanchionref01_Less.j1]; rfl) ?_
        have e : Op.bytesLess (a.toList.drop i) (b.toList.drop i) = decide ((a.size : Int) < (b.size : Int)) := by
          rw [List.drop_of_length_le (l := b.toList) (by rw [str_len]; omega)]
          simp only [Op.bytesLess]
          exact (decide_eq_false (by omega)).symm
        rw [e]
        exact Ev.now _
    · refine Ev.step (f := fun k => stanchionref01_Less.j1 k a b (i : Int) false) (fun k => by simp only [stanchionref01_Less.l0]; rw [if_neg (by omega)]) ?_
      refine Ev.step (f := fun k => some (decide ((a.size : Int) < (b.size : Int)))) (fun k => by simp only [stanchionref01_Less.j1]; rfl) ?_
      have e : Op.bytesLess (a.toList.drop i) (b.toList.drop i) = decide ((a.size : Int) < (b.size : Int)) := by
        rw [List.drop_of_length_le (l := a.toList) (by rw [str_len]; omega)]
        rcases Nat.lt_or_ge i b.size with h | h
        · rw [List.drop_eq_getElem_cons (by rw [str_len]; exact h)]
          exact (decide_eq_true (by omega)).symm
        · rw [List.drop_of_length_le (by rw [str_len]; omega)]
          exact (decide_eq_false (by omega)).symm
      rw [e]
      exact Ev.now _
theorem less_ev (a b : ByteArray) (hs : a.size < 4611686018427387904) : Ev (fun k => stanchionref01_Less.f k a b) (ltS a b) := by
  have := less_l0 a.size a b 0 (by omega) (by omega) (by omega) hs
  exact this
theorem same_l0 : ∀ (n : Nat) (l : List S62) (i : Nat), l.length - i ≤ n → l.length < 4611686018427387904 → Ev (fun k => stanchionref05_Same.l0 k l l (i : Int)) true := by
  intro n
  induction n with
  | zero => intro l i hn hl; exact Ev.step (f := fun k => some true) (fun k => by simp only [stanchionref05_Same.l0]; rw [if_neg (by omega)]) (Ev.now _)
  | succ n ih =>
    intro l i hn hl
    rcases Nat.lt_or_ge i l.length with hi | hi
    · refine Ev.step (f := fun k => stanchionref05_Same.l0 k l l ((i + 1 : Nat) : Int)) (fun k => ?_) (ih l (i + 1) (by omega) hl)
      simp only [stanchionref05_Same.l0]
      rw [if_pos (by omega), if_pos (by omega), if_pos (by omega), if_neg (by simp), wrap_succ i (by omega)]
    · exact Ev.step (f := fun k => some true) (fun k => by simp only [stanchionref05_Same.l0]; rw [if_neg (by omega)]) (Ev.now _)
theorem same_ev (a b : List S62) (h : a = b) (hl : b.length < 4611686018427387904) : Ev (fun k => stanchionref05_Same.f k a b) true := by
  subst h
  refine Ev.congr (fun k => ?_) (same_l0 a.length a 0 (by omega) hl)
  unfold stanchionref05_Same.f
  rw [if_pos rfl]
  rfl
theorem rfind_l0 (key : ByteArray) : ∀ (n : Nat) (l : List S62) (i : Nat), l.length - i ≤ n → l.length < 4611686018427387904 → Ev (fun k => stanchionref05_Find.l0 k l key (i : Int)) (findL (l.drop i) key) := by
  intro n
  induction n with
  | zero =>
    intro l i hn hl
    rw [List.drop_of_length_le (by omega)]
    exact Ev.step (f := fun k => some ((⟨#[]⟩ : ByteArray), false)) (fun k => by simp only [stanchionref05_Find.l0]; rw [if_neg (by omega)]) (Ev.now _)
  | succ n ih =>
    intro l i hn hl
    rcases Nat.lt_or_ge i l.length with hi | hi
    · rw [List.drop_eq_getElem_cons hi]
      by_cases he : (l[i]).f0.toList = key.toList
      · refine Ev.step (f := fun k => some ((l[i]).f1, true)) (fun k => ?_) ?_
        · simp only [stanchionref05_Find.l0]
          rw [if_pos (by omega), if_pos (by omega), rd_get _ _ hi, if_pos he]
        · have : findL (l[i] :: l.drop (i + 1)) key = ((l[i]).f1, true) := findL_hit [] _ _ _ (fun y hy => by cases hy) (by unfold eqK62; exact beq_iff_eq.2 he)
          rw [this]; exact Ev.now _
      · refine Ev.step (f := fun k => stanchionref05_Find.l0 k l key ((i + 1 : Nat) : Int)) (fun k => ?_) ?_
        · simp only [stanchionref05_Find.l0]
          rw [if_pos (by omega), if_pos (by omega), rd_get _ _ hi, if_neg he, wrap_succ i (by omega)]
        · have : findL (l[i] :: l.drop (i + 1)) key = findL (l.drop (i + 1)) key := by
            unfold findL
            rw [List.find?_cons, show eqK62 key l[i] = false from beq_eq_false_iff_ne.2 he]
          rw [this]
          exact ih l (i + 1) (by omega) hl
    · rw [List.drop_of_length_le (by omega)]
      exact Ev.step (f := fun k => some ((⟨#[]⟩ : ByteArray), false)) (fun k => by simp only [stanchionref05_Find.l0]; rw [if_neg (by omega)]) (Ev.now _)
theorem rfind_ev (l : List S62) (key : ByteArray) (hl : l.length < 4611686018427387904) : Ev (fun k => stanchionref05_Find.f k l key) (findL l key) := rfind_l0 key l.length l 0 (by omega) hl
def insR (has : Bool) (key val : ByteArray) : List S62 → List S62
  | [] => [⟨key, val⟩]
  | x :: r => if (if has = true then eqK62 key x else ltS key x.f0) = true then (if has = true then ⟨key, val⟩ :: r else ⟨key, val⟩ :: x :: r) else x :: insR has key val r
theorem insR_hit (key val : ByteArray) : ∀ (A : List S62) (x : S62) (C : List S62), (∀ y ∈ A, eqK62 key y = false) → eqK62 key x = true → insR true key val (A ++ x :: C) = A ++ ⟨key, val⟩ :: C
  | [], x, C, _, hx => by
    show insR true key val (x :: C) = _
    unfold insR
    simp [hx]
  | a :: A, x, C, hA, hx => by
    show insR true key val (a :: (A ++ x :: C)) = _
    unfold insR
    simp only [if_pos, hA a List.mem_cons_self]
    rw [if_neg (by decide), insR_hit key val A x C (fun y hy => hA y (List.mem_cons_of_mem _ hy)) hx]
    rfl
theorem insR_gt (key val : ByteArray) : ∀ (A : List S62) (x : S62) (C : List S62), (∀ y ∈ A, ltS key y.f0 = false) → ltS key x.f0 = true → insR false key val (A ++ x :: C) = A ++ ⟨key, val⟩ :: x :: C
  | [], x, C, _, hx => by
    show insR false key val (x :: C) = _
    unfold insR
    simp [hx]
  | a :: A, x, C, hA, hx => by
    show insR false key val (a :: (A ++ x :: C)) = _
    unfold insR
    simp only [if_neg (show ¬ (false = true) by decide), hA a List.mem_cons_self]
    rw [insR_gt key val A x C (fun y hy => hA y (List.mem_cons_of_mem _ hy)) hx]
    rfl
theorem insR_end (key val : ByteArray) : ∀ (A : List S62), (∀ y ∈ A, ltS key y.f0 = false) → insR false key val A = A ++ [⟨key, val⟩]
  | [], _ => rfl
  | a :: A, hA => by
    unfold insR
    simp only [if_neg (show ¬ (false = true) by decide), hA a List.mem_cons_self]
    rw [insR_end key val A (fun y hy => hA y (List.mem_cons_of_mem _ hy))]
    rfl
theorem insR_put (l : List S62) (key val : ByteArray) : insR (findL l key).2 key val l = putL62 l key val := by
  obtain ⟨A, C, hA, hp, hs⟩ := put_shape l key
  rw [hp val]
  rcases hs with ⟨x, hx, rfl⟩ | ⟨hno, rfl, h1, h2⟩
  · have hx' := (eqK_iff key x).2 hx
    rw [findL_hit A x C key hA hx']
    exact insR_hit key val A x C hA hx'
  · rw [findL_miss _ _ hno]
    cases C with
    | nil => rw [List.append_nil]; exact insR_end key val A h1
    | cons y C' => exact insR_gt key val A y C' h1 (h2 y C' rfl)
theorem rput_l0 (key val : ByteArray) (hk : key.size < 4611686018427387904) (has : Bool) : ∀ (n : Nat) (l : List S62) (i : Nat) (out : List S62) (done : Bool), l.length - i ≤ n → i ≤ l.length → (done = false → out.length ≤ i) → out.length ≤ i + 1 → l.length < 4398046511090 →
    Ev (fun k => stanchionref05_Put.l0 k l key val has out done (i : Int)) (out ++ (if done = true then l.drop i else insR has key val (l.drop i))) := by
  intro n
  have hft : ¬ (false = true) := by decide
  have fin : ∀ (l : List S62) (i : Nat) (out : List S62) (done : Bool), ¬ i < l.length → i ≤ l.length → out.length ≤ i + 1 → l.length < 4398046511090 →
      Ev (fun k => stanchionref05_Put.l0 k l key val has out done (i : Int)) (out ++ (if done = true then l.drop i else insR has key val (l.drop i))) := by
    intro l i out done hn hi ho hl
    rw [List.drop_of_length_le (by omega)]
    refine Ev.step (f := fun k => some (out ++ (if done = true then [] else insR has key val []))) (fun k => ?_) (Ev.now _)
    simp only [stanchionref05_Put.l0]
    rw [if_neg (show ¬ ((i : Int) < (l.length : Int)) by omega)]
    cases done with
    | true => simp
    | false =>
      have h3 : out.length < 4398046511104 := by omega
      simp only [if_neg hft, if_pos h3]
      rfl
  induction n with
  | zero => intro l i out done hn hi ho1 ho hl; exact fin l i out done (by omega) hi ho hl
  | succ n ih =>
    intro l i out done hn hi ho1 ho hl
    by_cases hlt : i < l.length
    · have tail : ∀ (out : List S62) (done : Bool), (done = false → out.length ≤ i) → out.length ≤ i + 1 → Ev (fun k => stanchionref05_Put.j1 k l key val has out done (i : Int) false) (out ++ l[i] :: (if done = true then l.drop (i + 1) else insR has key val (l.drop (i + 1)))) := by
        intro out done ho1 ho
        refine Ev.step (f := fun k => stanchionref05_Put.l0 k l key val has (out ++ [l[i]]) done ((i + 1 : Nat) : Int)) (fun k => ?_) ?_
        · simp only [stanchionref05_Put.j1]
          rw [if_neg hft, if_pos (by omega), if_pos (by omega), if_pos (by omega), rd_get _ _ hlt, wrap_succ i (by omega)]
        · have := ih l (i + 1) (out ++ [l[i]]) done (by omega) (by omega) (fun h => by have := ho1 h; simp; omega) (by simp; omega) hl
          rw [List.append_assoc] at this
          exact this
      have put : out.length ≤ i → Ev (fun k => stanchionref05_Put.j1 k l key val has out false (i : Int) true) (out ++ (if has = true then ⟨key, val⟩ :: l.drop (i + 1) else ⟨key, val⟩ :: l[i] :: l.drop (i + 1))) := by
        intro ho
        cases has with
        | true =>
          refine Ev.step (f := fun k => stanchionref05_Put.l0 k l key val true (out ++ [⟨key, val⟩]) true ((i + 1 : Nat) : Int)) (fun k => ?_) ?_
          · simp only [stanchionref05_Put.j1]
            rw [if_pos trivial, if_pos (by omega), Option.bind_some, if_pos trivial, wrap_succ i (by omega)]
          · have := ih l (i + 1) (out ++ [⟨key, val⟩]) true (by omega) (by omega) (fun h => by cases h) (by simp; omega) hl
            rw [List.append_assoc] at this
            exact this
        | false =>
          refine Ev.step (f := fun k => stanchionref05_Put.l0 k l key val false ((out ++ [⟨key, val⟩]) ++ [l[i]]) true ((i + 1 : Nat) : Int)) (fun k => ?_) ?_
          · simp only [stanchionref05_Put.j1]
            rw [if_pos trivial, if_pos (by omega), Option.bind_some, if_neg hft, if_pos (by omega), if_pos (by omega), if_pos (by simp; omega), rd_get _ _ hlt, wrap_succ i (by omega)]
          · have := ih l (i + 1) ((out ++ [⟨key, val⟩]) ++ [l[i]]) true (by omega) (by omega) (fun h => by cases h) (by simp; omega) hl
            have e : (out ++ [(⟨key, val⟩ : S62)]) ++ [l[i]] ++ l.drop (i + 1) = out ++ ⟨key, val⟩ :: l[i] :: l.drop (i + 1) := by simp
            rw [if_pos rfl, e] at this
            rw [if_neg hft]
            exact this
      rw [List.drop_eq_getElem_cons hlt]
      cases done with
      | true =>
        refine Ev.step (f := fun k => stanchionref05_Put.j1 k l key val has out true (i : Int) false) (fun k => ?_) ?_
        · simp only [stanchionref05_Put.l0]
          rw [if_pos (show (i : Int) < (l.length : Int) by omega), if_pos trivial]
        · have := tail out true (fun h => by cases h) ho
          simp only [if_pos] at this ⊢
          exact this
      | false =>
        have ho' := ho1 rfl
        rw [if_neg hft]
        unfold insR
        cases has with
        | true =>
          simp only [if_pos]
          cases he : eqK62 key l[i] with
          | true =>
            have he2 : (l[i]).f0.toList = key.toList := beq_iff_eq.1 he
            refine Ev.step (f := fun k => stanchionref05_Put.j1 k l key val true out false (i : Int) true) (fun k => ?_) ?_
            · simp only [stanchionref05_Put.l0]
              rw [if_pos (show (i : Int) < (l.length : Int) by omega), if_neg hft, if_pos trivial, if_pos (by omega), rd_get _ _ hlt, if_pos he2]
            · have := put ho'
              simp only [if_pos] at this ⊢
              exact this
          | false =>
            have he2 : ¬ (l[i]).f0.toList = key.toList := beq_eq_false_iff_ne.1 he
            refine Ev.step (f := fun k => stanchionref05_Put.j1 k l key val true out false (i : Int) false) (fun k => ?_) ?_
            · simp only [stanchionref05_Put.l0]
              rw [if_pos (show (i : Int) < (l.length : Int) by omega), if_neg hft, if_pos trivial, if_pos (by omega), rd_get _ _ hlt, if_neg he2]
            · have := tail out false (fun _ => ho') ho
              simp only [if_neg hft] at this ⊢
              exact this
        | false =>
          simp only [if_neg hft]
          refine Ev.step (f := fun k => (stanchionref01_Less.f k key (l[i]).f0).bind fun t => stanchionref05_Put.j1 k l key val false out false (i : Int) t) (fun k => ?_) ?_
          · simp only [stanchionref05_Put.l0]
            rw [if_pos (show (i : Int) < (l.length : Int) by omega), if_neg hft, if_neg hft, if_pos (by omega), rd_get _ _ hlt]
          · refine Ev.bind (less_ev _ _ hk) ?_
            cases he : ltS key (l[i]).f0 with
            | true =>
              have := put ho'
              simp only [if_neg hft, if_pos] at this ⊢
              exact this
            | false =>
              have := tail out false (fun _ => ho') ho
              simp only [if_neg hft] at this ⊢
              exact this
    · exact fin l i out done hlt hi ho hl
theorem rput_ev (l : List S62) (key val : ByteArray) (hk : key.size < 4611686018427387904) (hl : l.length < 4398046511090) : Ev (fun k => stanchionref05_Put.f k l key val) (putL62 l key val) := by
  unfold stanchionref05_Put.f
  refine Ev.bind (rfind_ev l key (by omega)) ?_
  have := rput_l0 key val hk (findL l key).2 l.length l 0 [] false (by omega) (by omega) (fun _ => by simp) (by simp) hl
  simp only [List.nil_append, List.drop_zero, if_neg (show ¬ (false = true) by decide)] at this
  rw [insR_put] at this
  exact this
theorem rdrop_l0 (key : ByteArray) : ∀ (n : Nat) (l : List S62) (i : Nat) (out : List S62), l.length - i ≤ n → out.length ≤ i → l.length < 4398046511090 →
    Ev (fun k => stanchionref05_Drop.l0 k l key out (i : Int)) (out ++ dropL62 (l.drop i) key) := by
  intro n
  have fin : ∀ (l : List S62) (i : Nat) (out : List S62), ¬ i < l.length → Ev (fun k => stanchionref05_Drop.l0 k l key out (i : Int)) (out ++ dropL62 (l.drop i) key) := by
    intro l i out hn
    rw [List.drop_of_length_le (by omega)]
    refine Ev.step (f := fun k => some out) (fun k => by simp only [stanchionref05_Drop.l0]; rw [if_neg (by omega)]) ?_
    show Ev _ (out ++ [])
    rw [List.append_nil]
    exact Ev.now _
  induction n with
  | zero => intro l i out hn ho hl; exact fin l i out (by omega)
  | succ n ih =>
    intro l i out hn ho hl
    by_cases hlt : i < l.length
    · rw [List.drop_eq_getElem_cons hlt]
      have e0 : dropL62 (l[i] :: l.drop (i + 1)) key = if eqK62 key l[i] = true then dropL62 (l.drop (i + 1)) key else l[i] :: dropL62 (l.drop (i + 1)) key := by
        unfold dropL62
        rw [List.filter_cons]
        cases eqK62 key l[i] <;> rfl
      rw [e0]
      cases he : eqK62 key l[i] with
      | true =>
        have he2 : (l[i]).f0.toList = key.toList := beq_iff_eq.1 he
        refine Ev.step (f := fun k => stanchionref05_Drop.l0 k l key out ((i + 1 : Nat) : Int)) (fun k => ?_) ?_
        · simp only [stanchionref05_Drop.l0]
          rw [if_pos (by omega), if_pos (by omega), rd_get _ _ hlt, if_pos he2, wrap_succ i (by omega)]
        · rw [if_pos rfl]
          exact ih l (i + 1) out (by omega) (by omega) hl
      | false =>
        have he2 : ¬ (l[i]).f0.toList = key.toList := beq_eq_false_iff_ne.1 he
        refine Ev.step (f := fun k => stanchionref05_Drop.l0 k l key (out ++ [l[i]]) ((i + 1 : Nat) : Int)) (fun k => ?_) ?_
        · simp only [stanchionref05_Drop.l0]
          rw [if_pos (by omega), if_pos (by omega), rd_get _ _ hlt, if_neg he2, if_pos (by omega), wrap_succ i (by omega)]
        · rw [if_neg (by decide)]
          have := ih l (i + 1) (out ++ [l[i]]) (by omega) (by simp; omega) hl
          rw [List.append_assoc] at this
          exact this
    · exact fin l i out hlt
theorem rdrop_ev (l : List S62) (key : ByteArray) (hl : l.length < 4398046511090) : Ev (fun k => stanchionref05_Drop.f k l key) (dropL62 l key) := by
  have := rdrop_l0 key l.length l 0 [] (by omega) (by simp) hl
  exact this
theorem rapply_l0 : ∀ (n : Nat) (ws : List S57) (l : List S62) (i : Nat), ws.length - i ≤ n → i ≤ ws.length → l.length + (ws.length - i) < 4398046511050 → ws.length < 4398046511050 → (∀ x ∈ ws, x.f0.size < 4611686018427387904) →
    Ev (fun k => stanchionref05_Apply.l0 k ws l (i : Int)) ((ws.drop i).foldl stepW l) := by
  intro n
  have fin : ∀ (ws : List S57) (l : List S62) (i : Nat), ¬ i < ws.length → Ev (fun k => stanchionref05_Apply.l0 k ws l (i : Int)) ((ws.drop i).foldl stepW l) := by
    intro ws l i hn
    rw [List.drop_of_length_le (by omega)]
    exact Ev.step (f := fun k => some l) (fun k => by simp only [stanchionref05_Apply.l0]; rw [if_neg (by omega)]) (Ev.now _)
  induction n with
  | zero => intro ws l i hn hi hl hw hb; exact fin ws l i (by omega)
  | succ n ih =>
    intro ws l i hn hi hl hw hb
    by_cases hlt : i < ws.length
    · have e1 : rd_T57 ws (i : Int) = ws[i] := by simp [rd_T57, List.getD_eq_getElem?_getD, hlt]
      rw [List.drop_eq_getElem_cons hlt, List.foldl_cons]
      have hsl := stepW_len l ws[i]
      have nx := ih ws (stepW l ws[i]) (i + 1) (by omega) (by omega) (by omega) hw hb
      have hb1 := hb _ (List.getElem_mem hlt)
      refine Ev.step (f := fun k => if (ws[i]).f2 = true then ((stanchionref05_Drop.f k l (ws[i]).f0).bind fun t => stanchionref05_Apply.l0 k ws t ((i + 1 : Nat) : Int)) else ((stanchionref05_Put.f k l (ws[i]).f0 (ws[i]).f1).bind fun t => stanchionref05_Apply.l0 k ws t ((i + 1 : Nat) : Int))) (fun k => ?_) ?_
      · simp only [stanchionref05_Apply.l0]
        rw [if_pos (show (i : Int) < (ws.length : Int) by omega), if_pos (show (0 : Int) ≤ (i : Int) by omega), e1, wrap_succ i (by omega)]
      · unfold stepW at nx ⊢
        by_cases h2 : (ws[i]).f2 = true
        · simp only [if_pos h2] at nx ⊢
          exact Ev.bind (rdrop_ev l _ (by omega)) nx
        · simp only [if_neg h2] at nx ⊢
          exact Ev.bind (rput_ev l _ _ hb1 (by omega)) nx
    · exact fin ws l i hlt
theorem rapply_ev (l : List S62) (ws : List S57) (hl : l.length + ws.length < 4398046511050) (hb : ∀ x ∈ ws, x.f0.size < 4611686018427387904) : Ev (fun k => stanchionref05_Apply.f k l ws) (ws.foldl stepW l) := by
  have := rapply_l0 ws.length ws l 0 (by omega) (by omega) (by omega) (by omega) hb
  refine Ev.congr (fun k => ?_) this
  unfold stanchionref05_Apply.f
  rw [Option.bind_some]
  simp only [List.length_nil, List.nil_append]
  rw [if_pos (by omega)]
  rfl
end Go.Proofs.Ytbhkopbalhhpgaa.PM
