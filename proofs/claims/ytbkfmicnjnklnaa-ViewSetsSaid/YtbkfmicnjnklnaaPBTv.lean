/- What the view's functions of the program come to in plain words: set, get, size, rising. -/
import Derived.Test.YtbkfmicnjnklnaaPBTa
namespace Go.Proofs.Ytbkfmicnjnklnaa.PB
open Go.RowKit Go.Proofs.YtbkfmicnjnklnaaW.PrintWords
set_option linter.unusedVariables false
set_option linter.unusedSimpArgs false

theorem rdW_nat (xs : List S33) (i : Nat) : rd_T33 xs (i : Int) = xs.getD i z33 := by simp [rd_T33]
theorem rdW_get (xs : List S33) (i : Nat) (h : i < xs.length) : rd_T33 xs (i : Int) = xs[i] := by rw [rdW_nat]; simp [List.getD_eq_getElem?_getD, h]
theorem seq_iff (key : ByteArray) (x : S33) : seq33 key x = true ↔ x.f0 = key := by
  unfold seq33
  rw [beq_iff_eq]
  exact ⟨str_ext, fun h => by rw [h]⟩
theorem seq_geq (key : ByteArray) : geq33 key = seq33 key := rfl
theorem sgt_eq (key : ByteArray) (x : S33) : sgt33 key x = ltS key x.f0 := by
  unfold sgt33
  cases e : ltS key x.f0 with
  | true =>
    have h1 : Op.bytesLess x.f0.toList key.toList = false := ltS_asymm e
    have h2 : (x.f0.toList == key.toList) = false := by
      rw [beq_eq_false_iff_ne]
      intro h
      rw [str_ext h, ltS_irrefl] at e
      cases e
    rw [h1, h2]; rfl
  | false =>
    cases e2 : Op.bytesLess x.f0.toList key.toList with
    | true => rfl
    | false =>
      rw [show x.f0 = key from ltS_total e2 e]
      simp
/-- Where a set lays its write: the same place for all writes of that key. -/
theorem set_shape (l : List S33) (key : ByteArray) : ∃ A C, (∀ y ∈ A, seq33 key y = false) ∧ (∀ x : S33, x.f0 = key → setL33 l x = A ++ x :: C) ∧
    ((∃ x, x.f0 = key ∧ l = A ++ x :: C) ∨ ((∀ y ∈ l, seq33 key y = false) ∧ l = A ++ C ∧ (∀ y ∈ A, ltS key y.f0 = false) ∧ ∀ y C', C = y :: C' → ltS key y.f0 = true)) := by
  rcases ix_split (seq33 key) l with h | ⟨A, x, C, rfl, hA, hx⟩
  · rcases ix_split (sgt33 key) l with g | ⟨A, x, C, rfl, hA, hx⟩
    · refine ⟨l, [], h, fun v hv => ?_, .inr ⟨h, by simp, fun y hy => by rw [← sgt_eq]; exact g y hy, fun y C' e => by cases e⟩⟩
      unfold setL33
      rw [hv, ix_miss _ _ h, if_neg (by decide), ix_miss _ _ g, if_pos (by decide)]
    · refine ⟨A, x :: C, fun y hy => h y (List.mem_append_left _ hy), fun v hv => ?_, .inr ⟨h, rfl, fun y hy => by rw [← sgt_eq]; exact hA y hy, fun y C' e => by injection e with e1 e2; rw [← e1, ← sgt_eq]; exact hx⟩⟩
      unfold setL33
      rw [hv, ix_miss _ _ h, if_neg (by decide), ix_hit _ _ _ _ hA hx, if_neg (by omega)]
      simp
  · refine ⟨A, C, hA, fun v hv => ?_, .inl ⟨x, (seq_iff _ _).1 hx, rfl⟩⟩
    unfold setL33
    rw [hv, ix_hit _ _ _ _ hA hx, if_pos (by omega)]
    simp
theorem set_eq (l : List S33) (a b : ByteArray) (c : Bool) (h : l.length < 3518437208880) : view_Set.f l a b c = some (setL33 l ⟨a, b, c⟩) := by
  unfold view_Set.f api_Write_34.f
  simp [h, show l.length < 3518437208883 by omega]
theorem set_len (l : List S33) (x : S33) : (setL33 l x).length = l.length ∨ (setL33 l x).length = l.length + 1 := by
  obtain ⟨A, C, _, h, h2⟩ := set_shape l x.f0
  rw [h x rfl]
  rcases h2 with ⟨y, _, rfl⟩ | ⟨_, rfl, _⟩
  · left; simp
  · right; simp; omega
theorem set_again (l : List S33) (x y : S33) (he : x.f0 = y.f0) : setL33 (setL33 l x) y = setL33 l y := by
  obtain ⟨A, C, hA, h, _⟩ := set_shape l y.f0
  rw [h x he, h y rfl]
  have hx : seq33 y.f0 x = true := (seq_iff _ _).2 he
  unfold setL33
  rw [ix_hit _ _ _ _ hA hx, if_pos (by omega)]
  simp

/-! #### what is got -/
def getL (l : List S33) (base : List S43) (key : ByteArray) : ByteArray × Bool := match l.find? (seq33 key) with
  | some x => if x.f2 = true then (⟨#[]⟩, false) else (x.f1, true)
  | none => findL base key
theorem getL_hit (A : List S33) (x : S33) (C : List S33) (base : List S43) (key : ByteArray) (hA : ∀ y ∈ A, seq33 key y = false) (hx : seq33 key x = true) :
    getL (A ++ x :: C) base key = if x.f2 = true then (⟨#[]⟩, false) else (x.f1, true) := by
  unfold getL
  rw [List.find?_append, List.find?_eq_none.2 (fun y hy => by simp [hA y hy])]
  simp [List.find?_cons, hx]
theorem getL_miss (l : List S33) (base : List S43) (key : ByteArray) (h : ∀ y ∈ l, seq33 key y = false) : getL l base key = findL base key := by
  unfold getL
  rw [List.find?_eq_none.2 (fun y hy => by simp [h y hy])]
theorem getL_skip (A : List S33) (y : S33) (C : List S33) (base : List S43) (o : ByteArray) (h : seq33 o y = false) : getL (A ++ y :: C) base o = getL (A ++ C) base o := by
  unfold getL
  rw [List.find?_append, List.find?_append, List.find?_cons, h]
theorem seq_ne {k o : ByteArray} (h : k ≠ o) (y : S33) (hy : y.f0 = k) : seq33 o y = false := by
  cases e : seq33 o y with
  | false => rfl
  | true => exact absurd ((seq_iff _ _).1 e) (by rw [hy]; exact h)
theorem get_eq (l : List S33) (base : List S43) (key : ByteArray) (hl : base.length < 4611686018427387904) : view_Get.f l base key = some (getL l base key) := by
  unfold view_Get.f
  rw [seq_geq]
  rcases ix_split (seq33 key) l with h | ⟨A, x, C, rfl, hA, hx⟩
  · rw [ix_miss _ _ h, if_pos (by decide), getL_miss _ _ _ h, find_eq _ _ hl]
  · rw [ix_hit _ _ _ _ hA hx, if_neg (by omega), getL_hit _ _ _ _ _ hA hx, rdW_get _ _ (by simp)]
    simp only [List.getElem_append_right (Nat.le_refl _), Nat.sub_self, List.getElem_cons_zero]
    split <;> rfl
theorem get_set (l : List S33) (x : S33) (base : List S43) (o : ByteArray) (h : x.f0 ≠ o) : getL (setL33 l x) base o = getL l base o := by
  obtain ⟨A, C, hA, hp, hs⟩ := set_shape l x.f0
  rw [hp x rfl, getL_skip _ _ _ _ _ (seq_ne h _ rfl)]
  rcases hs with ⟨y, hy, rfl⟩ | ⟨_, rfl, _⟩
  · rw [getL_skip _ _ _ _ _ (seq_ne h _ hy)]
  · rfl
theorem get_set_own (l : List S33) (x : S33) (base : List S43) : getL (setL33 l x) base x.f0 = if x.f2 = true then (⟨#[]⟩, false) else (x.f1, true) := by
  obtain ⟨A, C, hA, hp, hs⟩ := set_shape l x.f0
  rw [hp x rfl]
  exact getL_hit A x C base x.f0 hA ((seq_iff _ _).2 rfl)

/-! #### rising -/
def risesW : List S33 → Bool
  | [] => true
  | [_] => true
  | x :: y :: r => ltS x.f0 y.f0 && risesW (y :: r)
def SrtW (l : List S33) : Prop := l.Pairwise (fun x y => ltS x.f0 y.f0 = true)
theorem risesW_srt : ∀ l : List S33, risesW l = true ↔ SrtW l
  | [] => ⟨fun _ => List.Pairwise.nil, fun _ => rfl⟩
  | [x] => ⟨fun _ => List.pairwise_singleton _ _, fun _ => rfl⟩
  | x :: y :: r => by
    have ih := risesW_srt (y :: r)
    constructor
    · intro h
      simp only [risesW, Bool.and_eq_true] at h
      have h2 := ih.1 h.2
      refine List.pairwise_cons.2 ⟨fun z hz => ?_, h2⟩
      rcases List.mem_cons.1 hz with rfl | hz
      · exact h.1
      · exact ltS_trans h.1 ((List.pairwise_cons.1 h2).1 z hz)
    · intro h
      have h2 := List.pairwise_cons.1 h
      simp only [risesW, Bool.and_eq_true]
      exact ⟨h2.1 y List.mem_cons_self, ih.2 h2.2⟩
theorem vrises_l0 : ∀ (n : Nat) (l : List S33) (i : Nat), 0 < i → l.length - i ≤ n → l.length < 4611686018427387904 → Ev (fun k => view_Rises.l0 k l (i : Int)) (risesW (l.drop (i - 1))) := by
  intro n
  have fin : ∀ (l : List S33) (i : Nat), 0 < i → ¬ i < l.length → Ev (fun k => view_Rises.l0 k l (i : Int)) (risesW (l.drop (i - 1))) := by
    intro l i h0 hn
    refine Ev.step (f := fun k => some true) (fun k => by simp only [view_Rises.l0]; rw [if_neg (by omega)]) ?_
    have e : risesW (l.drop (i - 1)) = true := by
      have hd : (l.drop (i - 1)).length ≤ 1 := by rw [List.length_drop]; omega
      match h : l.drop (i - 1), hd with
      | [], _ => rfl
      | [_], _ => rfl
    rw [e]
    exact Ev.now _
  induction n with
  | zero => intro l i h0 hn hl; exact fin l i h0 (by omega)
  | succ n ih =>
    intro l i h0 hn hl
    by_cases hi : i < l.length
    · have hw : wrap64 ((i : Int) - 1) = ((i - 1 : Nat) : Int) := by unfold wrap64; omega
      have h1 : i - 1 < l.length := by omega
      have e : risesW (l.drop (i - 1)) = (ltS (l[i - 1]).f0 (l[i]).f0 && risesW (l.drop i)) := by
        rw [List.drop_eq_getElem_cons h1, show i - 1 + 1 = i by omega, List.drop_eq_getElem_cons hi]
        rfl
      refine Ev.step (f := fun k => if ltS (l[i - 1]).f0 (l[i]).f0 = true then view_Rises.l0 k l ((i + 1 : Nat) : Int) else some false) (fun k => ?_) ?_
      · simp only [view_Rises.l0]
        rw [if_pos (by omega), hw, if_pos (by omega), if_pos (by omega), if_pos (by omega), rdW_get _ _ h1, rdW_get _ _ hi, wrap_succ i (by omega)]
        rfl
      · rw [e]
        cases ltS (l[i - 1]).f0 (l[i]).f0 with
        | true =>
          rw [Bool.true_and]
          simp only [if_pos]
          have := ih l (i + 1) (by omega) (by omega) hl
          rwa [Nat.add_sub_cancel] at this
        | false => exact Ev.now _
    · exact fin l i h0 hi
theorem vrises_ev (l : List S33) (hl : l.length < 4611686018427387904) : Ev (fun k => view_Rises.f k l) (risesW l) := vrises_l0 l.length l 1 (by omega) (by omega) hl
theorem srtW_set {l : List S33} (w : S33) (h : SrtW l) : SrtW (setL33 l w) := by
  obtain ⟨A, C, hA, hp, hs⟩ := set_shape l w.f0
  rw [hp w rfl]
  rcases hs with ⟨x, hx, rfl⟩ | ⟨hno, rfl, h1, h2⟩
  · have h3 := List.pairwise_append.1 h
    have h4 := List.pairwise_cons.1 h3.2.1
    refine List.pairwise_append.2 ⟨h3.1, List.pairwise_cons.2 ⟨fun z hz => by have := h4.1 z hz; rw [hx] at this; exact this, h4.2⟩, fun a ha b hb => ?_⟩
    rcases List.mem_cons.1 hb with rfl | hb
    · have := h3.2.2 a ha x List.mem_cons_self
      rw [hx] at this
      exact this
    · exact h3.2.2 a ha b (List.mem_cons_of_mem _ hb)
  · have h3 := List.pairwise_append.1 h
    have hlt : ∀ a ∈ A, ltS a.f0 w.f0 = true := by
      intro a ha
      cases e : ltS a.f0 w.f0 with
      | true => rfl
      | false =>
        have := ltS_total e (h1 a ha)
        have h5 := hno a (List.mem_append_left _ ha)
        rw [(seq_iff w.f0 a).2 this] at h5
        cases h5
    have hgt : ∀ c ∈ C, ltS w.f0 c.f0 = true := by
      intro c hc
      cases C with
      | nil => cases hc
      | cons y C' =>
        have hy := h2 y C' rfl
        rcases List.mem_cons.1 hc with rfl | hc
        · exact hy
        · exact ltS_trans hy ((List.pairwise_cons.1 h3.2.1).1 c hc)
    refine List.pairwise_append.2 ⟨h3.1, List.pairwise_cons.2 ⟨hgt, h3.2.1⟩, fun a ha b hb => ?_⟩
    rcases List.mem_cons.1 hb with rfl | hb
    · exact hlt a ha
    · exact h3.2.2 a ha b hb

/-! #### size -/
def wt (x : S33) : Nat := x.f0.size + x.f1.size
def sumW (l : List S33) : Nat := (l.map wt).sum
theorem sumW_cons (x : S33) (l : List S33) : sumW (x :: l) = wt x + sumW l := by simp [sumW]
theorem sumW_append (a b : List S33) : sumW (a ++ b) = sumW a + sumW b := by simp [sumW]
theorem vsize_l0 : ∀ (n : Nat) (l : List S33) (i : Nat) (s : Nat), l.length - i ≤ n → l.length < 4611686018427387904 → s + sumW (l.drop i) < 4611686018427387904 →
    Ev (fun k => view_Size.l0 k (s : Int) l (l.length : Int) (i : Int)) ((s + sumW (l.drop i) : Nat) : Int) := by
  intro n
  have fin : ∀ (l : List S33) (i : Nat) (s : Nat), ¬ i < l.length → Ev (fun k => view_Size.l0 k (s : Int) l (l.length : Int) (i : Int)) ((s + sumW (l.drop i) : Nat) : Int) := by
    intro l i s hn
    rw [List.drop_of_length_le (by omega)]
    exact Ev.step (f := fun k => some (s : Int)) (fun k => by simp only [view_Size.l0]; rw [if_neg (by omega)]) (Ev.now _)
  induction n with
  | zero => intro l i s hn hl hs; exact fin l i s (by omega)
  | succ n ih =>
    intro l i s hn hl hs
    by_cases hi : i < l.length
    · rw [List.drop_eq_getElem_cons hi, sumW_cons] at hs ⊢
      unfold wt at hs ⊢
      refine Ev.step (f := fun k => view_Size.l0 k ((s + ((l[i]).f0.size + (l[i]).f1.size) : Nat) : Int) l (l.length : Int) ((i + 1 : Nat) : Int)) (fun k => ?_) ?_
      · simp only [view_Size.l0]
        rw [if_pos (by omega), if_pos (by omega), if_pos (by omega), rdW_get _ _ hi, wrap_succ i (by omega)]
        rw [show wrap64 (((l[i]).f0.size : Int) + ((l[i]).f1.size : Int)) = (((l[i]).f0.size + (l[i]).f1.size : Nat) : Int) by unfold wrap64; omega]
        rw [show wrap64 ((s : Int) + (((l[i]).f0.size + (l[i]).f1.size : Nat) : Int)) = ((s + ((l[i]).f0.size + (l[i]).f1.size) : Nat) : Int) by unfold wrap64; omega]
      · have := ih l (i + 1) (s + ((l[i]).f0.size + (l[i]).f1.size)) (by omega) hl (by omega)
        rw [show s + ((l[i]).f0.size + (l[i]).f1.size) + sumW (l.drop (i + 1)) = s + ((l[i]).f0.size + (l[i]).f1.size + sumW (l.drop (i + 1))) by omega] at this
        exact this
    · exact fin l i s hi
theorem vsize_ev (l : List S33) (hl : l.length < 4611686018427387904) (hs : sumW l < 4611686018427387904) : Ev (fun k => view_Size.f k l) ((sumW l : Nat) : Int) := by
  have := vsize_l0 l.length l 0 0 (by omega) hl (by simpa using hs)
  rw [Nat.zero_add, List.drop_zero] at this
  exact this
theorem sumW_set (l : List S33) (x : S33) : sumW (setL33 l x) ≤ sumW l + wt x := by
  obtain ⟨A, C, _, h, h2⟩ := set_shape l x.f0
  rw [h x rfl]
  rcases h2 with ⟨y, _, rfl⟩ | ⟨_, rfl, _⟩ <;> simp only [sumW_append, sumW_cons] <;> omega
/-- What is scanned: the base behind the writes, between two keys. -/
def scanL (w : List S33) (base : List S43) (lo hi : ByteArray) (most : Int) : List S43 := ((w.foldl stepW base).filter (betw lo hi)).take most.toNat
theorem scan_len (w : List S33) (base : List S43) (lo hi : ByteArray) (most : Int) : (scanL w base lo hi most).length ≤ base.length + w.length := by
  unfold scanL
  rw [List.length_take]
  have h1 := List.length_filter_le (betw lo hi) (w.foldl stepW base)
  have h2 := fold_len w base
  omega
theorem scan_ev (w : List S33) (base : List S43) (lo hi : ByteArray) (most : Int) (hl : base.length + w.length < 4398046510900) : Ev (fun k => view_Scan.f k w base lo hi most) (scanL w base lo hi most) := by
  have h2 := fold_len w base
  unfold view_Scan.f
  simp only [apply_eq base w (by omega), Option.bind_some]
  exact Ev.bind (range_ev _ _ _ _ (by omega)) (Ev.now _)
theorem vshown_ev : Ev (fun k => stanchionlaw12_shown.f k) true := Ev.of stanchionlaw12_shown.mono (k := 30) (by decide +kernel)
end Go.Proofs.Ytbkfmicnjnklnaa.PB
