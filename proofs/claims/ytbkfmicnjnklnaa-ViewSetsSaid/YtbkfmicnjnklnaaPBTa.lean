/- What the table functions of the program come to in plain words: strings' order, search, put, drop, writes, range; what keeps a row right. -/
import Derived.Test.YtbkfmicnjnklnaaPBx2
import Derived.Laws.Strings
import Derived.WideShapes
namespace Go.Proofs.Ytbkfmicnjnklnaa.PB
open Go.RowKit Go.Proofs.YtbkfmicnjnklnaaW.PrintWords
set_option linter.unusedVariables false
set_option linter.unusedSimpArgs false

theorem str_data (a : ByteArray) : a.toList = a.data.toList := ByteArray.toList_eq a
theorem str_ext {a b : ByteArray} (h : a.toList = b.toList) : a = b := WideShapes.bytes_inj (by rw [← str_data, ← str_data]; exact h)
theorem str_len (a : ByteArray) : a.toList.length = a.size := by rw [str_data, Array.length_toList]; rfl
theorem bl_irrefl : ∀ x, Op.bytesLess x x = false
  | [] => rfl
  | a :: x => by simp [Op.bytesLess, bl_irrefl x]
theorem bl_trans : ∀ x y z, Op.bytesLess x y = true → Op.bytesLess y z = true → Op.bytesLess x z = true
  | x, [], z, h, _ => by simp [Op.bytesLess] at h
  | x, b :: y, [], _, h => by simp [Op.bytesLess] at h
  | [], b :: y, c :: z, _, _ => rfl
  | a :: x, b :: y, c :: z, h1, h2 => by
    simp only [Op.bytesLess, Bool.or_eq_true, decide_eq_true_eq, Bool.and_eq_true, beq_iff_eq, UInt8.lt_iff_toNat_lt] at h1 h2 ⊢
    rcases h1 with h1 | ⟨rfl, h1⟩
    · rcases h2 with h2 | ⟨rfl, h2⟩
      · exact .inl (by omega)
      · exact .inl h1
    · rcases h2 with h2 | ⟨rfl, h2⟩
      · exact .inl h2
      · exact .inr ⟨rfl, bl_trans x y z h1 h2⟩
theorem bl_total : ∀ x y, Op.bytesLess x y = false → Op.bytesLess y x = false → x = y
  | [], [], _, _ => rfl
  | [], b :: y, h, _ => by simp [Op.bytesLess] at h
  | a :: x, [], _, h => by simp [Op.bytesLess] at h
  | a :: x, b :: y, h1, h2 => by
    simp only [Op.bytesLess, Bool.or_eq_false_iff, decide_eq_false_iff_not, Bool.and_eq_false_iff, beq_eq_false_iff_ne, UInt8.lt_iff_toNat_lt] at h1 h2
    have e : a = b := UInt8.toNat_inj.1 (by omega)
    subst e
    rw [bl_total x y (h1.2.elim (fun h => absurd rfl h) id) (h2.2.elim (fun h => absurd rfl h) id)]
def ltS (a b : ByteArray) : Bool := Op.bytesLess a.toList b.toList
theorem ltS_irrefl (a : ByteArray) : ltS a a = false := bl_irrefl _
theorem ltS_trans {a b c : ByteArray} (h : ltS a b = true) (h2 : ltS b c = true) : ltS a c = true := bl_trans _ _ _ h h2
theorem ltS_total {a b : ByteArray} (h : ltS a b = false) (h2 : ltS b a = false) : a = b := str_ext (bl_total _ _ h h2)
theorem ltS_asymm {a b : ByteArray} (h : ltS a b = true) : ltS b a = false := by
  cases e : ltS b a with
  | false => rfl
  | true => have := ltS_trans h e; rw [ltS_irrefl] at this; cases this
theorem lt_of_le_lt {a b c : ByteArray} (h : ltS b a = false) (h2 : ltS b c = true) : ltS a c = true := by
  cases e : ltS a b with
  | true => exact ltS_trans e h2
  | false => rw [ltS_total e h]; exact h2
theorem lt_of_lt_le {a b c : ByteArray} (h : ltS a b = true) (h2 : ltS c b = false) : ltS a c = true := by
  cases e : ltS b c with
  | true => exact ltS_trans h e
  | false => rw [ltS_total h2 e]; exact h
theorem le_trans {a b c : ByteArray} (h : ltS b a = false) (h2 : ltS c b = false) : ltS c a = false := by
  cases e : ltS c a with
  | false => rfl
  | true => have := lt_of_lt_le e h; rw [h2] at this; cases this
theorem bt_get (a : ByteArray) (i : Nat) (h : i < a.toList.length) : bt a (i : Int) = ((a.toList[i]).toNat : Int) := by
  have h' : i < a.size := by rw [← str_len]; exact h
  unfold bt
  rw [dif_pos (by simpa using h')]
  have : a.toList[i] = a[i] := by
    simp only [str_data]
    rfl
  rw [this]
  rfl
theorem rd_nat (xs : List S43) (i : Nat) : rd_T43 xs (i : Int) = xs.getD i z43 := by simp [rd_T43]
theorem rd_get (xs : List S43) (i : Nat) (h : i < xs.length) : rd_T43 xs (i : Int) = xs[i] := by rw [rd_nat]; simp [List.getD_eq_getElem?_getD, h]
theorem wrap_succ (i : Nat) (h : i < 4611686018427387904) : wrap64 ((i : Int) + 1) = ((i + 1 : Nat) : Int) := by unfold wrap64; omega
def rises : List S43 → Bool
  | [] => true
  | [_] => true
  | x :: y :: r => ltS x.f0 y.f0 && rises (y :: r)
theorem rises_tail {x : S43} {r : List S43} (h : rises (x :: r) = true) : rises r = true := by
  cases r with
  | nil => rfl
  | cons y r => simp only [rises, Bool.and_eq_true] at h; exact h.2
theorem rises_head : ∀ (r : List S43) (x : S43), rises (x :: r) = true → ∀ y ∈ r, ltS x.f0 y.f0 = true
  | [], _, _, y, hy => by cases hy
  | z :: r, x, h, y, hy => by
    simp only [rises, Bool.and_eq_true] at h
    rcases List.mem_cons.1 hy with rfl | hy
    · exact h.1
    · exact ltS_trans h.1 (rises_head r z h.2 y hy)
def betw (lo hi : ByteArray) (x : S43) : Bool := !ltS x.f0 lo && (decide (hi.toList = ([] : List UInt8)) || ltS x.f0 hi)
theorem between_eq (x : S43) (lo hi : ByteArray) : table_Between.f x.f0 lo hi = some (betw lo hi x) := by
  unfold table_Between.f betw ltS
  by_cases h : Op.bytesLess x.f0.toList lo.toList = true
  · rw [if_pos h, h]; rfl
  · rw [if_neg h]
    have h' : Op.bytesLess x.f0.toList lo.toList = false := by simpa using h
    rw [h']
    by_cases e : hi.toList = ([] : List UInt8)
    · rw [if_pos e]; simp [e]
    · rw [if_neg e]; simp [e]
theorem range_l0 (lo hi : ByteArray) (most : Int) : ∀ (n : Nat) (l : List S43) (i : Nat) (out : List S43), l.length - i ≤ n → out.length ≤ i → l.length < 4398046511104 →
    Ev (fun k => table_Range.l0 k lo hi most out l (l.length : Int) (i : Int)) (out ++ ((l.drop i).filter (betw lo hi)).take (most - out.length).toNat) := by
  intro n
  induction n with
  | zero =>
    intro l i out hn ho hl
    refine Ev.step (f := fun k => some out) (fun k => by simp only [table_Range.l0]; rw [if_neg (by omega)]) ?_
    rw [List.drop_of_length_le (by omega)]
    simp only [List.filter_nil, List.take_nil, List.append_nil]
    exact Ev.now _
  | succ n ih =>
    intro l i out hn ho hl
    rcases Nat.lt_or_ge i l.length with hi' | hi'
    · by_cases hm : (out.length : Int) ≥ most
      · refine Ev.step (f := fun k => some out) (fun k => by simp only [table_Range.l0]; rw [if_pos (by omega), if_pos (by omega), if_pos (by omega), if_pos hm]) ?_
        rw [show (most - out.length).toNat = 0 by omega, List.take_zero, List.append_nil]
        exact Ev.now _
      · rw [List.drop_eq_getElem_cons hi', List.filter_cons]
        cases hb : betw lo hi l[i] with
        | true =>
          refine Ev.step (f := fun k => table_Range.l0 k lo hi most (out ++ [l[i]]) l (l.length : Int) ((i + 1 : Nat) : Int)) (fun k => ?_) ?_
          · simp only [table_Range.l0]
            rw [if_pos (by omega), if_pos (by omega), if_pos (by omega), if_neg hm, rd_get _ _ hi', between_eq, Option.bind_some, hb, if_pos rfl, if_pos (by omega), wrap_succ i (by omega)]
          · have := ih l (i + 1) (out ++ [l[i]]) (by omega) (by simp; omega) hl
            rw [if_pos rfl, show (most - out.length).toNat = (most - (out ++ [l[i]]).length).toNat + 1 by simp; omega, List.take_succ_cons]
            rw [List.append_assoc] at this
            exact this
        | false =>
          refine Ev.step (f := fun k => table_Range.l0 k lo hi most out l (l.length : Int) ((i + 1 : Nat) : Int)) (fun k => ?_) ?_
          · simp only [table_Range.l0]
            rw [if_pos (by omega), if_pos (by omega), if_pos (by omega), if_neg hm, rd_get _ _ hi', between_eq, Option.bind_some, hb, if_neg (by decide), wrap_succ i (by omega)]
          · rw [if_neg (by decide)]
            exact ih l (i + 1) out (by omega) (by omega) hl
    · refine Ev.step (f := fun k => some out) (fun k => by simp only [table_Range.l0]; rw [if_neg (by omega)]) ?_
      rw [List.drop_of_length_le (by omega)]
      simp only [List.filter_nil, List.take_nil, List.append_nil]
      exact Ev.now _
theorem range_ev (l : List S43) (lo hi : ByteArray) (most : Int) (hl : l.length < 4398046511104) : Ev (fun k => table_Range.f k l lo hi most) ((l.filter (betw lo hi)).take most.toNat) := by
  have := range_l0 lo hi most l.length l 0 [] (by omega) (by simp) hl
  simp only [List.length_nil, List.nil_append, List.drop_zero] at this
  rw [show (most - ((0 : Nat) : Int)).toNat = most.toNat by omega] at this
  exact this
theorem range_all (l : List S43) (lo hi : ByteArray) (hl : l.length < 4398046511104) : Ev (fun k => table_Range.f k l lo hi (l.length : Int)) (l.filter (betw lo hi)) := by
  have := range_ev l lo hi (l.length : Int) hl
  rw [Int.toNat_natCast, List.take_of_length_le (List.length_filter_le _ _)] at this
  exact this
theorem ix_hit {α : Type} (p : α → Bool) (A : List α) (x : α) (C : List α) (hA : ∀ y ∈ A, p y = false) (hx : p x = true) : ixOf p (A ++ x :: C) = (A.length : Int) := by
  have e : (A ++ x :: C).findIdx p = A.length := by
    rw [List.findIdx_append, if_neg]
    · simp [List.findIdx_cons, hx]
    · rw [List.findIdx_lt_length]
      rintro ⟨y, hy, hp⟩
      rw [hA y hy] at hp; cases hp
  unfold ixOf
  rw [e, if_pos (by simp)]
theorem ix_miss {α : Type} (p : α → Bool) (l : List α) (h : ∀ y ∈ l, p y = false) : ixOf p l = -1 := by
  unfold ixOf
  rw [if_neg]
  rw [List.findIdx_lt_length]
  rintro ⟨y, hy, hp⟩
  rw [h y hy] at hp; cases hp
theorem ix_split {α : Type} (p : α → Bool) : ∀ l : List α, (∀ y ∈ l, p y = false) ∨ ∃ A x C, l = A ++ x :: C ∧ (∀ y ∈ A, p y = false) ∧ p x = true
  | [] => .inl (fun y hy => by cases hy)
  | x :: l => by
    cases hx : p x with
    | true => exact .inr ⟨[], x, l, rfl, (fun y hy => by cases hy), hx⟩
    | false =>
      rcases ix_split p l with h | ⟨A, y, C, rfl, hA, hy⟩
      · exact .inl (fun y hy => (List.mem_cons.1 hy).elim (fun e => e ▸ hx) (h y))
      · exact .inr ⟨x :: A, y, C, rfl, fun z hz => (List.mem_cons.1 hz).elim (fun e => e ▸ hx) (hA z), hy⟩
theorem eqK_iff (key : ByteArray) (x : S43) : eqK43 key x = true ↔ x.f0 = key := by
  unfold eqK43
  rw [beq_iff_eq]
  exact ⟨str_ext, fun h => by rw [h]⟩
theorem gtK_eq (key : ByteArray) (x : S43) : gtK43 key x = ltS key x.f0 := by
  unfold gtK43
  cases e : ltS key x.f0 with
  | true =>
    have h1 : Op.bytesLess x.f0.toList key.toList = false := ltS_asymm e
    have h2 : (x.f0.toList == key.toList) = false := by
      rw [beq_eq_false_iff_ne]
      intro h
      rw [str_ext h, ltS_irrefl] at e
      cases e
    rw [h1, h2]; rfl
  | false =>
    cases e2 : Op.bytesLess x.f0.toList key.toList with
    | true => rfl
    | false =>
      rw [show x.f0 = key from ltS_total e2 e]
      simp
/-- Where a put lays its pair: the same place, whatever the value. -/
theorem put_shape (l : List S43) (key : ByteArray) : ∃ A C, (∀ y ∈ A, eqK43 key y = false) ∧ (∀ v, putL43 l key v = A ++ ⟨key, v⟩ :: C) ∧
    ((∃ x, x.f0 = key ∧ l = A ++ x :: C) ∨ ((∀ y ∈ l, eqK43 key y = false) ∧ l = A ++ C ∧ (∀ y ∈ A, ltS key y.f0 = false) ∧ ∀ y C', C = y :: C' → ltS key y.f0 = true)) := by
  rcases ix_split (eqK43 key) l with h | ⟨A, x, C, rfl, hA, hx⟩
  · rcases ix_split (gtK43 key) l with g | ⟨A, x, C, rfl, hA, hx⟩
    · refine ⟨l, [], h, fun v => ?_, .inr ⟨h, by simp, fun y hy => by rw [← gtK_eq]; exact g y hy, fun y C' e => by cases e⟩⟩
      unfold putL43
      rw [ix_miss _ _ h, if_neg (by decide), ix_miss _ _ g, if_pos (by decide)]
    · refine ⟨A, x :: C, fun y hy => h y (List.mem_append_left _ hy), fun v => ?_, .inr ⟨h, rfl, fun y hy => by rw [← gtK_eq]; exact hA y hy, fun y C' e => by injection e with e1 e2; rw [← e1, ← gtK_eq]; exact hx⟩⟩
      unfold putL43
      rw [ix_miss _ _ h, if_neg (by decide), ix_hit _ _ _ _ hA hx, if_neg (by omega)]
      simp
  · refine ⟨A, C, hA, fun v => ?_, .inl ⟨x, (eqK_iff _ _).1 hx, rfl⟩⟩
    unfold putL43
    rw [ix_hit _ _ _ _ hA hx, if_pos (by omega)]
    simp
theorem put_eq (l : List S43) (a b : ByteArray) (h : l.length < 4398046511104) : table_Put.f l a b = some (putL43 l a b) := by
  unfold table_Put.f api_Pair_41.f
  simp [h]
theorem put_len (l : List S43) (a b : ByteArray) : (putL43 l a b).length ≤ l.length + 1 := by
  obtain ⟨A, C, _, h, h2⟩ := put_shape l a
  rw [h b]
  rcases h2 with ⟨x, _, rfl⟩ | ⟨_, rfl, _⟩ <;> simp <;> omega
theorem put_again (l : List S43) (k a b : ByteArray) : putL43 (putL43 l k a) k b = putL43 l k b := by
  obtain ⟨A, C, hA, h, _⟩ := put_shape l k
  rw [h a, h b]
  have hx : eqK43 k ⟨k, a⟩ = true := (eqK_iff _ _).2 rfl
  unfold putL43
  rw [ix_hit _ _ _ _ hA hx, if_pos (by omega)]
  simp
def findL (l : List S43) (key : ByteArray) : ByteArray × Bool := match l.find? (eqK43 key) with
  | some x => (x.f1, true)
  | none => (⟨#[]⟩, false)
theorem findL_hit (A : List S43) (x : S43) (C : List S43) (key : ByteArray) (hA : ∀ y ∈ A, eqK43 key y = false) (hx : eqK43 key x = true) : findL (A ++ x :: C) key = (x.f1, true) := by
  unfold findL
  rw [List.find?_append, List.find?_eq_none.2 (fun y hy => by simp [hA y hy])]
  simp [List.find?_cons, hx]
theorem findL_miss (l : List S43) (key : ByteArray) (h : ∀ y ∈ l, eqK43 key y = false) : findL l key = (⟨#[]⟩, false) := by
  unfold findL
  rw [List.find?_eq_none.2 (fun y hy => by simp [h y hy])]
theorem find_eq (l : List S43) (key : ByteArray) (hl : l.length < 4611686018427387904) : table_Find.f l key = some (findL l key) := by
  have e0 : (fun x : S43 => x.f0.toList == key.toList) = eqK43 key := rfl
  unfold table_Find.f table_at.f
  rw [e0, Option.bind_some]
  rcases ix_split (eqK43 key) l with h | ⟨A, x, C, rfl, hA, hx⟩
  · rw [ix_miss _ _ h, if_pos (by decide), findL_miss _ _ h]
  · rw [ix_hit _ _ _ _ hA hx, if_neg (by omega), if_pos (by omega), if_pos (by simp; omega), findL_hit _ _ _ _ hA hx, rd_get _ _ (by simp)]
    simp
theorem drop_eq (l : List S43) (a : ByteArray) (h : l.length < 4398046511104) : table_Drop.f l a = some (dropL43 l a) := by
  unfold table_Drop.f api_Pair_41.f
  simp [h]
theorem drop_len (l : List S43) (a : ByteArray) : (dropL43 l a).length ≤ l.length := List.length_filter_le _ _
def stepW (l : List S43) (x : S33) : List S43 := if x.f2 = true then dropL43 l x.f0 else putL43 l x.f0 x.f1
theorem stepW_len (l : List S43) (x : S33) : (stepW l x).length ≤ l.length + 1 := by
  unfold stepW
  split
  · have := drop_len l x.f0; omega
  · exact put_len _ _ _
theorem step_eq (l : List S43) (x : S33) (h : l.length < 4398046511104) : (if x.f2 = true then table_Drop.f l x.f0 else table_Put.f l x.f0 x.f1) = some (stepW l x) := by
  unfold stepW
  split
  · exact drop_eq _ _ h
  · exact put_eq _ _ _ h
theorem applyF_eq : ∀ (ws : List S33) (l : List S43), l.length + ws.length < 4398046511104 → applyF43 l ws = some (ws.foldl stepW l)
  | [], l, _ => rfl
  | x :: ws, l, h => by
    have hs := stepW_len l x
    rw [List.length_cons] at h
    unfold applyF43
    rw [step_eq l x (by omega), Option.bind_some, applyF_eq ws (stepW l x) (by omega)]
    rfl
theorem apply_eq (l : List S43) (ws : List S33) (h : l.length + ws.length < 4398046511104) : table_Apply.f l ws = some (ws.foldl stepW l) := by
  unfold table_Apply.f api_Pair_41.f
  simp [show l.length < 4398046511104 by omega, applyF_eq ws l h]
theorem fold_len : ∀ (ws : List S33) (l : List S43), (ws.foldl stepW l).length ≤ l.length + ws.length
  | [], l => by simp
  | x :: ws, l => by
    have h1 := fold_len ws (stepW l x)
    have h2 := stepW_len l x
    simp only [List.foldl_cons, List.length_cons]
    omega
theorem findL_skip (A : List S43) (y : S43) (C : List S43) (o : ByteArray) (h : eqK43 o y = false) : findL (A ++ y :: C) o = findL (A ++ C) o := by
  unfold findL
  rw [List.find?_append, List.find?_append, List.find?_cons, h]
theorem eqK_ne {k o : ByteArray} (h : k ≠ o) (y : S43) (hy : y.f0 = k) : eqK43 o y = false := by
  cases e : eqK43 o y with
  | false => rfl
  | true => exact absurd ((eqK_iff _ _).1 e) (by rw [hy]; exact h)
theorem find_put (l : List S43) (k v o : ByteArray) (h : k ≠ o) : findL (putL43 l k v) o = findL l o := by
  obtain ⟨A, C, hA, hp, hs⟩ := put_shape l k
  rw [hp v, findL_skip _ _ _ _ (eqK_ne h _ rfl)]
  rcases hs with ⟨x, hx, rfl⟩ | ⟨_, rfl, _⟩
  · rw [findL_skip _ _ _ _ (eqK_ne h _ hx)]
  · rfl
theorem find_put_own (l : List S43) (k v : ByteArray) : findL (putL43 l k v) k = (v, true) := by
  obtain ⟨A, C, hA, hp, hs⟩ := put_shape l k
  rw [hp v]
  exact findL_hit A ⟨k, v⟩ C k hA ((eqK_iff _ _).2 rfl)
theorem find_drop (k o : ByteArray) (h : k ≠ o) : ∀ l : List S43, findL (dropL43 l k) o = findL l o
  | [] => rfl
  | x :: l => by
    have ih := find_drop k o h l
    unfold dropL43 at ih ⊢
    rw [List.filter_cons]
    cases e : eqK43 k x with
    | true =>
      rw [if_neg (by decide), ih]
      exact (findL_skip [] x l o (eqK_ne h _ ((eqK_iff _ _).1 e))).symm
    | false =>
      rw [if_pos (by decide)]
      unfold findL at ih ⊢
      rw [List.find?_cons, List.find?_cons]
      cases eqK43 o x with
      | true => rfl
      | false => exact ih
theorem find_drop_own (l : List S43) (k : ByteArray) : findL (dropL43 l k) k = (⟨#[]⟩, false) := by
  refine findL_miss _ _ (fun y hy => ?_)
  have := (List.mem_filter.1 hy).2
  simpa using this
def Srt (l : List S43) : Prop := l.Pairwise (fun x y => ltS x.f0 y.f0 = true)
theorem rises_srt : ∀ l : List S43, rises l = true ↔ Srt l
  | [] => ⟨fun _ => List.Pairwise.nil, fun _ => rfl⟩
  | [x] => ⟨fun _ => List.pairwise_singleton _ _, fun _ => rfl⟩
  | x :: y :: r => by
    constructor
    · intro h
      refine List.pairwise_cons.2 ⟨fun z hz => rises_head _ _ h z hz, (rises_srt (y :: r)).1 (rises_tail h)⟩
    · intro h
      have h2 := List.pairwise_cons.1 h
      simp only [rises, Bool.and_eq_true]
      exact ⟨h2.1 y List.mem_cons_self, (rises_srt (y :: r)).2 h2.2⟩
theorem srt_filter {l : List S43} (p : S43 → Bool) (h : Srt l) : Srt (l.filter p) := List.Pairwise.filter p h
theorem srt_put {l : List S43} (k v : ByteArray) (h : Srt l) : Srt (putL43 l k v) := by
  obtain ⟨A, C, hA, hp, hs⟩ := put_shape l k
  rw [hp v]
  rcases hs with ⟨x, hx, rfl⟩ | ⟨hno, rfl, h1, h2⟩
  · have h3 := List.pairwise_append.1 h
    have h4 := List.pairwise_cons.1 h3.2.1
    refine List.pairwise_append.2 ⟨h3.1, List.pairwise_cons.2 ⟨fun z hz => by have := h4.1 z hz; rw [hx] at this; exact this, h4.2⟩, fun a ha b hb => ?_⟩
    rcases List.mem_cons.1 hb with rfl | hb
    · have := h3.2.2 a ha x List.mem_cons_self
      rw [hx] at this
      exact this
    · exact h3.2.2 a ha b (List.mem_cons_of_mem _ hb)
  · have h3 := List.pairwise_append.1 h
    have hlt : ∀ a ∈ A, ltS a.f0 k = true := by
      intro a ha
      cases e : ltS a.f0 k with
      | true => rfl
      | false =>
        have := ltS_total e (h1 a ha)
        have h5 := hno a (List.mem_append_left _ ha)
        rw [(eqK_iff k a).2 this] at h5
        cases h5
    have hgt : ∀ c ∈ C, ltS k c.f0 = true := by
      intro c hc
      cases C with
      | nil => cases hc
      | cons y C' =>
        have hy := h2 y C' rfl
        rcases List.mem_cons.1 hc with rfl | hc
        · exact hy
        · exact ltS_trans hy ((List.pairwise_cons.1 h3.2.1).1 c hc)
    refine List.pairwise_append.2 ⟨h3.1, List.pairwise_cons.2 ⟨hgt, h3.2.1⟩, fun a ha b hb => ?_⟩
    rcases List.mem_cons.1 hb with rfl | hb
    · exact hlt a ha
    · exact h3.2.2 a ha b hb
theorem srt_fold : ∀ (ws : List S33) (l : List S43), Srt l → Srt (ws.foldl stepW l)
  | [], l, h => h
  | x :: ws, l, h => by
    refine srt_fold ws (stepW l x) ?_
    unfold stepW
    split
    · exact srt_filter _ h
    · exact srt_put _ _ h
theorem size_put {l : List S43} {k v : ByteArray} {B : Nat} (h : ∀ x ∈ l, x.f0.size < B) (hk : k.size < B) : ∀ x ∈ putL43 l k v, x.f0.size < B := by
  obtain ⟨A, C, hA, hp, hs⟩ := put_shape l k
  rw [hp v]
  intro x hx
  rcases List.mem_append.1 hx with hx | hx
  · refine h x ?_
    rcases hs with ⟨y, _, rfl⟩ | ⟨_, rfl, _⟩
    · exact List.mem_append_left _ hx
    · exact List.mem_append_left _ hx
  · rcases List.mem_cons.1 hx with rfl | hx
    · exact hk
    · refine h x ?_
      rcases hs with ⟨y, _, rfl⟩ | ⟨_, rfl, _⟩
      · exact List.mem_append_right _ (List.mem_cons_of_mem _ hx)
      · exact List.mem_append_right _ hx
theorem size_fold {B : Nat} : ∀ (ws : List S33) (l : List S43), (∀ x ∈ l, x.f0.size < B) → (∀ x ∈ ws, x.f0.size < B) → ∀ x ∈ ws.foldl stepW l, x.f0.size < B
  | [], l, h, _ => h
  | w :: ws, l, h, hw => by
    refine size_fold ws (stepW l w) ?_ (fun x hx => hw x (List.mem_cons_of_mem _ hx))
    unfold stepW
    split
    · intro x hx; exact h x (List.mem_filter.1 hx).1
    · exact size_put h (hw w List.mem_cons_self)
theorem sum_len {α : Type} (b : α → Nat) (h : ∀ x, 1 ≤ b x) : ∀ l : List α, l.length ≤ (l.map b).sum
  | [] => Nat.le_refl _
  | x :: l => by
    have := sum_len b h l
    have := h x
    simp only [List.length_cons, List.map_cons, List.sum_cons]
    omega
end Go.Proofs.Ytbkfmicnjnklnaa.PB
