/- What the table functions of the program come to in plain words: strings' order, search, put, drop, writes, range; what keeps a row right. -/
import Derived.Test.YtbhkopbalhhpgaaPMx3
import Derived.Test.YtbhkopbalhhpgaaPMx4
import Derived.Laws.Strings
import Derived.WideShapes
namespace Go.Proofs.Ytbhkopbalhhpgaa.PM
open Go.RowKit Go.Proofs.YtbhkopbalhhpgaaW.PrintWords
set_option linter.unusedVariables false
set_option linter.unusedSimpArgs false

theorem str_data (a : ByteArray) : a.toList = a.data.toList := ByteArray.toList_eq a
theorem str_ext {a b : ByteArray} (h : a.toList = b.toList) : a = b := WideShapes.bytes_inj (by rw [← str_data, ← str_data]; exact h)
theorem str_len (a : ByteArray) : a.toList.length = a.size := by rw [str_data, Array.length_toList]; rfl
theorem bl_irrefl : ∀ x, Op.bytesLess x x = false
  | [] => rfl
  | a :: x => by simp [Op.bytesLess, bl_irrefl x]
theorem bl_trans : ∀ x y z, Op.bytesLess x y = true → Op.bytesLess y z = true → Op.bytesLess x z = true
  | x, [], z, h, _ => by simp [Op.bytesLess] at h
  | x, b :: y, [], _, h => by simp [Op.bytesLess] at h
  | [], b :: y, c :: z, _, _ => rfl
  | a :: x, b :: y, c :: z, h1, h2 => by
    simp only [Op.bytesLess, Bool.or_eq_true, decide_eq_true_eq, Bool.and_eq_true, beq_iff_eq, UInt8.lt_iff_toNat_lt] at h1 h2 ⊢
    rcases h1 with h1 | ⟨rfl, h1⟩
    · rcases h2 with h2 | ⟨rfl, h2⟩
      · exact .inl (by omega)
      · exact .inl h1
    · rcases h2 with h2 | ⟨rfl, h2⟩
      · exact .inl h2
      · exact .inr ⟨rfl, bl_trans x y z h1 h2⟩
theorem bl_total : ∀ x y, Op.bytesLess x y = false → Op.bytesLess y x = false → x = y
  | [], [], _, _ => rfl
  | [], b :: y, h, _ => by simp [Op.bytesLess] at h
  | a :: x, [], _, h => by simp [Op.bytesLess] at h
  | a :: x, b :: y, h1, h2 => by
    simp only [Op.bytesLess, Bool.or_eq_false_iff, decide_eq_false_iff_not, Bool.and_eq_false_iff, beq_eq_false_iff_ne, UInt8.lt_iff_toNat_lt] at h1 h2
    have e : a = b := UInt8.toNat_inj.1 (by omega)
    subst e
    rw [bl_total x y (h1.2.elim (fun h => absurd rfl h) id) (h2.2.elim (fun h => absurd rfl h) id)]
def ltS (a b : ByteArray) : Bool := Op.bytesLess a.toList b.toList
theorem ltS_irrefl (a : ByteArray) : ltS a a = false := bl_irrefl _
theorem ltS_trans {a b c : ByteArray} (h : ltS a b = true) (h2 : ltS b c = true) : ltS a c = true := bl_trans _ _ _ h h2
theorem ltS_total {a b : ByteArray} (h : ltS a b = false) (h2 : ltS b a = false) : a = b := str_ext (bl_total _ _ h h2)
theorem ltS_asymm {a b : ByteArray} (h : ltS a b = true) : ltS b a = false := by
  cases e : ltS b a with
  | false => rfl
  | true => have := ltS_trans h e; rw [ltS_irrefl] at this; cases this
theorem lt_of_lt_le {a b c : ByteArray} (h : ltS a b = true) (h2 : ltS c b = false) : ltS a c = true := by
  cases e : ltS b c with
  | true => exact ltS_trans h e
  | false => rw [ltS_total h2 e]; exact h
theorem le_trans {a b c : ByteArray} (h : ltS b a = false) (h2 : ltS c b = false) : ltS c a = false := by
  cases e : ltS c a with
  | false => rfl
  | true => have := lt_of_lt_le e h; rw [h2] at this; cases this
theorem bt_get (a : ByteArray) (i : Nat) (h : i < a.toList.length) : bt a (i : Int) = ((a.toList[i]).toNat : Int) := by
  have h' : i < a.size := by rw [← str_len]; exact h
  unfold bt
  rw [dif_pos (by simpa using h')]
  have : a.toList[i] = a[i] := by
    simp only [str_data]
    rfl
  rw [this]
  rfl
theorem rd_nat (xs : List S62) (i : Nat) : rd_T62 xs (i : Int) = xs.getD i z62 := by simp [rd_T62]
theorem rd_get (xs : List S62) (i : Nat) (h : i < xs.length) : rd_T62 xs (i : Int) = xs[i] := by rw [rd_nat]; simp [List.getD_eq_getElem?_getD, h]
theorem wrap_succ (i : Nat) (h : i < 4611686018427387904) : wrap64 ((i : Int) + 1) = ((i + 1 : Nat) : Int) := by unfold wrap64; omega
def rises : List S62 → Bool
  | [] => true
  | [_] => true
  | x :: y :: r => ltS x.f0 y.f0 && rises (y :: r)
theorem ix_hit {α : Type} (p : α → Bool) (A : List α) (x : α) (C : List α) (hA : ∀ y ∈ A, p y = false) (hx : p x = true) : ixOf p (A ++ x :: C) = (A.length : Int) := by
  have e : (A ++ x :: C).findIdx p = A.length := by
    rw [List.findIdx_append, if_neg]
    · simp [List.findIdx_cons, hx]
    · rw [List.findIdx_lt_length]
      rintro ⟨y, hy, hp⟩
      rw [hA y hy] at hp; cases hp
  unfold ixOf
  rw [e, if_pos (by simp)]
theorem ix_miss {α : Type} (p : α → Bool) (l : List α) (h : ∀ y ∈ l, p y = false) : ixOf p l = -1 := by
  unfold ixOf
  rw [if_neg]
  rw [List.findIdx_lt_length]
  rintro ⟨y, hy, hp⟩
  rw [h y hy] at hp; cases hp
theorem ix_split {α : Type} (p : α → Bool) : ∀ l : List α, (∀ y ∈ l, p y = false) ∨ ∃ A x C, l = A ++ x :: C ∧ (∀ y ∈ A, p y = false) ∧ p x = true
  | [] => .inl (fun y hy => by cases hy)
  | x :: l => by
    cases hx : p x with
    | true => exact .inr ⟨[], x, l, rfl, (fun y hy => by cases hy), hx⟩
    | false =>
      rcases ix_split p l with h | ⟨A, y, C, rfl, hA, hy⟩
      · exact .inl (fun y hy => (List.mem_cons.1 hy).elim (fun e => e ▸ hx) (h y))
      · exact .inr ⟨x :: A, y, C, rfl, fun z hz => (List.mem_cons.1 hz).elim (fun e => e ▸ hx) (hA z), hy⟩
theorem eqK_iff (key : ByteArray) (x : S62) : eqK62 key x = true ↔ x.f0 = key := by
  unfold eqK62
  rw [beq_iff_eq]
  exact ⟨str_ext, fun h => by rw [h]⟩
theorem gtK_eq (key : ByteArray) (x : S62) : gtK62 key x = ltS key x.f0 := by
  unfold gtK62
  cases e : ltS key x.f0 with
  | true =>
    have h1 : Op.bytesLess x.f0.toList key.toList = false := ltS_asymm e
    have h2 : (x.f0.toList == key.toList) = false := by
      rw [beq_eq_false_iff_ne]
      intro h
      rw [str_ext h, ltS_irrefl] at e
      cases e
    rw [h1, h2]; rfl
  | false =>
    cases e2 : Op.bytesLess x.f0.toList key.toList with
    | true => rfl
    | false =>
      rw [show x.f0 = key from ltS_total e2 e]
      simp
/-- Where a put lays its pair: the same place, whatever the value. -/
theorem put_shape (l : List S62) (key : ByteArray) : ∃ A C, (∀ y ∈ A, eqK62 key y = false) ∧ (∀ v, putL62 l key v = A ++ ⟨key, v⟩ :: C) ∧
    ((∃ x, x.f0 = key ∧ l = A ++ x :: C) ∨ ((∀ y ∈ l, eqK62 key y = false) ∧ l = A ++ C ∧ (∀ y ∈ A, ltS key y.f0 = false) ∧ ∀ y C', C = y :: C' → ltS key y.f0 = true)) := by
  rcases ix_split (eqK62 key) l with h | ⟨A, x, C, rfl, hA, hx⟩
  · rcases ix_split (gtK62 key) l with g | ⟨A, x, C, rfl, hA, hx⟩
    · refine ⟨l, [], h, fun v => ?_, .inr ⟨h, by simp, fun y hy => by rw [← gtK_eq]; exact g y hy, fun y C' e => by cases e⟩⟩
      unfold putL62
      rw [ix_miss _ _ h, if_neg (by decide), ix_miss _ _ g, if_pos (by decide)]
    · refine ⟨A, x :: C, fun y hy => h y (List.mem_append_left _ hy), fun v => ?_, .inr ⟨h, rfl, fun y hy => by rw [← gtK_eq]; exact hA y hy, fun y C' e => by injection e with e1 e2; rw [← e1, ← gtK_eq]; exact hx⟩⟩
      unfold putL62
      rw [ix_miss _ _ h, if_neg (by decide), ix_hit _ _ _ _ hA hx, if_neg (by omega)]
      simp
  · refine ⟨A, C, hA, fun v => ?_, .inl ⟨x, (eqK_iff _ _).1 hx, rfl⟩⟩
    unfold putL62
    rw [ix_hit _ _ _ _ hA hx, if_pos (by omega)]
    simp
theorem put_eq (l : List S62) (a b : ByteArray) (h : l.length < 4398046511104) : table_Put.f l a b = some (putL62 l a b) := by
  unfold table_Put.f api_Pair_82.f
  simp [h]
theorem put_len (l : List S62) (a b : ByteArray) : (putL62 l a b).length ≤ l.length + 1 := by
  obtain ⟨A, C, _, h, h2⟩ := put_shape l a
  rw [h b]
  rcases h2 with ⟨x, _, rfl⟩ | ⟨_, rfl, _⟩ <;> simp <;> omega
def findL (l : List S62) (key : ByteArray) : ByteArray × Bool := match l.find? (eqK62 key) with
  | some x => (x.f1, true)
  | none => (⟨#[]⟩, false)
theorem findL_hit (A : List S62) (x : S62) (C : List S62) (key : ByteArray) (hA : ∀ y ∈ A, eqK62 key y = false) (hx : eqK62 key x = true) : findL (A ++ x :: C) key = (x.f1, true) := by
  unfold findL
  rw [List.find?_append, List.find?_eq_none.2 (fun y hy => by simp [hA y hy])]
  simp [List.find?_cons, hx]
theorem findL_miss (l : List S62) (key : ByteArray) (h : ∀ y ∈ l, eqK62 key y = false) : findL l key = (⟨#[]⟩, false) := by
  unfold findL
  rw [List.find?_eq_none.2 (fun y hy => by simp [h y hy])]
theorem drop_eq (l : List S62) (a : ByteArray) (h : l.length < 4398046511104) : table_Drop.f l a = some (dropL62 l a) := by
  unfold table_Drop.f api_Pair_82.f
  simp [h]
theorem drop_len (l : List S62) (a : ByteArray) : (dropL62 l a).length ≤ l.length := List.length_filter_le _ _
def stepW (l : List S62) (x : S57) : List S62 := if x.f2 = true then dropL62 l x.f0 else putL62 l x.f0 x.f1
theorem stepW_len (l : List S62) (x : S57) : (stepW l x).length ≤ l.length + 1 := by
  unfold stepW
  split
  · have := drop_len l x.f0; omega
  · exact put_len _ _ _
theorem step_eq (l : List S62) (x : S57) (h : l.length < 4398046511104) : (if x.f2 = true then table_Drop.f l x.f0 else table_Put.f l x.f0 x.f1) = some (stepW l x) := by
  unfold stepW
  split
  · exact drop_eq _ _ h
  · exact put_eq _ _ _ h
theorem applyF_eq : ∀ (ws : List S57) (l : List S62), l.length + ws.length < 4398046511104 → applyF62 l ws = some (ws.foldl stepW l)
  | [], l, _ => rfl
  | x :: ws, l, h => by
    have hs := stepW_len l x
    rw [List.length_cons] at h
    unfold applyF62
    rw [step_eq l x (by omega), Option.bind_some, applyF_eq ws (stepW l x) (by omega)]
    rfl
theorem apply_eq (l : List S62) (ws : List S57) (h : l.length + ws.length < 4398046511104) : table_Apply.f l ws = some (ws.foldl stepW l) := by
  unfold table_Apply.f api_Pair_82.f
  simp [show l.length < 4398046511104 by omega, applyF_eq ws l h]
theorem fold_len : ∀ (ws : List S57) (l : List S62), (ws.foldl stepW l).length ≤ l.length + ws.length
  | [], l => by simp
  | x :: ws, l => by
    have h1 := fold_len ws (stepW l x)
    have h2 := stepW_len l x
    simp only [List.foldl_cons, List.length_cons]
    omega
end Go.Proofs.Ytbhkopbalhhpgaa.PM
