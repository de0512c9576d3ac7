/- What the view's functions of the program come to in plain words: set, get, size, rising. -/
import Derived.Test.YtlacmlceedkfoaaPETa
namespace Go.Proofs.Ytlacmlceedkfoaa.PE
open Go.RowKit Go.Proofs.YtlacmlceedkfoaaW.PrintWords
set_option linter.unusedVariables false
set_option linter.unusedSimpArgs false

theorem rdW_nat (xs : List S61) (i : Nat) : rd_T61 xs (i : Int) = xs.getD i z61 := by simp [rd_T61]
theorem rdW_get (xs : List S61) (i : Nat) (h : i < xs.length) : rd_T61 xs (i : Int) = xs[i] := by rw [rdW_nat]; simp [List.getD_eq_getElem?_getD, h]
theorem seq_iff (key : ByteArray) (x : S61) : seq61 key x = true ↔ x.f0 = key := by
  unfold seq61
  rw [beq_iff_eq]
  exact ⟨str_ext, fun h => by rw [h]⟩
theorem seq_geq (key : ByteArray) : geq61 key = seq61 key := rfl
theorem sgt_eq (key : ByteArray) (x : S61) : sgt61 key x = ltS key x.f0 := by
  unfold sgt61
  cases e : ltS key x.f0 with
  | true =>
    have h1 : Op.bytesLess x.f0.toList key.toList = false := ltS_asymm e
    have h2 : (x.f0.toList == key.toList) = false := by
      rw [beq_eq_false_iff_ne]
      intro h
      rw [str_ext h, ltS_irrefl] at e
      cases e
    rw [h1, h2]; rfl
  | false =>
    cases e2 : Op.bytesLess x.f0.toList key.toList with
    | true => rfl
    | false =>
      rw [show x.f0 = key from ltS_total e2 e]
      simp
/-- Where a set lays its write: the same place for all writes of that key. -/
theorem set_shape (l : List S61) (key : ByteArray) : ∃ A C, (∀ y ∈ A, seq61 key y = false) ∧ (∀ x : S61, x.f0 = key → setL61 l x = A ++ x :: C) ∧
    ((∃ x, x.f0 = key ∧ l = A ++ x :: C) ∨ ((∀ y ∈ l, seq61 key y = false) ∧ l = A ++ C ∧ (∀ y ∈ A, ltS key y.f0 = false) ∧ ∀ y C', C = y :: C' → ltS key y.f0 = true)) := by
  rcases ix_split (seq61 key) l with h | ⟨A, x, C, rfl, hA, hx⟩
  · rcases ix_split (sgt61 key) l with g | ⟨A, x, C, rfl, hA, hx⟩
    · refine ⟨l, [], h, fun v hv => ?_, .inr ⟨h, by simp, fun y hy => by rw [← sgt_eq]; exact g y hy, fun y C' e => by cases e⟩⟩
      unfold setL61
      rw [hv, ix_miss _ _ h, if_neg (by decide), ix_miss _ _ g, if_pos (by decide)]
    · refine ⟨A, x :: C, fun y hy => h y (List.mem_append_left _ hy), fun v hv => ?_, .inr ⟨h, rfl, fun y hy => by rw [← sgt_eq]; exact hA y hy, fun y C' e => by injection e with e1 e2; rw [← e1, ← sgt_eq]; exact hx⟩⟩
      unfold setL61
      rw [hv, ix_miss _ _ h, if_neg (by decide), ix_hit _ _ _ _ hA hx, if_neg (by omega)]
      simp
  · refine ⟨A, C, hA, fun v hv => ?_, .inl ⟨x, (seq_iff _ _).1 hx, rfl⟩⟩
    unfold setL61
    rw [hv, ix_hit _ _ _ _ hA hx, if_pos (by omega)]
    simp
theorem set_eq (l : List S61) (a b : ByteArray) (c : Bool) (h : l.length < 3518437208000) : view_Set.f l a b c = some (setL61 l ⟨a, b, c⟩) := by
  unfold view_Set.f api_Write_39.f
  simp [h, show l.length < 3518437208883 by omega]
theorem set_len (l : List S61) (x : S61) : (setL61 l x).length = l.length ∨ (setL61 l x).length = l.length + 1 := by
  obtain ⟨A, C, _, h, h2⟩ := set_shape l x.f0
  rw [h x rfl]
  rcases h2 with ⟨y, _, rfl⟩ | ⟨_, rfl, _⟩
  · left; simp
  · right; simp; omega
/-! #### what is got -/
def getL (l : List S61) (base : List S59) (key : ByteArray) : ByteArray × Bool := match l.find? (seq61 key) with
  | some x => if x.f2 = true then (⟨#[]⟩, false) else (x.f1, true)
  | none => findL base key
theorem getL_hit (A : List S61) (x : S61) (C : List S61) (base : List S59) (key : ByteArray) (hA : ∀ y ∈ A, seq61 key y = false) (hx : seq61 key x = true) :
    getL (A ++ x :: C) base key = if x.f2 = true then (⟨#[]⟩, false) else (x.f1, true) := by
  unfold getL
  rw [List.find?_append, List.find?_eq_none.2 (fun y hy => by simp [hA y hy])]
  simp [List.find?_cons, hx]
theorem getL_miss (l : List S61) (base : List S59) (key : ByteArray) (h : ∀ y ∈ l, seq61 key y = false) : getL l base key = findL base key := by
  unfold getL
  rw [List.find?_eq_none.2 (fun y hy => by simp [h y hy])]
theorem get_eq (l : List S61) (base : List S59) (key : ByteArray) (hl : base.length < 4611686018427387904) : view_Get.f l base key = some (getL l base key) := by
  unfold view_Get.f
  rw [seq_geq]
  rcases ix_split (seq61 key) l with h | ⟨A, x, C, rfl, hA, hx⟩
  · rw [ix_miss _ _ h, if_pos (by decide), getL_miss _ _ _ h, find_eq _ _ hl]
  · rw [ix_hit _ _ _ _ hA hx, if_neg (by omega), getL_hit _ _ _ _ _ hA hx, rdW_get _ _ (by simp)]
    simp only [List.getElem_append_right (Nat.le_refl _), Nat.sub_self, List.getElem_cons_zero]
    split <;> rfl
/-! #### rising -/
/-! #### size -/
/-- What is scanned: the base behind the writes, between two keys. -/
def scanL (w : List S61) (base : List S59) (lo hi : ByteArray) (most : Int) : List S59 := ((w.foldl stepW base).filter (betw lo hi)).take most.toNat
theorem scan_len (w : List S61) (base : List S59) (lo hi : ByteArray) (most : Int) : (scanL w base lo hi most).length ≤ base.length + w.length := by
  unfold scanL
  rw [List.length_take]
  have h1 := List.length_filter_le (betw lo hi) (w.foldl stepW base)
  have h2 := fold_len w base
  omega
theorem scan_ev (w : List S61) (base : List S59) (lo hi : ByteArray) (most : Int) (hl : base.length + w.length < 4398046510900) : Ev (fun k => view_Scan.f k w base lo hi most) (scanL w base lo hi most) := by
  have h2 := fold_len w base
  unfold view_Scan.f
  simp only [apply_eq base w (by omega), Option.bind_some]
  exact Ev.bind (range_ev _ _ _ _ (by omega)) (Ev.now _)
end Go.Proofs.Ytlacmlceedkfoaa.PE
