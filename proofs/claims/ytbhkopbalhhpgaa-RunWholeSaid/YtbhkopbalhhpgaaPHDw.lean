/- Dk's laws of the program's disk functions, and what they leave as it was: whatever a file of another name. -/
import Derived.Test.YtbhkopbalhhpgaaPHRb
namespace Go.Proofs.Ytbhkopbalhhpgaa.PH
open Go.RowKit Go.Proofs.YtbhkopbalhhpgaaW.PrintWords
set_option linter.unusedVariables false
set_option linter.unusedSimpArgs false

theorem rdF_get (xs : List S38) (i : Nat) (h : i < xs.length) : rd_T38 xs (i : Int) = xs[i] := by simp [rd_T38, List.getD_eq_getElem?_getD, h]
def isF (n : ByteArray) (x : S38) : Bool := x.f0.toList == n.toList
def atD (l : List S38) (n : ByteArray) : Int := ixOf (isF n) l
theorem isF_iff (n : ByteArray) (x : S38) : isF n x = true ↔ x.f0 = n := by
  unfold isF
  rw [beq_iff_eq]
  exact ⟨str_ext, fun h => by rw [h]⟩
theorem isF_no (n : ByteArray) (x : S38) : isF n x = false ↔ x.f0 ≠ n := by
  rw [← Bool.not_eq_true, isF_iff]
theorem at_eq (l : List S38) (r f : Int) (o : Bool) (n : ByteArray) : disk_at.f l r f o n = some (atD l n) := rfl
/-- Where a name is: nowhere, or at a first place. -/
theorem at_split (l : List S38) (n : ByteArray) : (atD l n = -1 ∧ ∀ y ∈ l, y.f0 ≠ n) ∨ ∃ A x C, l = A ++ x :: C ∧ (∀ y ∈ A, y.f0 ≠ n) ∧ x.f0 = n ∧ atD l n = (A.length : Int) := by
  rcases ix_split (isF n) l with h | ⟨A, x, C, rfl, hA, hx⟩
  · exact .inl ⟨ix_miss _ _ h, fun y hy => (isF_no n y).1 (h y hy)⟩
  · exact .inr ⟨A, x, C, rfl, fun y hy => (isF_no n y).1 (hA y hy), (isF_iff n x).1 hx, ix_hit _ _ _ _ hA hx⟩
theorem at_hit (A : List S38) (x : S38) (C : List S38) (n : ByteArray) (hA : ∀ y ∈ A, y.f0 ≠ n) (hx : x.f0 = n) : atD (A ++ x :: C) n = (A.length : Int) :=
  ix_hit _ _ _ _ (fun y hy => (isF_no n y).2 (hA y hy)) ((isF_iff n x).2 hx)
theorem at_none (l : List S38) (n : ByteArray) (h : ∀ y ∈ l, y.f0 ≠ n) : atD l n = -1 := ix_miss _ _ (fun y hy => (isF_no n y).2 (h y hy))
theorem get_mid {α : Type} (A : List α) (x : α) (C : List α) (h : A.length < (A ++ x :: C).length) : (A ++ x :: C)[A.length] = x := by
  simp [List.getElem_append_right (Nat.le_refl _)]
theorem erase_mid {α : Type} (A : List α) (x : α) (C : List α) : (A ++ x :: C).eraseIdx A.length = A ++ C := by
  rw [List.eraseIdx_append_of_length_le (Nat.le_refl _), Nat.sub_self]
  rfl
theorem set_mid {α : Type} (A : List α) (x y : α) (C : List α) : (A ++ x :: C).set A.length y = A ++ y :: C := by simp
theorem find_erase (A : List S38) (x : S38) (C : List S38) (m : ByteArray) (h : x.f0 ≠ m) : (A ++ C).find? (isF m) = (A ++ x :: C).find? (isF m) := by
  rw [List.find?_append, List.find?_append, List.find?_cons, (isF_no m x).2 h]
theorem find_set (A : List S38) (x y : S38) (C : List S38) (m : ByteArray) (hx : x.f0 ≠ m) (hy : y.f0 ≠ m) : (A ++ y :: C).find? (isF m) = (A ++ x :: C).find? (isF m) := by
  rw [List.find?_append, List.find?_append, List.find?_cons, List.find?_cons, (isF_no m x).2 hx, (isF_no m y).2 hy]
theorem find_end (l : List S38) (y : S38) (m : ByteArray) (hy : y.f0 ≠ m) : (l ++ [y]).find? (isF m) = l.find? (isF m) := by
  have := find_erase l y [] m hy
  rw [List.append_nil] at this
  exact this.symm
/-- The files' bytes have bounds. -/
def Bd (l : List S38) : Prop := ∀ y ∈ l, y.f1.size ≤ 1125899906842624 ∧ y.f2.size ≤ 1125899906842624
theorem clone_eq (l : List S38) (hl : l.length < 2932031007402) : api_File_69.f l = some l := by
  unfold api_File_69.f
  rw [Option.bind_some, List.length_nil, Nat.zero_add, if_pos hl, List.nil_append]
theorem set_eq_ (A : List S38) (x : S38) (C : List S38) (a b c : ByteArray) (hl : (A ++ x :: C).length < 2932031007402) : api_File_70.f (A ++ x :: C) (A.length : Int) a b c = some (A ++ ⟨a, b, c⟩ :: C) := by
  unfold api_File_70.f
  rw [clone_eq _ hl, Option.bind_some, if_pos (by omega), if_pos (by simp; omega), Int.toNat_natCast, set_mid]
theorem without_eq (A : List S38) (x : S38) (C : List S38) (r f : Int) (o : Bool) (hl : (A ++ x :: C).length < 2932031007402) :
    disk_without.f (A ++ x :: C) r f o (A.length : Int) = some (A ++ C, wrap64 (r + wrap64 ((x.f1.size : Int) + (x.f2.size : Int))), f, o) := by
  have h1 : A.length < (A ++ x :: C).length := by simp
  have hw : wrap64 ((A.length : Int) + 1) = (A.length : Int) + 1 := by unfold wrap64; omega
  unfold disk_without.f
  rw [if_pos (by omega), if_pos (by omega), rdF_get _ _ h1, get_mid _ _ _ h1]
  unfold disk_size.f
  rw [Option.bind_some, clone_eq _ hl, Option.bind_some, hw]
  unfold api_File_91.f
  rw [if_pos (by omega), if_pos (by omega), if_pos rfl, Int.toNat_natCast, erase_mid]
  rfl
theorem delete_ok (l : List S38) (r f : Int) (o : Bool) (n : ByteArray) (hl : l.length < 2932031007402) : ∃ q, disk_Delete.f l r f o n = some q ∧ q.1.length ≤ l.length ∧ (∀ y ∈ q.1, y ∈ l) ∧
    (q.2.2.2.2 = 0 → ∃ A x C, l = A ++ x :: C ∧ (∀ y ∈ A, y.f0 ≠ n) ∧ x.f0 = n ∧ q.1 = A ++ C) ∧ (∀ m, m ≠ n → q.1.find? (isF m) = l.find? (isF m)) := by
  unfold disk_Delete.f
  by_cases ho : o = true
  · rw [if_pos ho]
    exact ⟨_, rfl, Nat.le_refl _, fun y hy => hy, fun h => by simp at h, fun _ _ => rfl⟩
  · rw [if_neg ho, at_eq, Option.bind_some]
    rcases at_split l n with ⟨h, _⟩ | ⟨A, x, C, rfl, hA, hx, h⟩
    · rw [h, if_pos (by decide)]
      exact ⟨_, rfl, Nat.le_refl _, fun y hy => hy, fun h => by simp at h, fun _ _ => rfl⟩
    · rw [h, if_neg (by omega)]
      have ok : ∀ f' o', ∃ q, ((disk_at.f (A ++ x :: C) r f' o' n).bind fun t220 => ((disk_without.f (A ++ x :: C) r f' o' t220).bind fun bt221 => (some (bt221.1, bt221.2.1, bt221.2.2.1, bt221.2.2.2, (0 : Int))))) = some q ∧ q.1.length ≤ (A ++ x :: C).length ∧ (∀ y ∈ q.1, y ∈ A ++ x :: C) ∧
          (q.2.2.2.2 = 0 → ∃ A' x' C', A ++ x :: C = A' ++ x' :: C' ∧ (∀ y ∈ A', y.f0 ≠ n) ∧ x'.f0 = n ∧ q.1 = A' ++ C') ∧ (∀ m, m ≠ n → q.1.find? (isF m) = (A ++ x :: C).find? (isF m)) := fun f' o' => by
        rw [at_eq, Option.bind_some, h, without_eq A x C _ _ _ hl, Option.bind_some]
        refine ⟨_, rfl, by simp, fun y hy => ?_, fun _ => ⟨A, x, C, rfl, hA, hx, rfl⟩, fun m hm => find_erase A x C m (by rw [hx]; exact fun e => hm e.symm)⟩
        rcases List.mem_append.1 hy with hy | hy
        · exact List.mem_append_left _ hy
        · exact List.mem_append_right _ (List.mem_cons_of_mem _ hy)
      unfold disk_change.f
      by_cases c1 : f = 0
      · rw [if_pos c1, Option.bind_some]
        simp only [if_neg (show ¬ (false = true) by decide)]
        exact ⟨_, rfl, Nat.le_refl _, fun y hy => hy, fun h => by simp at h, fun _ _ => rfl⟩
      · rw [if_neg c1]
        by_cases c2 : f > 0
        · rw [if_pos c2, Option.bind_some]
          simp only [if_pos]
          exact ok _ _
        · rw [if_neg c2, Option.bind_some]
          simp only [if_pos]
          exact ok _ _
theorem append_end (n s : ByteArray) (A : List S38) (x : S38) (C : List S38) (r f : Int) (o : Bool) (t : ByteArray) (hA : ∀ y ∈ A, y.f0 ≠ n) (hx : x.f0 = n) (hl : (A ++ x :: C).length < 2932031007402) (hb : x.f2.size + t.size ≤ 9223372036854775807) :
    Ev (fun k => disk_Append.j3 k n s t (A ++ x :: C) r f o) (A ++ ⟨x.f0, x.f1, x.f2 ++ t⟩ :: C, wrap64 (r - (t.size : Int)), (if f ≥ 0 then wrap64 (f - (t.size : Int)) else f), (if (t.size : Int) < (s.size : Int) then true else o), (if (t.size : Int) < (s.size : Int) then 6 else 0)) := by
  have h1 : A.length < (A ++ x :: C).length := by simp
  refine Ev.step (f := fun k => some (A ++ ⟨x.f0, x.f1, x.f2 ++ t⟩ :: C, wrap64 (r - (t.size : Int)), (if f ≥ 0 then wrap64 (f - (t.size : Int)) else f), (if (t.size : Int) < (s.size : Int) then true else o), (if (t.size : Int) < (s.size : Int) then 6 else 0))) (fun k => ?_) (Ev.now _)
  simp only [disk_Append.j3]
  rw [at_eq, Option.bind_some, at_hit A x C n hA hx, if_pos (by omega), if_pos (by omega), rdF_get _ _ h1, get_mid _ _ _ h1, if_pos hb, set_eq_ A x C _ _ _ hl, Option.bind_some]
  by_cases c1 : f ≥ 0
  · rw [if_pos c1, if_pos c1]
    by_cases c2 : (t.size : Int) < (s.size : Int)
    · rw [if_pos c2, if_pos c2, if_pos c2]
    · rw [if_neg c2, if_neg c2, if_neg c2]
  · rw [if_neg c1, if_neg c1]
    by_cases c2 : (t.size : Int) < (s.size : Int)
    · rw [if_pos c2, if_pos c2, if_pos c2]
    · rw [if_neg c2, if_neg c2, if_neg c2]
/-- What is taken of what is handed to Append: all, or as many bytes as the power lets. -/
def cutT (s : ByteArray) (f : Int) : ByteArray := if f ≥ 0 ∧ f < (s.size : Int) then s.extract 0 f.toNat else s
theorem cutT_size (s : ByteArray) (f : Int) : (cutT s f).size ≤ s.size := by
  unfold cutT
  split
  · rw [ByteArray.size_extract]; omega
  · exact Nat.le_refl _
theorem cutT_all (s : ByteArray) (f : Int) (h : ¬ ((cutT s f).size : Int) < (s.size : Int)) : cutT s f = s := by
  unfold cutT at h ⊢
  split
  · rename_i c
    rw [if_pos c, ByteArray.size_extract] at h
    omega
  · rfl
theorem append_mid (n s : ByteArray) (A : List S38) (x : S38) (C : List S38) (r f : Int) (o : Bool) (hA : ∀ y ∈ A, y.f0 ≠ n) (hx : x.f0 = n) (hl : (A ++ x :: C).length < 2932031007402) (hb : x.f2.size + s.size ≤ 9223372036854775807) :
    Ev (fun k => disk_Append.j1 k n s (A ++ x :: C) r f o) (A ++ ⟨x.f0, x.f1, x.f2 ++ cutT s f⟩ :: C, wrap64 (r - ((cutT s f).size : Int)), (if f ≥ 0 then wrap64 (f - ((cutT s f).size : Int)) else f), (if ((cutT s f).size : Int) < (s.size : Int) then true else o), (if ((cutT s f).size : Int) < (s.size : Int) then 6 else 0)) := by
  have hz := cutT_size s f
  have fin := append_end n s A x C r f o (cutT s f) hA hx hl (by omega)
  by_cases c1 : f ≥ 0
  · refine Ev.step (f := fun k => disk_Append.j2 k n s s (decide (f < (s.size : Int))) (A ++ x :: C) r f o) (fun k => by simp only [disk_Append.j1]; rw [if_pos c1]) ?_
    by_cases c2 : f < (s.size : Int)
    · have e : cutT s f = s.extract 0 f.toNat := by unfold cutT; rw [if_pos ⟨c1, c2⟩]
      rw [decide_eq_true c2]
      refine Ev.step (f := fun k => disk_Append.j3 k n s (s.extract 0 f.toNat) (A ++ x :: C) r f o) (fun k => by simp only [disk_Append.j2]; rw [if_pos trivial, if_pos (by omega), if_pos (by omega)]) ?_
      rw [← e]
      exact fin
    · have e : cutT s f = s := by unfold cutT; rw [if_neg (fun q => c2 q.2)]
      rw [decide_eq_false c2]
      refine Ev.step (f := fun k => disk_Append.j3 k n s s (A ++ x :: C) r f o) (fun k => by simp only [disk_Append.j2]; rw [if_neg (by decide)]) ?_
      rw [e] at fin ⊢
      exact fin
  · have e : cutT s f = s := by unfold cutT; rw [if_neg (fun q => c1 q.1)]
    refine Ev.step (f := fun k => disk_Append.j2 k n s s false (A ++ x :: C) r f o) (fun k => by simp only [disk_Append.j1]; rw [if_neg c1]) ?_
    refine Ev.step (f := fun k => disk_Append.j3 k n s s (A ++ x :: C) r f o) (fun k => by simp only [disk_Append.j2]; rw [if_neg (by decide)]) ?_
    rw [e] at fin ⊢
    exact fin
theorem find_eq_ (l : List S38) (r f : Int) (o : Bool) (n : ByteArray) : (atD l n = -1 ∧ (∀ y ∈ l, y.f0 ≠ n) ∧ disk_Find.f l r f o n = some ((⟨#[]⟩ : ByteArray), (⟨#[]⟩ : ByteArray), (⟨#[]⟩ : ByteArray), false)) ∨
    ∃ A x C, l = A ++ x :: C ∧ (∀ y ∈ A, y.f0 ≠ n) ∧ x.f0 = n ∧ disk_Find.f l r f o n = some (x.f0, x.f1, x.f2, true) := by
  unfold disk_Find.f
  rw [at_eq, Option.bind_some]
  rcases at_split l n with ⟨h, hn⟩ | ⟨A, x, C, rfl, hA, hx, h⟩
  · refine .inl ⟨h, hn, ?_⟩
    rw [h, if_pos (by decide)]
  · have h1 : A.length < (A ++ x :: C).length := by simp
    refine .inr ⟨A, x, C, rfl, hA, hx, ?_⟩
    rw [h, if_neg (by omega), if_pos (by omega), if_pos (by omega), rdF_get _ _ h1, get_mid _ _ _ h1]
theorem append_ok (l : List S38) (r f : Int) (o : Bool) (n s : ByteArray) (hl : l.length < 2932031007401) (hb : Bd l) (hs : s.size ≤ 1125899906842624) : ∃ q, Ev (fun k => disk_Append.f k l r f o n s) q ∧ q.1.length ≤ l.length + 1 ∧
    (∀ y ∈ q.1, y.f1.size ≤ 1125899906842624 ∧ y.f2.size ≤ 2251799813685248) ∧ (q.2.2.2.2 = 0 → (∀ y ∈ l, y.f0 ≠ n) → q.1 = l ++ [⟨n, (⟨#[]⟩ : ByteArray), s⟩]) ∧ (∀ m, m ≠ n → q.1.find? (isF m) = l.find? (isF m)) := by
  have hb2 : ∀ y ∈ l, y.f1.size ≤ 1125899906842624 ∧ y.f2.size ≤ 2251799813685248 := fun y hy => by have := hb y hy; omega
  have keep : ∀ (e : Int), e ≠ 0 → ∃ q : List S38 × Int × Int × Bool × Int, Ev (fun _ => some (l, r, f, o, e)) q ∧ q.1.length ≤ l.length + 1 ∧
    (∀ y ∈ q.1, y.f1.size ≤ 1125899906842624 ∧ y.f2.size ≤ 2251799813685248) ∧ (q.2.2.2.2 = 0 → (∀ y ∈ l, y.f0 ≠ n) → q.1 = l ++ [⟨n, (⟨#[]⟩ : ByteArray), s⟩]) ∧ (∀ m, m ≠ n → q.1.find? (isF m) = l.find? (isF m)) := fun e he =>
    ⟨_, Ev.now _, Nat.le_succ _, hb2, fun h => absurd h he, fun _ _ => rfl⟩
  unfold disk_Append.f
  have hem : (⟨#[]⟩ : ByteArray).size = 0 := rfl
  rcases find_eq_ l r f o n with ⟨_, hn, hf⟩ | ⟨A, x, C, rfl, hA, hx, hf⟩
  · simp only [hf, Option.bind_some]
    by_cases c1 : o = true
    · simp only [if_pos c1]; exact keep 6 (by decide)
    · simp only [if_neg c1]
      obtain ⟨b, hnm⟩ : ∃ b, disk_named.f n = some b := by unfold disk_named.f; split <;> exact ⟨_, rfl⟩
      simp only [hnm, Option.bind_some]
      by_cases c2 : b = true
      · simp only [if_pos c2, if_neg (show ¬ (false = true) by decide)]
        by_cases c3 : (l.length : Int) ≥ 64
        · obtain ⟨q, h1, h2⟩ := keep 5 (by decide)
          refine ⟨q, Ev.step (fun k => ?_) h1, h2⟩
          simp only [disk_Append.j0]
          rw [decide_eq_true c3, if_pos rfl]
        · by_cases c4 : (s.size : Int) > r
          · obtain ⟨q, h1, h2⟩ := keep 5 (by decide)
            refine ⟨q, Ev.step (fun k => ?_) h1, h2⟩
            simp only [disk_Append.j0]
            rw [decide_eq_false c3, if_neg (by decide), if_pos c4]
          · by_cases c5 : wrap64 (wrap64 (((⟨#[]⟩ : ByteArray).size : Int) + ((⟨#[]⟩ : ByteArray).size : Int)) + (s.size : Int)) > 65536
            · obtain ⟨q, h1, h2⟩ := keep 4 (by decide)
              refine ⟨q, Ev.step (fun k => ?_) h1, h2⟩
              simp only [disk_Append.j0]
              rw [decide_eq_false c3, if_neg (by decide), if_neg c4]
              unfold disk_size.f
              rw [Option.bind_some, if_pos c5]
            · have mid := append_mid n s l ⟨n, (⟨#[]⟩ : ByteArray), (⟨#[]⟩ : ByteArray)⟩ [] r f o hn rfl (by simp; omega) (by rw [hem]; omega)
              refine ⟨_, Ev.step (fun k => ?_) mid, by simp, ?_, ?_, fun m hm => find_end l ⟨n, (⟨#[]⟩ : ByteArray), (⟨#[]⟩ : ByteArray) ++ cutT s f⟩ m (fun e => hm e.symm)⟩
              · simp only [disk_Append.j0]
                rw [decide_eq_false c3, if_neg (by decide), if_neg c4]
                unfold disk_size.f
                rw [Option.bind_some, if_neg c5, if_neg (by decide), clone_eq _ (by omega), Option.bind_some, if_pos (by omega)]
              · intro y hy
                rcases List.mem_append.1 hy with hy | hy
                · exact hb2 y hy
                · have := List.mem_singleton.1 hy
                  subst this
                  have := cutT_size s f
                  simp only [ByteArray.size_append, hem]
                  omega
              · intro h _
                have h : (if ((cutT s f).size : Int) < (s.size : Int) then (6 : Int) else 0) = 0 := h
                by_cases c6 : ((cutT s f).size : Int) < (s.size : Int)
                · rw [if_pos c6] at h; exact absurd h (by decide)
                · rw [cutT_all s f c6]
                  have e : (⟨#[]⟩ : ByteArray) ++ s = s := str_ext (by
                    have : (⟨#[]⟩ : ByteArray).toList = [] := mkB_list []
                    rw [app_list, this, List.nil_append])
                  rw [e]
      · simp only [if_neg c2]; exact keep 1 (by decide)
  · simp only [hf, Option.bind_some]
    by_cases c1 : o = true
    · simp only [if_pos c1]; exact keep 6 (by decide)
    · simp only [if_neg c1]
      obtain ⟨b, hnm⟩ : ∃ b, disk_named.f n = some b := by unfold disk_named.f; split <;> exact ⟨_, rfl⟩
      simp only [hnm, Option.bind_some]
      by_cases c2 : b = true
      · simp only [if_pos c2, if_pos]
        by_cases c4 : (s.size : Int) > r
        · obtain ⟨q, h1, h2⟩ := keep 5 (by decide)
          refine ⟨q, Ev.step (fun k => ?_) h1, h2⟩
          simp only [disk_Append.j0]
          rw [if_neg (by decide), if_pos c4]
        · by_cases c5 : wrap64 (wrap64 ((x.f1.size : Int) + (x.f2.size : Int)) + (s.size : Int)) > 65536
          · obtain ⟨q, h1, h2⟩ := keep 4 (by decide)
            refine ⟨q, Ev.step (fun k => ?_) h1, h2⟩
            simp only [disk_Append.j0]
            rw [if_neg (by decide), if_neg c4]
            unfold disk_size.f
            rw [Option.bind_some, if_pos c5]
          · have hbx := hb x (by simp)
            have mid := append_mid n s A x C r f o hA hx (by omega) (by omega)
            refine ⟨_, Ev.step (fun k => ?_) mid, by simp, ?_, ?_, fun m hm => find_set A x ⟨x.f0, x.f1, x.f2 ++ cutT s f⟩ C m (by rw [hx]; exact fun e => hm e.symm) (by show x.f0 ≠ m; rw [hx]; exact fun e => hm e.symm)⟩
            · simp only [disk_Append.j0]
              rw [if_neg (by decide), if_neg c4]
              unfold disk_size.f
              rw [Option.bind_some, if_neg c5, if_pos trivial]
            · intro y hy
              rcases List.mem_append.1 hy with hy | hy
              · exact hb2 y (List.mem_append_left _ hy)
              · rcases List.mem_cons.1 hy with hy | hy
                · subst hy
                  have := cutT_size s f
                  simp only [ByteArray.size_append]
                  omega
                · exact hb2 y (List.mem_append_right _ (List.mem_cons_of_mem _ hy))
            · intro _ h
              exact absurd hx (h x (by simp))
      · simp only [if_neg c2]; exact keep 1 (by decide)
theorem sync_ok (l : List S38) (r f : Int) (o : Bool) (n : ByteArray) (hl : l.length < 2932031007402) (hb : ∀ y ∈ l, y.f1.size ≤ 1125899906842624 ∧ y.f2.size ≤ 2251799813685248) : ∃ q, disk_Sync.f l r f o n = some q ∧ q.1.length = l.length ∧
    (q.2.2.2.2 = 0 → ∃ A x C, l = A ++ x :: C ∧ (∀ y ∈ A, y.f0 ≠ n) ∧ x.f0 = n ∧ q.1 = A ++ ⟨x.f0, x.f1 ++ x.f2, (⟨#[]⟩ : ByteArray)⟩ :: C) ∧ (∀ m, m ≠ n → q.1.find? (isF m) = l.find? (isF m)) ∧ (∀ y ∈ q.1, y.f1.size ≤ 4503599627370496 ∧ y.f2.size ≤ 2251799813685248) := by
  have hb3 : ∀ y ∈ l, y.f1.size ≤ 4503599627370496 ∧ y.f2.size ≤ 2251799813685248 := fun y hy => by have := hb y hy; omega
  unfold disk_Sync.f
  rw [at_eq, Option.bind_some]
  by_cases ho : o = true
  · rw [if_pos ho]
    exact ⟨_, rfl, rfl, fun h => by simp at h, fun _ _ => rfl, hb3⟩
  · rw [if_neg ho]
    rcases at_split l n with ⟨h, _⟩ | ⟨A, x, C, rfl, hA, hx, h⟩
    · rw [h, if_pos (by decide)]
      exact ⟨_, rfl, rfl, fun h => by simp at h, fun _ _ => rfl, hb3⟩
    · have h1 : A.length < (A ++ x :: C).length := by simp
      have hbx := hb x (by simp)
      rw [h, if_neg (by omega), if_pos (by omega), if_pos (by omega), rdF_get _ _ h1, get_mid _ _ _ h1, if_pos (by omega), set_eq_ A x C _ _ _ hl, Option.bind_some]
      refine ⟨_, rfl, by simp, fun _ => ⟨A, x, C, rfl, hA, hx, rfl⟩, fun m hm => find_set A x ⟨x.f0, x.f1 ++ x.f2, (⟨#[]⟩ : ByteArray)⟩ C m (by rw [hx]; exact fun e => hm e.symm) (by show x.f0 ≠ m; rw [hx]; exact fun e => hm e.symm), fun y hy => ?_⟩
      rcases List.mem_append.1 hy with hy | hy
      · exact hb3 y (List.mem_append_left _ hy)
      · rcases List.mem_cons.1 hy with hy | hy
        · subst hy
          have : (⟨#[]⟩ : ByteArray).size = 0 := rfl
          simp only [ByteArray.size_append]
          omega
        · exact hb3 y (List.mem_append_right _ (List.mem_cons_of_mem _ hy))
theorem rename_end (A : List S38) (x : S38) (C : List S38) (r f : Int) (o : Bool) (a b : ByteArray) (hA : ∀ y ∈ A, y.f0 ≠ a) (hx : x.f0 = a) (hl : (A ++ x :: C).length < 2932031007402) :
    ((disk_at.f (A ++ x :: C) r f o a).bind fun t278 => (if 0 ≤ t278 then (if t278 < ((A ++ x :: C).length : Int) then ((api_File_70.f (A ++ x :: C) t278 b ((rd_T38 (A ++ x :: C) t278).f1) ((rd_T38 (A ++ x :: C) t278).f2)).bind fun t281 => (some (t281, r, f, o, (0 : Int)))) else (none)) else (none))) = some (A ++ ⟨b, x.f1, x.f2⟩ :: C, r, f, o, 0) := by
  have h1 : A.length < (A ++ x :: C).length := by simp
  rw [at_eq, Option.bind_some, at_hit A x C a hA hx, if_pos (by omega), if_pos (by omega), rdF_get _ _ h1, get_mid _ _ _ h1, set_eq_ A x C _ _ _ hl, Option.bind_some]
/-- Rename: it answers; where it is OK, the first file of the new name is as one of the old name was, if not more than one had the new name. -/
theorem rename_ok (l : List S38) (r f : Int) (o : Bool) (a b : ByteArray) (hab : a ≠ b) (hl : l.length < 2932031007402) (Q : S38 → Prop) (hQ : ∀ y ∈ l, Q y) (hQb : ∀ y, Q y → Q ⟨b, y.f1, y.f2⟩) : ∃ q, disk_Rename.f l r f o a b = some q ∧ q.1.length ≤ l.length ∧ (∀ y ∈ q.1, Q y) ∧ (q.2.2.2.2 ≠ 0 → q.1 = l) ∧
    (q.2.2.2.2 = 0 → l.countP (isF b) ≤ 1 → ∃ A x C, q.1 = A ++ ⟨b, x.f1, x.f2⟩ :: C ∧ (∀ y ∈ A, y.f0 ≠ b) ∧ x ∈ l ∧ x.f0 = a) := by
  unfold disk_Rename.f
  by_cases ho : o = true
  · rw [if_pos ho]; exact ⟨_, rfl, Nat.le_refl _, hQ, fun _ => rfl, fun h => by simp at h⟩
  · rw [if_neg ho]
    obtain ⟨nb, hnm⟩ : ∃ nb, disk_named.f b = some nb := by unfold disk_named.f; split <;> exact ⟨_, rfl⟩
    rw [hnm, Option.bind_some]
    by_cases c2 : nb = true
    · rw [if_pos c2, at_eq, Option.bind_some]
      rcases at_split l a with ⟨h, _⟩ | ⟨A, x, C, hl0, hA, hx, h⟩
      · rw [h, if_pos (by decide)]; exact ⟨_, rfl, Nat.le_refl _, hQ, fun _ => rfl, fun h => by simp at h⟩
      · rw [h, if_neg (by omega), if_neg (fun q => hab (str_ext q))]
        have ok : ∀ f', ∃ q, ((disk_at.f l r f' o b).bind fun t271 => (if t271 ≥ 0 then ((disk_without.f l r f' o t271).bind fun bt272 => ((disk_at.f bt272.1 bt272.2.1 bt272.2.2.1 bt272.2.2.2 a).bind fun t278 => (if 0 ≤ t278 then (if t278 < (bt272.1.length : Int) then ((api_File_70.f bt272.1 t278 b ((rd_T38 bt272.1 t278).f1) ((rd_T38 bt272.1 t278).f2)).bind fun t281 => (some (t281, bt272.2.1, bt272.2.2.1, bt272.2.2.2, (0 : Int)))) else (none)) else (none)))) else ((disk_at.f l r f' o a).bind fun t284 => (if 0 ≤ t284 then (if t284 < (l.length : Int) then ((api_File_70.f l t284 b ((rd_T38 l t284).f1) ((rd_T38 l t284).f2)).bind fun t287 => (some (t287, r, f', o, (0 : Int)))) else (none)) else (none))))) = some q ∧ q.1.length ≤ l.length ∧ (∀ y ∈ q.1, Q y) ∧ (q.2.2.2.2 ≠ 0 → q.1 = l) ∧
            (q.2.2.2.2 = 0 → l.countP (isF b) ≤ 1 → ∃ A x C, q.1 = A ++ ⟨b, x.f1, x.f2⟩ :: C ∧ (∀ y ∈ A, y.f0 ≠ b) ∧ x ∈ l ∧ x.f0 = a) := fun f' => by
          rw [at_eq, Option.bind_some]
          rcases at_split l b with ⟨h2, hn2⟩ | ⟨A2, x2, C2, hl2, hA2, hx2, h2⟩
          · rw [h2, if_neg (by decide), hl0, rename_end A x C r f' o a b hA hx (by rw [← hl0]; exact hl)]
            refine ⟨_, rfl, by simp, fun y hy => ?_, fun h => absurd rfl h, fun _ _ => ⟨A, x, C, rfl, fun y hy => hn2 y (by rw [hl0]; exact List.mem_append_left _ hy), by simp, hx⟩⟩
            have hQ2 : ∀ y ∈ A ++ x :: C, Q y := fun y hy => hQ y (by rw [hl0]; exact hy)
            rcases List.mem_append.1 hy with hy | hy
            · exact hQ2 y (List.mem_append_left _ hy)
            · rcases List.mem_cons.1 hy with hy | hy
              · rw [hy]; exact hQb x (hQ2 x (by simp))
              · exact hQ2 y (List.mem_append_right _ (List.mem_cons_of_mem _ hy))
          · rw [h2, if_pos (by omega), hl2, without_eq A2 x2 C2 r f' o (by rw [← hl2]; exact hl), Option.bind_some]
            have hmem : ∀ y ∈ A2 ++ C2, y ∈ l := fun y hy => by
              rw [hl2]
              rcases List.mem_append.1 hy with hy | hy
              · exact List.mem_append_left _ hy
              · exact List.mem_append_right _ (List.mem_cons_of_mem _ hy)
            have hin : x ∈ A2 ++ C2 := by
              have : x ∈ A2 ++ x2 :: C2 := by rw [← hl2, hl0]; simp
              rcases List.mem_append.1 this with hy | hy
              · exact List.mem_append_left _ hy
              · rcases List.mem_cons.1 hy with hy | hy
                · rw [hy] at hx; exact absurd (hx.symm.trans hx2) hab
                · exact List.mem_append_right _ hy
            rcases at_split (A2 ++ C2) a with ⟨_, hn3⟩ | ⟨A3, x3, C3, hl3, hA3, hx3, h3⟩
            · exact absurd hx (hn3 x hin)
            · have hlen : (A3 ++ x3 :: C3).length < 2932031007402 := by
                have e : (A2 ++ C2).length + 1 = l.length := by rw [hl2]; simp; omega
                rw [← hl3]; omega
              simp only []
              rw [hl3, rename_end A3 x3 C3 _ f' o a b hA3 hx3 hlen]
              refine ⟨_, rfl, ?_, fun y hy => ?_, fun h => absurd rfl h, fun _ hc => ⟨A3, x3, C3, rfl, fun y hy => ?_, by rw [← hl2]; exact hmem x3 (by rw [hl3]; simp), hx3⟩⟩
              · show (A3 ++ ⟨b, x3.f1, x3.f2⟩ :: C3).length ≤ (A2 ++ x2 :: C2).length
                have e : (A3 ++ ⟨b, x3.f1, x3.f2⟩ :: C3).length = (A2 ++ C2).length := by rw [hl3]; simp
                rw [e]; simp
              · have hQ3 : ∀ y ∈ A3 ++ x3 :: C3, Q y := fun y hy => hQ y (hmem y (by rw [hl3]; exact hy))
                rcases List.mem_append.1 hy with hy | hy
                · exact hQ3 y (List.mem_append_left _ hy)
                · rcases List.mem_cons.1 hy with hy | hy
                  · rw [hy]; exact hQb x3 (hQ3 x3 (by simp))
                  · exact hQ3 y (List.mem_append_right _ (List.mem_cons_of_mem _ hy))
              have hy2 : y ∈ A2 ++ C2 := by rw [hl3]; exact List.mem_append_left _ hy
              rcases List.mem_append.1 hy2 with hy3 | hy3
              · exact hA2 y hy3
              · intro hyb
                rw [List.countP_append, List.countP_cons_of_pos ((isF_iff b x2).2 hx2)] at hc
                have : 0 < C2.countP (isF b) := List.countP_pos_iff.2 ⟨y, hy3, (isF_iff b y).2 hyb⟩
                omega
        unfold disk_change.f
        by_cases c3 : f = 0
        · rw [if_pos c3, Option.bind_some]
          simp only [if_neg (show ¬ (false = true) by decide)]
          exact ⟨_, rfl, Nat.le_refl _, hQ, fun _ => rfl, fun h => by simp at h⟩
        · rw [if_neg c3]
          by_cases c4 : f > 0
          · rw [if_pos c4, Option.bind_some]
            simp only [if_pos]
            exact ok _
          · rw [if_neg c4, Option.bind_some]
            simp only [if_pos]
            exact ok _
    · rw [if_neg c2]; exact ⟨_, rfl, Nat.le_refl _, hQ, fun _ => rfl, fun h => by simp at h⟩
end Go.Proofs.Ytbhkopbalhhpgaa.PH
