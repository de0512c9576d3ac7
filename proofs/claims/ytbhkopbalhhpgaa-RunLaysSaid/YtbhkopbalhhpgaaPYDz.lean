/- What the disk's functions of the program come to, as far as a row that is laid and loaded asks: they answer whatever disk there is; a file that is laid is found with its bytes. -/
import Derived.Test.YtbhkopbalhhpgaaPYRz
namespace Go.Proofs.Ytbhkopbalhhpgaa.PY
open Go.RowKit Go.Proofs.YtbhkopbalhhpgaaW.PrintWords
set_option linter.unusedVariables false
set_option linter.unusedSimpArgs false

theorem rdF_get (xs : List S38) (i : Nat) (h : i < xs.length) : rd_T38 xs (i : Int) = xs[i] := by simp [rd_T38, List.getD_eq_getElem?_getD, h]
def isF (n : ByteArray) (x : S38) : Bool := x.f0.toList == n.toList
def atD (l : List S38) (n : ByteArray) : Int := ixOf (isF n) l
theorem isF_iff (n : ByteArray) (x : S38) : isF n x = true ↔ x.f0 = n := by
 unfold isF
 rw [beq_iff_eq]
 exact ⟨str_ext, fun h => by rw [h]⟩
theorem isF_no (n : ByteArray) (x : S38) : isF n x = false ↔ x.f0 ≠ n := by
 rw [← Bool.not_eq_true, isF_iff]
theorem at_eq (l : List S38) (r f : Int) (o : Bool) (n : ByteArray) : disk_at.f l r f o n = some (atD l n) := rfl
/-- Where a name is: nowhere, or at a first place. -/
theorem at_split (l : List S38) (n : ByteArray) : (atD l n = -1 ∧ ∀ y ∈ l, y.f0 ≠ n) ∨ ∃ A x C, l = A ++ x :: C ∧ (∀ y ∈ A, y.f0 ≠ n) ∧ x.f0 = n ∧ atD l n = (A.length : Int) := by
 rcases ix_split (isF n) l with h | ⟨A, x, C, rfl, hA, hx⟩
 ·exact .inl ⟨ix_miss _ _ h, fun y hy => (isF_no n y).1 (h y hy)⟩
 ·exact .inr ⟨A, x, C, rfl, fun y hy => (isF_no n y).1 (hA y hy), (isF_iff n x).1 hx, ix_hit _ _ _ _ hA hx⟩
theorem at_hit (A : List S38) (x : S38) (C : List S38) (n : ByteArray) (hA : ∀ y ∈ A, y.f0 ≠ n) (hx : x.f0 = n) : atD (A ++ x :: C) n = (A.length : Int) :=
 ix_hit _ _ _ _ (fun y hy => (isF_no n y).2 (hA y hy)) ((isF_iff n x).2 hx)
theorem at_none (l : List S38) (n : ByteArray) (h : ∀ y ∈ l, y.f0 ≠ n) : atD l n = -1 := ix_miss _ _ (fun y hy => (isF_no n y).2 (h y hy))
theorem get_mid {α : Type} (A : List α) (x : α) (C : List α) (h : A.length < (A ++ x :: C).length) : (A ++ x :: C)[A.length] = x := by
 simp [List.getElem_append_right (Nat.le_refl _)]
theorem erase_mid {α : Type} (A : List α) (x : α) (C : List α) : (A ++ x :: C).eraseIdx A.length = A ++ C := by
 rw [List.eraseIdx_append_of_length_le (Nat.le_refl _), Nat.sub_self]
 rfl
theorem set_mid {α : Type} (A : List α) (x y : α) (C : List α) : (A ++ x :: C).set A.length y = A ++ y :: C := by simp
/-- The files' bytes have bounds. -/
def Bd (l : List S38) : Prop := ∀ y ∈ l, y.f1.size ≤ 1125899906842624 ∧ y.f2.size ≤ 1125899906842624
theorem clone_eq (l : List S38) (hl : l.length < 2932031007402) : api_File_69.f l = some l := by
 unfold api_File_69.f
 rw [Option.bind_some, List.length_nil, Nat.zero_add, if_pos hl, List.nil_append]
theorem set_eq_ (A : List S38) (x : S38) (C : List S38) (a b c : ByteArray) (hl : (A ++ x :: C).length < 2932031007402) : api_File_70.f (A ++ x :: C) (A.length : Int) a b c = some (A ++ ⟨a, b, c⟩ :: C) := by
 unfold api_File_70.f
 rw [clone_eq _ hl, Option.bind_some, if_pos (by omega), if_pos (by simp; omega), Int.toNat_natCast, set_mid]
theorem without_eq (A : List S38) (x : S38) (C : List S38) (r f : Int) (o : Bool) (hl : (A ++ x :: C).length < 2932031007402) :
  disk_without.f (A ++ x :: C) r f o (A.length : Int) = some (A ++ C, wrap64 (r + wrap64 ((x.f1.size : Int) + (x.f2.size : Int))), f, o) := by
 have h1 : A.length < (A ++ x :: C).length := by simp
 have hw : wrap64 ((A.length : Int) + 1) = (A.length : Int) + 1 := by unfold wrap64; omega
 unfold disk_without.f
 rw [if_pos (by omega), if_pos (by omega), rdF_get _ _ h1, get_mid _ _ _ h1]
 unfold disk_size.f
 rw [Option.bind_some, clone_eq _ hl, Option.bind_some, hw]
 unfold api_File_91.f
 rw [if_pos (by omega), if_pos (by omega), if_pos rfl, Int.toNat_natCast, erase_mid]
 rfl
theorem delete_ok (l : List S38) (r f : Int) (o : Bool) (n : ByteArray) (hl : l.length < 2932031007402) : ∃ q, disk_Delete.f l r f o n = some q ∧ q.1.length ≤ l.length ∧ (∀ y ∈ q.1, y ∈ l) ∧
  (q.2.2.2.2 = 0 → ∃ A x C, l = A ++ x :: C ∧ (∀ y ∈ A, y.f0 ≠ n) ∧ x.f0 = n ∧ q.1 = A ++ C) := by
 unfold disk_Delete.f
 by_cases ho : o = true
 ·rw [if_pos ho]
  exact ⟨_, rfl, Nat.le_refl _, fun y hy => hy, fun h => by simp at h⟩
 ·rw [if_neg ho, at_eq, Option.bind_some]
  rcases at_split l n with ⟨h, _⟩ | ⟨A, x, C, rfl, hA, hx, h⟩
  ·rw [h, if_pos (by decide)]
   exact ⟨_, rfl, Nat.le_refl _, fun y hy => hy, fun h => by simp at h⟩
  ·rw [h, if_neg (by omega)]
   have ok : ∀ f' o', ∃ q, ((disk_at.f (A ++ x :: C) r f' o' n).bind fun t220 => ((disk_without.f (A ++ x :: C) r f' o' t220).bind fun bt221 => (some (bt221.1, bt221.2.1, bt221.2.2.1, bt221.2.2.2, (0 : Int))))) = some q ∧ q.1.length ≤ (A ++ x :: C).length ∧ (∀ y ∈ q.1, y ∈ A ++ x :: C) ∧
     (q.2.2.2.2 = 0 → ∃ A' x' C', A ++ x :: C = A' ++ x' :: C' ∧ (∀ y ∈ A', y.f0 ≠ n) ∧ x'.f0 = n ∧ q.1 = A' ++ C') := fun f' o' => by
    rw [at_eq, Option.bind_some, h, without_eq A x C _ _ _ hl, Option.bind_some]
    refine ⟨_, rfl, by simp, fun y hy => ?_, fun _ => ⟨A, x, C, rfl, hA, hx, rfl⟩⟩
    rcases List.mem_append.1 hy with hy | hy
    ·exact List.mem_append_left _ hy
    ·exact List.mem_append_right _ (List.mem_cons_of_mem _ hy)
   unfold disk_change.f
   by_cases c1 : f = 0
   ·rw [if_pos c1, Option.bind_some]
    simp only [if_neg (show ¬ (false = true) by decide)]
    exact ⟨_, rfl, Nat.le_refl _, fun y hy => hy, fun h => by simp at h⟩
   ·rw [if_neg c1]
    by_cases c2 : f > 0
    ·rw [if_pos c2, Option.bind_some]
     simp only [if_pos]
     exact ok _ _
    ·rw [if_neg c2, Option.bind_some]
     simp only [if_pos]
     exact ok _ _
theorem append_end (n s : ByteArray) (A : List S38) (x : S38) (C : List S38) (r f : Int) (o : Bool) (t : ByteArray) (hA : ∀ y ∈ A, y.f0 ≠ n) (hx : x.f0 = n) (hl : (A ++ x :: C).length < 2932031007402) (hb : x.f2.size + t.size ≤ 9223372036854775807) :
  Ev (fun k => disk_Append.j3 k n s t (A ++ x :: C) r f o) (A ++ ⟨x.f0, x.f1, x.f2 ++ t⟩ :: C, wrap64 (r - (t.size : Int)), (if f ≥ 0 then wrap64 (f - (t.size : Int)) else f), (if (t.size : Int) < (s.size : Int) then true else o), (if (t.size : Int) < (s.size : Int) then 6 else 0)) := by
 have h1 : A.length < (A ++ x :: C).length := by simp
 refine Ev.step (f := fun k => some (A ++ ⟨x.f0, x.f1, x.f2 ++ t⟩ :: C, wrap64 (r - (t.size : Int)), (if f ≥ 0 then wrap64 (f - (t.size : Int)) else f), (if (t.size : Int) < (s.size : Int) then true else o), (if (t.size : Int) < (s.size : Int) then 6 else 0))) (fun k => ?_) (Ev.now _)
 simp only [disk_Append.j3]
 rw [at_eq, Option.bind_some, at_hit A x C n hA hx, if_pos (by omega), if_pos (by omega), rdF_get _ _ h1, get_mid _ _ _ h1, if_pos hb, set_eq_ A x C _ _ _ hl, Option.bind_some]
 by_cases c1 : f ≥ 0
 ·rw [if_pos c1, if_pos c1]
  by_cases c2 : (t.size : Int) < (s.size : Int)
  ·rw [if_pos c2, if_pos c2, if_pos c2]
  ·rw [if_neg c2, if_neg c2, if_neg c2]
 ·rw [if_neg c1, if_neg c1]
  by_cases c2 : (t.size : Int) < (s.size : Int)
  ·rw [if_pos c2, if_pos c2, if_pos c2]
  ·rw [if_neg c2, if_neg c2, if_neg c2]
/-- What is taken of what is handed to Append: all, or as many bytes as the power lets. -/
def cutT (s : ByteArray) (f : Int) : ByteArray := if f ≥ 0 ∧ f < (s.size : Int) then s.extract 0 f.toNat else s
theorem cutT_size (s : ByteArray) (f : Int) : (cutT s f).size ≤ s.size := by
 unfold cutT
 split
 ·rw [ByteArray.size_extract]; omega
 ·exact Nat.le_refl _
theorem cutT_all (s : ByteArray) (f : Int) (h : ¬ ((cutT s f).size : Int) < (s.size : Int)) : cutT s f = s := by
 unfold cutT at h ⊢
 split
 ·rename_i c
  rw [if_pos c, ByteArray.size_extract] at h
  omega
 ·rfl
theorem append_mid (n s : ByteArray) (A : List S38) (x : S38) (C : List S38) (r f : Int) (o : Bool) (hA : ∀ y ∈ A, y.f0 ≠ n) (hx : x.f0 = n) (hl : (A ++ x :: C).length < 2932031007402) (hb : x.f2.size + s.size ≤ 9223372036854775807) :
  Ev (fun k => disk_Append.j1 k n s (A ++ x :: C) r f o) (A ++ ⟨x.f0, x.f1, x.f2 ++ cutT s f⟩ :: C, wrap64 (r - ((cutT s f).size : Int)), (if f ≥ 0 then wrap64 (f - ((cutT s f).size : Int)) else f), (if ((cutT s f).size : Int) < (s.size : Int) then true else o), (if ((cutT s f).size : Int) < (s.size : Int) then 6 else 0)) := by
 have hz := cutT_size s f
 have fin := append_end n s A x C r f o (cutT s f) hA hx hl (by omega)
 by_cases c1 : f ≥ 0
 ·refine Ev.step (f := fun k => disk_Append.j2 k n s s (decide (f < (s.size : Int))) (A ++ x :: C) r f o) (fun k => by simp only [disk_Append.j1]; rw [if_pos c1]) ?_
  by_cases c2 : f < (s.size : Int)
  ·have e : cutT s f = s.extract 0 f.toNat := by unfold cutT; rw [if_pos ⟨c1, c2⟩]
   rw [decide_eq_true c2]
   refine Ev.step (f := fun k => disk_Append.j3 k n s (s.extract 0 f.toNat) (A ++ x :: C) r f o) (fun k => by simp only [disk_Append.j2]; rw [if_pos trivial, if_pos (by omega), if_pos (by omega)]) ?_
   rw [← e]
   exact fin
  ·have e : cutT s f = s := by unfold cutT; rw [if_neg (fun q => c2 q.2)]
   rw [decide_eq_false c2]
   refine Ev.step (f := fun k => disk_Append.j3 k n s s (A ++ x :: C) r f o) (fun k => by simp only [disk_Append.j2]; rw [if_neg (by decide)]) ?_
   rw [e] at fin ⊢
   exact fin
 ·have e : cutT s f = s := by unfold cutT; rw [if_neg (fun q => c1 q.1)]
  refine Ev.step (f := fun k => disk_Append.j2 k n s s false (A ++ x :: C) r f o) (fun k => by simp only [disk_Append.j1]; rw [if_neg c1]) ?_
  refine Ev.step (f := fun k => disk_Append.j3 k n s s (A ++ x :: C) r f o) (fun k => by simp only [disk_Append.j2]; rw [if_neg (by decide)]) ?_
  rw [e] at fin ⊢
  exact fin
theorem find_eq_ (l : List S38) (r f : Int) (o : Bool) (n : ByteArray) : (atD l n = -1 ∧ (∀ y ∈ l, y.f0 ≠ n) ∧ disk_Find.f l r f o n = some ((⟨#[]⟩ : ByteArray), (⟨#[]⟩ : ByteArray), (⟨#[]⟩ : ByteArray), false)) ∨
  ∃ A x C, l = A ++ x :: C ∧ (∀ y ∈ A, y.f0 ≠ n) ∧ x.f0 = n ∧ disk_Find.f l r f o n = some (x.f0, x.f1, x.f2, true) := by
 unfold disk_Find.f
 rw [at_eq, Option.bind_some]
 rcases at_split l n with ⟨h, hn⟩ | ⟨A, x, C, rfl, hA, hx, h⟩
 ·refine .inl ⟨h, hn, ?_⟩
  rw [h, if_pos (by decide)]
 ·have h1 : A.length < (A ++ x :: C).length := by simp
  refine .inr ⟨A, x, C, rfl, hA, hx, ?_⟩
  rw [h, if_neg (by omega), if_pos (by omega), if_pos (by omega), rdF_get _ _ h1, get_mid _ _ _ h1]
theorem append_ok (l : List S38) (r f : Int) (o : Bool) (n s : ByteArray) (hl : l.length < 2932031007401) (hb : Bd l) (hs : s.size ≤ 1125899906842624) : ∃ q, Ev (fun k => disk_Append.f k l r f o n s) q ∧ q.1.length ≤ l.length + 1 ∧
  (∀ y ∈ q.1, y.f1.size ≤ 1125899906842624 ∧ y.f2.size ≤ 2251799813685248) ∧ (q.2.2.2.2 = 0 → (∀ y ∈ l, y.f0 ≠ n) → q.1 = l ++ [⟨n, (⟨#[]⟩ : ByteArray), s⟩]) := by
 have hb2 : ∀ y ∈ l, y.f1.size ≤ 1125899906842624 ∧ y.f2.size ≤ 2251799813685248 := fun y hy => by have := hb y hy; omega
 have keep : ∀ (e : Int), e ≠ 0 → ∃ q : List S38 × Int × Int × Bool × Int, Ev (fun _ => some (l, r, f, o, e)) q ∧ q.1.length ≤ l.length + 1 ∧
  (∀ y ∈ q.1, y.f1.size ≤ 1125899906842624 ∧ y.f2.size ≤ 2251799813685248) ∧ (q.2.2.2.2 = 0 → (∀ y ∈ l, y.f0 ≠ n) → q.1 = l ++ [⟨n, (⟨#[]⟩ : ByteArray), s⟩]) := fun e he =>
  ⟨_, Ev.now _, Nat.le_succ _, hb2, fun h => absurd h he⟩
 unfold disk_Append.f
 have hem : (⟨#[]⟩ : ByteArray).size = 0 := rfl
 rcases find_eq_ l r f o n with ⟨_, hn, hf⟩ | ⟨A, x, C, rfl, hA, hx, hf⟩
 ·simp only [hf, Option.bind_some]
  by_cases c1 : o = true
  ·simp only [if_pos c1]; exact keep 6 (by decide)
  ·simp only [if_neg c1]
   obtain ⟨b, hnm⟩ : ∃ b, disk_named.f n = some b := by unfold disk_named.f; split <;> exact ⟨_, rfl⟩
   simp only [hnm, Option.bind_some]
   by_cases c2 : b = true
   ·simp only [if_pos c2, if_neg (show ¬ (false = true) by decide)]
    by_cases c3 : (l.length : Int) ≥ 64
    ·obtain ⟨q, h1, h2⟩ := keep 5 (by decide)
     refine ⟨q, Ev.step (fun k => ?_) h1, h2⟩
     simp only [disk_Append.j0]
     rw [decide_eq_true c3, if_pos rfl]
    ·by_cases c4 : (s.size : Int) > r
     ·obtain ⟨q, h1, h2⟩ := keep 5 (by decide)
      refine ⟨q, Ev.step (fun k => ?_) h1, h2⟩
      simp only [disk_Append.j0]
      rw [decide_eq_false c3, if_neg (by decide), if_pos c4]
     ·by_cases c5 : wrap64 (wrap64 (((⟨#[]⟩ : ByteArray).size : Int) + ((⟨#[]⟩ : ByteArray).size : Int)) + (s.size : Int)) > 65536
      ·obtain ⟨q, h1, h2⟩ := keep 4 (by decide)
       refine ⟨q, Ev.step (fun k => ?_) h1, h2⟩
       simp only [disk_Append.j0]
       rw [decide_eq_false c3, if_neg (by decide), if_neg c4]
       unfold disk_size.f
       rw [Option.bind_some, if_pos c5]
      ·have mid := append_mid n s l ⟨n, (⟨#[]⟩ : ByteArray), (⟨#[]⟩ : ByteArray)⟩ [] r f o hn rfl (by simp; omega) (by rw [hem]; omega)
       refine ⟨_, Ev.step (fun k => ?_) mid, by simp, ?_, ?_⟩
       ·simp only [disk_Append.j0]
        rw [decide_eq_false c3, if_neg (by decide), if_neg c4]
        unfold disk_size.f
        rw [Option.bind_some, if_neg c5, if_neg (by decide), clone_eq _ (by omega), Option.bind_some, if_pos (by omega)]
       ·intro y hy
        rcases List.mem_append.1 hy with hy | hy
        ·exact hb2 y hy
        ·have := List.mem_singleton.1 hy
         subst this
         have := cutT_size s f
         simp only [ByteArray.size_append, hem]
         omega
       ·intro h _
        have h : (if ((cutT s f).size : Int) < (s.size : Int) then (6 : Int) else 0) = 0 := h
        by_cases c6 : ((cutT s f).size : Int) < (s.size : Int)
        ·rw [if_pos c6] at h; exact absurd h (by decide)
        ·rw [cutT_all s f c6]
         have e : (⟨#[]⟩ : ByteArray) ++ s = s := str_ext (by
          have : (⟨#[]⟩ : ByteArray).toList = [] := mkB_list []
          rw [app_list, this, List.nil_append])
         rw [e]
   ·simp only [if_neg c2]; exact keep 1 (by decide)
 ·simp only [hf, Option.bind_some]
  by_cases c1 : o = true
  ·simp only [if_pos c1]; exact keep 6 (by decide)
  ·simp only [if_neg c1]
   obtain ⟨b, hnm⟩ : ∃ b, disk_named.f n = some b := by unfold disk_named.f; split <;> exact ⟨_, rfl⟩
   simp only [hnm, Option.bind_some]
   by_cases c2 : b = true
   ·simp only [if_pos c2, if_pos]
    by_cases c4 : (s.size : Int) > r
    ·obtain ⟨q, h1, h2⟩ := keep 5 (by decide)
     refine ⟨q, Ev.step (fun k => ?_) h1, h2⟩
     simp only [disk_Append.j0]
     rw [if_neg (by decide), if_pos c4]
    ·by_cases c5 : wrap64 (wrap64 ((x.f1.size : Int) + (x.f2.size : Int)) + (s.size : Int)) > 65536
     ·obtain ⟨q, h1, h2⟩ := keep 4 (by decide)
      refine ⟨q, Ev.step (fun k => ?_) h1, h2⟩
      simp only [disk_Append.j0]
      rw [if_neg (by decide), if_neg c4]
      unfold disk_size.f
      rw [Option.bind_some, if_pos c5]
     ·have hbx := hb x (by simp)
      have mid := append_mid n s A x C r f o hA hx (by omega) (by omega)
      refine ⟨_, Ev.step (fun k => ?_) mid, by simp, ?_, ?_⟩
      ·simp only [disk_Append.j0]
       rw [if_neg (by decide), if_neg c4]
       unfold disk_size.f
       rw [Option.bind_some, if_neg c5, if_pos trivial]
      ·intro y hy
       rcases List.mem_append.1 hy with hy | hy
       ·exact hb2 y (List.mem_append_left _ hy)
       ·rcases List.mem_cons.1 hy with hy | hy
        ·subst hy
         have := cutT_size s f
         simp only [ByteArray.size_append]
         omega
        ·exact hb2 y (List.mem_append_right _ (List.mem_cons_of_mem _ hy))
      ·intro _ h
       exact absurd hx (h x (by simp))
   ·simp only [if_neg c2]; exact keep 1 (by decide)
theorem sync_ok (l : List S38) (r f : Int) (o : Bool) (n : ByteArray) (hl : l.length < 2932031007402) (hb : ∀ y ∈ l, y.f1.size ≤ 1125899906842624 ∧ y.f2.size ≤ 2251799813685248) : ∃ q, disk_Sync.f l r f o n = some q ∧ q.1.length = l.length ∧
  (q.2.2.2.2 = 0 → ∃ A x C, l = A ++ x :: C ∧ (∀ y ∈ A, y.f0 ≠ n) ∧ x.f0 = n ∧ q.1 = A ++ ⟨x.f0, x.f1 ++ x.f2, (⟨#[]⟩ : ByteArray)⟩ :: C) := by
 unfold disk_Sync.f
 rw [at_eq, Option.bind_some]
 by_cases ho : o = true
 ·rw [if_pos ho]
  exact ⟨_, rfl, rfl, fun h => by simp at h⟩
 ·rw [if_neg ho]
  rcases at_split l n with ⟨h, _⟩ | ⟨A, x, C, rfl, hA, hx, h⟩
  ·rw [h, if_pos (by decide)]
   exact ⟨_, rfl, rfl, fun h => by simp at h⟩
  ·have h1 : A.length < (A ++ x :: C).length := by simp
   have hbx := hb x (by simp)
   rw [h, if_neg (by omega), if_pos (by omega), if_pos (by omega), rdF_get _ _ h1, get_mid _ _ _ h1, if_pos (by omega), set_eq_ A x C _ _ _ hl, Option.bind_some]
   exact ⟨_, rfl, by simp, fun _ => ⟨A, x, C, rfl, hA, hx, rfl⟩⟩
theorem wrap_two (s a b : Int) : wrap64 (wrap64 (s + a) + b) = wrap64 (s + wrap64 (a + b)) := by unfold wrap64; omega
theorem wat_l0 (n : ByteArray) (r f : Int) (o : Bool) : ∀ (m : Nat) (l : List S38) (i : Nat), l.length - i ≤ m → i ≤ l.length → (∀ y ∈ l.take i, y.f0 ≠ n) → l.length < 4611686018427387904 →
  Ev (fun k => stanchionref03_at.l0 k n (i : Int) l r f o) (atD l n) := by
 intro m
 have done : ∀ (l : List S38) (i : Nat), l.length ≤ i → (∀ y ∈ l.take i, y.f0 ≠ n) → Ev (fun k => stanchionref03_at.l0 k n (i : Int) l r f o) (atD l n) := fun l i h hn => by
  rw [List.take_of_length_le h] at hn
  rw [at_none l n hn]
  exact Ev.step (f := fun k => some (-1)) (fun k => by simp only [stanchionref03_at.l0]; rw [if_neg (by omega)]) (Ev.now _)
 induction m with
 | zero => intro l i hm hi hn hl; exact done l i (by omega) hn
 | succ m ih =>
  intro l i hm hi hn hl
  rcases Nat.lt_or_ge i l.length with h | h
  ·by_cases q : (l[i]).f0.toList = n.toList
   ·have e : atD l n = (i : Int) := by
     have hs : l = l.take i ++ l[i] :: l.drop (i + 1) := by rw [← List.drop_eq_getElem_cons h, List.take_append_drop]
     have hh := at_hit (l.take i) l[i] (l.drop (i + 1)) n hn (str_ext q)
     rw [← hs] at hh
     rw [hh, List.length_take]
     omega
    rw [e]
    refine Ev.step (f := fun k => some (i : Int)) (fun k => ?_) (Ev.now _)
    simp only [stanchionref03_at.l0]
    rw [if_pos (by omega), if_pos (by omega), rdF_get _ _ h, if_pos q]
   ·refine Ev.step (fun k => ?_) (ih l (i + 1) (by omega) h (fun y hy => ?_) hl)
    ·simp only [stanchionref03_at.l0]
     rw [if_pos (by omega), if_pos (by omega), rdF_get _ _ h, if_neg q, wrap_succ i (by omega)]
    ·rw [List.take_succ_eq_append_getElem h] at hy
     rcases List.mem_append.1 hy with hy | hy
     ·exact hn y hy
     ·rw [List.mem_singleton.1 hy]
      exact fun e => q (by rw [e])
  ·exact done l i h hn
theorem wat_ev (l : List S38) (r f : Int) (o : Bool) (n : ByteArray) (hl : l.length < 4611686018427387904) : Ev (fun k => stanchionref03_at.f k l r f o n) (atD l n) :=
 wat_l0 n r f o l.length l 0 (by omega) (by omega) (fun y hy => by rw [List.take_zero] at hy; cases hy) hl
theorem less_eq (A : List S38) (x : S38) (C : List S38) (r f : Int) (o : Bool) (hl : (A ++ x :: C).length < 2932031007402) :
  stanchionref03_less.f (A ++ x :: C) r f o (A.length : Int) = some (A ++ C, wrap64 (r + wrap64 ((x.f1.size : Int) + (x.f2.size : Int))), f, o) := by
 have h1 : A.length < (A ++ x :: C).length := by simp
 have hw : wrap64 ((A.length : Int) + 1) = (A.length : Int) + 1 := by unfold wrap64; omega
 have hA : (A.length : Int) < ((A ++ x :: C).length : Int) := Int.ofNat_lt.2 h1
 have ht : (A ++ x :: C).take ((A.length : Nat) : Int).toNat = A := by rw [Int.toNat_natCast]; simp
 have hd : (A ++ x :: C).drop ((A.length : Int) + 1).toNat = C := by
  rw [show ((A.length : Int) + 1).toNat = A.length + 1 by omega, ← List.drop_drop]
  simp
 have hlA : A.length + C.length + 1 < 2932031007402 := by simpa [Nat.add_assoc] using hl
 unfold stanchionref03_less.f
 simp only [if_pos (Int.natCast_nonneg A.length), if_pos hA, Option.bind_some, if_pos (Int.le_of_lt hA), ht, List.length_nil, List.nil_append, Nat.zero_add, if_pos (show A.length < 2932031007402 by omega), hw, if_pos (show (0 : Int) ≤ (A.length : Int) + 1 by omega),
  if_pos (show (A.length : Int) + 1 ≤ ((A ++ x :: C).length : Int) by omega), hd, if_pos (show A.length + C.length < 2932031007402 by omega), rdF_get _ _ h1, get_mid _ _ _ h1, wrap_two]
theorem with_eq (A : List S38) (x : S38) (C : List S38) (r f : Int) (o : Bool) (a b c : ByteArray) (hl : (A ++ x :: C).length < 2932031007402) :
  stanchionref03_with.f (A ++ x :: C) r f o (A.length : Int) a b c = some (A ++ ⟨a, b, c⟩ :: C, r, f, o) := by
 have h1 : A.length < (A ++ x :: C).length := by simp
 unfold stanchionref03_with.f
 rw [Option.bind_some, List.length_nil, Nat.zero_add, if_pos hl, Option.bind_some, List.nil_append, if_pos (by omega), if_pos (by omega), Int.toNat_natCast, set_mid]
theorem delete_both (l : List S38) (r f : Int) (o : Bool) (n : ByteArray) (hl : l.length < 2932031007402) : ∃ q, disk_Delete.f l r f o n = some q ∧ Ev (fun k => stanchionref03_Delete.f k l r f o n) q := by
 have hat := wat_ev l r f o n (by omega)
 unfold disk_Delete.f stanchionref03_Delete.f
 by_cases ho : o = true
 ·simp only [if_pos ho]
  exact ⟨_, rfl, Ev.now _⟩
 ·simp only [if_neg ho, at_eq, Option.bind_some]
  rcases at_split l n with ⟨h, _⟩ | ⟨A, x, C, rfl, hA, hx, h⟩
  ·rw [h] at hat
   simp only [h, if_pos (show (-1 : Int) < 0 by decide)]
   refine ⟨_, rfl, Ev.bind hat ?_⟩
   simp only [if_pos (show (-1 : Int) < 0 by decide)]
   exact Ev.now _
  ·have hneg : ¬ ((A.length : Int) < 0) := by omega
   rw [h] at hat
   simp only [h, if_neg hneg]
   by_cases c1 : f = 0
   ·refine ⟨(A ++ x :: C, r, f, true, 6), by simp only [disk_change.f, if_pos c1, Option.bind_some, if_neg (show ¬ (false = true) by decide)], Ev.bind hat ?_⟩
    simp only [if_neg hneg, stanchionref03_power.f, if_pos c1, Option.bind_some, if_neg (show ¬ (false = true) by decide)]
    exact Ev.now _
   ·have ok : ∀ f', Ev (fun k => (stanchionref03_at.f k (A ++ x :: C) r f' o n).bind fun t402 => ((stanchionref03_less.f (A ++ x :: C) r f' o t402).bind fun bt403 => (some (bt403.1, bt403.2.1, bt403.2.2.1, bt403.2.2.2, (0 : Int))))) (A ++ C, wrap64 (r + wrap64 ((x.f1.size : Int) + (x.f2.size : Int))), f', o, 0) := fun f' => by
     have hat2 := wat_ev (A ++ x :: C) r f' o n (by omega)
     rw [h] at hat2
     refine Ev.bind hat2 ?_
     rw [less_eq A x C r f' o hl]
     exact Ev.now _
    by_cases c2 : f > 0
    ·refine ⟨(A ++ C, wrap64 (r + wrap64 ((x.f1.size : Int) + (x.f2.size : Int))), wrap64 (f - 1), o, 0), by simp only [disk_change.f, if_neg c1, if_pos c2, Option.bind_some, if_pos, at_eq, h, without_eq A x C _ _ _ hl], Ev.bind hat ?_⟩
     simp only [if_neg hneg, stanchionref03_power.f, if_neg c1, if_pos c2, Option.bind_some, if_pos]
     exact ok _
    ·refine ⟨(A ++ C, wrap64 (r + wrap64 ((x.f1.size : Int) + (x.f2.size : Int))), f, o, 0), by simp only [disk_change.f, if_neg c1, if_neg c2, Option.bind_some, if_pos, at_eq, h, without_eq A x C _ _ _ hl], Ev.bind hat ?_⟩
     simp only [if_neg hneg, stanchionref03_power.f, if_neg c1, if_neg c2, Option.bind_some, if_pos]
     exact ok _
theorem sync_both (l : List S38) (r f : Int) (o : Bool) (n : ByteArray) (hl : l.length < 2932031007402) (hb : ∀ y ∈ l, y.f1.size + y.f2.size ≤ 9223372036854775807) : ∃ q, disk_Sync.f l r f o n = some q ∧ Ev (fun k => stanchionref03_Sync.f k l r f o n) q := by
 have hat := wat_ev l r f o n (by omega)
 unfold disk_Sync.f stanchionref03_Sync.f
 simp only [at_eq, Option.bind_some]
 by_cases ho : o = true
 ·simp only [if_pos ho]
  exact ⟨_, rfl, Ev.now _⟩
 ·simp only [if_neg ho]
  rcases at_split l n with ⟨h, _⟩ | ⟨A, x, C, rfl, hA, hx, h⟩
  ·rw [h] at hat
   simp only [h, if_pos (show (-1 : Int) < 0 by decide)]
   refine ⟨_, rfl, Ev.bind hat ?_⟩
   simp only [if_pos (show (-1 : Int) < 0 by decide)]
   exact Ev.now _
  ·have h1 : A.length < (A ++ x :: C).length := by simp
   have hneg : ¬ ((A.length : Int) < 0) := by omega
   have hlt : (A.length : Int) < ((A ++ x :: C).length : Int) := Int.ofNat_lt.2 h1
   have hbx := hb x (by simp)
   rw [h] at hat
   refine ⟨(A ++ ⟨x.f0, x.f1 ++ x.f2, (⟨#[]⟩ : ByteArray)⟩ :: C, r, f, o, 0), ?_, Ev.bind hat ?_⟩
   ·simp only [h, if_neg hneg, if_pos (Int.natCast_nonneg A.length), if_pos hlt, rdF_get _ _ h1, get_mid _ _ _ h1, if_pos hbx, set_eq_ A x C _ _ _ hl, Option.bind_some]
   ·simp only [if_neg hneg, if_pos (Int.natCast_nonneg A.length), if_pos hlt, rdF_get _ _ h1, get_mid _ _ _ h1, if_pos hbx, with_eq A x C _ _ _ _ _ _ hl, Option.bind_some]
    exact Ev.now _
theorem ev_uniq {α : Type} {g : Nat → Option α} {a b : α} (h : Ev g a) (k : Ev g b) : a = b := by
 obtain ⟨K, h⟩ := h
 obtain ⟨L, k⟩ := k
 have h1 := h (K + L) (Nat.le_add_right _ _)
 have h2 := k (K + L) (Nat.le_add_left _ _)
 exact Option.some.inj (h1.symm.trans h2)
theorem ext_all (s : ByteArray) : s.extract 0 ((s.size : Int)).toNat = s := by
 rw [ext_take, Int.toNat_natCast, ← str_len, List.take_length, mkB_self]
theorem rtail_ev (s : ByteArray) (A : List S38) (x : S38) (C : List S38) (r f : Int) (o : Bool) (hl : (A ++ x :: C).length < 2932031007402) (hb : x.f2.size + s.size ≤ 9223372036854775807) :
  Ev (fun k => stanchionref03_Append.j3 k s (A.length : Int) (A ++ x :: C) r f o x.f0 x.f1 x.f2) (A ++ ⟨x.f0, x.f1, x.f2 ++ cutT s f⟩ :: C, wrap64 (r - ((cutT s f).size : Int)), (if f ≥ 0 then wrap64 (f - ((cutT s f).size : Int)) else f), (if ((cutT s f).size : Int) < (s.size : Int) then true else o), (if ((cutT s f).size : Int) < (s.size : Int) then 6 else 0)) := by
 have hz := cutT_size s f
 have j5 : ∀ v : Int, 0 ≤ v → v ≤ (s.size : Int) → s.extract 0 v.toNat = cutT s f → ((cutT s f).size : Int) = v → Ev (fun k => stanchionref03_Append.j5 k s (A.length : Int) v (A ++ x :: C) r f o x.f0 x.f1 x.f2) (A ++ ⟨x.f0, x.f1, x.f2 ++ cutT s f⟩ :: C, wrap64 (r - ((cutT s f).size : Int)), (if f ≥ 0 then wrap64 (f - ((cutT s f).size : Int)) else f), (if ((cutT s f).size : Int) < (s.size : Int) then true else o), (if ((cutT s f).size : Int) < (s.size : Int) then 6 else 0)) := by
  intro v h0 h1 he hv
  refine Ev.step (f := fun k => some (A ++ ⟨x.f0, x.f1, x.f2 ++ cutT s f⟩ :: C, wrap64 (r - ((cutT s f).size : Int)), (if f ≥ 0 then wrap64 (f - ((cutT s f).size : Int)) else f), (if ((cutT s f).size : Int) < (s.size : Int) then true else o), (if ((cutT s f).size : Int) < (s.size : Int) then 6 else 0))) (fun k => ?_) (Ev.now _)
  simp only [stanchionref03_Append.j5]
  rw [if_pos h0, if_pos h1, he, if_pos (by omega), with_eq A x C r f o _ _ _ hl, Option.bind_some, hv]
  by_cases c1 : f ≥ 0
  ·simp only [if_pos c1]
   by_cases c2 : v < (s.size : Int)
   ·simp only [if_pos c2]
   ·simp only [if_neg c2]
  ·simp only [if_neg c1]
   by_cases c2 : v < (s.size : Int)
   ·simp only [if_pos c2]
   ·simp only [if_neg c2]
 by_cases c1 : f ≥ 0
 ·by_cases c2 : f < (s.size : Int)
  ·have e : cutT s f = s.extract 0 f.toNat := by unfold cutT; rw [if_pos ⟨c1, c2⟩]
   refine Ev.step (f := fun k => stanchionref03_Append.j4 k s (A.length : Int) (s.size : Int) true (A ++ x :: C) r f o x.f0 x.f1 x.f2) (fun k => by simp only [stanchionref03_Append.j3]; rw [if_pos c1, decide_eq_true c2]) (Ev.step (fun k => by simp only [stanchionref03_Append.j4]; rw [if_pos trivial]) (j5 f c1 (by omega) e.symm ?_))
   rw [e, ByteArray.size_extract]
   omega
  ·have e : cutT s f = s := by unfold cutT; rw [if_neg (fun q => c2 q.2)]
   refine Ev.step (f := fun k => stanchionref03_Append.j4 k s (A.length : Int) (s.size : Int) false (A ++ x :: C) r f o x.f0 x.f1 x.f2) (fun k => by simp only [stanchionref03_Append.j3]; rw [if_pos c1, decide_eq_false c2]) (Ev.step (fun k => by simp only [stanchionref03_Append.j4]; rw [if_neg (by decide)]) (j5 (s.size : Int) (by omega) (by omega) (by rw [ext_all, e]) (by rw [e])))
 ·have e : cutT s f = s := by unfold cutT; rw [if_neg (fun q => c1 q.1)]
  refine Ev.step (f := fun k => stanchionref03_Append.j4 k s (A.length : Int) (s.size : Int) false (A ++ x :: C) r f o x.f0 x.f1 x.f2) (fun k => by simp only [stanchionref03_Append.j3]; rw [if_neg c1]) (Ev.step (fun k => by simp only [stanchionref03_Append.j4]; rw [if_neg (by decide)]) (j5 (s.size : Int) (by omega) (by omega) (by rw [ext_all, e]) (by rw [e])))
def nameOk (n : ByteArray) : Bool := if (n.size : Int) ≥ 1 then decide ((n.size : Int) ≤ 16) else false
theorem named_eq (n : ByteArray) : disk_named.f n = some (nameOk n) := by
 unfold disk_named.f nameOk
 split <;> rfl
theorem append_both (l : List S38) (r f : Int) (o : Bool) (n s : ByteArray) (hl : l.length < 2932031007401) (hb : Bd l) (hs : s.size ≤ 1125899906842624) :
  ∃ q, Ev (fun k => disk_Append.f k l r f o n s) q ∧ Ev (fun k => stanchionref03_Append.f k l r f o n s) q := by
 have hat := wat_ev l r f o n (by omega)
 by_cases ho : o = true
 ·have hr : Ev (fun k => stanchionref03_Append.f k l r f o n s) (l, r, f, o, 6) := by
   unfold stanchionref03_Append.f
   simp only [if_pos ho]
   exact Ev.now _
  refine ⟨_, ?_, hr⟩
  unfold disk_Append.f
  rcases find_eq_ l r f o n with ⟨_, _, hf⟩ | ⟨A, x, C, _, _, _, hf⟩
  ·simp only [hf, Option.bind_some, if_pos ho]
   exact Ev.now _
  ·simp only [hf, Option.bind_some, if_pos ho]
   exact Ev.now _
 ·cases hn : nameOk n with
  | false =>
   have hr : Ev (fun k => stanchionref03_Append.f k l r f o n s) (l, r, f, o, 1) := by
    unfold stanchionref03_Append.f
    simp only [if_neg ho]
    have j : Ev (fun k => stanchionref03_Append.j0 k n s true l r f o) (l, r, f, o, 1) := Ev.step (f := fun k => some (l, r, f, o, 1)) (fun k => by simp only [stanchionref03_Append.j0]; rw [if_pos trivial]) (Ev.now _)
    unfold nameOk at hn
    by_cases c : (n.size : Int) < 1
    ·simp only [if_pos c]; exact j
    ·rw [if_pos (by omega)] at hn
     have := of_decide_eq_false hn
     simp only [if_neg c]
     rw [decide_eq_true (by omega)]
     exact j
   refine ⟨_, ?_, hr⟩
   unfold disk_Append.f
   rcases find_eq_ l r f o n with ⟨_, _, hf⟩ | ⟨A, x, C, _, _, _, hf⟩
   ·simp only [hf, Option.bind_some, if_neg ho, named_eq, hn, if_neg (show ¬ (false = true) by decide)]
    exact Ev.now _
   ·simp only [hf, Option.bind_some, if_neg ho, named_eq, hn, if_neg (show ¬ (false = true) by decide)]
    exact Ev.now _
  | true =>
   have start : ∀ q, Ev (fun k => stanchionref03_Append.j0 k n s false l r f o) q → Ev (fun k => stanchionref03_Append.f k l r f o n s) q := by
    intro q j
    unfold stanchionref03_Append.f
    simp only [if_neg ho]
    unfold nameOk at hn
    by_cases c : (n.size : Int) ≥ 1
    ·rw [if_pos c] at hn
     have := of_decide_eq_true hn
     simp only [if_neg (show ¬ ((n.size : Int) < 1) by omega)]
     rw [decide_eq_false (by omega)]
     exact j
    ·rw [if_neg c] at hn; cases hn
   rcases find_eq_ l r f o n with ⟨ha, hno, hf⟩ | ⟨A, x, C, rfl, hA, hx, hf⟩
   ·rw [ha] at hat
    have prog : ∀ q, Ev (fun k => disk_Append.j0 k n s false (decide ((l.length : Int) ≥ 64)) l r f o (⟨#[]⟩ : ByteArray) (⟨#[]⟩ : ByteArray) (⟨#[]⟩ : ByteArray)) q → Ev (fun k => disk_Append.f k l r f o n s) q := by
     intro q h
     unfold disk_Append.f
     simp only [hf, Option.bind_some, if_neg ho, named_eq, hn, if_pos, if_neg (show ¬ (false = true) by decide)]
     exact h
    have ref : ∀ b q, b = (if (l.length : Int) ≥ 64 then true else decide ((s.size : Int) > r)) → Ev (fun k => stanchionref03_Append.j1 k n s (-1) b l r f o) q → Ev (fun k => stanchionref03_Append.f k l r f o n s) q := by
     intro b q hb2 h
     refine start q (Ev.step (fun k => by simp only [stanchionref03_Append.j0]; rw [if_neg (by decide)]) (Ev.bind hat ?_))
     simp only [if_pos (show (-1 : Int) < 0 by decide)]
     subst hb2
     by_cases c : (l.length : Int) ≥ 64
     ·simp only [if_pos c] at h ⊢; exact h
     ·simp only [if_neg c] at h ⊢; exact h
    by_cases c1 : (l.length : Int) ≥ 64
    ·refine ⟨(l, r, f, o, 5), prog _ ?_, ref true _ (by rw [if_pos c1]) ?_⟩
     ·rw [decide_eq_true c1]
      exact Ev.step (f := fun k => some (l, r, f, o, 5)) (fun k => by simp only [disk_Append.j0]; rw [if_pos trivial]) (Ev.now _)
     ·exact Ev.step (f := fun k => some (l, r, f, o, 5)) (fun k => by simp only [stanchionref03_Append.j1]; rw [if_pos trivial]) (Ev.now _)
    ·rw [decide_eq_false c1] at prog
     by_cases c2 : (s.size : Int) > r
     ·refine ⟨(l, r, f, o, 5), prog _ ?_, ref true _ (by rw [if_neg c1, decide_eq_true c2]) ?_⟩
      ·exact Ev.step (f := fun k => some (l, r, f, o, 5)) (fun k => by simp only [disk_Append.j0]; rw [if_neg (by decide), if_pos c2]) (Ev.now _)
      ·exact Ev.step (f := fun k => some (l, r, f, o, 5)) (fun k => by simp only [stanchionref03_Append.j1]; rw [if_pos trivial]) (Ev.now _)
     ·have ref2 : ∀ q, Ev (fun k => stanchionref03_Append.j2 k s (-1) l r f o n (⟨#[]⟩ : ByteArray) (⟨#[]⟩ : ByteArray)) q → Ev (fun k => stanchionref03_Append.f k l r f o n s) q := fun q h =>
       ref false q (by rw [if_neg c1, decide_eq_false c2]) (Ev.step (fun k => by simp only [stanchionref03_Append.j1]; rw [if_neg (by decide), if_neg (by decide)]) h)
      have hl1 : l.length < 2932031007402 := by omega
      have hl3 : l.length + 1 < 2932031007402 := by omega
      have hl2 : (l ++ [(⟨n, (⟨#[]⟩ : ByteArray), (⟨#[]⟩ : ByteArray)⟩ : S38)]).length < 2932031007402 := by rw [List.length_append, List.length_singleton]; exact hl3
      have hem : (⟨#[]⟩ : ByteArray).size = 0 := rfl
      have hs0 : (⟨#[]⟩ : ByteArray).size + s.size ≤ 9223372036854775807 := by omega
      have t1 := append_mid n s l ⟨n, (⟨#[]⟩ : ByteArray), (⟨#[]⟩ : ByteArray)⟩ [] r f o hno rfl hl2 hs0
      have t2 := rtail_ev s l ⟨n, (⟨#[]⟩ : ByteArray), (⟨#[]⟩ : ByteArray)⟩ [] r f o hl2 hs0
      by_cases c3 : wrap64 (wrap64 ((((⟨#[]⟩ : ByteArray).size : Nat) : Int) + (((⟨#[]⟩ : ByteArray).size : Nat) : Int)) + (s.size : Int)) > 65536
      ·refine ⟨(l, r, f, o, 4), prog _ ?_, ref2 _ ?_⟩
       ·exact Ev.step (f := fun k => some (l, r, f, o, 4)) (fun k => by simp only [disk_Append.j0]; rw [if_neg (by decide), if_neg c2]; unfold disk_size.f; rw [Option.bind_some, if_pos c3]) (Ev.now _)
       ·exact Ev.step (f := fun k => some (l, r, f, o, 4)) (fun k => by simp only [stanchionref03_Append.j2]; rw [if_pos c3]) (Ev.now _)
      ·refine ⟨_, prog _ (Ev.step (fun k => ?_) t1), ref2 _ (Ev.step (fun k => ?_) t2)⟩
       ·simp only [disk_Append.j0]
        rw [if_neg (by decide), if_neg c2]
        unfold disk_size.f
        rw [Option.bind_some, if_neg c3, if_neg (by decide), clone_eq l hl1, Option.bind_some, if_pos hl1]
       ·simp only [stanchionref03_Append.j2]
        rw [if_neg c3, if_pos (by decide), Option.bind_some, List.length_nil, Nat.zero_add, if_pos hl1, Option.bind_some, List.nil_append, Option.bind_some, List.length_singleton, if_pos hl3]
   ·have hax := at_hit A x C n hA hx
    rw [hax] at hat
    have h1 : A.length < (A ++ x :: C).length := by simp
    have hneg : ¬ ((A.length : Int) < 0) := by omega
    have hbx := hb x (by simp)
    have prog : ∀ q, Ev (fun k => disk_Append.j0 k n s true false (A ++ x :: C) r f o x.f0 x.f1 x.f2) q → Ev (fun k => disk_Append.f k (A ++ x :: C) r f o n s) q := by
     intro q h
     unfold disk_Append.f
     simp only [hf, Option.bind_some, if_neg ho, named_eq, hn, if_pos]
     exact h
    have ref : ∀ q, Ev (fun k => stanchionref03_Append.j1 k n s (A.length : Int) (decide ((s.size : Int) > r)) (A ++ x :: C) r f o) q → Ev (fun k => stanchionref03_Append.f k (A ++ x :: C) r f o n s) q := by
     intro q h
     refine start q (Ev.step (fun k => by simp only [stanchionref03_Append.j0]; rw [if_neg (by decide)]) (Ev.bind hat ?_))
     simp only [if_neg hneg]
     exact h
    by_cases c2 : (s.size : Int) > r
    ·rw [decide_eq_true c2] at ref
     refine ⟨(A ++ x :: C, r, f, o, 5), prog _ ?_, ref _ ?_⟩
     ·exact Ev.step (f := fun k => some (A ++ x :: C, r, f, o, 5)) (fun k => by simp only [disk_Append.j0]; rw [if_neg (by decide), if_pos c2]) (Ev.now _)
     ·exact Ev.step (f := fun k => some (A ++ x :: C, r, f, o, 5)) (fun k => by simp only [stanchionref03_Append.j1]; rw [if_pos trivial]) (Ev.now _)
    ·rw [decide_eq_false c2] at ref
     have ref2 : ∀ q, Ev (fun k => stanchionref03_Append.j2 k s (A.length : Int) (A ++ x :: C) r f o x.f0 x.f1 x.f2) q → Ev (fun k => stanchionref03_Append.f k (A ++ x :: C) r f o n s) q := fun q h =>
      ref q (Ev.step (fun k => by simp only [stanchionref03_Append.j1]; rw [if_neg (by decide), if_pos (by omega), if_pos (by omega), if_pos (by omega), rdF_get _ _ h1, get_mid _ _ _ h1]) h)
     have hl1 : (A ++ x :: C).length < 2932031007402 := by omega
     have hs0 : x.f2.size + s.size ≤ 9223372036854775807 := by omega
     have t1 := append_mid n s A x C r f o hA hx hl1 hs0
     have t2 := rtail_ev s A x C r f o hl1 hs0
     by_cases c3 : wrap64 (wrap64 ((x.f1.size : Int) + (x.f2.size : Int)) + (s.size : Int)) > 65536
     ·refine ⟨(A ++ x :: C, r, f, o, 4), prog _ ?_, ref2 _ ?_⟩
      ·exact Ev.step (f := fun k => some (A ++ x :: C, r, f, o, 4)) (fun k => by simp only [disk_Append.j0]; rw [if_neg (by decide), if_neg c2]; unfold disk_size.f; rw [Option.bind_some, if_pos c3]) (Ev.now _)
      ·exact Ev.step (f := fun k => some (A ++ x :: C, r, f, o, 4)) (fun k => by simp only [stanchionref03_Append.j2]; rw [if_pos c3]) (Ev.now _)
     ·refine ⟨_, prog _ (Ev.step (fun k => ?_) t1), ref2 _ (Ev.step (fun k => ?_) t2)⟩
      ·simp only [disk_Append.j0]
       rw [if_neg (by decide), if_neg c2]
       unfold disk_size.f
       rw [Option.bind_some, if_neg c3, if_pos trivial]
      ·simp only [stanchionref03_Append.j2]
       rw [if_neg c3, if_neg hneg]
theorem rename_both (l : List S38) (r f : Int) (o : Bool) (a b : ByteArray) (hl : l.length < 2932031007402) : ∃ q, disk_Rename.f l r f o a b = some q ∧ Ev (fun k => stanchionref03_Rename.f k l r f o a b) q ∧ q.1.length ≤ l.length := by
 have hat := fun (m : List S38) (r' f' : Int) (o' : Bool) (n : ByteArray) (hm : m.length < 2932031007402) => wat_ev m r' f' o' n (by omega)
 by_cases ho : o = true
 ·refine ⟨(l, r, f, o, 6), by unfold disk_Rename.f; rw [if_pos ho], ?_, Nat.le_refl _⟩
  unfold stanchionref03_Rename.f
  simp only [if_pos ho]
  exact Ev.now _
 ·cases hn : nameOk b with
  | false =>
   refine ⟨(l, r, f, o, 1), by unfold disk_Rename.f; rw [if_neg ho, named_eq, Option.bind_some, hn, if_neg (by decide)], ?_, Nat.le_refl _⟩
   unfold stanchionref03_Rename.f
   simp only [if_neg ho]
   have j : Ev (fun k => stanchionref03_Rename.j0 k a b true l r f o) (l, r, f, o, 1) := Ev.step (f := fun k => some (l, r, f, o, 1)) (fun k => by simp only [stanchionref03_Rename.j0]; rw [if_pos trivial]) (Ev.now _)
   unfold nameOk at hn
   by_cases c : (b.size : Int) < 1
   ·simp only [if_pos c]; exact j
   ·rw [if_pos (by omega)] at hn
    have := of_decide_eq_false hn
    simp only [if_neg c]
    rw [decide_eq_true (by omega)]
    exact j
  | true =>
   have start : ∀ q, Ev (fun k => stanchionref03_Rename.j0 k a b false l r f o) q → Ev (fun k => stanchionref03_Rename.f k l r f o a b) q := by
    intro q j
    unfold stanchionref03_Rename.f
    simp only [if_neg ho]
    unfold nameOk at hn
    by_cases c : (b.size : Int) ≥ 1
    ·rw [if_pos c] at hn
     have := of_decide_eq_true hn
     simp only [if_neg (show ¬ ((b.size : Int) < 1) by omega)]
     rw [decide_eq_false (by omega)]
     exact j
    ·rw [if_neg c] at hn; cases hn
   unfold disk_Rename.f
   simp only [if_neg ho, named_eq, Option.bind_some, hn, if_pos, at_eq]
   rcases at_split l a with ⟨h, _⟩ | ⟨A, x, C, hlx, hA, hx, h⟩
   ·have h2 := hat l r f o a hl
    rw [h] at h2
    simp only [h, if_pos (show (-1 : Int) < 0 by decide)]
    refine ⟨_, rfl, start _ (Ev.step (fun k => by simp only [stanchionref03_Rename.j0]; rw [if_neg (by decide)]) (Ev.bind h2 ?_)), Nat.le_refl _⟩
    simp only [if_pos (show (-1 : Int) < 0 by decide)]
    exact Ev.now _
   ·have h2 := hat l r f o a hl
    rw [h] at h2
    have hneg : ¬ ((A.length : Int) < 0) := by omega
    simp only [h, if_neg hneg]
    by_cases hab : a.toList = b.toList
    ·simp only [if_pos hab]
     refine ⟨_, rfl, start _ (Ev.step (fun k => by simp only [stanchionref03_Rename.j0]; rw [if_neg (by decide)]) (Ev.bind h2 ?_)), Nat.le_refl _⟩
     simp only [if_neg hneg, if_pos hab]
     exact Ev.now _
    ·simp only [if_neg hab]
     by_cases c1 : f = 0
     ·refine ⟨(l, r, f, true, 6), by simp only [disk_change.f, if_pos c1, Option.bind_some, if_neg (show ¬ (false = true) by decide)], start _ (Ev.step (fun k => by simp only [stanchionref03_Rename.j0]; rw [if_neg (by decide)]) (Ev.bind h2 ?_)), Nat.le_refl _⟩
      simp only [if_neg hneg, if_neg hab, stanchionref03_power.f, if_pos c1, Option.bind_some, if_neg (show ¬ (false = true) by decide)]
      exact Ev.now _
     ·have ok : ∀ f', ∃ q, ((some (atD l b)).bind fun t246 => (if t246 ≥ 0 then ((disk_without.f l r f' o t246).bind fun bt247 => ((some (atD bt247.1 a)).bind fun t253 => (if 0 ≤ t253 then (if t253 < (bt247.1.length : Int) then ((api_File_70.f bt247.1 t253 b ((rd_T38 bt247.1 t253).f1) ((rd_T38 bt247.1 t253).f2)).bind fun t256 => (some (t256, bt247.2.1, bt247.2.2.1, bt247.2.2.2, (0 : Int)))) else (none)) else (none)))) else ((some (atD l a)).bind fun t259 => (if 0 ≤ t259 then (if t259 < (l.length : Int) then ((api_File_70.f l t259 b ((rd_T38 l t259).f1) ((rd_T38 l t259).f2)).bind fun t262 => (some (t262, r, f', o, (0 : Int)))) else (none)) else (none))))) = some q ∧
        Ev (fun k => (stanchionref03_at.f k l r f' o b).bind fun t401 => (if t401 ≥ 0 then ((stanchionref03_less.f l r f' o t401).bind fun bt402 => ((stanchionref03_at.f k bt402.1 bt402.2.1 bt402.2.2.1 bt402.2.2.2 a).bind fun t408 => (if 0 ≤ t408 then (if t408 < (bt402.1.length : Int) then ((stanchionref03_with.f bt402.1 bt402.2.1 bt402.2.2.1 bt402.2.2.2 t408 b ((rd_T38 bt402.1 t408).f1) ((rd_T38 bt402.1 t408).f2)).bind fun bt411 => (some (bt411.1, bt411.2.1, bt411.2.2.1, bt411.2.2.2, (0 : Int)))) else (none)) else (none)))) else ((stanchionref03_at.f k l r f' o a).bind fun t417 => (if 0 ≤ t417 then (if t417 < (l.length : Int) then ((stanchionref03_with.f l r f' o t417 b ((rd_T38 l t417).f1) ((rd_T38 l t417).f2)).bind fun bt420 => (some (bt420.1, bt420.2.1, bt420.2.2.1, bt420.2.2.2, (0 : Int)))) else (none)) else (none))))) q ∧ q.1.length ≤ l.length := by
       intro f'
       have fin : ∀ (m : List S38) (r' : Int), m.length < 2932031007402 → (∃ y ∈ m, y.f0 = a) → ∃ q, ((some (atD m a)).bind fun t253 => (if 0 ≤ t253 then (if t253 < (m.length : Int) then ((api_File_70.f m t253 b ((rd_T38 m t253).f1) ((rd_T38 m t253).f2)).bind fun t256 => (some (t256, r', f', o, (0 : Int)))) else (none)) else (none))) = some q ∧
         Ev (fun k => (stanchionref03_at.f k m r' f' o a).bind fun t417 => (if 0 ≤ t417 then (if t417 < (m.length : Int) then ((stanchionref03_with.f m r' f' o t417 b ((rd_T38 m t417).f1) ((rd_T38 m t417).f2)).bind fun bt420 => (some (bt420.1, bt420.2.1, bt420.2.2.1, bt420.2.2.2, (0 : Int)))) else (none)) else (none))) q ∧ q.1.length ≤ m.length := by
        intro m r' hm hex
        rcases at_split m a with ⟨_, hno⟩ | ⟨A', x', C', rfl, hA', hx', h'⟩
        ·obtain ⟨y, hy, hya⟩ := hex
         exact absurd hya (hno y hy)
        ·have hat' := hat (A' ++ x' :: C') r' f' o a hm
         rw [h'] at hat'
         have h1 : A'.length < (A' ++ x' :: C').length := by simp
         have hlt : (A'.length : Int) < ((A' ++ x' :: C').length : Int) := Int.ofNat_lt.2 h1
         refine ⟨(A' ++ ⟨b, x'.f1, x'.f2⟩ :: C', r', f', o, 0), ?_, Ev.bind hat' ?_, by simp⟩
         ·simp only [h', Option.bind_some, if_pos (Int.natCast_nonneg A'.length), if_pos hlt, rdF_get _ _ h1, get_mid _ _ _ h1, set_eq_ A' x' C' _ _ _ hm]
         ·simp only [if_pos (Int.natCast_nonneg A'.length), if_pos hlt, rdF_get _ _ h1, get_mid _ _ _ h1, with_eq A' x' C' _ _ _ _ _ _ hm, Option.bind_some]
          exact Ev.now _
       rcases at_split l b with ⟨hb', _⟩ | ⟨B, y, D, hly, hB, hy, hb'⟩
       ·have hatb := hat l r f' o b hl
        rw [hb'] at hatb
        obtain ⟨q, k1, k2, k3⟩ := fin l r hl ⟨x, by rw [hlx]; simp, hx⟩
        refine ⟨q, ?_, Ev.bind hatb ?_, k3⟩
        ·simp only [hb', Option.bind_some, if_neg (show ¬ ((-1 : Int) ≥ 0) by decide)]
         exact k1
        ·simp only [if_neg (show ¬ ((-1 : Int) ≥ 0) by decide)]
         exact k2
       ·have hatb := hat l r f' o b hl
        rw [hb'] at hatb
        have hmem : ∃ z ∈ B ++ D, z.f0 = a := by
         have hxl : x ∈ B ++ y :: D := by rw [← hly, hlx]; simp
         rcases List.mem_append.1 hxl with hz | hz
         ·exact ⟨x, List.mem_append_left _ hz, hx⟩
         ·rcases List.mem_cons.1 hz with rfl | hz
          ·exact absurd (by rw [← hx, ← hy]) hab
          ·exact ⟨x, List.mem_append_right _ hz, hx⟩
        have hlen : (B ++ D).length < 2932031007402 := by rw [hly] at hl; simp at hl ⊢; omega
        obtain ⟨q, k1, k2, k3⟩ := fin (B ++ D) (wrap64 (r + wrap64 ((y.f1.size : Int) + (y.f2.size : Int)))) hlen hmem
        subst hly
        refine ⟨q, ?_, Ev.bind hatb ?_, by simp at k3 ⊢; omega⟩
        ·simp only [hb', Option.bind_some, if_pos (show (B.length : Int) ≥ 0 by omega), without_eq B y D r f' o hl]
         exact k1
        ·simp only [if_pos (show (B.length : Int) ≥ 0 by omega), less_eq B y D r f' o hl, Option.bind_some]
         exact k2
      by_cases c2 : f > 0
      ·obtain ⟨q, k1, k2, k3⟩ := ok (wrap64 (f - 1))
       refine ⟨q, by simp only [disk_change.f, if_neg c1, if_pos c2, Option.bind_some, if_pos]; simpa only [Option.bind_some, h] using k1, start _ (Ev.step (fun k => by simp only [stanchionref03_Rename.j0]; rw [if_neg (by decide)]) (Ev.bind h2 ?_)), k3⟩
       simp only [if_neg hneg, if_neg hab, stanchionref03_power.f, if_neg c1, if_pos c2, Option.bind_some, if_pos]
       exact k2
      ·obtain ⟨q, k1, k2, k3⟩ := ok f
       refine ⟨q, by simp only [disk_change.f, if_neg c1, if_neg c2, Option.bind_some, if_pos]; simpa only [Option.bind_some, h] using k1, start _ (Ev.step (fun k => by simp only [stanchionref03_Rename.j0]; rw [if_neg (by decide)]) (Ev.bind h2 ?_)), k3⟩
       simp only [if_neg hneg, if_neg hab, stanchionref03_power.f, if_neg c1, if_neg c2, Option.bind_some, if_pos]
       exact k2
theorem find_both (l : List S38) (r f : Int) (o : Bool) (n : ByteArray) (hl : l.length < 2932031007402) :
  (disk_Find.f l r f o n = some ((⟨#[]⟩ : ByteArray), (⟨#[]⟩ : ByteArray), (⟨#[]⟩ : ByteArray), false) ∧ Ev (fun k => stanchionref03_Find.f k l r f o n) ((⟨#[]⟩ : ByteArray), (⟨#[]⟩ : ByteArray), (⟨#[]⟩ : ByteArray), false)) ∨
  ∃ x ∈ l, disk_Find.f l r f o n = some (x.f0, x.f1, x.f2, true) ∧ Ev (fun k => stanchionref03_Find.f k l r f o n) (x.f0, x.f1, x.f2, true) := by
 have hat := wat_ev l r f o n (by omega)
 rcases find_eq_ l r f o n with ⟨h, hno, hf⟩ | ⟨A, x, C, rfl, hA, hx, hf⟩
 ·rw [h] at hat
  refine .inl ⟨hf, ?_⟩
  unfold stanchionref03_Find.f
  refine Ev.bind hat ?_
  simp only [if_pos (show (-1 : Int) < 0 by decide)]
  exact Ev.now _
 ·rw [at_hit A x C n hA hx] at hat
  have h1 : A.length < (A ++ x :: C).length := by simp
  have hlt : (A.length : Int) < ((A ++ x :: C).length : Int) := Int.ofNat_lt.2 h1
  refine .inr ⟨x, by simp, hf, ?_⟩
  unfold stanchionref03_Find.f
  refine Ev.bind hat ?_
  simp only [if_neg (show ¬ ((A.length : Int) < 0) by omega), if_pos (Int.natCast_nonneg A.length), if_pos hlt, rdF_get _ _ h1, get_mid _ _ _ h1]
  exact Ev.now _
theorem loopR_len : ∀ (c : Nat) (t : List UInt8) (l : List S62), (loopR c t l).2.length ≤ l.length + t.length
 | 0, t, l => Nat.le_add_right _ _
 | c + 1, t, l => by
  simp only [loopR]
  cases h1 : tT t 65536 with
  | none => exact Nat.le_add_right _ _
  | some a =>
   obtain ⟨x, q⟩ := a
   have g1 := tT_lt h1
   simp only
   cases h2 : tT q 65536 with
   | none => exact Nat.le_add_right _ _
   | some b =>
    obtain ⟨y, q2⟩ := b
    have g2 := tT_lt h2
    have ih := loopR_len c q2 (l ++ [⟨mkB x, mkB y⟩])
    rw [List.length_append, List.length_singleton] at ih
    simp only
    omega
theorem takeQ_len (l : List UInt8) : (takeQ l).1.length ≤ l.length := by
 have h1 := openL_len l 1073741824
 have h2 := tn_len (openL l 1073741824).1
 unfold takeQ
 split
 ·unfold endR
  have h3 := loopR_len (tn (openL l 1073741824).1).1 (tn (openL l 1073741824).1).2.1 []
  rw [List.length_nil, Nat.zero_add] at h3
  split
  ·split
   ·split
    ·simp only; omega
    ·exact Nat.zero_le _
   ·exact Nat.zero_le _
  ·exact Nat.zero_le _
 ·exact Nat.zero_le _
theorem load_both (l : List S38) (r f : Int) (o : Bool) (n : ByteArray) (hl : l.length < 2932031007402) (hb : Bd l) :
  ∃ q, Ev (fun k => run_Load.f k l r f o n) q ∧ Ev (fun k => stanchionref06_Load.f k l r f o n) q ∧ q.1.length < 4611686018427387904 := by
 unfold run_Load.f stanchionref06_Load.f disk_Read.f stanchionref03_Read.f
 rcases find_both l r f o n hl with ⟨h1, h2⟩ | ⟨x, hx, h1, h2⟩
 ·refine ⟨([], 7), ?_, ?_, by simp⟩
  ·simp only [h1, Option.bind_some, if_neg (show ¬ (false = true) by decide), if_neg (show ¬ ((7 : Int) = 0) by decide)]
   exact Ev.now _
  ·refine Ev.bind (a := ((⟨#[]⟩ : ByteArray), (7 : Int))) (Ev.bind h2 ?_) ?_
   ·simp only [if_neg (show ¬ (false = true) by decide)]
    exact Ev.now _
   ·simp only [if_neg (show ¬ ((7 : Int) = 0) by decide)]
    exact Ev.now _
 ·have hbx := hb x hx
  have hsz : x.f1.size + x.f2.size ≤ 9223372036854775807 := by omega
  obtain ⟨L, hL⟩ : ∃ L, L = (x.f1 ++ x.f2).toList := ⟨_, rfl⟩
  have hm : x.f1 ++ x.f2 = mkB L := by rw [hL, mkB_self]
  have hlen : L.length = x.f1.size + x.f2.size := by rw [hL, str_len, ByteArray.size_append]
  have t1 := takeA_ev L (by omega)
  have t2 := rtakeA_ev L (by omega)
  have t3 := takeQ_len L
  refine ⟨takeQ L, ?_, ?_, by omega⟩
  ·simp only [h1, Option.bind_some, if_pos, if_pos hsz, hm]
   exact Ev.bind t1 (Ev.now _)
  ·refine Ev.bind (a := (x.f1 ++ x.f2, (0 : Int))) (Ev.bind h2 ?_) ?_
   ·simp only [if_pos, if_pos hsz]
    exact Ev.now _
   ·simp only [if_pos, hm]
    exact Ev.bind t2 (Ev.now _)
theorem tail_both (l : List S38) (r f : Int) (o : Bool) (n s g : ByteArray) (hl : l.length < 2932031007401) (hb : Bd l) (hs : s.size ≤ 1125899906842624) :
  ∃ q, Ev (fun k => run_Lay.j0 k n s g l r f o) q ∧ Ev (fun k => stanchionref06_Lay.j0 k n s g 0 l r f o) q ∧ q.1.length < 4611686018427387904 := by
 obtain ⟨⟨a1, a2, a3, a4, a5⟩, p1, r1⟩ := append_both l r f o g s hl hb hs
 obtain ⟨q', p1', hq1, hq2, _⟩ := append_ok l r f o g s hl hb hs
 obtain rfl := ev_uniq p1 p1'
 have hq1 : a1.length ≤ l.length + 1 := hq1
 have hq2 : ∀ y ∈ a1, y.f1.size ≤ 1125899906842624 ∧ y.f2.size ≤ 2251799813685248 := hq2
 have rstep : ∀ q, Ev (fun k => stanchionref06_Lay.j1 k n g a5 a1 a2 a3 a4) q → Ev (fun k => stanchionref06_Lay.j0 k n s g 0 l r f o) q := fun q h =>
  Ev.step (fun k => by simp only [stanchionref06_Lay.j0]; rw [if_pos trivial]) (Ev.bind r1 h)
 by_cases e1 : a5 = 0
 ·obtain ⟨⟨b1, b2, b3, b4, b5⟩, p2, r2⟩ := sync_both a1 a2 a3 a4 g (by omega) (fun y hy => by have := hq2 y hy; omega)
  obtain ⟨q'', p2', hlen2, _⟩ := sync_ok a1 a2 a3 a4 g (by omega) hq2
  obtain rfl := Option.some.inj (p2.symm.trans p2')
  have hlen2 : b1.length = a1.length := hlen2
  by_cases e2 : b5 = 0
  ·obtain ⟨⟨d1, d2, d3, d4, d5⟩, p3, r3, hl3⟩ := rename_both b1 b2 b3 b4 g n (by omega)
   have hlen3 : d1.length < 4611686018427387904 := by
    have hl3 : d1.length ≤ b1.length := hl3
    omega
   refine ⟨(d1, d2, d3, d4, d5), Ev.step (fun k => by simp only [run_Lay.j0]; rfl) (Ev.bind p1 ?_), rstep _ (Ev.step (fun k => by simp only [stanchionref06_Lay.j1]; rw [if_pos e1]) (Ev.bind r2 ?_)), hlen3⟩
   ·simp only [if_pos e1, p2, Option.bind_some, if_pos e2, p3]
    exact Ev.now _
   ·simp only [if_pos e2]
    exact Ev.bind r3 (Ev.now _)
  ·refine ⟨(b1, b2, b3, b4, b5), Ev.step (fun k => by simp only [run_Lay.j0]; rfl) (Ev.bind p1 ?_), rstep _ (Ev.step (fun k => by simp only [stanchionref06_Lay.j1]; rw [if_pos e1]) (Ev.bind r2 ?_)), by show b1.length < _; omega⟩
   ·simp only [if_pos e1, p2, Option.bind_some, if_neg e2]
    exact Ev.now _
   ·simp only [if_neg e2]
    exact Ev.now _
 ·refine ⟨(a1, a2, a3, a4, a5), Ev.step (fun k => by simp only [run_Lay.j0]; rfl) (Ev.bind p1 ?_), rstep _ (Ev.step (f := fun k => some (a1, a2, a3, a4, a5)) (fun k => by simp only [stanchionref06_Lay.j1]; rw [if_neg e1]) (Ev.now _)), by show a1.length < _; omega⟩
  simp only [if_neg e1]
  exact Ev.now _
theorem lay_both (l : List S38) (r f : Int) (o : Bool) (n s : ByteArray) (hl : l.length < 2932031007401) (hb : Bd l) (hs : s.size ≤ 1125899906842624) (hn : n.size ≤ 4611686018427387904) :
  ∃ q, Ev (fun k => run_Lay.f k l r f o n s) q ∧ Ev (fun k => stanchionref06_Lay.f k l r f o n s) q ∧ q.1.length < 4611686018427387904 := by
 unfold run_Lay.f stanchionref06_Lay.f
 simp only [if_pos (show 2 + n.size ≤ 9223372036854775807 by omega)]
 rcases find_both l r f o ((⟨#[110, 46]⟩ : ByteArray) ++ n) (by omega) with ⟨h1, h2⟩ | ⟨x, hx, h1, h2⟩
 ·obtain ⟨q, p, q2, q3⟩ := tail_both l r f o n s ((⟨#[110, 46]⟩ : ByteArray) ++ n) hl hb hs
  refine ⟨q, ?_, Ev.bind h2 ?_, q3⟩
  ·simp only [h1, Option.bind_some, if_neg (show ¬ (false = true) by decide)]
   exact p
  ·simp only [if_neg (show ¬ (false = true) by decide)]
   exact q2
 ·obtain ⟨⟨a1, a2, a3, a4, a5⟩, d1, d2⟩ := delete_both l r f o ((⟨#[110, 46]⟩ : ByteArray) ++ n) (by omega)
  obtain ⟨q', d1', hle, hme, _⟩ := delete_ok l r f o ((⟨#[110, 46]⟩ : ByteArray) ++ n) (by omega)
  obtain rfl := Option.some.inj (d1.symm.trans d1')
  have hle : a1.length ≤ l.length := hle
  have hme : ∀ y ∈ a1, y ∈ l := hme
  by_cases e1 : a5 = 0
  ·obtain ⟨q, p, q2, q3⟩ := tail_both a1 a2 a3 a4 n s ((⟨#[110, 46]⟩ : ByteArray) ++ n) (by omega) (fun y hy => hb y (hme y hy)) hs
   refine ⟨q, ?_, Ev.bind h2 ?_, q3⟩
   ·simp only [h1, Option.bind_some, if_pos, d1, if_pos e1]
    exact p
   ·simp only [if_pos]
    refine Ev.bind d2 ?_
    simp only [e1]
    exact q2
  ·refine ⟨(a1, a2, a3, a4, a5), ?_, Ev.bind h2 ?_, by show a1.length < _; omega⟩
   ·simp only [h1, Option.bind_some, if_pos, d1, if_neg e1]
    exact Ev.now _
   ·simp only [if_pos]
    refine Ev.bind d2 (Ev.step (f := fun k => stanchionref06_Lay.j1 k n ((⟨#[110, 46]⟩ : ByteArray) ++ n) a5 a1 a2 a3 a4) (fun k => by simp only [stanchionref06_Lay.j0]; rw [if_neg e1]) (Ev.step (f := fun k => some (a1, a2, a3, a4, a5)) (fun k => by simp only [stanchionref06_Lay.j1]; rw [if_neg e1]) (Ev.now _)))
theorem dsame_l0 (r f : Int) (o : Bool) (l : List S38) (hl : l.length < 4611686018427387904) : ∀ (n i : Nat), l.length - i ≤ n → Ev (fun k => stanchionref03_Same.l0 k (i : Int) l r f o l r f o) true := by
 intro n
 have fin : ∀ i : Nat, l.length ≤ i → Ev (fun k => stanchionref03_Same.l0 k (i : Int) l r f o l r f o) true := fun i h =>
  Ev.step (f := fun k => some true) (fun k => by simp only [stanchionref03_Same.l0]; rw [if_neg (by omega)]) (Ev.now _)
 induction n with
 | zero => intro i h; exact fin i (by omega)
 | succ n ih =>
  intro i h
  rcases Nat.lt_or_ge i l.length with hi | hi
  ·refine Ev.step (fun k => ?_) (ih (i + 1) (by omega))
   simp only [stanchionref03_Same.l0]
   rw [if_pos (by omega), if_pos (by omega), if_pos (by omega), if_neg (by simp), wrap_succ i (by omega)]
  ·exact fin i hi
theorem dsame_ev (r f : Int) (o : Bool) (l : List S38) (hl : l.length < 4611686018427387904) : Ev (fun k => stanchionref03_Same.f k l r f o l r f o) true := by
 unfold stanchionref03_Same.f
 simp only [if_pos, bne_self_eq_false, if_neg (show ¬ (false = true) by decide)]
 refine Ev.step (f := fun k => stanchionref03_Same.l0 k ((0 : Nat) : Int) l r f o l r f o) (fun k => ?_) (dsame_l0 r f o l hl l.length 0 (by omega))
 simp only [stanchionref03_Same.j0]
 rw [if_neg (by decide)]
 rfl
end Go.Proofs.Ytbhkopbalhhpgaa.PY
