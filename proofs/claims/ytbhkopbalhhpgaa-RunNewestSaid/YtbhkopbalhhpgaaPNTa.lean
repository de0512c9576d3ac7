/- What the table functions of the program come to in plain words: strings' order, search, put, drop, writes, range; what keeps a row right. -/
import Derived.Test.YtbhkopbalhhpgaaPNx2
import Derived.Laws.Strings
import Derived.WideShapes
namespace Go.Proofs.Ytbhkopbalhhpgaa.PN
open Go.RowKit Go.Proofs.YtbhkopbalhhpgaaW.PrintWords
set_option linter.unusedVariables false
set_option linter.unusedSimpArgs false

theorem str_data (a : ByteArray) : a.toList = a.data.toList := ByteArray.toList_eq a
theorem str_ext {a b : ByteArray} (h : a.toList = b.toList) : a = b := WideShapes.bytes_inj (by rw [← str_data, ← str_data]; exact h)
theorem bl_irrefl : ∀ x, Op.bytesLess x x = false
  | [] => rfl
  | a :: x => by simp [Op.bytesLess, bl_irrefl x]
theorem bl_trans : ∀ x y z, Op.bytesLess x y = true → Op.bytesLess y z = true → Op.bytesLess x z = true
  | x, [], z, h, _ => by simp [Op.bytesLess] at h
  | x, b :: y, [], _, h => by simp [Op.bytesLess] at h
  | [], b :: y, c :: z, _, _ => rfl
  | a :: x, b :: y, c :: z, h1, h2 => by
    simp only [Op.bytesLess, Bool.or_eq_true, decide_eq_true_eq, Bool.and_eq_true, beq_iff_eq, UInt8.lt_iff_toNat_lt] at h1 h2 ⊢
    rcases h1 with h1 | ⟨rfl, h1⟩
    · rcases h2 with h2 | ⟨rfl, h2⟩
      · exact .inl (by omega)
      · exact .inl h1
    · rcases h2 with h2 | ⟨rfl, h2⟩
      · exact .inl h2
      · exact .inr ⟨rfl, bl_trans x y z h1 h2⟩
theorem bl_total : ∀ x y, Op.bytesLess x y = false → Op.bytesLess y x = false → x = y
  | [], [], _, _ => rfl
  | [], b :: y, h, _ => by simp [Op.bytesLess] at h
  | a :: x, [], _, h => by simp [Op.bytesLess] at h
  | a :: x, b :: y, h1, h2 => by
    simp only [Op.bytesLess, Bool.or_eq_false_iff, decide_eq_false_iff_not, Bool.and_eq_false_iff, beq_eq_false_iff_ne, UInt8.lt_iff_toNat_lt] at h1 h2
    have e : a = b := UInt8.toNat_inj.1 (by omega)
    subst e
    rw [bl_total x y (h1.2.elim (fun h => absurd rfl h) id) (h2.2.elim (fun h => absurd rfl h) id)]
def ltS (a b : ByteArray) : Bool := Op.bytesLess a.toList b.toList
theorem ltS_trans {a b c : ByteArray} (h : ltS a b = true) (h2 : ltS b c = true) : ltS a c = true := bl_trans _ _ _ h h2
theorem ltS_total {a b : ByteArray} (h : ltS a b = false) (h2 : ltS b a = false) : a = b := str_ext (bl_total _ _ h h2)
theorem lt_of_lt_le {a b c : ByteArray} (h : ltS a b = true) (h2 : ltS c b = false) : ltS a c = true := by
  cases e : ltS b c with
  | true => exact ltS_trans h e
  | false => rw [ltS_total h2 e]; exact h
theorem le_trans {a b c : ByteArray} (h : ltS b a = false) (h2 : ltS c b = false) : ltS c a = false := by
  cases e : ltS c a with
  | false => rfl
  | true => have := lt_of_lt_le e h; rw [h2] at this; cases this
theorem wrap_succ (i : Nat) (h : i < 4611686018427387904) : wrap64 ((i : Int) + 1) = ((i + 1 : Nat) : Int) := by unfold wrap64; omega
end Go.Proofs.Ytbhkopbalhhpgaa.PN
