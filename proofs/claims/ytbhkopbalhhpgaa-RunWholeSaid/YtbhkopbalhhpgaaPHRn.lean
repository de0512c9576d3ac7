/- Numbers and texts of bytes: what is told, and taken; what is taken stays so where bytes follow; what was told is taken as it was (Bt, Bv, Bw and PureBatchBack's, of the program's functions alone). -/
import Derived.Test.YtbhkopbalhhpgaaPHTa
namespace Go.Proofs.Ytbhkopbalhhpgaa.PH
open Go.RowKit Go.Proofs.YtbhkopbalhhpgaaW.PrintWords
set_option linter.unusedVariables false
set_option linter.unusedSimpArgs false

theorem ev_eq {α : Type} {g : Nat → Option α} {r s : α} (h : Ev g r) (e : r = s) : Ev g s := e ▸ h
def isD (b : UInt8) : Bool := decide (48 ≤ b.toNat) && decide (b.toNat ≤ 57)
def mkB (l : List UInt8) : ByteArray := ⟨l.toArray⟩
theorem mkB_list (l : List UInt8) : (mkB l).toList = l := by rw [str_data]; rfl
theorem ext_list (s : ByteArray) (i j : Nat) : (s.extract i j).toList = (s.toList.drop i).take (j - i) := by
  rw [str_data, str_data, ByteArray.data_extract, Array.toList_extract, List.extract]
theorem app_list (a b : ByteArray) : (a ++ b).toList = a.toList ++ b.toList := by
  rw [str_data, str_data, str_data, ByteArray.data_append, Array.toList_append]
def nd (l : List UInt8) : Nat := (l.takeWhile isD).length
def fin (l : List UInt8) : Option Nat → Nat × List UInt8 × Int
  | none => (0, [], 3)
  | some v => if l.length ≤ nd l then (0, [], 2) else if l[nd l]? = some 59 ∧ nd l ≠ 0 then (v, l.drop (nd l + 1), 0) else (0, [], 3)
end Go.Proofs.Ytbhkopbalhhpgaa.PH
