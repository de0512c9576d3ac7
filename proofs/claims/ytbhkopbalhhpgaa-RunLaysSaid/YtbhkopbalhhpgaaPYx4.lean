-- Made by a program of this workplace out of the translation (wip/tools in the repo). Not trusted: Lean checks it.
import Derived.Test.YtbhkopbalhhpgaaPYx0
import Derived.Test.YtbhkopbalhhpgaaSq
import Derived.Test.YtbhkopbalhhpgaaPYx3
namespace Go.Proofs.Ytbhkopbalhhpgaa.PY
open Go.RowKit Go.Proofs.YtbhkopbalhhpgaaW.PrintWords Go.Proofs.YtbhkopbalhhpgaaW.PrintLast Go.Proofs.YtbhkopbalhhpgaaW.PrintMore
attribute [local go_sem] max2_int min2_int max_two min_two max_three min_three max_four min_four   -- for this text's walks alone
set_option linter.unusedVariables false
set_option linter.unusedSimpArgs false

/-! ### stanchionref03_Append (function 44): what it is -/
mutual
def stanchionref03_Append.j0 : Nat → ByteArray → ByteArray → Bool → List (S38) → Int → Int → Bool → Option ((List (S38)) × Int × Int × Bool × Int)
  | 0, _, _, _, _, _, _, _ => none
  | k + 1, x1, x2, aF, aB, aA, aC, aD => if aF = true then (some (aB, aA, aC, aD, 1)) else ((stanchionref03_at.f k aB aA aC aD x1).bind fun aE => (if aE < 0 then (if (aB.length : Int) ≥ 64 then (stanchionref03_Append.j1 k x1 x2 aE true aB aA aC aD) else (stanchionref03_Append.j1 k x1 x2 aE (decide ((x2.size : Int) > aA)) aB aA aC aD)) else (stanchionref03_Append.j1 k x1 x2 aE (decide ((x2.size : Int) > aA)) aB aA aC aD)))
def stanchionref03_Append.j1 : Nat → ByteArray → ByteArray → Int → Bool → List (S38) → Int → Int → Bool → Option ((List (S38)) × Int × Int × Bool × Int)
  | 0, _, _, _, _, _, _, _, _ => none
  | k + 1, x1, x2, x8, aE, aA, aB, aC, aD => if aE = true then (some (aA, aB, aC, aD, 5)) else (if x8 ≥ 0 then (if 0 ≤ x8 then (if x8 < (aA.length : Int) then (stanchionref03_Append.j2 k x2 x8 aA aB aC aD ((rd_T38 aA x8).f0) ((rd_T38 aA x8).f1) ((rd_T38 aA x8).f2)) else (none)) else (none)) else (stanchionref03_Append.j2 k x2 x8 aA aB aC aD x1 (⟨#[]⟩ : ByteArray) (⟨#[]⟩ : ByteArray)))
def stanchionref03_Append.j2 : Nat → ByteArray → Int → List (S38) → Int → Int → Bool → ByteArray → ByteArray → ByteArray → Option ((List (S38)) × Int × Int × Bool × Int)
  | 0, _, _, _, _, _, _, _, _, _ => none
  | k + 1, x2, x8, aA, aD, aE, aF, aG, aB, aC => if (wrap64 ((wrap64 ((aB.size : Int) + (aC.size : Int))) + (x2.size : Int))) > 65536 then (some (aA, aD, aE, aF, 4)) else (if x8 < 0 then ((some (([] : List (S38)) : List (S38))).bind fun aH => (if aH.length + aA.length < 2932031007402 then ((some (aH ++ aA : List (S38))).bind fun aI => ((some (([(⟨aG, aB, aC⟩ : S38)] : List (S38)) : List (S38))).bind fun aJ => (if aI.length + aJ.length < 2932031007402 then (stanchionref03_Append.j3 k x2 (aA.length : Int) (aI ++ aJ) aD aE aF aG aB aC) else (none)))) else (none))) else (stanchionref03_Append.j3 k x2 x8 aA aD aE aF aG aB aC))
def stanchionref03_Append.j3 : Nat → ByteArray → Int → List (S38) → Int → Int → Bool → ByteArray → ByteArray → ByteArray → Option ((List (S38)) × Int × Int × Bool × Int)
  | 0, _, _, _, _, _, _, _, _, _ => none
  | k + 1, x2, x8, aB, aC, aA, aD, aE, aF, aG => if aA ≥ 0 then (stanchionref03_Append.j4 k x2 x8 (x2.size : Int) (decide (aA < (x2.size : Int))) aB aC aA aD aE aF aG) else (stanchionref03_Append.j4 k x2 x8 (x2.size : Int) false aB aC aA aD aE aF aG)
def stanchionref03_Append.j4 : Nat → ByteArray → Int → Int → Bool → List (S38) → Int → Int → Bool → ByteArray → ByteArray → ByteArray → Option ((List (S38)) × Int × Int × Bool × Int)
  | 0, _, _, _, _, _, _, _, _, _, _, _ => none
  | k + 1, x2, x8, aH, aI, aB, aC, aA, aD, aE, aF, aG => if aI = true then (stanchionref03_Append.j5 k x2 x8 aA aB aC aA aD aE aF aG) else (stanchionref03_Append.j5 k x2 x8 aH aB aC aA aD aE aF aG)
def stanchionref03_Append.j5 : Nat → ByteArray → Int → Int → List (S38) → Int → Int → Bool → ByteArray → ByteArray → ByteArray → Option ((List (S38)) × Int × Int × Bool × Int)
  | 0, _, _, _, _, _, _, _, _, _, _ => none
  | k + 1, x2, x8, aC, aD, aE, aF, aG, aH, aI, aB => if 0 ≤ aC then (if aC ≤ (x2.size : Int) then (if aB.size + (x2.extract 0 (aC : Int).toNat).size ≤ 9223372036854775807 then ((stanchionref03_with.f aD aE aF aG x8 aH aI (aB ++ (x2.extract 0 (aC : Int).toNat))).bind fun aA => (if aA.2.2.1 ≥ 0 then (if aC < (x2.size : Int) then (some (aA.1, wrap64 (aA.2.1 - aC), wrap64 (aA.2.2.1 - aC), true, 6)) else (some (aA.1, wrap64 (aA.2.1 - aC), wrap64 (aA.2.2.1 - aC), aA.2.2.2, 0))) else (if aC < (x2.size : Int) then (some (aA.1, wrap64 (aA.2.1 - aC), aA.2.2.1, true, 6)) else (some (aA.1, wrap64 (aA.2.1 - aC), aA.2.2.1, aA.2.2.2, 0))))) else (none)) else (none)) else (none)
end
def stanchionref03_Append.f (k : Nat) (aB : List (S38)) (aC : Int) (aD : Int) (aA : Bool) (a1 : ByteArray) (a2 : ByteArray) : Option ((List (S38)) × Int × Int × Bool × Int) := if aA = true then (some (aB, aC, aD, aA, 6)) else (if (a1.size : Int) < 1 then (stanchionref03_Append.j0 k a1 a2 true aB aC aD aA) else (stanchionref03_Append.j0 k a1 a2 (decide ((a1.size : Int) > 16)) aB aC aD aA))
/-! ### stanchionref03_Sync (function 45): what it is -/
def stanchionref03_Sync.f (k : Nat) (aA : List (S38)) (aE : Int) (aF : Int) (aD : Bool) (a1 : ByteArray) : Option ((List (S38)) × Int × Int × Bool × Int) := if aD = true then (some (aA, aE, aF, aD, 6)) else ((stanchionref03_at.f k aA aE aF aD a1).bind fun aB => (if aB < 0 then (some (aA, aE, aF, aD, 7)) else (if 0 ≤ aB then (if aB < (aA.length : Int) then (if ((rd_T38 aA aB).f1).size + ((rd_T38 aA aB).f2).size ≤ 9223372036854775807 then ((stanchionref03_with.f aA aE aF aD aB ((rd_T38 aA aB).f0) (((rd_T38 aA aB).f1) ++ ((rd_T38 aA aB).f2)) (⟨#[]⟩ : ByteArray)).bind fun aC => (some (aC.1, aC.2.1, aC.2.2.1, aC.2.2.2, 0))) else (none)) else (none)) else (none))))
/-! ### stanchionref03_Rename (function 46): what it is -/
def stanchionref03_Rename.j0 : Nat → ByteArray → ByteArray → Bool → List (S38) → Int → Int → Bool → Option ((List (S38)) × Int × Int × Bool × Int)
  | 0, _, _, _, _, _, _, _ => none
  | k + 1, x1, x2, aM, aC, aD, aE, aF => if aM = true then (some (aC, aD, aE, aF, 1)) else ((stanchionref03_at.f k aC aD aE aF x1).bind fun aL => (if aL < 0 then (some (aC, aD, aE, aF, 7)) else (if x1.toList = x2.toList then (some (aC, aD, aE, aF, 0)) else ((stanchionref03_power.f aC aD aE aF).bind fun aA => (if aA.2.2.2.2 = true then ((stanchionref03_at.f k aA.1 aA.2.1 aA.2.2.1 aA.2.2.2.1 x2).bind fun aK => (if aK ≥ 0 then ((stanchionref03_less.f aA.1 aA.2.1 aA.2.2.1 aA.2.2.2.1 aK).bind fun aB => ((stanchionref03_at.f k aB.1 aB.2.1 aB.2.2.1 aB.2.2.2 x1).bind fun aI => (if 0 ≤ aI then (if aI < (aB.1.length : Int) then ((stanchionref03_with.f aB.1 aB.2.1 aB.2.2.1 aB.2.2.2 aI x2 ((rd_T38 aB.1 aI).f1) ((rd_T38 aB.1 aI).f2)).bind fun aG => (some (aG.1, aG.2.1, aG.2.2.1, aG.2.2.2, 0))) else (none)) else (none)))) else ((stanchionref03_at.f k aA.1 aA.2.1 aA.2.2.1 aA.2.2.2.1 x1).bind fun aJ => (if 0 ≤ aJ then (if aJ < (aA.1.length : Int) then ((stanchionref03_with.f aA.1 aA.2.1 aA.2.2.1 aA.2.2.2.1 aJ x2 ((rd_T38 aA.1 aJ).f1) ((rd_T38 aA.1 aJ).f2)).bind fun aH => (some (aH.1, aH.2.1, aH.2.2.1, aH.2.2.2, 0))) else (none)) else (none))))) else (some (aA.1, aA.2.1, aA.2.2.1, aA.2.2.2.1, 6)))))))
def stanchionref03_Rename.f (k : Nat) (aB : List (S38)) (aC : Int) (aD : Int) (aA : Bool) (a1 : ByteArray) (a2 : ByteArray) : Option ((List (S38)) × Int × Int × Bool × Int) := if aA = true then (some (aB, aC, aD, aA, 6)) else (if (a2.size : Int) < 1 then (stanchionref03_Rename.j0 k a1 a2 true aB aC aD aA) else (stanchionref03_Rename.j0 k a1 a2 (decide ((a2.size : Int) > 16)) aB aC aD aA))
/-! ### stanchionref06_Lay (function 18): what it is -/
mutual
def stanchionref06_Lay.j0 : Nat → ByteArray → ByteArray → ByteArray → Int → List (S38) → Int → Int → Bool → Option ((List (S38)) × Int × Int × Bool × Int)
  | 0, _, _, _, _, _, _, _, _ => none
  | k + 1, x1, x2, x8, x9, aB, aC, aD, aE => if x9 = 0 then ((stanchionref03_Append.f k aB aC aD aE x8 x2).bind fun aA => (stanchionref06_Lay.j1 k x1 x8 aA.2.2.2.2 aA.1 aA.2.1 aA.2.2.1 aA.2.2.2.1)) else (stanchionref06_Lay.j1 k x1 x8 x9 aB aC aD aE)
def stanchionref06_Lay.j1 : Nat → ByteArray → ByteArray → Int → List (S38) → Int → Int → Bool → Option ((List (S38)) × Int × Int × Bool × Int)
  | 0, _, _, _, _, _, _, _ => none
  | k + 1, x1, x8, x9, aC, aD, aE, aF => if x9 = 0 then ((stanchionref03_Sync.f k aC aD aE aF x8).bind fun aA => (if aA.2.2.2.2 = 0 then ((stanchionref03_Rename.f k aA.1 aA.2.1 aA.2.2.1 aA.2.2.2.1 x8 x1).bind fun aB => (some (aB.1, aB.2.1, aB.2.2.1, aB.2.2.2.1, aB.2.2.2.2))) else (some (aA.1, aA.2.1, aA.2.2.1, aA.2.2.2.1, aA.2.2.2.2)))) else (some (aC, aD, aE, aF, x9))
end
def stanchionref06_Lay.f (k : Nat) (aB : List (S38)) (aC : Int) (aD : Int) (aE : Bool) (a1 : ByteArray) (a2 : ByteArray) : Option ((List (S38)) × Int × Int × Bool × Int) := if 2 + a1.size ≤ 9223372036854775807 then ((stanchionref03_Find.f k aB aC aD aE ((⟨#[110, 46]⟩ : ByteArray) ++ a1)).bind fun aF => (if aF.2.2.2 = true then ((stanchionref03_Delete.f k aB aC aD aE ((⟨#[110, 46]⟩ : ByteArray) ++ a1)).bind fun aA => (stanchionref06_Lay.j0 k a1 a2 ((⟨#[110, 46]⟩ : ByteArray) ++ a1) aA.2.2.2.2 aA.1 aA.2.1 aA.2.2.1 aA.2.2.2.1)) else (stanchionref06_Lay.j0 k a1 a2 ((⟨#[110, 46]⟩ : ByteArray) ++ a1) 0 aB aC aD aE))) else (none)
/-! ### disk_Read (function 47): what it is -/
def disk_Read.f (aB : List (S38)) (aC : Int) (aD : Int) (aE : Bool) (a1 : ByteArray) : Option (ByteArray × Int) := (disk_Find.f aB aC aD aE a1).bind fun aA => (if aA.2.2.2 = true then (if aA.2.1.size + aA.2.2.1.size ≤ 9223372036854775807 then (some (aA.2.1 ++ aA.2.2.1, 0)) else (none)) else (some ((⟨#[]⟩ : ByteArray), 7)))

/-! ### run_Load (function 19): what it is -/
def run_Load.f (k : Nat) (aC : List (S38)) (aD : Int) (aE : Int) (aF : Bool) (a1 : ByteArray) : Option ((List (S62)) × Int) := (disk_Read.f aC aD aE aF a1).bind fun aA => (if aA.2 = 0 then ((run_Take.f k aA.1).bind fun aB => (some (aB.1, aB.2))) else (some (([] : List (S62)), aA.2)))
/-! ### stanchionref03_Read (function 48): what it is -/
def stanchionref03_Read.f (k : Nat) (aB : List (S38)) (aC : Int) (aD : Int) (aE : Bool) (a1 : ByteArray) : Option (ByteArray × Int) := (stanchionref03_Find.f k aB aC aD aE a1).bind fun aA => (if aA.2.2.2 = true then (if aA.2.1.size + aA.2.2.1.size ≤ 9223372036854775807 then (some (aA.2.1 ++ aA.2.2.1, 0)) else (none)) else (some ((⟨#[]⟩ : ByteArray), 7)))
/-! ### stanchionref01_TakeNum (function 75): what it is -/
mutual
def stanchionref01_TakeNum.j1 : Nat → ByteArray → Int → Option (Int × ByteArray × Int)
  | 0, _, _ => none
  | k + 1, x0, x5 => if x5 > 20 then (stanchionref01_TakeNum.j2 k x0 x5 true) else (if x5 > 1 then (if 0 < (x0.size : Int) then (stanchionref01_TakeNum.j2 k x0 x5 ((bt x0 0) == 48)) else (none)) else (stanchionref01_TakeNum.j2 k x0 x5 false))
def stanchionref01_TakeNum.j2 : Nat → ByteArray → Int → Bool → Option (Int × ByteArray × Int)
  | 0, _, _, _ => none
  | k + 1, x0, x5, aA => if aA = true then (some (0, (⟨#[]⟩ : ByteArray), 3)) else (stanchionref01_TakeNum.l1 k x0 x5 0 0)
def stanchionref01_TakeNum.l1 : Nat → ByteArray → Int → Int → Int → Option (Int × ByteArray × Int)
  | 0, _, _, _, _ => none
  | k + 1, x0, x5, x6, x7 => if x7 < x5 then (if 0 ≤ x7 then (if x7 < (x0.size : Int) then (if x6 > 1844674407370955161 then (some (0, (⟨#[]⟩ : ByteArray), 3)) else (if x6 = 1844674407370955161 then (if (((bt x0 x7) - 48) % 256) > 5 then (some (0, (⟨#[]⟩ : ByteArray), 3)) else (stanchionref01_TakeNum.l1 k x0 x5 (IntKind.u64.wrap ((IntKind.u64.wrap (10 * x6)) + (((bt x0 x7) - 48) % 256))) (wrap64 (x7 + 1)))) else (stanchionref01_TakeNum.l1 k x0 x5 (IntKind.u64.wrap ((IntKind.u64.wrap (10 * x6)) + (((bt x0 x7) - 48) % 256))) (wrap64 (x7 + 1))))) else (none)) else (none)) else (if x5 = (x0.size : Int) then (some (0, (⟨#[]⟩ : ByteArray), 2)) else (if 0 ≤ x5 then (if x5 < (x0.size : Int) then (if (bt x0 x5) = 59 then (if x5 = 0 then (some (0, (⟨#[]⟩ : ByteArray), 3)) else (if 0 ≤ (wrap64 (x5 + 1)) then (if (wrap64 (x5 + 1)) ≤ (x0.size : Int) then (some (x6, x0.extract ((wrap64 (x5 + 1)) : Int).toNat x0.size, 0)) else (none)) else (none))) else (some (0, (⟨#[]⟩ : ByteArray), 3))) else (none)) else (none)))
def stanchionref01_TakeNum.l0 : Nat → ByteArray → Int → Option (Int × ByteArray × Int)
  | 0, _, _ => none
  | k + 1, x0, x5 => if x5 < (x0.size : Int) then (if 0 ≤ x5 then (if (bt x0 x5) ≥ 48 then (if (bt x0 x5) ≤ 57 then (stanchionref01_TakeNum.l0 k x0 (wrap64 (x5 + 1))) else (stanchionref01_TakeNum.j1 k x0 x5)) else (stanchionref01_TakeNum.j1 k x0 x5)) else (none)) else (stanchionref01_TakeNum.j1 k x0 x5)
end
def stanchionref01_TakeNum.f (k : Nat) (a0 : ByteArray) : Option (Int × ByteArray × Int) := stanchionref01_TakeNum.l0 k a0 0
/-! ### stanchionref01_TakeText (function 76): what it is -/
def stanchionref01_TakeText.j0 : Nat → Int → ByteArray → Bool → Option (ByteArray × ByteArray × Int)
  | 0, _, _, _ => none
  | k + 1, x7, x8, aA => if aA = true then (some ((⟨#[]⟩ : ByteArray), (⟨#[]⟩ : ByteArray), 4)) else (if x7 > (IntKind.u64.wrap ((x8.size : Int))) then (some ((⟨#[]⟩ : ByteArray), (⟨#[]⟩ : ByteArray), 2)) else (if 0 ≤ x7 then (if x7 ≤ (x8.size : Int) then (some (x8.extract 0 (x7 : Int).toNat, x8.extract (x7 : Int).toNat x8.size, 0)) else (none)) else (none)))
def stanchionref01_TakeText.f (k : Nat) (a0 : ByteArray) (a1 : Int) : Option (ByteArray × ByteArray × Int) := (stanchionref01_TakeNum.f k a0).bind fun aA => (if aA.2.2 = 0 then (if a1 < 0 then (stanchionref01_TakeText.j0 k aA.1 aA.2.1 true) else (stanchionref01_TakeText.j0 k aA.1 aA.2.1 (decide (aA.1 > (IntKind.u64.wrap (a1)))))) else (some ((⟨#[]⟩ : ByteArray), (⟨#[]⟩ : ByteArray), aA.2.2)))
/-! ### stanchionref02_Of (function 92): what it is -/
def stanchionref02_Of.l0 : Nat → ByteArray → Int → Int → Int → Option (Int)
  | 0, _, _, _, _ => none
  | k + 1, x0, x3, x4, x5 => if x5 < (x0.size : Int) then (if 0 ≤ x5 then (stanchionref02_Of.l0 k x0 (Int.tmod (wrap64 (x3 + (wrap64 (bt x0 x5)))) 65521) (Int.tmod (wrap64 (x4 + (Int.tmod (wrap64 (x3 + (wrap64 (bt x0 x5)))) 65521))) 65521) (wrap64 (x5 + 1))) else (none)) else (some ((wrap64 ((wrap64 (65536 * x4)) + x3)) % 4294967296))
def stanchionref02_Of.f (k : Nat) (a0 : ByteArray) : Option (Int) := stanchionref02_Of.l0 k a0 1 0 0
/-! ### stanchionref02_Open (function 74): what it is -/
def stanchionref02_Open.f (k : Nat) (a0 : ByteArray) (a1 : Int) : Option (ByteArray × ByteArray × Int) := (stanchionref01_TakeText.f k a0 a1).bind fun aA => (if aA.2.2 = 0 then ((stanchionref01_TakeNum.f k aA.2.1).bind fun aB => (if aB.2.2 = 0 then ((stanchionref02_Of.f k aA.1).bind fun aC => (if aB.1 = (IntKind.u64.wrap (aC)) then (some (aA.1, aB.2.1, 0)) else (some ((⟨#[]⟩ : ByteArray), (⟨#[]⟩ : ByteArray), 10)))) else (some ((⟨#[]⟩ : ByteArray), (⟨#[]⟩ : ByteArray), aB.2.2)))) else (some ((⟨#[]⟩ : ByteArray), (⟨#[]⟩ : ByteArray), aA.2.2)))
/-! ### stanchionref01_Less (function 54): what it is -/
mutual
def stanchionref01_Less.l0 : Nat → ByteArray → ByteArray → Int → Option (Bool)
  | 0, _, _, _ => none
  | k + 1, x0, x1, x5 => if x5 < (x0.size : Int) then (stanchionref01_Less.j1 k x0 x1 x5 (decide (x5 < (x1.size : Int)))) else (stanchionref01_Less.j1 k x0 x1 x5 false)
def stanchionref01_Less.j1 : Nat → ByteArray → ByteArray → Int → Bool → Option (Bool)
  | 0, _, _, _, _ => none
  | k + 1, x0, x1, x5, aA => if aA = true then (if 0 ≤ x5 then (if x5 < (x0.size : Int) then (if x5 < (x1.size : Int) then (if (bt x0 x5) = (bt x1 x5) then (stanchionref01_Less.l0 k x0 x1 (wrap64 (x5 + 1))) else (some (decide ((bt x0 x5) < (bt x1 x5))))) else (none)) else (none)) else (none)) else (some (decide ((x0.size : Int) < (x1.size : Int))))
end
def stanchionref01_Less.f (k : Nat) (a0 : ByteArray) (a1 : ByteArray) : Option (Bool) := stanchionref01_Less.l0 k a0 a1 0
/-! ### stanchionref05_Right (function 93): what it is -/
def stanchionref05_Right.l0 : Nat → List (S62) → Int → Option (Bool)
  | 0, _, _ => none
  | k + 1, x0, x3 => if x3 < (x0.length : Int) then (if 0 ≤ (wrap64 (x3 - 1)) then (if (wrap64 (x3 - 1)) < (x0.length : Int) then (if 0 ≤ x3 then ((stanchionref01_Less.f k ((rd_T62 x0 (wrap64 (x3 - 1))).f0) ((rd_T62 x0 x3).f0)).bind fun aA => (if aA = true then (stanchionref05_Right.l0 k x0 (wrap64 (x3 + 1))) else (some false))) else (none)) else (none)) else (none)) else (some true)
def stanchionref05_Right.f (k : Nat) (l0 : List (S62)) : Option (Bool) := stanchionref05_Right.l0 k l0 1
/-! ### stanchionref06_may (function 77): what it is -/
def stanchionref06_may.l0 : Nat → List (S62) → Int → Option (Bool)
  | 0, _, _ => none
  | k + 1, x0, x3 => if x3 < (x0.length : Int) then (if 0 ≤ x3 then (if (((rd_T62 x0 x3).f0).size : Int) > 65536 then (some false) else (if (((rd_T62 x0 x3).f1).size : Int) > 65536 then (some false) else (stanchionref06_may.l0 k x0 (wrap64 (x3 + 1))))) else (none)) else ((stanchionref05_Right.f k x0).bind fun aA => (some aA))
def stanchionref06_may.f (k : Nat) (l0 : List (S62)) : Option (Bool) := stanchionref06_may.l0 k l0 0
/-! ### stanchionref06_Take (function 49): what it is -/
mutual
def stanchionref06_Take.j0 : Nat → ByteArray → Bool → Option ((List (S62)) × Int)
  | 0, _, _ => none
  | k + 1, x4, aB => if aB = true then (some (([] : List (S62)), 3)) else ((stanchionref01_TakeNum.f k x4).bind fun aA => (if aA.2.2 = 0 then (stanchionref06_Take.l0 k aA.1 aA.2.1 ([] : List (S62)) 0) else (some (([] : List (S62)), 3))))
def stanchionref06_Take.l0 : Nat → Int → ByteArray → List (S62) → Int → Option ((List (S62)) × Int)
  | 0, _, _, _, _ => none
  | k + 1, x7, x8, aC, aE => if aE < x7 then ((stanchionref01_TakeText.f k x8 65536).bind fun aA => (if aA.2.2 = 0 then ((stanchionref01_TakeText.f k aA.2.1 65536).bind fun aB => (if aB.2.2 = 0 then (if aC.length < 4398046511104 then (stanchionref06_Take.l0 k x7 aB.2.1 (aC ++ [(⟨aA.1, aB.1⟩ : S62)]) (IntKind.u64.wrap (aE + 1))) else (none)) else (some (([] : List (S62)), 3)))) else (some (([] : List (S62)), 3)))) else ((stanchionref06_may.f k aC).bind fun aD => (if (x8.size : Int) > 0 then (some (([] : List (S62)), 3)) else (if aD = true then (some (aC, 0)) else (some (([] : List (S62)), 3)))))
end
def stanchionref06_Take.f (k : Nat) (a0 : ByteArray) : Option ((List (S62)) × Int) := (stanchionref02_Open.f k a0 1073741824).bind fun aA => (if aA.2.2 = 0 then (stanchionref06_Take.j0 k aA.1 (decide ((aA.2.1.size : Int) > 0))) else (stanchionref06_Take.j0 k aA.1 true))
/-! ### stanchionref06_Load (function 20): what it is -/
def stanchionref06_Load.f (k : Nat) (aC : List (S38)) (aD : Int) (aE : Int) (aF : Bool) (a1 : ByteArray) : Option ((List (S62)) × Int) := (stanchionref03_Read.f k aC aD aE aF a1).bind fun aA => (if aA.2 = 0 then ((stanchionref06_Take.f k aA.1).bind fun aB => (some (aB.1, aB.2))) else (some (([] : List (S62)), aA.2)))
/-! ### stanchionref03_Same (function 21): what it is -/
mutual
def stanchionref03_Same.j0 : Nat → Bool → List (S38) → Int → Int → Bool → List (S38) → Int → Int → Bool → Option (Bool)
  | 0, _, _, _, _, _, _, _, _, _ => none
  | k + 1, aI, aA, aB, aC, aD, aE, aF, aG, aH => if aI = true then (some false) else (stanchionref03_Same.l0 k 0 aA aB aC aD aE aF aG aH)
def stanchionref03_Same.l0 : Nat → Int → List (S38) → Int → Int → Bool → List (S38) → Int → Int → Bool → Option (Bool)
  | 0, _, _, _, _, _, _, _, _, _ => none
  | k + 1, x5, aA, aC, aD, aE, aB, aF, aG, aH => if x5 < (aA.length : Int) then (if 0 ≤ x5 then (if x5 < (aB.length : Int) then (if (!((((rd_T38 aA x5).f0).toList) == (((rd_T38 aB x5).f0).toList)) || (!((((rd_T38 aA x5).f1).toList) == (((rd_T38 aB x5).f1).toList)) || (!((((rd_T38 aA x5).f2).toList) == (((rd_T38 aB x5).f2).toList))))) = true then (some false) else (stanchionref03_Same.l0 k (wrap64 (x5 + 1)) aA aC aD aE aB aF aG aH)) else (none)) else (none)) else (some true)
end
def stanchionref03_Same.f (k : Nat) (aA : List (S38)) (aB : Int) (aC : Int) (aD : Bool) (aE : List (S38)) (aF : Int) (aG : Int) (aH : Bool) : Option (Bool) := if aB = aF then (if aC = aG then (if (aD != aH) = true then (stanchionref03_Same.j0 k true aA aB aC aD aE aF aG aH) else (stanchionref03_Same.j0 k ((aA.length : Int) != (aE.length : Int)) aA aB aC aD aE aF aG aH)) else (stanchionref03_Same.j0 k true aA aB aC aD aE aF aG aH)) else (stanchionref03_Same.j0 k true aA aB aC aD aE aF aG aH)
end Go.Proofs.Ytbhkopbalhhpgaa.PY
