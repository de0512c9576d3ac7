-- Made by a program of this workplace out of the translation (wip/tools in the repo). Not trusted: Lean checks it.
import Derived.Test.YtbhkopbalhhpgaaPLx2
namespace Go.Proofs.Ytbhkopbalhhpgaa.PL
open Go.RowKit Go.Proofs.YtbhkopbalhhpgaaW.PrintWords Go.Proofs.YtbhkopbalhhpgaaW.PrintLast Go.Proofs.YtbhkopbalhhpgaaW.PrintMore
set_option linter.unusedVariables false
def g9 (x : ByteArray) : Prop := x.size ≤ 140737488351232
def g38 (x : S38) : Prop := x.f0.size ≤ 140737488351232 ∧ x.f1.size ≤ 140737488351232 ∧ x.f2.size ≤ 140737488351232
def g31 (x : List (S38)) : Prop := x.length * 48 ≤ 140737488351232 ∧ ∀ y ∈ x, g38 y
def g3 (x : Int) : Prop := (Lit.int .i64 x).wf = true
def g4 (x : Bool) : Prop := True
def g33 (x : S33) : Prop := (x.f0.length * 48 ≤ 140737488351232 ∧ ∀ y ∈ x.f0, g38 y) ∧ (Lit.int .i64 x.f1).wf = true ∧ (Lit.int .i64 x.f2).wf = true ∧ True
def g62 (x : S62) : Prop := x.f0.size ≤ 140737488351232 ∧ x.f1.size ≤ 140737488351232
def g22 (x : List (S62)) : Prop := x.length * 32 ≤ 140737488351232 ∧ ∀ y ∈ x, g62 y
def b9 (x : ByteArray) : Nat := x.size + 1
def b38 (x : S38) : Nat := b9 x.f0 + (b9 x.f1 + (b9 x.f2))
def b31 (x : List (S38)) : Nat := (x.map b38).sum + 1
def b3 (x : Int) : Nat := 1
def b4 (x : Bool) : Nat := 1
def b33 (x : S33) : Nat := b31 x.f0 + (b3 x.f1 + (b3 x.f2 + (b4 x.f3)))
def b62 (x : S62) : Nat := b9 x.f0 + (b9 x.f1)
def b22 (x : List (S62)) : Nat := (x.map b62).sum + 1
def stanchionlaw06_RunLoads.Pure : Prop := ∀ (x0 : S33) (x1 : ByteArray) (x2 : List (S62)), g33 x0 → g9 x1 → g22 x2 → (b33 x0 + (b9 x1 + (b22 x2 + 0))) ≤ 1048576 → ∃ k, stanchionlaw06_RunLoads.f k x0.f0 x0.f1 x0.f2 x0.f3 x1 x2 = some true
end Go.Proofs.Ytbhkopbalhhpgaa.PL
