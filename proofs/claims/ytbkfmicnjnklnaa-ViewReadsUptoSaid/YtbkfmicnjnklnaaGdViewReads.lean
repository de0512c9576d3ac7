-- Made by a program of this workplace out of the translation (wip/tools in the repo). Not trusted: Lean checks it.
import Derived.Test.YtbkfmicnjnklnaaPBx3
namespace Go.Proofs.Ytbkfmicnjnklnaa.PB
open Go.RowKit Go.Proofs.YtbkfmicnjnklnaaW.PrintWords Go.Proofs.YtbkfmicnjnklnaaW.PrintLast Go.Proofs.YtbkfmicnjnklnaaW.PrintMore
set_option linter.unusedVariables false
def g9 (x : ByteArray) : Prop := x.size ≤ 140737488351232
def g4 (x : Bool) : Prop := True
def g33 (x : S33) : Prop := x.f0.size ≤ 140737488351232 ∧ x.f1.size ≤ 140737488351232 ∧ True
def g22 (x : List (S33)) : Prop := x.length * 40 ≤ 140737488351232 ∧ ∀ y ∈ x, g33 y
def g43 (x : S43) : Prop := x.f0.size ≤ 140737488351232 ∧ x.f1.size ≤ 140737488351232
def g23 (x : List (S43)) : Prop := x.length * 32 ≤ 140737488351232 ∧ ∀ y ∈ x, g43 y
def g3 (x : Int) : Prop := (Lit.int .i64 x).wf = true
def g25 (x : S25) : Prop := (x.f0.length * 40 ≤ 140737488351232 ∧ ∀ y ∈ x.f0, g33 y) ∧ (x.f1.length * 32 ≤ 140737488351232 ∧ ∀ y ∈ x.f1, g43 y) ∧ x.f2.size ≤ 140737488351232 ∧ x.f3.size ≤ 140737488351232 ∧ x.f4.size ≤ 140737488351232 ∧ (Lit.int .i64 x.f5).wf = true
def b9 (x : ByteArray) : Nat := x.size + 1
def b4 (x : Bool) : Nat := 1
def b33 (x : S33) : Nat := b9 x.f0 + (b9 x.f1 + (b4 x.f2))
def b22 (x : List (S33)) : Nat := (x.map b33).sum + 1
def b43 (x : S43) : Nat := b9 x.f0 + (b9 x.f1)
def b23 (x : List (S43)) : Nat := (x.map b43).sum + 1
def b3 (x : Int) : Nat := 1
def b25 (x : S25) : Nat := b22 x.f0 + (b23 x.f1 + (b9 x.f2 + (b9 x.f3 + (b9 x.f4 + (b3 x.f5)))))
def stanchionlaw12_ViewReads.Pure : Prop := ∀ (x0 : S25), g25 x0 → (b25 x0 + 0) ≤ 1048576 → ∃ k, stanchionlaw12_ViewReads.f k x0.f0 x0.f1 x0.f2 x0.f3 x0.f4 x0.f5 = some true
end Go.Proofs.Ytbkfmicnjnklnaa.PB
