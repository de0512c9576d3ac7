-- Made by a program of this workplace out of the translation (wip/tools in the repo). Not trusted: Lean checks it.
import Derived.Test.YtbkfmicnjnklnaaPCx1
namespace Go.Proofs.Ytbkfmicnjnklnaa.PC
open Go.RowKit Go.Proofs.YtbkfmicnjnklnaaW.PrintWords Go.Proofs.YtbkfmicnjnklnaaW.PrintLast Go.Proofs.YtbkfmicnjnklnaaW.PrintMore
set_option linter.unusedVariables false
def g9 (x : ByteArray) : Prop := x.size ≤ 140737488351232
def g4 (x : Bool) : Prop := True
def g33 (x : S33) : Prop := x.f0.size ≤ 140737488351232 ∧ x.f1.size ≤ 140737488351232 ∧ True
def g22 (x : List (S33)) : Prop := x.length * 40 ≤ 140737488351232 ∧ ∀ y ∈ x, g33 y
def g43 (x : S43) : Prop := x.f0.size ≤ 140737488351232 ∧ x.f1.size ≤ 140737488351232
def g23 (x : List (S43)) : Prop := x.length * 32 ≤ 140737488351232 ∧ ∀ y ∈ x, g43 y
def g35 (x : S35) : Prop := (x.f0.length * 40 ≤ 140737488351232 ∧ ∀ y ∈ x.f0, g33 y) ∧ (x.f1.length * 32 ≤ 140737488351232 ∧ ∀ y ∈ x.f1, g43 y) ∧ g33 x.f2 ∧ x.f3.size ≤ 140737488351232
def stanchionlaw12_ViewOwn.Pure : Prop := ∀ (x0 : S35), g35 x0 → ∃ k, stanchionlaw12_ViewOwn.f k x0.f0 x0.f1 x0.f2.f0 x0.f2.f1 x0.f2.f2 x0.f3 = some true
end Go.Proofs.Ytbkfmicnjnklnaa.PC
