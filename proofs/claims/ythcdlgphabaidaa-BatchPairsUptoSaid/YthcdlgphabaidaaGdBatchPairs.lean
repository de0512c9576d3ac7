-- Made by a program of this workplace out of the translation (wip/tools in the repo). Not trusted: Lean checks it.
import Derived.Test.YthcdlgphabaidaaPBx3
namespace Go.Proofs.Ythcdlgphabaidaa.PB
open Go.RowKit Go.Proofs.YthcdlgphabaidaaW.PrintWords Go.Proofs.YthcdlgphabaidaaW.PrintLast Go.Proofs.YthcdlgphabaidaaW.PrintMore
set_option linter.unusedVariables false
def g9 (x : ByteArray) : Prop := x.size ≤ 140737488351232
def g68 (x : S68) : Prop := x.f0.size ≤ 140737488351232 ∧ x.f1.size ≤ 140737488351232
def g22 (x : List (S68)) : Prop := x.length * 32 ≤ 140737488351232 ∧ ∀ y ∈ x, g68 y
def g24 (x : S24) : Prop := (x.f0.length * 32 ≤ 140737488351232 ∧ ∀ y ∈ x.f0, g68 y) ∧ (x.f1.length * 32 ≤ 140737488351232 ∧ ∀ y ∈ x.f1, g68 y)
def b9 (x : ByteArray) : Nat := x.size + 1
def b68 (x : S68) : Nat := b9 x.f0 + (b9 x.f1)
def b22 (x : List (S68)) : Nat := (x.map b68).sum + 1
def b24 (x : S24) : Nat := b22 x.f0 + (b22 x.f1)
def stanchionlaw07_BatchPairs.Pure : Prop := ∀ (x0 : S24) (x1 : List (S68)), g24 x0 → g22 x1 → (b24 x0 + (b22 x1 + 0)) ≤ 1048576 → ∃ k, stanchionlaw07_BatchPairs.f k x0.f0 x0.f1 x1 = some true
end Go.Proofs.Ythcdlgphabaidaa.PB
