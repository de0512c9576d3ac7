-- Made by a program of this workplace out of the translation (wip/tools in the repo). Not trusted: Lean checks it.
import Derived.Test.YthcdlgphabaidaaPBx2
namespace Go.Proofs.Ythcdlgphabaidaa.PB
open Go.RowKit Go.Proofs.YthcdlgphabaidaaW.PrintWords Go.Proofs.YthcdlgphabaidaaW.PrintLast Go.Proofs.YthcdlgphabaidaaW.PrintMore
set_option linter.unusedVariables false
def g9 (x : ByteArray) : Prop := x.size ≤ 140737488351232
def g68 (x : S68) : Prop := x.f0.size ≤ 140737488351232 ∧ x.f1.size ≤ 140737488351232
def g22 (x : List (S68)) : Prop := x.length * 32 ≤ 140737488351232 ∧ ∀ y ∈ x, g68 y
def g24 (x : S24) : Prop := (x.f0.length * 32 ≤ 140737488351232 ∧ ∀ y ∈ x.f0, g68 y) ∧ (x.f1.length * 32 ≤ 140737488351232 ∧ ∀ y ∈ x.f1, g68 y)
def g3 (x : Int) : Prop := (Lit.int .i64 x).wf = true
def g4 (x : Bool) : Prop := True
def g54 (x : S54) : Prop := x.f0.size ≤ 140737488351232 ∧ x.f1.size ≤ 140737488351232 ∧ True
def g35 (x : List (S54)) : Prop := x.length * 40 ≤ 140737488351232 ∧ ∀ y ∈ x, g54 y
def g37 (x : S37) : Prop := (Lit.int .i64 x.f0).wf = true ∧ x.f1.size ≤ 140737488351232 ∧ (x.f2.length * 40 ≤ 140737488351232 ∧ ∀ y ∈ x.f2, g54 y)
def stanchionlaw07_BatchWrites.Pure : Prop := ∀ (x0 : S24) (x1 : S37) (x2 : Int), g24 x0 → g37 x1 → g3 x2 → ∃ k, stanchionlaw07_BatchWrites.f k x0.f0 x0.f1 x1.f0 x1.f1 x1.f2 x2 = some true
end Go.Proofs.Ythcdlgphabaidaa.PB
