-- Made by a program of this workplace out of the translation (wip/tools in the repo). Not trusted: Lean checks it.
import Derived.Test.YthcdlgphabaidaaPOx2
namespace Go.Proofs.Ythcdlgphabaidaa.PO
open Go.RowKit Go.Proofs.YthcdlgphabaidaaW.PrintWords Go.Proofs.YthcdlgphabaidaaW.PrintLast Go.Proofs.YthcdlgphabaidaaW.PrintMore
set_option linter.unusedVariables false
def g3 (x : Int) : Prop := (Lit.int .i64 x).wf = true
def g9 (x : ByteArray) : Prop := x.size ≤ 140737488351232
def g4 (x : Bool) : Prop := True
def g54 (x : S54) : Prop := x.f0.size ≤ 140737488351232 ∧ x.f1.size ≤ 140737488351232 ∧ True
def g35 (x : List (S54)) : Prop := x.length * 40 ≤ 140737488351232 ∧ ∀ y ∈ x, g54 y
def g37 (x : S37) : Prop := (Lit.int .i64 x.f0).wf = true ∧ x.f1.size ≤ 140737488351232 ∧ (x.f2.length * 40 ≤ 140737488351232 ∧ ∀ y ∈ x.f2, g54 y)
def g65 (x : List (S37)) : Prop := x.length * 48 ≤ 140737488351232 ∧ ∀ y ∈ x, g37 y
def stanchionlaw07_BatchOnce.Pure : Prop := ∀ (x0 : List (S37)), g65 x0 → ∃ k, stanchionlaw07_BatchOnce.f k x0 = some true
end Go.Proofs.Ythcdlgphabaidaa.PO
