-- Made by a program of this workplace out of the translation (wip/tools in the repo). Not trusted: Lean checks it.
import Derived.Test.YtlacmlceedkfoaaPBx4
namespace Go.Proofs.Ytlacmlceedkfoaa.PB
open Go.RowKit Go.Proofs.YtlacmlceedkfoaaW.PrintWords Go.Proofs.YtlacmlceedkfoaaW.PrintLast Go.Proofs.YtlacmlceedkfoaaW.PrintMore
set_option linter.unusedVariables false
def g9 (x : ByteArray) : Prop := x.size ≤ 140737488351232
def g59 (x : S59) : Prop := x.f0.size ≤ 140737488351232 ∧ x.f1.size ≤ 140737488351232
def g23 (x : List (S59)) : Prop := x.length * 32 ≤ 140737488351232 ∧ ∀ y ∈ x, g59 y
def g42 (x : List ByteArray) : Prop := x.length * 16 ≤ 140737488351232 ∧ ∀ y ∈ x, g9 y
def b9 (x : ByteArray) : Nat := x.size + 1
def b59 (x : S59) : Nat := b9 x.f0 + (b9 x.f1)
def b23 (x : List (S59)) : Nat := (x.map b59).sum + 1
def b42 (x : List ByteArray) : Nat := (x.map b9).sum + 1
def stanchionlaw19_AuditReads.Pure : Prop := ∀ (x0 : List (S59)) (x1 : List ByteArray), g23 x0 → g42 x1 → (b23 x0 + (b42 x1 + 0)) ≤ 1048576 → ∃ k, stanchionlaw19_AuditReads.f k x0 x1 = some true
end Go.Proofs.Ytlacmlceedkfoaa.PB
