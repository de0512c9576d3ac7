-- Made by a program of this workplace out of the translation (wip/tools in the repo). Not trusted: Lean checks it.
import Derived.Test.YtlacmlceedkfoaaPBx3
namespace Go.Proofs.Ytlacmlceedkfoaa.PB
open Go.RowKit Go.Proofs.YtlacmlceedkfoaaW.PrintWords Go.Proofs.YtlacmlceedkfoaaW.PrintLast Go.Proofs.YtlacmlceedkfoaaW.PrintMore
set_option linter.unusedVariables false
def g9 (x : ByteArray) : Prop := x.size ≤ 140737488351232
def g4 (x : Bool) : Prop := True
def g61 (x : S61) : Prop := x.f0.size ≤ 140737488351232 ∧ x.f1.size ≤ 140737488351232 ∧ True
def g22 (x : List (S61)) : Prop := x.length * 40 ≤ 140737488351232 ∧ ∀ y ∈ x, g61 y
def g59 (x : S59) : Prop := x.f0.size ≤ 140737488351232 ∧ x.f1.size ≤ 140737488351232
def g23 (x : List (S59)) : Prop := x.length * 32 ≤ 140737488351232 ∧ ∀ y ∈ x, g59 y
def g3 (x : Int) : Prop := (Lit.int .i64 x).wf = true
def g25 (x : S25) : Prop := (Lit.int .i64 x.f0).wf = true ∧ x.f1.size ≤ 140737488351232 ∧ x.f2.size ≤ 140737488351232 ∧ x.f3.size ≤ 140737488351232 ∧ x.f4.size ≤ 140737488351232 ∧ (Lit.int .i64 x.f5).wf = true
def g27 (x : S27) : Prop := g25 x.f0 ∧ x.f1.size ≤ 140737488351232 ∧ True ∧ (x.f3.length * 32 ≤ 140737488351232 ∧ ∀ y ∈ x.f3, g59 y)
def g28 (x : List (S27)) : Prop := x.length * 128 ≤ 140737488351232 ∧ ∀ y ∈ x, g27 y
def g30 (x : S30) : Prop := (x.f0.length * 40 ≤ 140737488351232 ∧ ∀ y ∈ x.f0, g61 y) ∧ (x.f1.length * 32 ≤ 140737488351232 ∧ ∀ y ∈ x.f1, g59 y) ∧ g27 x.f2 ∧ (x.f3.length * 128 ≤ 140737488351232 ∧ ∀ y ∈ x.f3, g27 y)
def b9 (x : ByteArray) : Nat := x.size + 1
def b4 (x : Bool) : Nat := 1
def b61 (x : S61) : Nat := b9 x.f0 + (b9 x.f1 + (b4 x.f2))
def b22 (x : List (S61)) : Nat := (x.map b61).sum + 1
def b59 (x : S59) : Nat := b9 x.f0 + (b9 x.f1)
def b23 (x : List (S59)) : Nat := (x.map b59).sum + 1
def b3 (x : Int) : Nat := 1
def b25 (x : S25) : Nat := b3 x.f0 + (b9 x.f1 + (b9 x.f2 + (b9 x.f3 + (b9 x.f4 + (b3 x.f5)))))
def b27 (x : S27) : Nat := b25 x.f0 + (b9 x.f1 + (b4 x.f2 + (b23 x.f3)))
def b28 (x : List (S27)) : Nat := (x.map b27).sum + 1
def b30 (x : S30) : Nat := b22 x.f0 + (b23 x.f1 + (b27 x.f2 + (b28 x.f3)))
def stanchionlaw19_AuditSteps.Pure : Prop := ∀ (x0 : S30), g30 x0 → (b30 x0 + 0) ≤ 1048576 → ∃ k, stanchionlaw19_AuditSteps.f k x0.f0 x0.f1 x0.f2.f0.f0 x0.f2.f0.f1 x0.f2.f0.f2 x0.f2.f0.f3 x0.f2.f0.f4 x0.f2.f0.f5 x0.f2.f1 x0.f2.f2 x0.f2.f3 x0.f3 = some true
end Go.Proofs.Ytlacmlceedkfoaa.PB
