-- Made by a program of this workplace out of the translation (wip/tools in the repo). Not trusted: Lean checks it.
import Derived.Test.YtlacmlceedkfoaaPEx4
namespace Go.Proofs.Ytlacmlceedkfoaa.PE
open Go.RowKit Go.Proofs.YtlacmlceedkfoaaW.PrintWords Go.Proofs.YtlacmlceedkfoaaW.PrintLast Go.Proofs.YtlacmlceedkfoaaW.PrintMore
set_option linter.unusedVariables false
def g9 (x : ByteArray) : Prop := x.size ≤ 140737488351232
def g59 (x : S59) : Prop := x.f0.size ≤ 140737488351232 ∧ x.f1.size ≤ 140737488351232
def g23 (x : List (S59)) : Prop := x.length * 32 ≤ 140737488351232 ∧ ∀ y ∈ x, g59 y
def g3 (x : Int) : Prop := (Lit.int .i64 x).wf = true
def g25 (x : S25) : Prop := (Lit.int .i64 x.f0).wf = true ∧ x.f1.size ≤ 140737488351232 ∧ x.f2.size ≤ 140737488351232 ∧ x.f3.size ≤ 140737488351232 ∧ x.f4.size ≤ 140737488351232 ∧ (Lit.int .i64 x.f5).wf = true
def g4 (x : Bool) : Prop := True
def g27 (x : S27) : Prop := g25 x.f0 ∧ x.f1.size ≤ 140737488351232 ∧ True ∧ (x.f3.length * 32 ≤ 140737488351232 ∧ ∀ y ∈ x.f3, g59 y)
def g28 (x : List (S27)) : Prop := x.length * 128 ≤ 140737488351232 ∧ ∀ y ∈ x, g27 y
def g46 (x : S46) : Prop := x.f0.size ≤ 140737488351232 ∧ (x.f1.length * 128 ≤ 140737488351232 ∧ ∀ y ∈ x.f1, g27 y)
def g37 (x : List (S46)) : Prop := x.length * 40 ≤ 140737488351232 ∧ ∀ y ∈ x, g46 y
def g42 (x : List ByteArray) : Prop := x.length * 16 ≤ 140737488351232 ∧ ∀ y ∈ x, g9 y
def b9 (x : ByteArray) : Nat := x.size + 1
def b59 (x : S59) : Nat := b9 x.f0 + (b9 x.f1)
def b23 (x : List (S59)) : Nat := (x.map b59).sum + 1
def b3 (x : Int) : Nat := 1
def b25 (x : S25) : Nat := b3 x.f0 + (b9 x.f1 + (b9 x.f2 + (b9 x.f3 + (b9 x.f4 + (b3 x.f5)))))
def b4 (x : Bool) : Nat := 1
def b27 (x : S27) : Nat := b25 x.f0 + (b9 x.f1 + (b4 x.f2 + (b23 x.f3)))
def b28 (x : List (S27)) : Nat := (x.map b27).sum + 1
def b46 (x : S46) : Nat := b9 x.f0 + (b28 x.f1)
def b37 (x : List (S46)) : Nat := (x.map b46).sum + 1
def b42 (x : List ByteArray) : Nat := (x.map b9).sum + 1
def stanchionlaw19_AuditSerials.Pure : Prop := ∀ (x0 : List (S59)) (x1 : List (S46)) (x2 : List ByteArray), g23 x0 → g37 x1 → g42 x2 → (b23 x0 + (b37 x1 + (b42 x2 + 0))) ≤ 1048576 → ∃ k, stanchionlaw19_AuditSerials.f k x0 x1 x2 = some true
end Go.Proofs.Ytlacmlceedkfoaa.PE
