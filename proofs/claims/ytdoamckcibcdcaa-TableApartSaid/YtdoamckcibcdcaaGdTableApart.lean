-- Made by a program of this workplace out of the translation (wip/tools in the repo). Not trusted: Lean checks it.
import Derived.Test.YtdoamckcibcdcaaPBx2
namespace Go.Proofs.Ytdoamckcibcdcaa.PB
open Go.RowKit Go.Proofs.YtdoamckcibcdcaaW.PrintWords Go.Proofs.YtdoamckcibcdcaaW.PrintLast Go.Proofs.YtdoamckcibcdcaaW.PrintMore
def g9 (x : ByteArray) : Prop := x.size ≤ 140737488351232
def g59 (x : S59) : Prop := x.f0.size ≤ 140737488351232 ∧ x.f1.size ≤ 140737488351232
def g22 (x : List (S59)) : Prop := x.length * 32 ≤ 140737488351232 ∧ ∀ y ∈ x, g59 y
def g44 (x : S44) : Prop := (x.f0.length * 32 ≤ 140737488351232 ∧ ∀ y ∈ x.f0, g59 y) ∧ x.f1.size ≤ 140737488351232 ∧ x.f2.size ≤ 140737488351232 ∧ x.f3.size ≤ 140737488351232
def stanchionlaw05_TableApart.Pure : Prop := ∀ (x0 : S44), g44 x0 → ∃ k, stanchionlaw05_TableApart.f k x0.f0 x0.f1 x0.f2 x0.f3 = some true
end Go.Proofs.Ytdoamckcibcdcaa.PB
