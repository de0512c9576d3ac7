/-
  No cell of these rows narrows 'for every input' (looked for: loops, veiled, ifaces, maps, wideKeys, modest, calm, conditions, laid).
  DERIVED. THE GIVEN ROWS OF THIS SEAT. 7 by the template 'for every input the law returns true; each argument reads behind the call as it read before'; 0 by the template 'total and deterministic' (their statements: YtlacmlceedkfoaaTotals.lean).
  GIVEN WITH THE SEED: the statements are not yours to turn. If you find one false, say at which input.
  Laid BY PROGRAM, IN A SANDBOX (cutbox-rows.mjs): the forced cells as the released guide's own fill.sh prints them over the translation 2730b6dd2091b778… (all of the seat's roots in one cut). By AI agents, Wed Nov 11 2026. No macro, syntax, notation, axiom, sorry.
-/
import Derived.Test.YtlacmlceedkfoaaChecked
import GoSem.Claim
import GoSem.ClaimJoined
import GoSem.ClaimMapViews
import Derived.JoinedTies
import Derived.KernelRfl
namespace Go.Proofs.Ytlacmlceedkfoaa
/- THE CELL 'sum', in the pinned program and in every row, IS THE sha256 OF THE DUMP (.gsa) THAT YtlacmlceedkfoaaProg.lean LOADS. Nothing in Lean hashes anything: it is a label: what it is worth is what the hold of that sum in a sandbox is worth. -/
noncomputable def Try.pinned : Pinned := { name := "ytlacmlceedkfoaa", sum := "2730b6dd2091b7787ee76c9b4172104ebe6121d778c47315f1ae7d924242eb2d", checked := Try.checked }
namespace Rows
def none {H : Type} : Left H := { results := [], args := [] }

/-- 'stanchionlaw19.AuditSteps': WHATEVER THE INPUT: true; the input reads as it did. -/
def auditStepsSpec : ChangeSpec := { name := "auditSteps", fn := fun _ => fun
  | [d] => { results := [.lit (.bool true)], args := [d] }
  | _ => none }
def auditStepsRow : OpenClaim := { program := "ytlacmlceedkfoaa", sum := "2730b6dd2091b7787ee76c9b4172104ebe6121d778c47315f1ae7d924242eb2d", func := "stanchion/stanchionlaw19.AuditSteps", spec := "auditSteps", inPlace := ["slices.overlaps[stanchion/api.Pair]", "slices.overlaps[stanchion/api.Write]"], unfollowed := true, recurses := true, apart := false }
def AuditStepsSaid : Prop := auditStepsRow.holds Try.pinned (OpenSpec.ofChange auditStepsSpec)

/-- ITS FALSE NEIGHBOUR: 'it returns false'. Refute it at one input. -/
def auditStepsWrong : ChangeSpec := { name := "auditSteps", fn := fun _ => fun
  | [d] => { results := [.lit (.bool false)], args := [d] }
  | _ => none }
def AuditStepsWrongFalsely : Prop := auditStepsRow.holds Try.pinned (OpenSpec.ofChange auditStepsWrong)

/-- 'stanchionlaw19.AuditParts': WHATEVER THE INPUT: true; the input reads as it did. -/
def auditPartsSpec : ChangeSpec := { name := "auditParts", fn := fun _ => fun
  | [d1, d2, d3] => { results := [.lit (.bool true)], args := [d1, d2, d3] }
  | _ => none }
def auditPartsRow : OpenClaim := { program := "ytlacmlceedkfoaa", sum := "2730b6dd2091b7787ee76c9b4172104ebe6121d778c47315f1ae7d924242eb2d", func := "stanchion/stanchionlaw19.AuditParts", spec := "auditParts", inPlace := ["slices.overlaps[stanchion/api.Pair]", "slices.overlaps[stanchion/api.Write]"], unfollowed := true, recurses := true, apart := false }
def AuditPartsSaid : Prop := auditPartsRow.holds Try.pinned (OpenSpec.ofChange auditPartsSpec)

/-- ITS FALSE NEIGHBOUR: 'it returns false'. Refute it at one input. -/
def auditPartsWrong : ChangeSpec := { name := "auditParts", fn := fun _ => fun
  | [d1, d2, d3] => { results := [.lit (.bool false)], args := [d1, d2, d3] }
  | _ => none }
def AuditPartsWrongFalsely : Prop := auditPartsRow.holds Try.pinned (OpenSpec.ofChange auditPartsWrong)

/-- 'stanchionlaw19.AuditReads': WHATEVER THE INPUT: true; the input reads as it did. -/
def auditReadsSpec : ChangeSpec := { name := "auditReads", fn := fun _ => fun
  | [d1, d2] => { results := [.lit (.bool true)], args := [d1, d2] }
  | _ => none }
def auditReadsRow : OpenClaim := { program := "ytlacmlceedkfoaa", sum := "2730b6dd2091b7787ee76c9b4172104ebe6121d778c47315f1ae7d924242eb2d", func := "stanchion/stanchionlaw19.AuditReads", spec := "auditReads", inPlace := ["slices.overlaps[stanchion/api.Pair]", "slices.overlaps[stanchion/api.Write]"], unfollowed := true, recurses := true, apart := false }
def AuditReadsSaid : Prop := auditReadsRow.holds Try.pinned (OpenSpec.ofChange auditReadsSpec)

/-- ITS FALSE NEIGHBOUR: 'it returns false'. Refute it at one input. -/
def auditReadsWrong : ChangeSpec := { name := "auditReads", fn := fun _ => fun
  | [d1, d2] => { results := [.lit (.bool false)], args := [d1, d2] }
  | _ => none }
def AuditReadsWrongFalsely : Prop := auditReadsRow.holds Try.pinned (OpenSpec.ofChange auditReadsWrong)

/-- 'stanchionlaw19.AuditLies': WHATEVER THE INPUT: true; the input reads as it did. -/
def auditLiesSpec : ChangeSpec := { name := "auditLies", fn := fun _ => fun
  | [d] => { results := [.lit (.bool true)], args := [d] }
  | _ => none }
def auditLiesRow : OpenClaim := { program := "ytlacmlceedkfoaa", sum := "2730b6dd2091b7787ee76c9b4172104ebe6121d778c47315f1ae7d924242eb2d", func := "stanchion/stanchionlaw19.AuditLies", spec := "auditLies", inPlace := ["slices.overlaps[stanchion/api.Pair]", "slices.overlaps[stanchion/api.Write]"], unfollowed := true, recurses := true, apart := false }
def AuditLiesSaid : Prop := auditLiesRow.holds Try.pinned (OpenSpec.ofChange auditLiesSpec)

/-- ITS FALSE NEIGHBOUR: 'it returns false'. Refute it at one input. -/
def auditLiesWrong : ChangeSpec := { name := "auditLies", fn := fun _ => fun
  | [d] => { results := [.lit (.bool false)], args := [d] }
  | _ => none }
def AuditLiesWrongFalsely : Prop := auditLiesRow.holds Try.pinned (OpenSpec.ofChange auditLiesWrong)

/-- 'stanchionlaw19.AuditOwn': WHATEVER THE INPUT: true; the input reads as it did. -/
def auditOwnSpec : ChangeSpec := { name := "auditOwn", fn := fun _ => fun
  | [d] => { results := [.lit (.bool true)], args := [d] }
  | _ => none }
def auditOwnRow : OpenClaim := { program := "ytlacmlceedkfoaa", sum := "2730b6dd2091b7787ee76c9b4172104ebe6121d778c47315f1ae7d924242eb2d", func := "stanchion/stanchionlaw19.AuditOwn", spec := "auditOwn", inPlace := ["slices.overlaps[stanchion/api.Pair]", "slices.overlaps[stanchion/api.Write]"], unfollowed := true, recurses := true, apart := false }
def AuditOwnSaid : Prop := auditOwnRow.holds Try.pinned (OpenSpec.ofChange auditOwnSpec)

/-- ITS FALSE NEIGHBOUR: 'it returns false'. Refute it at one input. -/
def auditOwnWrong : ChangeSpec := { name := "auditOwn", fn := fun _ => fun
  | [d] => { results := [.lit (.bool false)], args := [d] }
  | _ => none }
def AuditOwnWrongFalsely : Prop := auditOwnRow.holds Try.pinned (OpenSpec.ofChange auditOwnWrong)

/-- 'stanchionlaw19.AuditSerials': WHATEVER THE INPUT: true; the input reads as it did. -/
def auditSerialsSpec : ChangeSpec := { name := "auditSerials", fn := fun _ => fun
  | [d1, d2, d3] => { results := [.lit (.bool true)], args := [d1, d2, d3] }
  | _ => none }
def auditSerialsRow : OpenClaim := { program := "ytlacmlceedkfoaa", sum := "2730b6dd2091b7787ee76c9b4172104ebe6121d778c47315f1ae7d924242eb2d", func := "stanchion/stanchionlaw19.AuditSerials", spec := "auditSerials", inPlace := ["slices.overlaps[stanchion/api.Pair]", "slices.overlaps[stanchion/api.Write]"], unfollowed := true, recurses := true, apart := false }
def AuditSerialsSaid : Prop := auditSerialsRow.holds Try.pinned (OpenSpec.ofChange auditSerialsSpec)

/-- ITS FALSE NEIGHBOUR: 'it returns false'. Refute it at one input. -/
def auditSerialsWrong : ChangeSpec := { name := "auditSerials", fn := fun _ => fun
  | [d1, d2, d3] => { results := [.lit (.bool false)], args := [d1, d2, d3] }
  | _ => none }
def AuditSerialsWrongFalsely : Prop := auditSerialsRow.holds Try.pinned (OpenSpec.ofChange auditSerialsWrong)

/-- 'stanchionlaw19.AuditOrders': WHATEVER THE INPUT: true; the input reads as it did. -/
def auditOrdersSpec : ChangeSpec := { name := "auditOrders", fn := fun _ => fun
  | [d1, d2] => { results := [.lit (.bool true)], args := [d1, d2] }
  | _ => none }
def auditOrdersRow : OpenClaim := { program := "ytlacmlceedkfoaa", sum := "2730b6dd2091b7787ee76c9b4172104ebe6121d778c47315f1ae7d924242eb2d", func := "stanchion/stanchionlaw19.AuditOrders", spec := "auditOrders", inPlace := ["slices.overlaps[stanchion/api.Pair]", "slices.overlaps[stanchion/api.Write]"], unfollowed := true, recurses := true, apart := false }
def AuditOrdersSaid : Prop := auditOrdersRow.holds Try.pinned (OpenSpec.ofChange auditOrdersSpec)

/-- ITS FALSE NEIGHBOUR: 'it returns false'. Refute it at one input. -/
def auditOrdersWrong : ChangeSpec := { name := "auditOrders", fn := fun _ => fun
  | [d1, d2] => { results := [.lit (.bool false)], args := [d1, d2] }
  | _ => none }
def AuditOrdersWrongFalsely : Prop := auditOrdersRow.holds Try.pinned (OpenSpec.ofChange auditOrdersWrong)

/- THE SECOND FORM. 'bulk': how many values and letters a reading holds, each counted each time it is reached (what is shared counts as often as it is met; a slice's spare places count too). A statement '..UptoSaid' is the law's where the arguments, and the package variables that the reading takes, are together of bulk at most 1048576: NARROWER than '..Said'. Prove '..Said' where nothing that the law and all that it calls make is longer than what came in: it says more and counts as full. Else prove '..UptoSaid'. A law counts once. -/
mutual
def uptoBulk {H : Type} : DataW H → Nat
  | .lit (.string bytes) => bytes.length + 1
  | .lit _ => 1
  | .nil => 1
  | .ptr d => uptoBulk d + 1
  | .slice elems spare => uptoBulkAll elems + uptoBulkAll spare + 1
  | .agg parts => uptoBulkAll parts + 1
  | .iface _ d => uptoBulk d + 1
  | .map entries => uptoBulkEntries entries + 1
  | .held _ => 1
def uptoBulkAll {H : Type} : List (DataW H) → Nat
  | [] => 0
  | d :: r => uptoBulk d + uptoBulkAll r
def uptoBulkEntries {H : Type} : List (Lit × DataW H) → Nat
  | [] => 0
  | x :: r => uptoBulkEntry x + uptoBulkEntries r
def uptoBulkEntry {H : Type} : Lit × DataW H → Nat
  | (.string bytes, d) => bytes.length + uptoBulk d + 1
  | (_, d) => uptoBulk d + 1
 end
def uptoSmall : (H : Type) → List (DataW H) → Bool := fun _ ds => decide (uptoBulkAll ds ≤ 1048576)
def OpenSpec.upto (s : _root_.Go.ChangeSpec) : _root_.Go.OpenSpec := { _root_.Go.OpenSpec.ofChange s with cond := some uptoSmall }

/-- 'stanchionlaw19.AuditSteps', WHERE WHAT IT READS IS OF BULK AT MOST 1048576: true; the input reads as it did. -/
def auditStepsUptoRow : OpenClaim := { program := "ytlacmlceedkfoaa", sum := "2730b6dd2091b7787ee76c9b4172104ebe6121d778c47315f1ae7d924242eb2d", func := "stanchion/stanchionlaw19.AuditSteps", spec := "auditSteps", inPlace := ["slices.overlaps[stanchion/api.Pair]", "slices.overlaps[stanchion/api.Write]"], unfollowed := true, recurses := true, apart := false, narrowed := true }
def AuditStepsUptoSaid : Prop := auditStepsUptoRow.holds Try.pinned (OpenSpec.upto auditStepsSpec)

/-- 'stanchionlaw19.AuditParts', WHERE WHAT IT READS IS OF BULK AT MOST 1048576: true; the input reads as it did. -/
def auditPartsUptoRow : OpenClaim := { program := "ytlacmlceedkfoaa", sum := "2730b6dd2091b7787ee76c9b4172104ebe6121d778c47315f1ae7d924242eb2d", func := "stanchion/stanchionlaw19.AuditParts", spec := "auditParts", inPlace := ["slices.overlaps[stanchion/api.Pair]", "slices.overlaps[stanchion/api.Write]"], unfollowed := true, recurses := true, apart := false, narrowed := true }
def AuditPartsUptoSaid : Prop := auditPartsUptoRow.holds Try.pinned (OpenSpec.upto auditPartsSpec)

/-- 'stanchionlaw19.AuditReads', WHERE WHAT IT READS IS OF BULK AT MOST 1048576: true; the input reads as it did. -/
def auditReadsUptoRow : OpenClaim := { program := "ytlacmlceedkfoaa", sum := "2730b6dd2091b7787ee76c9b4172104ebe6121d778c47315f1ae7d924242eb2d", func := "stanchion/stanchionlaw19.AuditReads", spec := "auditReads", inPlace := ["slices.overlaps[stanchion/api.Pair]", "slices.overlaps[stanchion/api.Write]"], unfollowed := true, recurses := true, apart := false, narrowed := true }
def AuditReadsUptoSaid : Prop := auditReadsUptoRow.holds Try.pinned (OpenSpec.upto auditReadsSpec)

/-- 'stanchionlaw19.AuditLies', WHERE WHAT IT READS IS OF BULK AT MOST 1048576: true; the input reads as it did. -/
def auditLiesUptoRow : OpenClaim := { program := "ytlacmlceedkfoaa", sum := "2730b6dd2091b7787ee76c9b4172104ebe6121d778c47315f1ae7d924242eb2d", func := "stanchion/stanchionlaw19.AuditLies", spec := "auditLies", inPlace := ["slices.overlaps[stanchion/api.Pair]", "slices.overlaps[stanchion/api.Write]"], unfollowed := true, recurses := true, apart := false, narrowed := true }
def AuditLiesUptoSaid : Prop := auditLiesUptoRow.holds Try.pinned (OpenSpec.upto auditLiesSpec)

/-- 'stanchionlaw19.AuditOwn', WHERE WHAT IT READS IS OF BULK AT MOST 1048576: true; the input reads as it did. -/
def auditOwnUptoRow : OpenClaim := { program := "ytlacmlceedkfoaa", sum := "2730b6dd2091b7787ee76c9b4172104ebe6121d778c47315f1ae7d924242eb2d", func := "stanchion/stanchionlaw19.AuditOwn", spec := "auditOwn", inPlace := ["slices.overlaps[stanchion/api.Pair]", "slices.overlaps[stanchion/api.Write]"], unfollowed := true, recurses := true, apart := false, narrowed := true }
def AuditOwnUptoSaid : Prop := auditOwnUptoRow.holds Try.pinned (OpenSpec.upto auditOwnSpec)

/-- 'stanchionlaw19.AuditSerials', WHERE WHAT IT READS IS OF BULK AT MOST 1048576: true; the input reads as it did. -/
def auditSerialsUptoRow : OpenClaim := { program := "ytlacmlceedkfoaa", sum := "2730b6dd2091b7787ee76c9b4172104ebe6121d778c47315f1ae7d924242eb2d", func := "stanchion/stanchionlaw19.AuditSerials", spec := "auditSerials", inPlace := ["slices.overlaps[stanchion/api.Pair]", "slices.overlaps[stanchion/api.Write]"], unfollowed := true, recurses := true, apart := false, narrowed := true }
def AuditSerialsUptoSaid : Prop := auditSerialsUptoRow.holds Try.pinned (OpenSpec.upto auditSerialsSpec)

/-- 'stanchionlaw19.AuditOrders', WHERE WHAT IT READS IS OF BULK AT MOST 1048576: true; the input reads as it did. -/
def auditOrdersUptoRow : OpenClaim := { program := "ytlacmlceedkfoaa", sum := "2730b6dd2091b7787ee76c9b4172104ebe6121d778c47315f1ae7d924242eb2d", func := "stanchion/stanchionlaw19.AuditOrders", spec := "auditOrders", inPlace := ["slices.overlaps[stanchion/api.Pair]", "slices.overlaps[stanchion/api.Write]"], unfollowed := true, recurses := true, apart := false, narrowed := true }
def AuditOrdersUptoSaid : Prop := auditOrdersUptoRow.holds Try.pinned (OpenSpec.upto auditOrdersSpec)

end Rows
end Go.Proofs.Ytlacmlceedkfoaa
