/-
  No cell of these rows narrows 'for every input' (looked for: loops, veiled, ifaces, maps, wideKeys, modest, calm, conditions, laid).
  DERIVED. THE GIVEN ROWS OF THIS SEAT. 7 by the template 'for every input the law returns true; each argument reads behind the call as it read before'; 0 by the template 'total and deterministic' (their statements: YtnpmjboofmdflaaTotals.lean).
  GIVEN WITH THE SEED: the statements are not yours to turn. If you find one false, say at which input.
  Laid BY PROGRAM, IN A SANDBOX (cutbox-rows.mjs): the forced cells as the released guide's own fill.sh prints them over the translation afc740dab840f86c… (all of the seat's roots in one cut). By AI agents, Wed Nov 11 2026. No macro, syntax, notation, axiom, sorry.
-/
import Derived.Test.YtnpmjboofmdflaaChecked
import GoSem.Claim
import GoSem.ClaimJoined
import GoSem.ClaimMapViews
import Derived.JoinedTies
import Derived.KernelRfl
namespace Go.Proofs.Ytnpmjboofmdflaa
/- THE CELL 'sum', in the pinned program and in every row, IS THE sha256 OF THE DUMP (.gsa) THAT YtnpmjboofmdflaaProg.lean LOADS. Nothing in Lean hashes anything: it is a label: what it is worth is what the hold of that sum in a sandbox is worth. -/
noncomputable def Try.pinned : Pinned := { name := "ytnpmjboofmdflaa", sum := "afc740dab840f86c36840e18bdc1965c8a17e9043e0d55413d4d39f6420c15fc", checked := Try.checked }
namespace Rows
def none {H : Type} : Left H := { results := [], args := [] }

/-- 'stanchionlaw17.SessionOnce': WHATEVER THE INPUT: true; the input reads as it did. -/
def sessionOnceSpec : ChangeSpec := { name := "sessionOnce", fn := fun _ => fun
  | [d] => { results := [.lit (.bool true)], args := [d] }
  | _ => none }
def sessionOnceRow : OpenClaim := { program := "ytnpmjboofmdflaa", sum := "afc740dab840f86c36840e18bdc1965c8a17e9043e0d55413d4d39f6420c15fc", func := "stanchion/stanchionlaw17.SessionOnce", spec := "sessionOnce", unfollowed := true, recurses := true, apart := false }
def SessionOnceSaid : Prop := sessionOnceRow.holds Try.pinned (OpenSpec.ofChange sessionOnceSpec)

/-- ITS FALSE NEIGHBOUR: 'it returns false'. Refute it at one input. -/
def sessionOnceWrong : ChangeSpec := { name := "sessionOnce", fn := fun _ => fun
  | [d] => { results := [.lit (.bool false)], args := [d] }
  | _ => none }
def SessionOnceWrongFalsely : Prop := sessionOnceRow.holds Try.pinned (OpenSpec.ofChange sessionOnceWrong)

/-- 'stanchionlaw17.SessionStale': WHATEVER THE INPUT: true; the input reads as it did. -/
def sessionStaleSpec : ChangeSpec := { name := "sessionStale", fn := fun _ => fun
  | [d1, d2] => { results := [.lit (.bool true)], args := [d1, d2] }
  | _ => none }
def sessionStaleRow : OpenClaim := { program := "ytnpmjboofmdflaa", sum := "afc740dab840f86c36840e18bdc1965c8a17e9043e0d55413d4d39f6420c15fc", func := "stanchion/stanchionlaw17.SessionStale", spec := "sessionStale", unfollowed := true, recurses := true, apart := false }
def SessionStaleSaid : Prop := sessionStaleRow.holds Try.pinned (OpenSpec.ofChange sessionStaleSpec)

/-- ITS FALSE NEIGHBOUR: 'it returns false'. Refute it at one input. -/
def sessionStaleWrong : ChangeSpec := { name := "sessionStale", fn := fun _ => fun
  | [d1, d2] => { results := [.lit (.bool false)], args := [d1, d2] }
  | _ => none }
def SessionStaleWrongFalsely : Prop := sessionStaleRow.holds Try.pinned (OpenSpec.ofChange sessionStaleWrong)

/-- 'stanchionlaw17.SessionTurns': WHATEVER THE INPUT: true; the input reads as it did. -/
def sessionTurnsSpec : ChangeSpec := { name := "sessionTurns", fn := fun _ => fun
  | [d] => { results := [.lit (.bool true)], args := [d] }
  | _ => none }
def sessionTurnsRow : OpenClaim := { program := "ytnpmjboofmdflaa", sum := "afc740dab840f86c36840e18bdc1965c8a17e9043e0d55413d4d39f6420c15fc", func := "stanchion/stanchionlaw17.SessionTurns", spec := "sessionTurns", unfollowed := true, recurses := true, apart := false }
def SessionTurnsSaid : Prop := sessionTurnsRow.holds Try.pinned (OpenSpec.ofChange sessionTurnsSpec)

/-- ITS FALSE NEIGHBOUR: 'it returns false'. Refute it at one input. -/
def sessionTurnsWrong : ChangeSpec := { name := "sessionTurns", fn := fun _ => fun
  | [d] => { results := [.lit (.bool false)], args := [d] }
  | _ => none }
def SessionTurnsWrongFalsely : Prop := sessionTurnsRow.holds Try.pinned (OpenSpec.ofChange sessionTurnsWrong)

/-- 'stanchionlaw17.SessionNew': WHATEVER THE INPUT: true; the input reads as it did. -/
def sessionNewSpec : ChangeSpec := { name := "sessionNew", fn := fun _ => fun
  | [d1, d2, d3] => { results := [.lit (.bool true)], args := [d1, d2, d3] }
  | _ => none }
def sessionNewRow : OpenClaim := { program := "ytnpmjboofmdflaa", sum := "afc740dab840f86c36840e18bdc1965c8a17e9043e0d55413d4d39f6420c15fc", func := "stanchion/stanchionlaw17.SessionNew", spec := "sessionNew", unfollowed := true, recurses := true, apart := false }
def SessionNewSaid : Prop := sessionNewRow.holds Try.pinned (OpenSpec.ofChange sessionNewSpec)

/-- ITS FALSE NEIGHBOUR: 'it returns false'. Refute it at one input. -/
def sessionNewWrong : ChangeSpec := { name := "sessionNew", fn := fun _ => fun
  | [d1, d2, d3] => { results := [.lit (.bool false)], args := [d1, d2, d3] }
  | _ => none }
def SessionNewWrongFalsely : Prop := sessionNewRow.holds Try.pinned (OpenSpec.ofChange sessionNewWrong)

/-- 'stanchionlaw17.SessionApart': WHATEVER THE INPUT: true; the input reads as it did. -/
def sessionApartSpec : ChangeSpec := { name := "sessionApart", fn := fun _ => fun
  | [d] => { results := [.lit (.bool true)], args := [d] }
  | _ => none }
def sessionApartRow : OpenClaim := { program := "ytnpmjboofmdflaa", sum := "afc740dab840f86c36840e18bdc1965c8a17e9043e0d55413d4d39f6420c15fc", func := "stanchion/stanchionlaw17.SessionApart", spec := "sessionApart", unfollowed := true, recurses := true, apart := false }
def SessionApartSaid : Prop := sessionApartRow.holds Try.pinned (OpenSpec.ofChange sessionApartSpec)

/-- ITS FALSE NEIGHBOUR: 'it returns false'. Refute it at one input. -/
def sessionApartWrong : ChangeSpec := { name := "sessionApart", fn := fun _ => fun
  | [d] => { results := [.lit (.bool false)], args := [d] }
  | _ => none }
def SessionApartWrongFalsely : Prop := sessionApartRow.holds Try.pinned (OpenSpec.ofChange sessionApartWrong)

/-- 'stanchionlaw17.SessionLease': WHATEVER THE INPUT: true; the input reads as it did. -/
def sessionLeaseSpec : ChangeSpec := { name := "sessionLease", fn := fun _ => fun
  | [d1, d2, d3] => { results := [.lit (.bool true)], args := [d1, d2, d3] }
  | _ => none }
def sessionLeaseRow : OpenClaim := { program := "ytnpmjboofmdflaa", sum := "afc740dab840f86c36840e18bdc1965c8a17e9043e0d55413d4d39f6420c15fc", func := "stanchion/stanchionlaw17.SessionLease", spec := "sessionLease", unfollowed := true, recurses := true, apart := false }
def SessionLeaseSaid : Prop := sessionLeaseRow.holds Try.pinned (OpenSpec.ofChange sessionLeaseSpec)

/-- ITS FALSE NEIGHBOUR: 'it returns false'. Refute it at one input. -/
def sessionLeaseWrong : ChangeSpec := { name := "sessionLease", fn := fun _ => fun
  | [d1, d2, d3] => { results := [.lit (.bool false)], args := [d1, d2, d3] }
  | _ => none }
def SessionLeaseWrongFalsely : Prop := sessionLeaseRow.holds Try.pinned (OpenSpec.ofChange sessionLeaseWrong)

/-- 'stanchionlaw17.SessionActs': WHATEVER THE INPUT: true; the input reads as it did. -/
def sessionActsSpec : ChangeSpec := { name := "sessionActs", fn := fun _ => fun
  | [d] => { results := [.lit (.bool true)], args := [d] }
  | _ => none }
def sessionActsRow : OpenClaim := { program := "ytnpmjboofmdflaa", sum := "afc740dab840f86c36840e18bdc1965c8a17e9043e0d55413d4d39f6420c15fc", func := "stanchion/stanchionlaw17.SessionActs", spec := "sessionActs", unfollowed := true, recurses := true, apart := false }
def SessionActsSaid : Prop := sessionActsRow.holds Try.pinned (OpenSpec.ofChange sessionActsSpec)

/-- ITS FALSE NEIGHBOUR: 'it returns false'. Refute it at one input. -/
def sessionActsWrong : ChangeSpec := { name := "sessionActs", fn := fun _ => fun
  | [d] => { results := [.lit (.bool false)], args := [d] }
  | _ => none }
def SessionActsWrongFalsely : Prop := sessionActsRow.holds Try.pinned (OpenSpec.ofChange sessionActsWrong)

/- THE SECOND FORM. 'bulk': how many values and letters a reading holds, each counted each time it is reached (what is shared counts as often as it is met; a slice's spare places count too). A statement '..UptoSaid' is the law's where the arguments, and the package variables that the reading takes, are together of bulk at most 1048576: NARROWER than '..Said'. Prove '..Said' where nothing that the law and all that it calls make is longer than what came in: it says more and counts as full. Else prove '..UptoSaid'. A law counts once. -/
mutual
def uptoBulk {H : Type} : DataW H → Nat
  | .lit (.string bytes) => bytes.length + 1
  | .lit _ => 1
  | .nil => 1
  | .ptr d => uptoBulk d + 1
  | .slice elems spare => uptoBulkAll elems + uptoBulkAll spare + 1
  | .agg parts => uptoBulkAll parts + 1
  | .iface _ d => uptoBulk d + 1
  | .map entries => uptoBulkEntries entries + 1
  | .held _ => 1
def uptoBulkAll {H : Type} : List (DataW H) → Nat
  | [] => 0
  | d :: r => uptoBulk d + uptoBulkAll r
def uptoBulkEntries {H : Type} : List (Lit × DataW H) → Nat
  | [] => 0
  | x :: r => uptoBulkEntry x + uptoBulkEntries r
def uptoBulkEntry {H : Type} : Lit × DataW H → Nat
  | (.string bytes, d) => bytes.length + uptoBulk d + 1
  | (_, d) => uptoBulk d + 1
 end
def uptoSmall : (H : Type) → List (DataW H) → Bool := fun _ ds => decide (uptoBulkAll ds ≤ 1048576)
def OpenSpec.upto (s : _root_.Go.ChangeSpec) : _root_.Go.OpenSpec := { _root_.Go.OpenSpec.ofChange s with cond := some uptoSmall }

/-- 'stanchionlaw17.SessionOnce', WHERE WHAT IT READS IS OF BULK AT MOST 1048576: true; the input reads as it did. -/
def sessionOnceUptoRow : OpenClaim := { program := "ytnpmjboofmdflaa", sum := "afc740dab840f86c36840e18bdc1965c8a17e9043e0d55413d4d39f6420c15fc", func := "stanchion/stanchionlaw17.SessionOnce", spec := "sessionOnce", unfollowed := true, recurses := true, apart := false, narrowed := true }
def SessionOnceUptoSaid : Prop := sessionOnceUptoRow.holds Try.pinned (OpenSpec.upto sessionOnceSpec)

/-- 'stanchionlaw17.SessionStale', WHERE WHAT IT READS IS OF BULK AT MOST 1048576: true; the input reads as it did. -/
def sessionStaleUptoRow : OpenClaim := { program := "ytnpmjboofmdflaa", sum := "afc740dab840f86c36840e18bdc1965c8a17e9043e0d55413d4d39f6420c15fc", func := "stanchion/stanchionlaw17.SessionStale", spec := "sessionStale", unfollowed := true, recurses := true, apart := false, narrowed := true }
def SessionStaleUptoSaid : Prop := sessionStaleUptoRow.holds Try.pinned (OpenSpec.upto sessionStaleSpec)

/-- 'stanchionlaw17.SessionTurns', WHERE WHAT IT READS IS OF BULK AT MOST 1048576: true; the input reads as it did. -/
def sessionTurnsUptoRow : OpenClaim := { program := "ytnpmjboofmdflaa", sum := "afc740dab840f86c36840e18bdc1965c8a17e9043e0d55413d4d39f6420c15fc", func := "stanchion/stanchionlaw17.SessionTurns", spec := "sessionTurns", unfollowed := true, recurses := true, apart := false, narrowed := true }
def SessionTurnsUptoSaid : Prop := sessionTurnsUptoRow.holds Try.pinned (OpenSpec.upto sessionTurnsSpec)

/-- 'stanchionlaw17.SessionNew', WHERE WHAT IT READS IS OF BULK AT MOST 1048576: true; the input reads as it did. -/
def sessionNewUptoRow : OpenClaim := { program := "ytnpmjboofmdflaa", sum := "afc740dab840f86c36840e18bdc1965c8a17e9043e0d55413d4d39f6420c15fc", func := "stanchion/stanchionlaw17.SessionNew", spec := "sessionNew", unfollowed := true, recurses := true, apart := false, narrowed := true }
def SessionNewUptoSaid : Prop := sessionNewUptoRow.holds Try.pinned (OpenSpec.upto sessionNewSpec)

/-- 'stanchionlaw17.SessionApart', WHERE WHAT IT READS IS OF BULK AT MOST 1048576: true; the input reads as it did. -/
def sessionApartUptoRow : OpenClaim := { program := "ytnpmjboofmdflaa", sum := "afc740dab840f86c36840e18bdc1965c8a17e9043e0d55413d4d39f6420c15fc", func := "stanchion/stanchionlaw17.SessionApart", spec := "sessionApart", unfollowed := true, recurses := true, apart := false, narrowed := true }
def SessionApartUptoSaid : Prop := sessionApartUptoRow.holds Try.pinned (OpenSpec.upto sessionApartSpec)

/-- 'stanchionlaw17.SessionLease', WHERE WHAT IT READS IS OF BULK AT MOST 1048576: true; the input reads as it did. -/
def sessionLeaseUptoRow : OpenClaim := { program := "ytnpmjboofmdflaa", sum := "afc740dab840f86c36840e18bdc1965c8a17e9043e0d55413d4d39f6420c15fc", func := "stanchion/stanchionlaw17.SessionLease", spec := "sessionLease", unfollowed := true, recurses := true, apart := false, narrowed := true }
def SessionLeaseUptoSaid : Prop := sessionLeaseUptoRow.holds Try.pinned (OpenSpec.upto sessionLeaseSpec)

/-- 'stanchionlaw17.SessionActs', WHERE WHAT IT READS IS OF BULK AT MOST 1048576: true; the input reads as it did. -/
def sessionActsUptoRow : OpenClaim := { program := "ytnpmjboofmdflaa", sum := "afc740dab840f86c36840e18bdc1965c8a17e9043e0d55413d4d39f6420c15fc", func := "stanchion/stanchionlaw17.SessionActs", spec := "sessionActs", unfollowed := true, recurses := true, apart := false, narrowed := true }
def SessionActsUptoSaid : Prop := sessionActsUptoRow.holds Try.pinned (OpenSpec.upto sessionActsSpec)

end Rows
end Go.Proofs.Ytnpmjboofmdflaa
