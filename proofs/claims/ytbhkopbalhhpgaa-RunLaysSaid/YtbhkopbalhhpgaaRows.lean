/-
  No cell of these rows narrows 'for every input' (looked for: loops, veiled, ifaces, maps, wideKeys, modest, calm, conditions, laid).
  DERIVED. THE GIVEN ROWS OF THIS SEAT. 7 by the template 'for every input the law returns true; each argument reads behind the call as it read before'; 0 by the template 'total and deterministic' (their statements: YtbhkopbalhhpgaaTotals.lean).
  GIVEN WITH THE SEED: the statements are not yours to turn. If you find one false, say at which input.
  Laid BY PROGRAM, IN A SANDBOX (cutbox-rows.mjs): the forced cells as the released guide's own fill.sh prints them over the translation 79fdfc998b8d5110… (all of the seat's roots in one cut). By AI agents, Wed Nov 11 2026. No macro, syntax, notation, axiom, sorry.
-/
import Derived.Test.YtbhkopbalhhpgaaChecked
import GoSem.Claim
import GoSem.ClaimJoined
import GoSem.ClaimMapViews
import Derived.JoinedTies
import Derived.KernelRfl
namespace Go.Proofs.Ytbhkopbalhhpgaa
/- THE CELL 'sum', in the pinned program and in every row, IS THE sha256 OF THE DUMP (.gsa) THAT YtbhkopbalhhpgaaProg.lean LOADS. Nothing in Lean hashes anything: it is a label: what it is worth is what the hold of that sum in a sandbox is worth. -/
noncomputable def Try.pinned : Pinned := { name := "ytbhkopbalhhpgaa", sum := "79fdfc998b8d51107daf862df5e1bd2820803a414243c7bd2cb21b9a79c35b07", checked := Try.checked }
namespace Rows
def none {H : Type} : Left H := { results := [], args := [] }

/-- 'stanchionlaw06.RunBack': WHATEVER THE INPUT: true; the input reads as it did. -/
def runBackSpec : ChangeSpec := { name := "runBack", fn := fun _ => fun
  | [d1, d2] => { results := [.lit (.bool true)], args := [d1, d2] }
  | _ => none }
def runBackRow : OpenClaim := { program := "ytbhkopbalhhpgaa", sum := "79fdfc998b8d51107daf862df5e1bd2820803a414243c7bd2cb21b9a79c35b07", func := "stanchion/stanchionlaw06.RunBack", spec := "runBack", inPlace := ["internal/abi.NoEscape"], unfollowed := true, recurses := true, apart := false }
def RunBackSaid : Prop := runBackRow.holds Try.pinned (OpenSpec.ofChange runBackSpec)

/-- ITS FALSE NEIGHBOUR: 'it returns false'. Refute it at one input. -/
def runBackWrong : ChangeSpec := { name := "runBack", fn := fun _ => fun
  | [d1, d2] => { results := [.lit (.bool false)], args := [d1, d2] }
  | _ => none }
def RunBackWrongFalsely : Prop := runBackRow.holds Try.pinned (OpenSpec.ofChange runBackWrong)

/-- 'stanchionlaw06.RunWhole': WHATEVER THE INPUT: true; the input reads as it did. -/
def runWholeSpec : ChangeSpec := { name := "runWhole", fn := fun _ => fun
  | [d] => { results := [.lit (.bool true)], args := [d] }
  | _ => none }
def runWholeRow : OpenClaim := { program := "ytbhkopbalhhpgaa", sum := "79fdfc998b8d51107daf862df5e1bd2820803a414243c7bd2cb21b9a79c35b07", func := "stanchion/stanchionlaw06.RunWhole", spec := "runWhole", inPlace := ["internal/abi.NoEscape"], unfollowed := true, recurses := true, apart := false }
def RunWholeSaid : Prop := runWholeRow.holds Try.pinned (OpenSpec.ofChange runWholeSpec)

/-- ITS FALSE NEIGHBOUR: 'it returns false'. Refute it at one input. -/
def runWholeWrong : ChangeSpec := { name := "runWhole", fn := fun _ => fun
  | [d] => { results := [.lit (.bool false)], args := [d] }
  | _ => none }
def RunWholeWrongFalsely : Prop := runWholeRow.holds Try.pinned (OpenSpec.ofChange runWholeWrong)

/-- 'stanchionlaw06.RunLays': WHATEVER THE INPUT: true; the input reads as it did. -/
def runLaysSpec : ChangeSpec := { name := "runLays", fn := fun _ => fun
  | [d1, d2, d3] => { results := [.lit (.bool true)], args := [d1, d2, d3] }
  | _ => none }
def runLaysRow : OpenClaim := { program := "ytbhkopbalhhpgaa", sum := "79fdfc998b8d51107daf862df5e1bd2820803a414243c7bd2cb21b9a79c35b07", func := "stanchion/stanchionlaw06.RunLays", spec := "runLays", inPlace := ["internal/abi.NoEscape"], unfollowed := true, recurses := true, apart := false }
def RunLaysSaid : Prop := runLaysRow.holds Try.pinned (OpenSpec.ofChange runLaysSpec)

/-- ITS FALSE NEIGHBOUR: 'it returns false'. Refute it at one input. -/
def runLaysWrong : ChangeSpec := { name := "runLays", fn := fun _ => fun
  | [d1, d2, d3] => { results := [.lit (.bool false)], args := [d1, d2, d3] }
  | _ => none }
def RunLaysWrongFalsely : Prop := runLaysRow.holds Try.pinned (OpenSpec.ofChange runLaysWrong)

/-- 'stanchionlaw06.RunLoads': WHATEVER THE INPUT: true; the input reads as it did. -/
def runLoadsSpec : ChangeSpec := { name := "runLoads", fn := fun _ => fun
  | [d1, d2, d3] => { results := [.lit (.bool true)], args := [d1, d2, d3] }
  | _ => none }
def runLoadsRow : OpenClaim := { program := "ytbhkopbalhhpgaa", sum := "79fdfc998b8d51107daf862df5e1bd2820803a414243c7bd2cb21b9a79c35b07", func := "stanchion/stanchionlaw06.RunLoads", spec := "runLoads", inPlace := ["internal/abi.NoEscape"], unfollowed := true, recurses := true, apart := false }
def RunLoadsSaid : Prop := runLoadsRow.holds Try.pinned (OpenSpec.ofChange runLoadsSpec)

/-- ITS FALSE NEIGHBOUR: 'it returns false'. Refute it at one input. -/
def runLoadsWrong : ChangeSpec := { name := "runLoads", fn := fun _ => fun
  | [d1, d2, d3] => { results := [.lit (.bool false)], args := [d1, d2, d3] }
  | _ => none }
def RunLoadsWrongFalsely : Prop := runLoadsRow.holds Try.pinned (OpenSpec.ofChange runLoadsWrong)

/-- 'stanchionlaw06.RunNewest': WHATEVER THE INPUT: true; the input reads as it did. -/
def runNewestSpec : ChangeSpec := { name := "runNewest", fn := fun _ => fun
  | [d1, d2] => { results := [.lit (.bool true)], args := [d1, d2] }
  | _ => none }
def runNewestRow : OpenClaim := { program := "ytbhkopbalhhpgaa", sum := "79fdfc998b8d51107daf862df5e1bd2820803a414243c7bd2cb21b9a79c35b07", func := "stanchion/stanchionlaw06.RunNewest", spec := "runNewest", inPlace := ["internal/abi.NoEscape"], unfollowed := true, recurses := true, apart := false }
def RunNewestSaid : Prop := runNewestRow.holds Try.pinned (OpenSpec.ofChange runNewestSpec)

/-- ITS FALSE NEIGHBOUR: 'it returns false'. Refute it at one input. -/
def runNewestWrong : ChangeSpec := { name := "runNewest", fn := fun _ => fun
  | [d1, d2] => { results := [.lit (.bool false)], args := [d1, d2] }
  | _ => none }
def RunNewestWrongFalsely : Prop := runNewestRow.holds Try.pinned (OpenSpec.ofChange runNewestWrong)

/-- 'stanchionlaw06.RunMerges': WHATEVER THE INPUT: true; the input reads as it did. -/
def runMergesSpec : ChangeSpec := { name := "runMerges", fn := fun _ => fun
  | [d1, d2] => { results := [.lit (.bool true)], args := [d1, d2] }
  | _ => none }
def runMergesRow : OpenClaim := { program := "ytbhkopbalhhpgaa", sum := "79fdfc998b8d51107daf862df5e1bd2820803a414243c7bd2cb21b9a79c35b07", func := "stanchion/stanchionlaw06.RunMerges", spec := "runMerges", inPlace := ["internal/abi.NoEscape", "slices.overlaps[stanchion/api.Pair]"], unfollowed := true, recurses := true, apart := false }
def RunMergesSaid : Prop := runMergesRow.holds Try.pinned (OpenSpec.ofChange runMergesSpec)

/-- ITS FALSE NEIGHBOUR: 'it returns false'. Refute it at one input. -/
def runMergesWrong : ChangeSpec := { name := "runMerges", fn := fun _ => fun
  | [d1, d2] => { results := [.lit (.bool false)], args := [d1, d2] }
  | _ => none }
def RunMergesWrongFalsely : Prop := runMergesRow.holds Try.pinned (OpenSpec.ofChange runMergesWrong)

/-- 'stanchionlaw06.RunFolds': WHATEVER THE INPUT: true; the input reads as it did. -/
def runFoldsSpec : ChangeSpec := { name := "runFolds", fn := fun _ => fun
  | [d1, d2] => { results := [.lit (.bool true)], args := [d1, d2] }
  | _ => none }
def runFoldsRow : OpenClaim := { program := "ytbhkopbalhhpgaa", sum := "79fdfc998b8d51107daf862df5e1bd2820803a414243c7bd2cb21b9a79c35b07", func := "stanchion/stanchionlaw06.RunFolds", spec := "runFolds", inPlace := ["internal/abi.NoEscape", "slices.overlaps[stanchion/api.Pair]"], unfollowed := true, recurses := true, apart := false }
def RunFoldsSaid : Prop := runFoldsRow.holds Try.pinned (OpenSpec.ofChange runFoldsSpec)

/-- ITS FALSE NEIGHBOUR: 'it returns false'. Refute it at one input. -/
def runFoldsWrong : ChangeSpec := { name := "runFolds", fn := fun _ => fun
  | [d1, d2] => { results := [.lit (.bool false)], args := [d1, d2] }
  | _ => none }
def RunFoldsWrongFalsely : Prop := runFoldsRow.holds Try.pinned (OpenSpec.ofChange runFoldsWrong)

/- THE SECOND FORM. 'bulk': how many values and letters a reading holds, each counted each time it is reached (what is shared counts as often as it is met; a slice's spare places count too). A statement '..UptoSaid' is the law's where the arguments, and the package variables that the reading takes, are together of bulk at most 1048576: NARROWER than '..Said'. Prove '..Said' where nothing that the law and all that it calls make is longer than what came in: it says more and counts as full. Else prove '..UptoSaid'. A law counts once. -/
mutual
def uptoBulk {H : Type} : DataW H → Nat
  | .lit (.string bytes) => bytes.length + 1
  | .lit _ => 1
  | .nil => 1
  | .ptr d => uptoBulk d + 1
  | .slice elems spare => uptoBulkAll elems + uptoBulkAll spare + 1
  | .agg parts => uptoBulkAll parts + 1
  | .iface _ d => uptoBulk d + 1
  | .map entries => uptoBulkEntries entries + 1
  | .held _ => 1
def uptoBulkAll {H : Type} : List (DataW H) → Nat
  | [] => 0
  | d :: r => uptoBulk d + uptoBulkAll r
def uptoBulkEntries {H : Type} : List (Lit × DataW H) → Nat
  | [] => 0
  | x :: r => uptoBulkEntry x + uptoBulkEntries r
def uptoBulkEntry {H : Type} : Lit × DataW H → Nat
  | (.string bytes, d) => bytes.length + uptoBulk d + 1
  | (_, d) => uptoBulk d + 1
 end
def uptoSmall : (H : Type) → List (DataW H) → Bool := fun _ ds => decide (uptoBulkAll ds ≤ 1048576)
def OpenSpec.upto (s : _root_.Go.ChangeSpec) : _root_.Go.OpenSpec := { _root_.Go.OpenSpec.ofChange s with cond := some uptoSmall }

/-- 'stanchionlaw06.RunBack', WHERE WHAT IT READS IS OF BULK AT MOST 1048576: true; the input reads as it did. -/
def runBackUptoRow : OpenClaim := { program := "ytbhkopbalhhpgaa", sum := "79fdfc998b8d51107daf862df5e1bd2820803a414243c7bd2cb21b9a79c35b07", func := "stanchion/stanchionlaw06.RunBack", spec := "runBack", inPlace := ["internal/abi.NoEscape"], unfollowed := true, recurses := true, apart := false, narrowed := true }
def RunBackUptoSaid : Prop := runBackUptoRow.holds Try.pinned (OpenSpec.upto runBackSpec)

/-- 'stanchionlaw06.RunWhole', WHERE WHAT IT READS IS OF BULK AT MOST 1048576: true; the input reads as it did. -/
def runWholeUptoRow : OpenClaim := { program := "ytbhkopbalhhpgaa", sum := "79fdfc998b8d51107daf862df5e1bd2820803a414243c7bd2cb21b9a79c35b07", func := "stanchion/stanchionlaw06.RunWhole", spec := "runWhole", inPlace := ["internal/abi.NoEscape"], unfollowed := true, recurses := true, apart := false, narrowed := true }
def RunWholeUptoSaid : Prop := runWholeUptoRow.holds Try.pinned (OpenSpec.upto runWholeSpec)

/-- 'stanchionlaw06.RunLays', WHERE WHAT IT READS IS OF BULK AT MOST 1048576: true; the input reads as it did. -/
def runLaysUptoRow : OpenClaim := { program := "ytbhkopbalhhpgaa", sum := "79fdfc998b8d51107daf862df5e1bd2820803a414243c7bd2cb21b9a79c35b07", func := "stanchion/stanchionlaw06.RunLays", spec := "runLays", inPlace := ["internal/abi.NoEscape"], unfollowed := true, recurses := true, apart := false, narrowed := true }
def RunLaysUptoSaid : Prop := runLaysUptoRow.holds Try.pinned (OpenSpec.upto runLaysSpec)

/-- 'stanchionlaw06.RunLoads', WHERE WHAT IT READS IS OF BULK AT MOST 1048576: true; the input reads as it did. -/
def runLoadsUptoRow : OpenClaim := { program := "ytbhkopbalhhpgaa", sum := "79fdfc998b8d51107daf862df5e1bd2820803a414243c7bd2cb21b9a79c35b07", func := "stanchion/stanchionlaw06.RunLoads", spec := "runLoads", inPlace := ["internal/abi.NoEscape"], unfollowed := true, recurses := true, apart := false, narrowed := true }
def RunLoadsUptoSaid : Prop := runLoadsUptoRow.holds Try.pinned (OpenSpec.upto runLoadsSpec)

/-- 'stanchionlaw06.RunNewest', WHERE WHAT IT READS IS OF BULK AT MOST 1048576: true; the input reads as it did. -/
def runNewestUptoRow : OpenClaim := { program := "ytbhkopbalhhpgaa", sum := "79fdfc998b8d51107daf862df5e1bd2820803a414243c7bd2cb21b9a79c35b07", func := "stanchion/stanchionlaw06.RunNewest", spec := "runNewest", inPlace := ["internal/abi.NoEscape"], unfollowed := true, recurses := true, apart := false, narrowed := true }
def RunNewestUptoSaid : Prop := runNewestUptoRow.holds Try.pinned (OpenSpec.upto runNewestSpec)

/-- 'stanchionlaw06.RunMerges', WHERE WHAT IT READS IS OF BULK AT MOST 1048576: true; the input reads as it did. -/
def runMergesUptoRow : OpenClaim := { program := "ytbhkopbalhhpgaa", sum := "79fdfc998b8d51107daf862df5e1bd2820803a414243c7bd2cb21b9a79c35b07", func := "stanchion/stanchionlaw06.RunMerges", spec := "runMerges", inPlace := ["internal/abi.NoEscape", "slices.overlaps[stanchion/api.Pair]"], unfollowed := true, recurses := true, apart := false, narrowed := true }
def RunMergesUptoSaid : Prop := runMergesUptoRow.holds Try.pinned (OpenSpec.upto runMergesSpec)

/-- 'stanchionlaw06.RunFolds', WHERE WHAT IT READS IS OF BULK AT MOST 1048576: true; the input reads as it did. -/
def runFoldsUptoRow : OpenClaim := { program := "ytbhkopbalhhpgaa", sum := "79fdfc998b8d51107daf862df5e1bd2820803a414243c7bd2cb21b9a79c35b07", func := "stanchion/stanchionlaw06.RunFolds", spec := "runFolds", inPlace := ["internal/abi.NoEscape", "slices.overlaps[stanchion/api.Pair]"], unfollowed := true, recurses := true, apart := false, narrowed := true }
def RunFoldsUptoSaid : Prop := runFoldsUptoRow.holds Try.pinned (OpenSpec.upto runFoldsSpec)

end Rows
end Go.Proofs.Ytbhkopbalhhpgaa
