-- Made by a program of this workplace out of the translation (wip/tools in the repo). Not trusted: Lean checks it.
import Derived.Test.YthcdlgphabaidaaPBx0
import Derived.Test.YthcdlgphabaidaaPBx3
namespace Go.Proofs.Ythcdlgphabaidaa.PB
open Go.RowKit Go.Proofs.YthcdlgphabaidaaW.PrintWords Go.Proofs.YthcdlgphabaidaaW.PrintLast Go.Proofs.YthcdlgphabaidaaW.PrintMore
attribute [local go_sem] max2_int min2_int max_two min_two max_three min_three max_four min_four   -- for this text's walks alone
set_option linter.unusedVariables false
set_option linter.unusedSimpArgs false

/-! ### dec_TakeNum (function 55): what it is -/
/-! ### dec_TakeText (function 56): what it is -/
/-! ### stanchionref01_TakeNum (function 41): what it is -/
/-! ### stanchionref01_TakeText (function 42): what it is -/
/-! ### stanchionref07_Take (function 21): what it is -/
/-! ### stanchionref05_Writes (function 43): what it is -/
/-! ### stanchionref07_SameBatch (function 22): what it is -/
/-! ### table_at: function 61 -/
def table_at.f (l0 : List S68) (a1 : ByteArray) : Option Int := some (ixOf (fun x => x.f0.toList == a1.toList) l0)

/-! ### table_Find (function 49): what it is -/
def table_Find.f (l0 : List (S68)) (a1 : ByteArray) : Option (ByteArray × Bool) := (table_at.f l0 a1).bind fun t291 => (if t291 < 0 then (some ((⟨#[]⟩ : ByteArray), false)) else (if 0 ≤ t291 then (if t291 < (l0.length : Int) then (some ((rd_T68 l0 t291).f1, true)) else (none)) else (none)))

/-! ### batch_Decided (function 27): what it is -/
def batch_Decided.f (l0_0 : List (S68)) (l0_1 : List (S68)) (a1 : ByteArray) : Option (ByteArray × Bool) := (table_Find.f l0_1 a1).bind fun bt294 => (some (bt294.1, bt294.2))

/-! ### api_Pair_58 (function 58): what it is -/
def api_Pair_58.f (l0 : List (S68)) : Option ((List (S68))) := (some (([] : List (S68)) : List (S68))).bind fun y296 => (if y296.length + l0.length < 4398046511104 then (some (y296 ++ l0)) else (none))


/-! ### table_Put: function 48 -/
def gtK68 (key : ByteArray) (x : S68) : Bool := !Op.bytesLess x.f0.toList key.toList && !x.f0.toList == key.toList
def eqK68 (key : ByteArray) (x : S68) : Bool := x.f0.toList == key.toList
def putL68 (l : List S68) (key val : ByteArray) : List S68 :=
  if 0 ≤ ixOf (eqK68 key) l then l.set (ixOf (eqK68 key) l).toNat ⟨key, val⟩
  else if ixOf (gtK68 key) l < 0 then l ++ [⟨key, val⟩]
  else l.take (ixOf (gtK68 key) l).toNat ++ ⟨key, val⟩ :: l.drop (ixOf (gtK68 key) l).toNat
def table_Put.f (l0 : List S68) (a1 a2 : ByteArray) : Option (List S68) := (api_Pair_58.f l0).bind fun y => if y.length < 4398046511104 then some (putL68 y a1 a2) else none


/-! ### table_Drop: function 69 -/
def dropL68 (l : List S68) (key : ByteArray) : List S68 := l.filter (fun x => !eqK68 key x)
def table_Drop.f (l0 : List S68) (a1 : ByteArray) : Option (List S68) := (api_Pair_58.f l0).bind fun y => some (dropL68 y a1)

/-! ### table_Apply: function 47 -/
def applyF68 : List S68 → List S54 → Option (List S68)
  | l, [] => some l
  | l, x :: ws => (if x.f2 = true then table_Drop.f l x.f0 else table_Put.f l x.f0 x.f1).bind fun y => applyF68 y ws
def table_Apply.f (l0 : List S68) (l1 : List S54) : Option (List S68) := (api_Pair_58.f l0).bind fun y => applyF68 y l1

/-! ### batch_Do (function 25): what it is -/
def batch_Do.f (k : Nat) (l0_0 : List (S68)) (l0_1 : List (S68)) (a1_0 : Int) (a1_1 : ByteArray) (l1_2 : List (S54)) : Option ((List (S68)) × (List (S68)) × Int) := (batch_May.f k a1_0 a1_1 l1_2).bind fun t305 => (if t305 = true then ((batch_Decided.f l0_0 l0_1 a1_1).bind fun bt306 => (if bt306.2 = true then (some (l0_0, l0_1, 8)) else (if a1_0 = 2 then ((table_Apply.f l0_0 l1_2).bind fun t308 => ((table_Put.f l0_1 a1_1 (⟨#[103]⟩ : ByteArray)).bind fun t311 => (some (t308, t311, 0)))) else ((table_Apply.f l0_0 l1_2).bind fun t314 => ((table_Put.f l0_1 a1_1 (⟨#[99]⟩ : ByteArray)).bind fun t317 => (some (t314, t317, 0))))))) else (some (l0_0, l0_1, 1)))
/-! ### stanchionref05_Find (function 26): what it is -/
def stanchionref05_Find.l0 : Nat → List (S68) → ByteArray → Int → Option (ByteArray × Bool)
  | 0, _, _, _ => none
  | k + 1, x0, x1, x6 => if x6 < (x0.length : Int) then (if 0 ≤ x6 then (if ((rd_T68 x0 x6).f0).toList = x1.toList then (some ((rd_T68 x0 x6).f1, true)) else (stanchionref05_Find.l0 k x0 x1 (wrap64 (x6 + 1)))) else (none)) else (some ((⟨#[]⟩ : ByteArray), false))
def stanchionref05_Find.f (k : Nat) (l0 : List (S68)) (a1 : ByteArray) : Option (ByteArray × Bool) := stanchionref05_Find.l0 k l0 a1 0
/-! ### stanchionlaw07_BatchApart (function 6): what it is -/
/-! ### stanchionref05_Right (function 28): what it is -/
def stanchionref05_Right.l0 : Nat → List (S68) → Int → Option (Bool)
  | 0, _, _ => none
  | k + 1, x0, x3 => if x3 < (x0.length : Int) then (if 0 ≤ (wrap64 (x3 - 1)) then (if (wrap64 (x3 - 1)) < (x0.length : Int) then (if 0 ≤ x3 then ((stanchionref01_Less.f k ((rd_T68 x0 (wrap64 (x3 - 1))).f0) ((rd_T68 x0 x3).f0)).bind fun t345 => (if t345 = true then (stanchionref05_Right.l0 k x0 (wrap64 (x3 + 1))) else (some false))) else (none)) else (none)) else (none)) else (some true)
def stanchionref05_Right.f (k : Nat) (l0 : List (S68)) : Option (Bool) := stanchionref05_Right.l0 k l0 1
/-! ### stanchionlaw07_BatchWrites (function 7): what it is -/
def stanchionlaw07_BatchWrites.f (k : Nat) (l0_0 : List (S68)) (l0_1 : List (S68)) (a1_0 : Int) (a1_1 : ByteArray) (l1_2 : List (S54)) (a2 : Int) : Option (Bool) := (stanchionlaw07_shown.f k).bind fun t348 => ((batch_Do.f k l0_0 l0_1 a1_0 a1_1 l1_2).bind fun bt349 => ((stanchionref05_Right.f k l0_0).bind fun t357 => (if bt349.2.2 = 0 then (if t357 = true then (if a2 < 0 then (some t348) else (if a2 ≥ (l1_2.length : Int) then (some t348) else (if 0 ≤ a2 then (if a2 < (l1_2.length : Int) then ((stanchionref05_Find.f k bt349.1 ((rd_T54 l1_2 a2).f0)).bind fun bt359 => (if t348 = true then (if (bt359.2 == (!((rd_T54 l1_2 a2).f2))) = true then (if bt359.2 = true then (some (bt359.1.toList == ((rd_T54 l1_2 a2).f1).toList)) else (some true)) else (some false)) else (some false))) else (none)) else (none)))) else (some t348)) else (some t348))))
/-! ### stanchionref07_Decided (function 30): what it is -/
/-! ### stanchionref05_Put (function 51): what it is -/
/-! ### stanchionref05_Drop (function 65): what it is -/
/-! ### stanchionref05_Apply (function 50): what it is -/
/-! ### stanchionref07_Do (function 29): what it is -/
end Go.Proofs.Ythcdlgphabaidaa.PB
