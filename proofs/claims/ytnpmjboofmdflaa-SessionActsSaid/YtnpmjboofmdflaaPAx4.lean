-- Made by a program of this workplace out of the translation (wip/tools in the repo). Not trusted: Lean checks it.
import Derived.Test.YtnpmjboofmdflaaPAx0
import Derived.Test.YtnpmjboofmdflaaCb
import Derived.Test.YtnpmjboofmdflaaSq
import Derived.Test.YtnpmjboofmdflaaTq
import Derived.Test.YtnpmjboofmdflaaPAx3
namespace Go.Proofs.Ytnpmjboofmdflaa.PA
open Go.RowKit Go.Proofs.YtnpmjboofmdflaaW.PrintWords Go.Proofs.YtnpmjboofmdflaaW.PrintLast Go.Proofs.YtnpmjboofmdflaaW.PrintMore Go.Proofs.Ytnpmjboofmdflaa
attribute [local go_sem] max2_int min2_int max_two min_two max_three min_three max_four min_four   -- for this text's walks alone
set_option linter.unusedVariables false
set_option linter.unusedSimpArgs false

/-! ### stanchionref15_Pop (function 67): what it is -/
mutual
def stanchionref15_Pop.l0 : Nat → List (S85) → Int → Int → Int → Option ((List (S85)) × Int × Int × Bool)
  | 0, _, _, _, _ => none
  | k + 1, x6, x7, x528000, x528001 => if (wrap64 ((wrap64 (2 * x7)) + 1)) < (x6.length : Int) then (if 0 ≤ (wrap64 ((wrap64 (2 * x7)) + 1)) then (if 0 ≤ x7 then (if x7 < (x6.length : Int) then ((stanchionref15_Less.f ((rd_T85 x6 (wrap64 ((wrap64 (2 * x7)) + 1))).f0) ((rd_T85 x6 (wrap64 ((wrap64 (2 * x7)) + 1))).f1) ((rd_T85 x6 x7).f0) ((rd_T85 x6 x7).f1)).bind fun t543 => (stanchionref15_Pop.j1 k x6 x7 x7 t543 x528000 x528001)) else (none)) else (none)) else (none)) else (stanchionref15_Pop.j1 k x6 x7 x7 false x528000 x528001)
def stanchionref15_Pop.j1 : Nat → List (S85) → Int → Int → Bool → Int → Int → Option ((List (S85)) × Int × Int × Bool)
  | 0, _, _, _, _, _, _ => none
  | k + 1, x6, x7, x8, x56, x528000, x528001 => if x56 = true then (stanchionref15_Pop.j2 k x6 x7 (wrap64 ((wrap64 (2 * x7)) + 1)) x528000 x528001) else (stanchionref15_Pop.j2 k x6 x7 x8 x528000 x528001)
def stanchionref15_Pop.j2 : Nat → List (S85) → Int → Int → Int → Int → Option ((List (S85)) × Int × Int × Bool)
  | 0, _, _, _, _, _ => none
  | k + 1, x6, x7, x8, x528000, x528001 => if (wrap64 ((wrap64 (2 * x7)) + 2)) < (x6.length : Int) then (if 0 ≤ (wrap64 ((wrap64 (2 * x7)) + 2)) then (if 0 ≤ x8 then (if x8 < (x6.length : Int) then ((stanchionref15_Less.f ((rd_T85 x6 (wrap64 ((wrap64 (2 * x7)) + 2))).f0) ((rd_T85 x6 (wrap64 ((wrap64 (2 * x7)) + 2))).f1) ((rd_T85 x6 x8).f0) ((rd_T85 x6 x8).f1)).bind fun t546 => (stanchionref15_Pop.j3 k x6 x7 x8 t546 x528000 x528001)) else (none)) else (none)) else (none)) else (stanchionref15_Pop.j3 k x6 x7 x8 false x528000 x528001)
def stanchionref15_Pop.j3 : Nat → List (S85) → Int → Int → Bool → Int → Int → Option ((List (S85)) × Int × Int × Bool)
  | 0, _, _, _, _, _, _ => none
  | k + 1, x6, x7, x8, x78, x528000, x528001 => if x78 = true then (if (wrap64 ((wrap64 (2 * x7)) + 2)) = x7 then (some (x6, x528000, x528001, true)) else ((stanchionref15_swap.f x6 x7 (wrap64 ((wrap64 (2 * x7)) + 2))).bind fun t547 => (stanchionref15_Pop.l0 k t547 (wrap64 ((wrap64 (2 * x7)) + 2)) x528000 x528001))) else (if x8 = x7 then (some (x6, x528000, x528001, true)) else ((stanchionref15_swap.f x6 x7 x8).bind fun t550 => (stanchionref15_Pop.l0 k t550 x8 x528000 x528001)))
end
def stanchionref15_Pop.f (k : Nat) (l0 : List (S85)) : Option ((List (S85)) × Int × Int × Bool) := if (l0.length : Int) = 0 then (some (l0, 0, 0, false)) else (if 0 < (l0.length : Int) then ((some (([] : List (S85)) : List (S85))).bind fun y528 => (if 0 ≤ (wrap64 ((l0.length : Int) - 1)) then (if (wrap64 ((l0.length : Int) - 1)) ≤ (l0.length : Int) then ((some (l0.take ((wrap64 ((l0.length : Int) - 1)) : Int).toNat : List (S85))).bind fun y531 => (if y528.length + y531.length < 8796093022208 then ((some (y528 ++ y531 : List (S85))).bind fun y536 => (if (y536.length : Int) = 0 then (some (y536, (rd_T85 l0 0).f0, (rd_T85 l0 0).f1, true)) else (if (wrap64 ((l0.length : Int) - 1)) < (l0.length : Int) then (if 0 < (y536.length : Int) then (stanchionref15_Pop.l0 k (y536.set (0 : Int).toNat (⟨(rd_T85 l0 (wrap64 ((l0.length : Int) - 1))).f0, (rd_T85 l0 (wrap64 ((l0.length : Int) - 1))).f1⟩ : S85)) 0 ((rd_T85 l0 0).f0) ((rd_T85 l0 0).f1)) else (none)) else (none)))) else (none))) else (none)) else (none))) else (none))
/-! ### stanchionref15_Due (function 58): what it is -/
def stanchionref15_Due.l0 : Nat → List (S85) → Int → List Int → Option ((List (S85)) × List Int)
  | 0, _, _, _ => none
  | k + 1, x0, x1, x6 => if (x0.length : Int) > 0 then (if 0 < (x0.length : Int) then (if ((rd_T85 x0 0).f0) ≤ x1 then ((stanchionref15_Pop.f k x0).bind fun bt554 => (if x6.length < 17592186044416 then (stanchionref15_Due.l0 k bt554.1 x1 (x6 ++ [bt554.2.2.1])) else (none))) else (some (x0, x6))) else (none)) else (some (x0, x6))
def stanchionref15_Due.f (k : Nat) (l0 : List (S85)) (a1 : Int) : Option ((List (S85)) × List Int) := stanchionref15_Due.l0 k l0 a1 ([] : List Int)
/-! ### stanchionref17_Tick (function 31): what it is -/
mutual
def stanchionref17_Tick.j0 : Nat → Int → List (S42) → List (S85) → Int → Int → Option (Int × (List (S42)) × (List (S85)) × Int × Int × (List (S42)))
  | 0, _, _, _, _, _ => none
  | k + 1, x565000, x565001, x565002, x565003, x565004 => (stanchionref15_Due.f k x565002 x565004).bind fun bt566 => (stanchionref17_Tick.l0 k bt566.2 ([] : List (S42)) 0 x565000 x565001 bt566.1 x565003 x565004)
def stanchionref17_Tick.l0 : Nat → List Int → List (S42) → Int → Int → List (S42) → List (S85) → Int → Int → Option (Int × (List (S42)) × (List (S85)) × Int × Int × (List (S42)))
  | 0, _, _, _, _, _, _, _, _ => none
  | k + 1, x7, x8, x9, x565000, x565001, x565002, x565003, x565004 => if x9 < (x7.length : Int) then (if 0 ≤ x9 then ((stanchionref17_Find.f k x565000 x565001 x565002 x565003 x565004 (rd x7 x9)).bind fun bt573 => (if bt573.2.2.2.2.2.2 = true then (if x8.length < 2513169434916 then ((stanchionref17_less.f k x565000 x565001 x565002 x565003 x565004 (rd x7 x9)).bind fun bt585 => (stanchionref17_Tick.l0 k x7 (x8 ++ [(⟨bt573.1, bt573.2.1, bt573.2.2.1, bt573.2.2.2.1, bt573.2.2.2.2.1, bt573.2.2.2.2.2.1⟩ : S42)]) (wrap64 (x9 + 1)) bt585.1 bt585.2.1 bt585.2.2.1 bt585.2.2.2.1 bt585.2.2.2.2)) else (none)) else (stanchionref17_Tick.l0 k x7 x8 (wrap64 (x9 + 1)) x565000 x565001 x565002 x565003 x565004))) else (none)) else (some (x565000, x565001, x565002, x565003, x565004, x8))
end
def stanchionref17_Tick.f (k : Nat) (a0_0 : Int) (l0_1 : List (S42)) (l0_2 : List (S85)) (a0_3 : Int) (a0_4 : Int) (a1 : Int) : Option (Int × (List (S42)) × (List (S85)) × Int × Int × (List (S42))) := if a1 > a0_4 then (stanchionref17_Tick.j0 k a0_0 l0_1 l0_2 a0_3 a1) else (stanchionref17_Tick.j0 k a0_0 l0_1 l0_2 a0_3 a0_4)
/-! ### session_Of: function 33 -/
def session_Of_ix.f (l0 : List (S42)) (a1 : Int) : Option (Int) := some (ixOf (fun x => (!(a1 == 0)) && (x.f4 == a1)) l0)
def session_Of.f (a0_0 : Int) (l0_1 : List (S42)) (l0_2 : List (S85)) (a0_3 : Int) (a0_4 : Int) (a1 : Int) : Option (Int × Int × Bool × ByteArray × Int × Int × Bool) := (session_Of_ix.f l0_1 a1).bind fun t597 => ((api_Session_42.f l0_1 t597).bind fun bt598 => (some (bt598.1, bt598.2.1, bt598.2.2.1, bt598.2.2.2.1, bt598.2.2.2.2.1, bt598.2.2.2.2.2.1, bt598.2.2.2.2.2.2)))

/-! ### stanchionref17_Of (function 34): what it is -/
mutual
def stanchionref17_Of.l0 : Nat → Int → Int → Int → List (S42) → List (S85) → Int → Int → Option (Int × Int × Bool × ByteArray × Int × Int × Bool)
  | 0, _, _, _, _, _, _, _ => none
  | k + 1, x1, x6, x606000, x606001, x606002, x606003, x606004 => if x6 < (x606001.length : Int) then (stanchionref17_Of.j1 k x1 x6 (x1 != 0) x606000 x606001 x606002 x606003 x606004) else (stanchionref17_Of.j1 k x1 x6 false x606000 x606001 x606002 x606003 x606004)
def stanchionref17_Of.j1 : Nat → Int → Int → Bool → Int → List (S42) → List (S85) → Int → Int → Option (Int × Int × Bool × ByteArray × Int × Int × Bool)
  | 0, _, _, _, _, _, _, _, _ => none
  | k + 1, x1, x6, x15, x606000, x606001, x606002, x606003, x606004 => if x15 = true then (if 0 ≤ x6 then (if x6 < (x606001.length : Int) then (if ((rd_T42 x606001 x6).f4) = x1 then (some ((rd_T42 x606001 x6).f0, (rd_T42 x606001 x6).f1, (rd_T42 x606001 x6).f2, (rd_T42 x606001 x6).f3, (rd_T42 x606001 x6).f4, (rd_T42 x606001 x6).f5, true)) else (stanchionref17_Of.l0 k x1 (wrap64 (x6 + 1)) x606000 x606001 x606002 x606003 x606004)) else (none)) else (none)) else (some (0, 0, false, (⟨#[]⟩ : ByteArray), 0, 0, false))
end
def stanchionref17_Of.f (k : Nat) (a0_0 : Int) (l0_1 : List (S42)) (l0_2 : List (S85)) (a0_3 : Int) (a0_4 : Int) (a1 : Int) : Option (Int × Int × Bool × ByteArray × Int × Int × Bool) := stanchionref17_Of.l0 k a1 0 a0_0 l0_1 l0_2 a0_3 a0_4
/-! ### stanchionref17_New (function 37): what it is -/
def stanchionref17_New.f (a0 : Int) : Option (Int × (List (S42)) × (List (S85)) × Int × Int) := some (a0, ([] : List (S42)), ([] : List (S85)), 1, 0)

/-! ### stanchionlaw17_SessionActs (function 9): what it is -/
mutual
def stanchionlaw17_SessionActs.j0 : Nat → Int → Int → Int → Int → Bool → Bool → Int → List (S42) → List (S85) → Int → Int → Int → List (S42) → List (S85) → Int → Int → Option (Bool)
  | 0, _, _, _, _, _, _, _, _, _, _, _, _, _, _, _, _ => none
  | k + 1, x4, x5, x6, x7, x9, x59, x612000, x612001, x612002, x612003, x612004, x613000, x613001, x613002, x613003, x613004 => if x59 = true then (some x9) else ((session_Open.f k x612000 x612001 x612002 x612003 x612004 x5).bind fun bt615 => ((stanchionref17_Open.f k x612000 x612001 x612002 x612003 x612004 x5).bind fun bt627 => ((session_Renew.f k x612000 x612001 x612002 x612003 x612004 x4).bind fun bt639 => ((stanchionref17_Renew.f k x612000 x612001 x612002 x612003 x612004 x4).bind fun bt650 => ((session_Close.f k x612000 x612001 x612002 x612003 x612004 x4).bind fun bt661 => ((stanchionref17_Close.f k x612000 x612001 x612002 x612003 x612004 x4).bind fun bt672 => ((session_Tick.f k x612000 x612001 x612002 x612003 x612004 x6).bind fun bt683 => ((stanchionref17_Tick.f k x612000 x612001 x612002 x612003 x612004 x6).bind fun bt696 => ((session_Find.f x612000 x612001 x612002 x612003 x612004 x4).bind fun bt709 => ((stanchionref17_Find.f k x612000 x612001 x612002 x612003 x612004 x4).bind fun bt717 => ((session_Of.f x612000 x612001 x612002 x612003 x612004 x5).bind fun bt725 => ((stanchionref17_Of.f k x612000 x612001 x612002 x612003 x612004 x5).bind fun bt733 => ((stanchionref17_Same.f k bt615.1 bt615.2.1 bt615.2.2.1 bt615.2.2.2.1 bt615.2.2.2.2.1 bt627.1 bt627.2.1 bt627.2.2.1 bt627.2.2.2.1 bt627.2.2.2.2.1).bind fun t741 => (if t741 = true then ((stanchionref17_Same.f k bt639.1 bt639.2.1 bt639.2.2.1 bt639.2.2.2.1 bt639.2.2.2.2.1 bt650.1 bt650.2.1 bt650.2.2.1 bt650.2.2.2.1 bt650.2.2.2.2.1).bind fun t742 => (if t742 = true then ((stanchionref17_Same.f k bt661.1 bt661.2.1 bt661.2.2.1 bt661.2.2.2.1 bt661.2.2.2.2.1 bt672.1 bt672.2.1 bt672.2.2.1 bt672.2.2.2.1 bt672.2.2.2.2.1).bind fun t743 => (if t743 = true then ((stanchionref17_Same.f k bt683.1 bt683.2.1 bt683.2.2.1 bt683.2.2.2.1 bt683.2.2.2.2.1 bt696.1 bt696.2.1 bt696.2.2.1 bt696.2.2.2.1 bt696.2.2.2.2.1).bind fun t744 => (stanchionlaw17_SessionActs.j1 k x7 bt615.2.2.2.2.2.1 bt615.2.2.2.2.2.2 bt627.2.2.2.2.2.1 bt627.2.2.2.2.2.2 bt639.2.2.2.2.2 bt650.2.2.2.2.2 bt661.2.2.2.2.2 bt672.2.2.2.2.2 bt683.2.2.2.2.2 bt696.2.2.2.2.2 bt709.2.2.2.2.2.2 bt717.2.2.2.2.2.2 bt725.2.2.2.2.2.2 bt733.2.2.2.2.2.2 t744 x612000 x612001 x612002 x612003 x612004 x613000 x613001 x613002 x613003 x613004 bt709.1 bt709.2.1 bt709.2.2.1 bt709.2.2.2.1 bt709.2.2.2.2.1 bt709.2.2.2.2.2.1 bt717.1 bt717.2.1 bt717.2.2.1 bt717.2.2.2.1 bt717.2.2.2.2.1 bt717.2.2.2.2.2.1 bt725.1 bt725.2.1 bt725.2.2.1 bt725.2.2.2.1 bt725.2.2.2.2.1 bt725.2.2.2.2.2.1 bt733.1 bt733.2.1 bt733.2.2.1 bt733.2.2.2.1 bt733.2.2.2.2.1 bt733.2.2.2.2.2.1)) else (stanchionlaw17_SessionActs.j1 k x7 bt615.2.2.2.2.2.1 bt615.2.2.2.2.2.2 bt627.2.2.2.2.2.1 bt627.2.2.2.2.2.2 bt639.2.2.2.2.2 bt650.2.2.2.2.2 bt661.2.2.2.2.2 bt672.2.2.2.2.2 bt683.2.2.2.2.2 bt696.2.2.2.2.2 bt709.2.2.2.2.2.2 bt717.2.2.2.2.2.2 bt725.2.2.2.2.2.2 bt733.2.2.2.2.2.2 false x612000 x612001 x612002 x612003 x612004 x613000 x613001 x613002 x613003 x613004 bt709.1 bt709.2.1 bt709.2.2.1 bt709.2.2.2.1 bt709.2.2.2.2.1 bt709.2.2.2.2.2.1 bt717.1 bt717.2.1 bt717.2.2.1 bt717.2.2.2.1 bt717.2.2.2.2.1 bt717.2.2.2.2.2.1 bt725.1 bt725.2.1 bt725.2.2.1 bt725.2.2.2.1 bt725.2.2.2.2.1 bt725.2.2.2.2.2.1 bt733.1 bt733.2.1 bt733.2.2.1 bt733.2.2.2.1 bt733.2.2.2.2.1 bt733.2.2.2.2.2.1))) else (stanchionlaw17_SessionActs.j1 k x7 bt615.2.2.2.2.2.1 bt615.2.2.2.2.2.2 bt627.2.2.2.2.2.1 bt627.2.2.2.2.2.2 bt639.2.2.2.2.2 bt650.2.2.2.2.2 bt661.2.2.2.2.2 bt672.2.2.2.2.2 bt683.2.2.2.2.2 bt696.2.2.2.2.2 bt709.2.2.2.2.2.2 bt717.2.2.2.2.2.2 bt725.2.2.2.2.2.2 bt733.2.2.2.2.2.2 false x612000 x612001 x612002 x612003 x612004 x613000 x613001 x613002 x613003 x613004 bt709.1 bt709.2.1 bt709.2.2.1 bt709.2.2.2.1 bt709.2.2.2.2.1 bt709.2.2.2.2.2.1 bt717.1 bt717.2.1 bt717.2.2.1 bt717.2.2.2.1 bt717.2.2.2.2.1 bt717.2.2.2.2.2.1 bt725.1 bt725.2.1 bt725.2.2.1 bt725.2.2.2.1 bt725.2.2.2.2.1 bt725.2.2.2.2.2.1 bt733.1 bt733.2.1 bt733.2.2.1 bt733.2.2.2.1 bt733.2.2.2.2.1 bt733.2.2.2.2.2.1))) else (stanchionlaw17_SessionActs.j1 k x7 bt615.2.2.2.2.2.1 bt615.2.2.2.2.2.2 bt627.2.2.2.2.2.1 bt627.2.2.2.2.2.2 bt639.2.2.2.2.2 bt650.2.2.2.2.2 bt661.2.2.2.2.2 bt672.2.2.2.2.2 bt683.2.2.2.2.2 bt696.2.2.2.2.2 bt709.2.2.2.2.2.2 bt717.2.2.2.2.2.2 bt725.2.2.2.2.2.2 bt733.2.2.2.2.2.2 false x612000 x612001 x612002 x612003 x612004 x613000 x613001 x613002 x613003 x613004 bt709.1 bt709.2.1 bt709.2.2.1 bt709.2.2.2.1 bt709.2.2.2.2.1 bt709.2.2.2.2.2.1 bt717.1 bt717.2.1 bt717.2.2.1 bt717.2.2.2.1 bt717.2.2.2.2.1 bt717.2.2.2.2.2.1 bt725.1 bt725.2.1 bt725.2.2.1 bt725.2.2.2.1 bt725.2.2.2.2.1 bt725.2.2.2.2.2.1 bt733.1 bt733.2.1 bt733.2.2.1 bt733.2.2.2.1 bt733.2.2.2.2.1 bt733.2.2.2.2.2.1)))))))))))))))
def stanchionlaw17_SessionActs.j1 : Nat → Int → Int → Int → Int → Int → Int → Int → Int → Int → List (S42) → List (S42) → Bool → Bool → Bool → Bool → Bool → Int → List (S42) → List (S85) → Int → Int → Int → List (S42) → List (S85) → Int → Int → Int → Int → Bool → ByteArray → Int → Int → Int → Int → Bool → ByteArray → Int → Int → Int → Int → Bool → ByteArray → Int → Int → Int → Int → Bool → ByteArray → Int → Int → Option (Bool)
  | 0, _, _, _, _, _, _, _, _, _, _, _, _, _, _, _, _, _, _, _, _, _, _, _, _, _, _, _, _, _, _, _, _, _, _, _, _, _, _, _, _, _, _, _, _, _, _, _, _, _, _ => none
  | k + 1, x7, x12, x13, x15, x16, x18, x20, x22, x24, x26, x28, x30, x32, x34, x36, x37, x612000, x612001, x612002, x612003, x612004, x613000, x613001, x613002, x613003, x613004, x717000, x717001, x717002, x717003, x717004, x717005, x725000, x725001, x725002, x725003, x725004, x725005, x733000, x733001, x733002, x733003, x733004, x733005, x741000, x741001, x741002, x741003, x741004, x741005 => if (x717000 == x725000 && (x717001 == x725001 && (x717002 == x725002 && (x717003.toList == x725003.toList && (x717004 == x725004 && (x717005 == x725005)))))) = true then (if (x30 == x32) = true then (if (x733000 == x741000 && (x733001 == x741001 && (x733002 == x741002 && (x733003.toList == x741003.toList && (x733004 == x741004 && (x733005 == x741005)))))) = true then (stanchionlaw17_SessionActs.j2 k x7 x12 x13 x15 x16 x18 x20 x22 x24 x26 x28 x37 (x34 == x36) x612000 x612001 x612002 x612003 x612004 x613000 x613001 x613002 x613003 x613004) else (stanchionlaw17_SessionActs.j2 k x7 x12 x13 x15 x16 x18 x20 x22 x24 x26 x28 x37 false x612000 x612001 x612002 x612003 x612004 x613000 x613001 x613002 x613003 x613004)) else (stanchionlaw17_SessionActs.j2 k x7 x12 x13 x15 x16 x18 x20 x22 x24 x26 x28 x37 false x612000 x612001 x612002 x612003 x612004 x613000 x613001 x613002 x613003 x613004)) else (stanchionlaw17_SessionActs.j2 k x7 x12 x13 x15 x16 x18 x20 x22 x24 x26 x28 x37 false x612000 x612001 x612002 x612003 x612004 x613000 x613001 x613002 x613003 x613004)
def stanchionlaw17_SessionActs.j2 : Nat → Int → Int → Int → Int → Int → Int → Int → Int → Int → List (S42) → List (S42) → Bool → Bool → Int → List (S42) → List (S85) → Int → Int → Int → List (S42) → List (S85) → Int → Int → Option (Bool)
  | 0, _, _, _, _, _, _, _, _, _, _, _, _, _, _, _, _, _, _, _, _, _, _, _ => none
  | k + 1, x7, x12, x13, x15, x16, x18, x20, x22, x24, x26, x28, x37, x38, x612000, x612001, x612002, x612003, x612004, x613000, x613001, x613002, x613003, x613004 => if x37 = true then (if x12 = x15 then (if x13 = x16 then (if x18 = x20 then (if x22 = x24 then ((stanchionref17_Sessions.f k x26 x28).bind fun t745 => (if t745 = true then (if x38 = true then ((session_Same.f k x612000 x612001 x612002 x612003 x612004 x613000 x613001 x613002 x613003 x613004).bind fun t746 => ((stanchionref17_Same.f k x612000 x612001 x612002 x612003 x612004 x613000 x613001 x613002 x613003 x613004).bind fun t747 => (if (t746 == t747) = true then ((session_Same.f k x612000 x612001 x612002 x612003 x612004 x612000 x612001 x612002 x612003 x612004).bind fun t748 => (if t748 = true then ((session_New.f x7).bind fun bt749 => ((stanchionref17_New.f x7).bind fun bt758 => ((stanchionref17_Same.f k bt749.1 bt749.2.1 bt749.2.2.1 bt749.2.2.2.1 bt749.2.2.2.2 bt758.1 bt758.2.1 bt758.2.2.1 bt758.2.2.2.1 bt758.2.2.2.2).bind fun t767 => (some t767)))) else (some false))) else (some false)))) else (some false)) else (some false))) else (some false)) else (some false)) else (some false)) else (some false)) else (some false)
end
def stanchionlaw17_SessionActs.f (k : Nat) (a0_0 : Int) (l0_1 : List (S42)) (l0_2 : List (S85)) (a0_3 : Int) (a0_4 : Int) (a0_5 : Int) (a0_6 : Int) (a0_7 : Int) (a0_8 : Int) (a0_9 : Int) (l0_10 : List (S42)) (l0_11 : List (S85)) (a0_12 : Int) (a0_13 : Int) : Option (Bool) := (stanchionlaw17_shown.f k).bind fun t613 => ((stanchionlaw17_few.f a0_0 l0_1 l0_2 a0_3 a0_4).bind fun t614 => (if t613 = true then (stanchionlaw17_SessionActs.j0 k a0_5 a0_6 a0_7 a0_8 t613 (!t614) a0_0 l0_1 l0_2 a0_3 a0_4 a0_9 l0_10 l0_11 a0_12 a0_13) else (stanchionlaw17_SessionActs.j0 k a0_5 a0_6 a0_7 a0_8 t613 true a0_0 l0_1 l0_2 a0_3 a0_4 a0_9 l0_10 l0_11 a0_12 a0_13)))
/-! ### api_Session_42: function 42 -/
set_option maxHeartbeats 8000000 in
set_option maxRecDepth 100000 in
theorem api_Session_42.calls (A0 : Option Addr) (c0 : Nat) (l0 : List (S42)) (a1 : Int) (r1 : Int) (r2 : Int) (r3 : Bool) (r4 : ByteArray) (r5 : Int) (r6 : Int) (r7 : Bool) (w : World) (b3 : Kd.C k42 w A0 l0.length l0) (b4 : l0.length ≤ c0) (h : api_Session_42.f l0 a1 = some (r1, r2, r3, r4, r5, r6, r7)) :
  Calls Try.prog 42 #[.slice A0 l0.length c0, .int .i64 a1] w fun e w' => e = .returned (.tuple #[.agg #[.int .i64 r1, .int .i64 r2, .bool r3, .string r4, .int .i64 r5, .int .i64 r6], .bool r7]) ∧ Below w.heap.size w w' := by
 have b9 := Try.underlying42
 have cA := ak b3
 have cE := ak b4
 clear b3 b4
 have HB := ak (Below.refl w.heap.size w)
 have H : (if a1 < 0 then (some (0, 0, false, (⟨#[]⟩ : ByteArray), 0, 0, false)) else (if 0 ≤ a1 then (if a1 < (l0.length : Int) then (some ((rd_T42 l0 a1).f0, (rd_T42 l0 a1).f1, (rd_T42 l0 a1).f2, (rd_T42 l0 a1).f3, (rd_T42 l0 a1).f4, (rd_T42 l0 a1).f5, true)) else (none)) else (none))) = some (r1, r2, r3, r4, r5, r6, r7) := h
 clear h
 by_cases c3 : a1 < 0
 ·rw [if_pos c3] at H
  have bD : decide (a1 < 0) = true := decide_eq_true c3
  clear c3
  simp only [Option.some.injEq, Prod.mk.injEq] at H
  obtain ⟨rfl, rfl, rfl, rfl, rfl, rfl, rfl⟩ := H
  go_enter Try.func42, Try.ntmps42
  go_wp2_with (first | ((with_reducible refine gate_dst (N := 4) rfl ?_); refine bv 4 42 #[.int .i64 0, .int .i64 0, .bool false, .string (⟨#[]⟩ : ByteArray), .int .i64 0, .int .i64 0] ?_; intro aK hg w4 hbox hb; obtain ⟨n_, aB⟩ := Cb.bx (pB HB.out) hg hb; have aP := aB; have aA := ak (hbox); replace HB := n_; clear n_; clear hb hbox hg) | ((with_reducible refine gate_dst (N := 6) rfl ?_); refine bv 6 42 #[.int .i64 0, .int .i64 0, .bool false, .string (⟨#[]⟩ : ByteArray), .int .i64 0, .int .i64 0] ?_; intro b5 hg w5 hbox hb; obtain ⟨n_, aL⟩ := Cb.bx (ua aB.out HB.out) hg hb; have b6 := aL; obtain ⟨aI, aJ⟩ := Cb.nb hg aA.out; have aM := ak (hbox); replace aA := bb aA hb; replace HB := n_; clear n_; clear hb hbox hg; have cB := aJ.out; have cC := aI.out; obtain ⟨bE, bF, bG, bH, bI, bJ⟩ := Cb.c6 aM.out; obtain ⟨bK, bL, bM, bN, bO, bP⟩ := Cb.f6 aM.out; obtain ⟨bQ, bR, bS, bT, bU, bV⟩ := Cb.c6 aA.out; obtain ⟨bW, bX, bY, bZ, b0, b1⟩ := Cb.f6 aA.out))
  refine bodyPost_ret (results_ct rfl _ _ aK 42 #[.int .i64 0, .int .i64 0, .bool false, .string (⟨#[]⟩ : ByteArray), .int .i64 0, .int .i64 0] (0, 0) _ rfl (by exact pq (blk_put (blk_put (blk_put (blk_put (blk_put (blk_put (pk aA.out) 0 _ rfl) 1 _ rfl) 2 _ rfl) 3 _ rfl) 4 _ rfl) 5 _ rfl)) Try.underlying42 rfl (by kernel_rfl)) rfl ?_
  exact ⟨by first | rfl | (simp [errW_none, errW_some] <;> rfl) | (simp [*, errW_none, errW_some] <;> rfl), ub aB.out aL.out HB.out⟩
 ·rw [if_neg c3] at H
  have bD : decide (a1 < 0) = false := decide_eq_false c3
  clear c3
  have c9 : 0 ≤ a1 := Decidable.byContradiction fun q => by rw [if_neg q] at H; exact absurd H (by simp)
  rw [if_pos c9] at H
  have cD : decide (0 ≤ a1) = true := decide_eq_true c9
  clear c9
  have aQ : a1 < (l0.length : Int) := Decidable.byContradiction fun q => by rw [if_neg q] at H; exact absurd H (by simp)
  rw [if_pos aQ] at H
  have b7 : decide (a1 < (l0.length : Int)) = true := decide_eq_true aQ
  clear aQ
  simp only [Option.some.injEq, Prod.mk.injEq] at H
  obtain ⟨rfl, rfl, rfl, rfl, rfl, rfl, rfl⟩ := H
  go_enter Try.func42, Try.ntmps42
  go_wp2_with (first | ((with_reducible refine gate_dst (N := 4) rfl ?_); refine bv 4 42 #[.int .i64 0, .int .i64 0, .bool false, .string (⟨#[]⟩ : ByteArray), .int .i64 0, .int .i64 0] ?_; intro aK hg cF hbox hb; obtain ⟨n_, aB⟩ := Cb.bx (pB HB.out) hg hb; have aP := aB; have aA := ak (hbox); replace HB := n_; clear n_; clear hb hbox hg; have aN : 0 ≤ (a1 : Int) := od; have aO : a1 < (l0.length : Int) := od; obtain ⟨b8, b2, aC, aD, aE, aF, aG, aH⟩ := at_T42 cA.out a1 aN aO; cases b2; replace aC := (HB.out.cell (World.block_lt_of_cell? w _ aC)).trans aC; replace aD := (HB.out.cell (World.block_lt_of_cell? w _ aD)).trans aD; replace aE := (HB.out.cell (World.block_lt_of_cell? w _ aE)).trans aE; replace aF := (HB.out.cell (World.block_lt_of_cell? w _ aF)).trans aF; replace aG := (HB.out.cell (World.block_lt_of_cell? w _ aG)).trans aG; replace aH := (HB.out.cell (World.block_lt_of_cell? w _ aH)).trans aH; replace aN := eq_true aN; replace aO := eq_true aO; obtain ⟨aR, aS, aT, aU, aV, aW⟩ := Cb.c6 aA.out; obtain ⟨aX, aY, aZ, bA, bB, bC⟩ := Cb.f6 aA.out))
  refine bodyPost_ret (results_ct rfl _ _ aK 42 #[.int .i64 ((rd_T42 l0 a1).f0), .int .i64 ((rd_T42 l0 a1).f1), .bool ((rd_T42 l0 a1).f2), .string ((rd_T42 l0 a1).f3), .int .i64 ((rd_T42 l0 a1).f4), .int .i64 ((rd_T42 l0 a1).f5)] (0, 0) _ rfl (by exact pq (blk_put (blk_put (blk_put (blk_put (blk_put (blk_put (pk aA.out) 0 _ rfl) 1 _ rfl) 2 _ rfl) 3 _ rfl) 4 _ rfl) 5 _ rfl)) Try.underlying42 rfl (by kernel_rfl)) rfl ?_
  exact ⟨by first | rfl | (simp [errW_none, errW_some] <;> rfl) | (simp [*, errW_none, errW_some] <;> rfl), ua aB.out HB.out⟩

open Go.Proofs.Ytnpmjboofmdflaa.Cp
/-! ### api_Session_59: function 59 -/
set_option maxHeartbeats 8000000 in
set_option maxRecDepth 100000 in
theorem api_Session_59.calls (p : S42 → Bool) (g : Nat) (lb : Array Value) (eg : ∀ args w, (callFunc g args).run Try.prog w = .ok (.enter g args) w) (A0 : Option Addr) (c0 : Nat) (l0 : List (S42)) (w : World) (hr0 : Kd.C k42 w A0 l0.length l0)
  (hp : ∀ (W : World) (x : S42), Below w.heap.size w W → Calls Try.prog g (#[.agg #[.int .i64 x.f0, .int .i64 x.f1, .bool x.f2, .string x.f3, .int .i64 x.f4, .int .i64 x.f5]] ++ lb) W fun e w' => e = .returned (.bool (p x)) ∧ Below W.heap.size W w') :
  Calls Try.prog 59 #[.slice A0 l0.length c0, .func (.func g) #[] lb] w fun e w' => e = .returned (.int .i64 (ixOf p l0)) ∧ Below w.heap.size w w' := by
 have hu42 := Try.underlying42
 have HR := ak hr0
 have HP := ak hp
 have hmx := hr0.2.1
 clear hr0 hp
 go_enter Try.func59, Try.ntmps59
 go_wp2
 go_loopg [5, 8] l0.length (fun gg _ s8 wr => ∃ kk : Nat, kk ≤ l0.length ∧ l0.length - kk ≤ gg ∧ s8 = .int .i64 kk ∧ Aside0 (Below w.heap.size w wr) ∧ Aside0 (∀ j, j < kk → p (l0.getD j z42) = false))
 case atStart => exact ⟨0, Nat.zero_le _, by omega, rfl, ⟨Below.refl _ w⟩, ⟨fun j hj => absurd hj (Nat.not_lt_zero _)⟩⟩
 case round =>
  obtain ⟨kk, hkk, hg, rfl, HB, A⟩ := hrel
  by_cases hlt : kk < l0.length
  ·have hltz : (kk : Int) < (l0.length : Int) := by omega
   obtain ⟨ad, e, hx0, hx1, hx2, hx3, hx4, hx5⟩ := at_T42 (Kd.C_below HR.out HB.out) (kk : Int) (by omega) hltz
   cases e
   simp only [Int.toNat_natCast] at hx0 hx1 hx2 hx3 hx4 hx5
   have hcall := HP.out wr (l0.getD kk z42) HB.out
   have e0 : rd_T42 l0 (kk : Int) = l0.getD kk z42 := by simp [rd_T42]
   rw [e0] at hx0 hx1 hx2 hx3 hx4 hx5
   clear e0
   obtain ⟨y, hy⟩ : ∃ y, l0.getD kk z42 = y := ⟨_, rfl⟩
   rw [hy] at hx0 hx1 hx2 hx3 hx4 hx5 hcall
   have Y := ak hy
   clear hy
   obtain ⟨q, hq⟩ : ∃ q, p y = q := ⟨_, rfl⟩
   rw [hq] at hcall
   have Q := ak hq
   clear hq
   cases q with
   | true =>
    go_wp2_with (go_at_fn g; refine hcall.mono ?_; rintro e w' ⟨rfl, hb'⟩)
    go_ret
    exact ⟨by rw [ixOf_hit p l0 z42 kk hlt (by rw [Y.out]; exact Q.out) A.out]; rfl, below_step HB.out hb'⟩
   | false =>
    go_wp2_with (go_at_fn g; refine hcall.mono ?_; rintro e w' ⟨rfl, hb'⟩)
    go_roundg (l0.length - (kk + 1))
    case measure => omega
    case rel =>
     refine ⟨kk + 1, by omega, by omega, by go_num, ⟨below_step HB.out hb'⟩, ⟨fun j hj => ?_⟩⟩
     by_cases e : j = kk
     ·subst e; rw [Y.out]; exact Q.out
     ·exact A.out j (by omega)
  ·have hltz : decide ((kk : Int) < (l0.length : Int)) = false := decide_eq_false (by omega)
   have hltn : decide (kk < l0.length) = false := decide_eq_false (by omega)
   have E := ak (show kk = l0.length by omega)
   go_wp2
   go_ret
   exact ⟨by rw [ixOf_miss p l0 z42 (fun j hj => A.out j (by have := E.out; omega))]; rfl, HB.out⟩

/-! ### session_at: function 43 -/
theorem enters62 : ∀ args w, (callFunc 62 args).run Try.prog w = .ok (.enter 62 args) w := enters_of Try.func62 (by kernel_rfl) rfl
set_option maxHeartbeats 8000000 in
theorem session_at_ix_1.calls (x : S42) (a1 : Int) (B : Nat) (W : World) (hc : W.cell? ⟨B, 0, none⟩ = some (.int .i64 a1)) :
  Calls Try.prog 62 #[.agg #[.int .i64 x.f0, .int .i64 x.f1, .bool x.f2, .string x.f3, .int .i64 x.f4, .int .i64 x.f5], .pointer (some ⟨B, 0, none⟩)] W fun e w' => e = .returned (.bool (x.f0 == a1)) ∧ Below W.heap.size W w' := by
 have hu42 := Try.underlying42
 have hB := World.block_lt_of_cell? W _ hc
 go_enter Try.func62, Try.ntmps62
 go_wp2
 go_ret
 exact ⟨rfl, (Below.refl _ _).alloc (Nat.le_refl _) _⟩
set_option maxHeartbeats 8000000 in
theorem session_at_ix.calls {B : Nat} (A0 : Option Addr) (c0 : Nat) (l0 : List (S42)) (a1 : Int) (r : Int) (w : World) (hB : w.cell? ⟨B, 0, none⟩ = some (.int .i64 a1)) (hr0 : Kd.C k42 w A0 l0.length l0) (hc0 : l0.length ≤ c0) (h : session_at_ix.f l0 a1 = some r) :
  Calls Try.prog 59 #[.slice A0 l0.length c0, .func (.func 62) #[] #[.pointer (some ⟨B, 0, none⟩)]] w fun e w' => e = .returned (.int .i64 r) ∧ Below w.heap.size w w' := by
 obtain rfl := Option.some.inj h
 exact api_Session_59.calls (fun x => x.f0 == a1) 62 #[.pointer (some ⟨B, 0, none⟩)] enters62 A0 c0 l0 w hr0 (fun W x hb => session_at_ix_1.calls x a1 B W ((hb.cell (World.block_lt_of_cell? w _ hB)).trans hB))
set_option maxHeartbeats 8000000 in
set_option maxRecDepth 100000 in
theorem session_at.calls (aQ : Int) (aI : Option Addr) (aJ : Nat) (aC : List (S42)) (aR : Option Addr) (aS : Nat) (aE : List (S85)) (aT : Int) (aU : Int) (a1 : Int) (r : Int) (w : World) (aL : Kd.C k42 w aI aC.length aC) (aM : aC.length ≤ aJ) (aN : Kd.C k85 w aR aE.length aE) (aO : aE.length ≤ aS) (h : session_at.f aQ aC aE aT aU a1 = some r) :
  Calls Try.prog 43 #[.agg #[.int .i64 aQ, .slice aI aC.length aJ, .slice aR aE.length aS, .int .i64 aT, .int .u64 aU], .int .i64 a1] w fun e w' => e = .returned (.int .i64 r) ∧ Below w.heap.size w w' := by
 have bP := Try.underlying26
 have aV := ak aL
 have aW := ak aM
 clear aL aM
 have bJ := ak aN
 have bK := ak aO
 clear aN aO
 have HB := ak (Below.refl w.heap.size w)
 have H : ((session_at_ix.f aC a1).bind fun aK => (some aK)) = some r := h
 clear h
 replace H := Option.bind_eq_some_iff.mp H
 obtain ⟨aK, bL, H⟩ := H
 try dsimp only at H
 have A3 := ak bL
 clear bL
 obtain rfl := Option.some.inj H
 go_enter Try.func43, Try.ntmps43
 go_wp2_with (first | ((with_reducible refine gate_dst (N := 2) rfl ?_); refine bv 2 26 #[.int .i64 aQ, .slice aI aC.length aJ, .slice aR aE.length aS, .int .i64 aT, .int .u64 aU] ?_; intro bM hg w4 hbox hb; obtain ⟨n_, aD⟩ := Cb.bx (pB HB.out) hg hb; have bN := aD; have aA := ak (hbox); replace HB := n_; clear n_; clear hb hbox hg) | ((with_reducible refine gate_dst (N := 3) rfl ?_); refine bv 3 3 #[.int .i64 a1] ?_; intro aP hg w5 hbox hb; obtain ⟨n_, aH⟩ := Cb.bx (ua aD.out HB.out) hg hb; have bO := aH; obtain ⟨aF, aG⟩ := Cb.nb hg aA.out; have aB := ak (hbox); replace aA := bb aA hb; replace HB := n_; clear n_; clear hb hbox hg; have bQ := aF.out; have bR := aG.out; obtain ⟨aX, aY, aZ, bA, bB⟩ := Cb.c5 aA.out; obtain ⟨bC, bD, bE, bF, bG⟩ := Cb.f5 aA.out; have bH : w5.cell? ⟨aP, 0, none⟩ = some (.int .i64 a1) := (blk_cell aB.out 0).trans rfl; have bI := blk_frozen aB.out 0) | ((with_reducible refine gate_callee (f := 59) rfl ?_); refine goesL_ (some 8) rfl rfl Try.func59 (by kernel_rfl) rfl #[.slice aI aC.length aJ, .func (.func 62) #[] #[.pointer (some ⟨aP, 0, none⟩)]] rfl mp ?_; (with_reducible refine (session_at_ix.calls _ _ aC a1 aK _ ?sideB ?side1 ?side2 A3.out).mono ?_); (case sideB => first | (go_simp; done) | (go_simp; rfl) | exact (blk_cell aB.out 0).trans rfl | exact aB.out | (exact pk aB.out)); (case side1 => exact pc (Kd.C_below aV.out HB.out)); (case side2 => exact aW.out); rintro e w9 ⟨rfl, hb⟩; refine ⟨_, rfl, ?_⟩; replace aA := bb aA hb; replace aB := bb aB hb; replace HB := ak (below_step (ub aD.out aH.out HB.out) hb); (try clear hb); (try clear hb2); (try clear hk); (try clear hi)))
 go_ret
 exact ⟨by first | rfl | (simp [errW_none, errW_some] <;> rfl) | (simp [*, errW_none, errW_some] <;> rfl), ub aD.out aH.out HB.out⟩

/-! ### session_Find: function 14 -/
def session_Find.T1 : Bool × List (List Nat × List Nat) := (true, [([], []), ([0], [0]), ([], []), ([], []), ([2, 3], [2, 3]), ([1, 4, 4], [1, 4]), ([5], [5]), ([5], [5]), ([6, 5, 0, 1, 2, 3, 4, 5, 6, 7], [6]), ([7, 8, 0, 1, 2, 3, 4, 5, 6, 7, 8], [7])])
def session_Find.B1 : List Nat := [0, 1, 0, 0, 12, 31, 63, 63, 255, 511]
theorem session_Find.tab1 : rtab .any (opsOf Try.f14 1) = session_Find.T1 := by kernel_rfl
theorem session_Find.bits1 : waitsOk session_Find.T1.2 session_Find.B1 = true := by kernel_rfl
set_option maxHeartbeats 8000000 in
set_option maxRecDepth 100000 in
theorem session_Find.calls (aK : Int) (aP : Option Addr) (aQ : Nat) (aF : List (S42)) (aT : Option Addr) (aU : Nat) (aG : List (S85)) (aL : Int) (aM : Int) (a1 : Int) (r1 : Int) (r2 : Int) (r3 : Bool) (r4 : ByteArray) (r5 : Int) (r6 : Int) (r7 : Bool) (w : World) (aX : Kd.C k42 w aP aF.length aF) (aY : aF.length ≤ aQ) (aZ : Kd.C k85 w aT aG.length aG) (bA : aG.length ≤ aU) (h : session_Find.f aK aF aG aL aM a1 = some (r1, r2, r3, r4, r5, r6, r7)) :
  Calls Try.prog 14 #[.agg #[.int .i64 aK, .slice aP aF.length aQ, .slice aT aG.length aU, .int .i64 aL, .int .u64 aM], .int .i64 a1] w fun e w' => e = .returned (.tuple #[.agg #[.int .i64 r1, .int .i64 r2, .bool r3, .string r4, .int .i64 r5, .int .i64 r6], .bool r7]) ∧ Below w.heap.size w w' := by
 have b3 := Try.underlying26
 have b4 := Try.underlying42
 have bB := ak aX
 have bC := ak aY
 clear aX aY
 have bE := ak aZ
 have bF := ak bA
 clear aZ bA
 have HB := ak (Below.refl w.heap.size w)
 have H : ((session_at.f aK aF aG aL aM a1).bind fun aR => ((api_Session_42.f aF aR).bind fun bt110 => (some (bt110.1, bt110.2.1, bt110.2.2.1, bt110.2.2.2.1, bt110.2.2.2.2.1, bt110.2.2.2.2.2.1, bt110.2.2.2.2.2.2)))) = some (r1, r2, r3, r4, r5, r6, r7) := h
 clear h
 replace H := Option.bind_eq_some_iff.mp H
 obtain ⟨aR, bT, H⟩ := H
 try dsimp only at H
 have A3 := ak bT
 clear bT
 replace H := Option.bind_eq_some_iff.mp H
 obtain ⟨⟨aH, aN, aS, aV, aW, bD, bG⟩, bU, H⟩ := H
 try dsimp only at H
 have A4 := ak bU
 clear bU
 simp only [Option.some.injEq, Prod.mk.injEq] at H
 obtain ⟨rfl, rfl, rfl, rfl, rfl, rfl, rfl⟩ := H
 go_enter Try.func14, Try.ntmps14
 try go_wp2_with (first | ((with_reducible refine gate_dst (N := 2) rfl ?_); refine bv 2 26 #[.int .i64 aK, .slice aP aF.length aQ, .slice aT aG.length aU, .int .i64 aL, .int .u64 aM] ?_; intro aI hg w5 hbox hb; obtain ⟨n_, aJ⟩ := Cb.bx (pB HB.out) hg hb; have bV := aJ; have aC := ak (hbox); replace HB := n_; clear n_; clear hb hbox hg) | ((with_reducible refine gate_dst (N := 4) rfl ?_); refine bv 4 42 #[.int .i64 0, .int .i64 0, .bool false, .string (⟨#[]⟩ : ByteArray), .int .i64 0, .int .i64 0] ?_; intro aB hg w6 hbox hb; obtain ⟨n_, aO⟩ := Cb.bx (ua aJ.out HB.out) hg hb; have bW := aO; obtain ⟨aA, aE⟩ := Cb.nb hg aC.out; have aD := ak (hbox); replace aC := bb aC hb; replace HB := n_; clear n_; clear hb hbox hg))
 replace aC := ak (blk_drew aC.out)
 replace aD := ak (blk_drew aD.out)
 replace HB := ak (below_drew1 HB.out)
 refine start_ (n := 10) (S := fun w' => w'.cell? ⟨aI, 0, none⟩ = some (.int .i64 aK) ∧ w'.cell? ⟨aI, 1, none⟩ = some (.slice aP aF.length aQ) ∧ w'.cell? ⟨aI, 2, none⟩ = some (.slice aT aG.length aU) ∧ w'.cell? ⟨aI, 3, none⟩ = some (.int .i64 aL) ∧ w'.cell? ⟨aI, 4, none⟩ = some (.int .u64 aM)) (ds := []) #[false, false, false, false, false, false, false, false, false, false] (by kernel_rfl) rfl rfl ⟨(blk_cell aC.out 0).trans rfl, (blk_cell aC.out 1).trans rfl, (blk_cell aC.out 2).trans rfl, (blk_cell aC.out 3).trans rfl, (blk_cell aC.out 4).trans rfl⟩ (fun hHeld => ?_); refine with_tabW session_Find.tab1 session_Find.bits1 (fun HT_ HW_ => ?_)
 generalize w6.drew = w7 at aC aD HB hHeld ⊢
 refine qa 0 6 (tb 10 1) (any_of HT_.out (by kernel_rfl)) ?_
 refine qa 3 9 (tb 10 9) (any_of HT_.out (by kernel_rfl)) ?_
 refine ke 1 7 (tb 10 11) (take_ofW HT_.out HW_.out (by kernel_rfl)) hHeld ?_
 refine ke 2 8 (tb 10 15) (take_ofW HT_.out HW_.out (by kernel_rfl)) hHeld ?_
 refine one_ (i := 4) (N := some 10) (tb 10 31) rfl rfl (one_of HT_.out (by kernel_rfl)) (by decide) (fun K hK => ?_)
 refine goes_ Try.func43 (by kernel_rfl) rfl #[.agg #[.int .i64 aK, .slice aP aF.length aQ, .slice aT aG.length aU, .int .i64 aL, .int .u64 aM], .int .i64 a1] (by rfl) rfl rfl mp ?_
 with_reducible refine (session_at.calls aK _ _ aF _ _ aG aL aM a1 aR _ ?side1 ?side2 ?side3 ?side4 A3.out).mono ?_
 (case side1 => exact pc (Kd.C_below bB.out HB.out))
 (case side2 => exact bC.out)
 (case side3 => exact pc (Kd.C_below bE.out HB.out))
 (case side4 => exact bF.out)
 rintro e w8 ⟨rfl, hb⟩
 refine ⟨_, rfl, ?_⟩
 replace aC := bb aC hb
 replace aD := bb aD hb
 replace HB := ak (below_step (ub aJ.out aO.out HB.out) hb)
 (try clear hb)
 (try clear hb2)
 (try clear hk)
 (try clear hi)
 refine hK.out _ _ ⟨(blk_cell aC.out 0).trans rfl, (blk_cell aC.out 1).trans rfl, (blk_cell aC.out 2).trans rfl, (blk_cell aC.out 3).trans rfl, (blk_cell aC.out 4).trans rfl⟩ (fun hHeld => ?_)
 clear hK K
 refine norm_ (a' := ?_) ?_ ?_
 rotate_left
 ·show Act.put _ (some 10) _ = _
  simp only [Act.put, List.setIfInBounds_toArray, List.set_cons_zero, List.set_cons_succ, i64_w, i32_w]
  rfl
 refine one_ (i := 5) (N := some 11) (tb 10 63) rfl rfl (one_of HT_.out (by kernel_rfl)) (by decide) (fun K hK => ?_)
 refine goes_ Try.func42 (by kernel_rfl) rfl #[.slice aP aF.length aQ, .int .i64 aR] (by rfl) rfl rfl mp ?_
 with_reducible refine (api_Session_42.calls _ _ aF aR aH aN aS aV aW bD bG _ ?side1 ?side2 A4.out).mono ?_
 (case side1 => exact pc (Kd.C_below bB.out HB.out))
 (case side2 => exact bC.out)
 rintro e w9 ⟨rfl, hb⟩
 refine ⟨_, rfl, ?_⟩
 replace aC := bb aC hb
 replace aD := bb aD hb
 replace HB := ak (below_step (ub aJ.out aO.out HB.out) hb)
 (try clear hb)
 (try clear hb2)
 (try clear hk)
 (try clear hi)
 refine hK.out _ _ ⟨(blk_cell aC.out 0).trans rfl, (blk_cell aC.out 1).trans rfl, (blk_cell aC.out 2).trans rfl, (blk_cell aC.out 3).trans rfl, (blk_cell aC.out 4).trans rfl⟩ (fun hHeld => ?_)
 clear hK K
 refine norm_ (a' := ?_) ?_ ?_
 rotate_left
 ·show Act.put _ (some 11) _ = _
  simp only [Act.put, List.setIfInBounds_toArray, List.set_cons_zero, List.set_cons_succ, i64_w, i32_w]
  rfl
 refine qa 6 12 (tb 10 127) (any_of HT_.out (by kernel_rfl)) ?_
 refine qa 7 13 (tb 10 255) (any_of HT_.out (by kernel_rfl)) ?_
 refine one_ (i := 8) (N := none) (tb 10 511) rfl rfl (one_of HT_.out (by kernel_rfl)) (by decide) (fun K hK => ?_)
 have b5 : w9.cell? ⟨aB, 0, none⟩ = some (.int .i64 0) := (blk_cell aD.out 0).trans rfl
 have bX := blk_frozen aD.out 0
 have bH := aA.out
 have bI := aE.out
 have b6 : w9.cell? ⟨aB, 1, none⟩ = some (.int .i64 0) := (blk_cell aD.out 1).trans rfl
 have bY := blk_frozen aD.out 1
 have bJ := aA.out
 have bK := aE.out
 have b7 : w9.cell? ⟨aB, 2, none⟩ = some (.bool false) := (blk_cell aD.out 2).trans rfl
 have bZ := blk_frozen aD.out 2
 have bL := aA.out
 have bM := aE.out
 have b8 : w9.cell? ⟨aB, 3, none⟩ = some (.string (⟨#[]⟩ : ByteArray)) := (blk_cell aD.out 3).trans rfl
 have b0 := blk_frozen aD.out 3
 have bN := aA.out
 have bO := aE.out
 have b9 : w9.cell? ⟨aB, 4, none⟩ = some (.int .i64 0) := (blk_cell aD.out 4).trans rfl
 have b1 := blk_frozen aD.out 4
 have bP := aA.out
 have bQ := aE.out
 have cA : w9.cell? ⟨aB, 5, none⟩ = some (.int .i64 0) := (blk_cell aD.out 5).trans rfl
 have b2 := blk_frozen aD.out 5
 have bR := aA.out
 have bS := aE.out
 refine skip_ (w1 := ?_) (by rfl) rfl ?_ ?_
 rotate_left
 ·go_simp
  rfl
 refine hK.out _ _ ⟨((cell_far (p := ⟨aB, _, none⟩) aA.out _).trans (((cell_far (p := ⟨aB, _, none⟩) aA.out _).trans (((cell_far (p := ⟨aB, _, none⟩) aA.out _).trans (((cell_far (p := ⟨aB, _, none⟩) aA.out _).trans (((cell_far (p := ⟨aB, _, none⟩) aA.out _).trans (((cell_far (p := ⟨aB, _, none⟩) aA.out _).trans (hHeld.1)))))))))))), ((cell_far (p := ⟨aB, _, none⟩) aA.out _).trans (((cell_far (p := ⟨aB, _, none⟩) aA.out _).trans (((cell_far (p := ⟨aB, _, none⟩) aA.out _).trans (((cell_far (p := ⟨aB, _, none⟩) aA.out _).trans (((cell_far (p := ⟨aB, _, none⟩) aA.out _).trans (((cell_far (p := ⟨aB, _, none⟩) aA.out _).trans (hHeld.2.1)))))))))))), ((cell_far (p := ⟨aB, _, none⟩) aA.out _).trans (((cell_far (p := ⟨aB, _, none⟩) aA.out _).trans (((cell_far (p := ⟨aB, _, none⟩) aA.out _).trans (((cell_far (p := ⟨aB, _, none⟩) aA.out _).trans (((cell_far (p := ⟨aB, _, none⟩) aA.out _).trans (((cell_far (p := ⟨aB, _, none⟩) aA.out _).trans (hHeld.2.2.1)))))))))))), ((cell_far (p := ⟨aB, _, none⟩) aA.out _).trans (((cell_far (p := ⟨aB, _, none⟩) aA.out _).trans (((cell_far (p := ⟨aB, _, none⟩) aA.out _).trans (((cell_far (p := ⟨aB, _, none⟩) aA.out _).trans (((cell_far (p := ⟨aB, _, none⟩) aA.out _).trans (((cell_far (p := ⟨aB, _, none⟩) aA.out _).trans (hHeld.2.2.2.1)))))))))))), ((cell_far (p := ⟨aB, _, none⟩) aA.out _).trans (((cell_far (p := ⟨aB, _, none⟩) aA.out _).trans (((cell_far (p := ⟨aB, _, none⟩) aA.out _).trans (((cell_far (p := ⟨aB, _, none⟩) aA.out _).trans (((cell_far (p := ⟨aB, _, none⟩) aA.out _).trans (((cell_far (p := ⟨aB, _, none⟩) aA.out _).trans (hHeld.2.2.2.2))))))))))))⟩ (fun hHeld => ?_)
 clear hK K
 refine qa 9 5 (tb 10 1023) (any_of HT_.out (by kernel_rfl)) ?_
 refine done_ (done_of HT_.out (by kernel_rfl)) ?_
 try go_wp2
 refine bodyPost_ret (results_ct rfl _ _ aB 42 #[.int .i64 aH, .int .i64 aN, .bool aS, .string aV, .int .i64 aW, .int .i64 bD] (0, 0) _ rfl (by exact pq (blk_put (blk_put (blk_put (blk_put (blk_put (blk_put (pk aD.out) 0 _ rfl) 1 _ rfl) 2 _ rfl) 3 _ rfl) 4 _ rfl) 5 _ rfl)) Try.underlying42 rfl (by kernel_rfl)) rfl ?_
 exact ⟨by first | rfl | (simp [errW_none, errW_some] <;> rfl) | (simp [*, errW_none, errW_some] <;> rfl), ub aJ.out aO.out HB.out⟩

end Go.Proofs.Ytnpmjboofmdflaa.PA
