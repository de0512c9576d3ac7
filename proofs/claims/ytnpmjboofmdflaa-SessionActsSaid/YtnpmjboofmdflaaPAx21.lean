-- Made by a program of this workplace out of the translation (wip/tools in the repo). Not trusted: Lean checks it.
import Derived.Test.YtnpmjboofmdflaaPAx0
import Derived.Test.YtnpmjboofmdflaaCb
import Derived.Test.YtnpmjboofmdflaaSq
import Derived.Test.YtnpmjboofmdflaaTq
import Derived.Test.YtnpmjboofmdflaaPAx1
import Derived.Test.YtnpmjboofmdflaaPAx3
import Derived.Test.YtnpmjboofmdflaaPAx4
import Derived.Test.YtnpmjboofmdflaaPAx8
import Derived.Test.YtnpmjboofmdflaaPAx9
import Derived.Test.YtnpmjboofmdflaaPAx10
import Derived.Test.YtnpmjboofmdflaaPAx11
import Derived.Test.YtnpmjboofmdflaaPAx13
import Derived.Test.YtnpmjboofmdflaaPAx14
import Derived.Test.YtnpmjboofmdflaaPAx15
import Derived.Test.YtnpmjboofmdflaaPAx18
import Derived.Test.YtnpmjboofmdflaaPAx19
namespace Go.Proofs.Ytnpmjboofmdflaa.PA
open Go.RowKit Go.Proofs.YtnpmjboofmdflaaW.PrintWords Go.Proofs.YtnpmjboofmdflaaW.PrintLast Go.Proofs.YtnpmjboofmdflaaW.PrintMore Go.Proofs.Ytnpmjboofmdflaa
attribute [local go_sem] max2_int min2_int max_two min_two max_three min_three max_four min_four   -- for this text's walks alone
set_option linter.unusedVariables false
set_option linter.unusedSimpArgs false

attribute [local go_sem high] eqA42
/-! ### stanchionlaw17_SessionActs: function 9, its last region -/
/-- What follows a region. -/
def startsAt (k : Nat) : Code → Bool
  | .region i _ _ => i == k
  | .seq a _ => startsAt k a
  | _ => false
def tailOf (k : Nat) : Code → Option Code
  | .seq a b => if startsAt k a then some b else tailOf k b
  | _ => none
def stanchionlaw17_SessionActs.T25 : Bool × List (List Nat × List Nat) := (true, [([], []), ([0], [0]), ([1], [1]), ([1], [1]), ([2, 3, 1], [1, 2, 3]), ([1, 4], [1, 4]), ([5, 1], [5]), ([6], [6]), ([6], [6]), ([7, 8, 6], [6, 7, 8]), ([6, 9], [6, 9]), ([10, 6], [10]), ([11], [11]), ([11], [11]), ([12, 13, 11], [11, 12, 13]), ([11, 14], [11, 14]), ([15, 11], [15]), ([16], [16]), ([16], [16]), ([17, 18, 16], [16, 17, 18]), ([16, 19], [16, 19]), ([20, 16], [20]), ([21], [21]), ([21], [21]), ([22, 23, 21, 21], [21, 22, 23]), ([21, 24], [21, 24]), ([25, 24], [25]), ([26], [26]), ([26, 27], [26, 27]), ([28, 26], [28]), ([29], [29]), ([29], [29]), ([30, 31, 29, 29], [29, 30, 31]), ([29], [29]), ([29], [29]), ([33, 34, 32, 29], [29, 33, 34]), ([32, 35, 29], [29, 32, 35]), ([29, 36], [29, 36]), ([37, 35], [37]), ([38], [38]), ([38], [38]), ([39, 40, 38, 38], [38, 39, 40]), ([38, 41], [38, 41]), ([42, 41], [42]), ([43], [43]), ([44, 43, 43], [43, 44]), ([43], [43]), ([46, 45, 43], [43, 46]), ([45, 47, 47, 43], [43, 45, 47]), ([43, 48], [43, 48]), ([49, 48, 0, 1, 2, 3, 4, 5, 6, 7, 8, 9, 10, 11, 12, 13, 14, 15, 16, 17, 18, 19, 20, 21, 22, 23, 24, 25, 26, 27, 28, 29, 30, 31, 32, 33, 34, 35, 36, 37, 38, 39, 40, 41, 42, 43, 44, 45, 46, 47, 48, 49], [49])])
def stanchionlaw17_SessionActs.B25 : List Nat := [0, 1, 3, 3, 15, 31, 63, 127, 127, 511, 1023, 2047, 4095, 4095, 16383, 32767, 65535, 131071, 131071, 524287, 1048575, 2097151, 4194303, 4194303, 16777215, 33554431, 67108863, 134217727, 268435455, 536870911, 1073741823, 1073741823, 4294967295, 1073741823, 1073741823, 34359738367, 68719476735, 137438953471, 274877906943, 549755813887, 549755813887, 2199023255551, 4398046511103, 8796093022207, 17592186044415, 35184372088831, 17592186044415, 140737488355327, 281474976710655, 562949953421311, 1125899906842623]
theorem stanchionlaw17_SessionActs.tab25 : rtab .any (opsOf Try.f9 25) = stanchionlaw17_SessionActs.T25 := by kernel_rfl
theorem stanchionlaw17_SessionActs.bits25 : waitsOk stanchionlaw17_SessionActs.T25.2 stanchionlaw17_SessionActs.B25 = true := by kernel_rfl
set_option maxHeartbeats 64000000 in
set_option maxRecDepth 100000 in
theorem stanchionlaw17_SessionActs.rC {aE : Int} {cR : Option Addr} {cS : Nat} {aD : List S42} {cW : Option Addr} {cX : Nat} {aF : List S85} {aG aJ dG dR eG b3 bQ : Int} {cC : Option Addr} {cD : Nat} {aM : List S42} {cF : Option Addr} {cG : Nat} {aN : List S85} {aS aU : Int} {r : Bool} {w : World} {mG nT : Bool} {a3 aZ a0 : Nat} {eX : Int} {dS : List S42} {dT : List S85} {e1 e3 dZ d0 eZ : Int} {d1 : List S42} {d3 : List S85} {fB fF d8 d9 fM : Int} {eN : List S42} {eP : List S85} {f1 gC eH fX : Int} {eT : List S42} {eU : List S85} {gL gQ eQ f2 : Int} {eY : List S42} {e0 : List S85} {gR gS eV gM : Int} {fC : List S42} {fG : List S85} {g2 g4 e2 gN : Int} {fN : List S42} {fV : List S85} {g3 g5 : Int} {eW : List S42} {gT : Int} {gD : List S42} {gO : List S85} {g7 hB : Int} {e4 : List S42} {dU dX : Int} {dY : Bool} {d2 : ByteArray} {d4 d5 : Int} {gU : Bool} {d6 d7 : Int} {eA : Bool} {eB : ByteArray} {eD eE : Int} {hC : Bool} {eF eI : Int} {eL : Bool} {eM : ByteArray} {eO eR : Int} {jV : Bool} {b0 b2 : Int} {b5 : Bool} {b9 : ByteArray} {cB cH : Int} {kG : Bool} {a1 : Nat} {fY : Option Addr} {fD : Nat} {f3 : Option Addr} {fH aX : Nat} {gE : Option Addr} {fO : Nat} {gP : Option Addr} {fW aV : Nat} {g8 : Option Addr} {g9 : Nat} {hD : Option Addr} {hE aQ : Nat} {hR : Option Addr} {hS : Nat} {hT : Option Addr} {hU aP : Nat} {hV : Option Addr} {hW : Nat} {iI : Option Addr} {iJ aR : Nat} {e9 : Option Addr} {fA : Nat} {fI : Option Addr} {fJ : Nat} {eC : Value} {aO : Nat} {fK : Option Addr} {fL : Nat} {fP : Option Addr} {fQ : Nat} {fE : Value} {aW : Nat} {fZ : Option Addr} {f0 : Nat} {gA : Option Addr} {gB aH aI aK aA : Nat} {wc : World} {nD : Bool} {kj31 kq : Nat} {lU : Bool} {u39 u40 u41 u42 u43 u44 u45 u46 u47 u48 u49 u50 u51 u52 u53 u54 u55 u56 u57 u58 u59 u60 u61 u62 u63 u64 u65 u66 u67 u68 u69 u70 u71 u72 u73 u74 u75 u76 u77 u78 u79 u80 u81 u82 u83 u84 u85 u86 u87 u88 u89 u90 u91 u92 u93 u94 u95 u96 u97 u98 u99 u100 u101 u102 u103 u104 u105 u106 u107 u108 u109 u110 u111 u112 u113 u114 u115 u116 u117 u118 u119 u120 u121 u122 u123 u124 u125 u126 u127 u128 u129 u130 u131 u132 u133 u134 u135 u136 u137 u138 u139 u140 u141 u142 u143 u144 u145 u146 u147 u148 u149 u150 u151 u152 u153 u154 u155 u156 u157 u158 u159 u160 u161 u162 u163 u164 u165 u166 u167 u168 u169 u170 u171 u172 u173 u174 u175 u176 u177 u178 u179 u180 u181 u182 u183 u184 u185 u186 u187 u188 u189 u190 u191 u192 u193 u194 u195 u196 u197 u198 u199 u200 u201 u202 u203 u204 u205 u206 u207 u208 u209 u210 u211 u212 u213 u214 u215 u216 u217 u218 u219 u220 : Value} {h b : Code} {K : Act → World → Prop} (hr_ : r = true) (iM : Aside0 (k42.C w cR aD.length aD)) (iN : Aside0 (aD.length ≤ cS)) (iO : Aside0 (k85.C w cW aF.length aF)) (iP : Aside0 (aF.length ≤ cX)) (mI : Aside0 (k42.C w cC aM.length aM)) (mJ : Aside0 (aM.length ≤ cD)) (mK : Aside0 (k85.C w cF aN.length aN)) (mL : Aside0 (aN.length ≤ cG)) (bM : Aside0 (w.heap.size ≤ a3)) (bN : Aside0 (w.heap.size ≤ aZ)) (bP : Aside0 (w.heap.size ≤ a0)) (bR : Aside0 (w.heap.size ≤ a1)) (bT : Aside0 (w.heap.size ≤ aX)) (bW : Aside0 (w.heap.size ≤ aV)) (b1 : Aside0 (w.heap.size ≤ aQ)) (b8 : Aside0 (w.heap.size ≤ aP)) (cE : Aside0 (w.heap.size ≤ aR)) (cK : Aside0 (w.heap.size ≤ aO)) (cT : Aside0 (w.heap.size ≤ aW)) (dD : Aside0 (w.heap.size ≤ aH)) (dL : Aside0 (w.heap.size ≤ aI)) (dO : Aside0 (w.heap.size ≤ aK)) (dQ : Aside0 (w.heap.size ≤ aA)) (HA : Aside0 (stanchionlaw17_SessionActs.j2 kq b3 dZ d0 d8 d9 eH eQ eV e2 eW e4 nD lU aE aD aF aG aJ bQ aM aN aS aU = some r)) (HJ474 : Aside0 (kq ≤ kj31)) (cN : Aside0 (Kd.R k42 42 wc w.heap.size (fun k_ => some k_ ≠ (fE : Value).ownBlock ∧ k_ ≠ aH ∧ k_ ≠ aI ∧ k_ ≠ aK ∧ k_ ≠ aA) eC eW)) (cO : Aside0 (Kd.R k42 42 wc w.heap.size (fun k_ => some k_ ≠ (eC : Value).ownBlock ∧ k_ ≠ aH ∧ k_ ≠ aI ∧ k_ ≠ aK ∧ k_ ≠ aA) fE e4)) (a6 : Aside0 (Kd.V k42 42 wc w.heap.size (fun k_ => some k_ ≠ (eC : Value).ownBlock ∧ some k_ ≠ (fE : Value).ownBlock ∧ k_ ≠ a3 ∧ k_ ≠ aZ ∧ k_ ≠ a0 ∧ k_ ≠ a1 ∧ k_ ≠ aX ∧ k_ ≠ aV ∧ k_ ≠ aQ ∧ k_ ≠ aP ∧ k_ ≠ aR ∧ k_ ≠ aO ∧ k_ ≠ aW ∧ k_ ≠ aH ∧ k_ ≠ aI ∧ k_ ≠ aK ∧ k_ ≠ aA) (.slice fY dS.length fD) dS)) (a7 : Aside0 (Kd.V k85 85 wc w.heap.size (fun k_ => some k_ ≠ (eC : Value).ownBlock ∧ some k_ ≠ (fE : Value).ownBlock ∧ k_ ≠ a3 ∧ k_ ≠ aZ ∧ k_ ≠ a0 ∧ k_ ≠ a1 ∧ k_ ≠ aX ∧ k_ ≠ aV ∧ k_ ≠ aQ ∧ k_ ≠ aP ∧ k_ ≠ aR ∧ k_ ≠ aO ∧ k_ ≠ aW ∧ k_ ≠ aH ∧ k_ ≠ aI ∧ k_ ≠ aK ∧ k_ ≠ aA) (.slice f3 dT.length fH) dT)) (a8 : Aside0 (Kd.V k42 42 wc w.heap.size (fun k_ => some k_ ≠ (eC : Value).ownBlock ∧ some k_ ≠ (fE : Value).ownBlock ∧ k_ ≠ a3 ∧ k_ ≠ aZ ∧ k_ ≠ a0 ∧ k_ ≠ a1 ∧ k_ ≠ aX ∧ k_ ≠ aV ∧ k_ ≠ aQ ∧ k_ ≠ aP ∧ k_ ≠ aR ∧ k_ ≠ aO ∧ k_ ≠ aW ∧ k_ ≠ aH ∧ k_ ≠ aI ∧ k_ ≠ aK ∧ k_ ≠ aA) (.slice gE d1.length fO) d1)) (a9 : Aside0 (Kd.V k85 85 wc w.heap.size (fun k_ => some k_ ≠ (eC : Value).ownBlock ∧ some k_ ≠ (fE : Value).ownBlock ∧ k_ ≠ a3 ∧ k_ ≠ aZ ∧ k_ ≠ a0 ∧ k_ ≠ a1 ∧ k_ ≠ aX ∧ k_ ≠ aV ∧ k_ ≠ aQ ∧ k_ ≠ aP ∧ k_ ≠ aR ∧ k_ ≠ aO ∧ k_ ≠ aW ∧ k_ ≠ aH ∧ k_ ≠ aI ∧ k_ ≠ aK ∧ k_ ≠ aA) (.slice gP d3.length fW) d3)) (bA : Aside0 (Kd.V k42 42 wc w.heap.size (fun k_ => some k_ ≠ (eC : Value).ownBlock ∧ some k_ ≠ (fE : Value).ownBlock ∧ k_ ≠ a3 ∧ k_ ≠ aZ ∧ k_ ≠ a0 ∧ k_ ≠ a1 ∧ k_ ≠ aX ∧ k_ ≠ aV ∧ k_ ≠ aQ ∧ k_ ≠ aP ∧ k_ ≠ aR ∧ k_ ≠ aO ∧ k_ ≠ aW ∧ k_ ≠ aH ∧ k_ ≠ aI ∧ k_ ≠ aK ∧ k_ ≠ aA) (.slice g8 eN.length g9) eN)) (bB : Aside0 (Kd.V k85 85 wc w.heap.size (fun k_ => some k_ ≠ (eC : Value).ownBlock ∧ some k_ ≠ (fE : Value).ownBlock ∧ k_ ≠ a3 ∧ k_ ≠ aZ ∧ k_ ≠ a0 ∧ k_ ≠ a1 ∧ k_ ≠ aX ∧ k_ ≠ aV ∧ k_ ≠ aQ ∧ k_ ≠ aP ∧ k_ ≠ aR ∧ k_ ≠ aO ∧ k_ ≠ aW ∧ k_ ≠ aH ∧ k_ ≠ aI ∧ k_ ≠ aK ∧ k_ ≠ aA) (.slice hD eP.length hE) eP)) (bC : Aside0 (Kd.V k42 42 wc w.heap.size (fun k_ => some k_ ≠ (eC : Value).ownBlock ∧ some k_ ≠ (fE : Value).ownBlock ∧ k_ ≠ a3 ∧ k_ ≠ aZ ∧ k_ ≠ a0 ∧ k_ ≠ a1 ∧ k_ ≠ aX ∧ k_ ≠ aV ∧ k_ ≠ aQ ∧ k_ ≠ aP ∧ k_ ≠ aR ∧ k_ ≠ aO ∧ k_ ≠ aW ∧ k_ ≠ aH ∧ k_ ≠ aI ∧ k_ ≠ aK ∧ k_ ≠ aA) (.slice hR eT.length hS) eT)) (bD : Aside0 (Kd.V k85 85 wc w.heap.size (fun k_ => some k_ ≠ (eC : Value).ownBlock ∧ some k_ ≠ (fE : Value).ownBlock ∧ k_ ≠ a3 ∧ k_ ≠ aZ ∧ k_ ≠ a0 ∧ k_ ≠ a1 ∧ k_ ≠ aX ∧ k_ ≠ aV ∧ k_ ≠ aQ ∧ k_ ≠ aP ∧ k_ ≠ aR ∧ k_ ≠ aO ∧ k_ ≠ aW ∧ k_ ≠ aH ∧ k_ ≠ aI ∧ k_ ≠ aK ∧ k_ ≠ aA) (.slice hT eU.length hU) eU)) (bE : Aside0 (Kd.V k42 42 wc w.heap.size (fun k_ => some k_ ≠ (eC : Value).ownBlock ∧ some k_ ≠ (fE : Value).ownBlock ∧ k_ ≠ a3 ∧ k_ ≠ aZ ∧ k_ ≠ a0 ∧ k_ ≠ a1 ∧ k_ ≠ aX ∧ k_ ≠ aV ∧ k_ ≠ aQ ∧ k_ ≠ aP ∧ k_ ≠ aR ∧ k_ ≠ aO ∧ k_ ≠ aW ∧ k_ ≠ aH ∧ k_ ≠ aI ∧ k_ ≠ aK ∧ k_ ≠ aA) (.slice hV eY.length hW) eY)) (bF : Aside0 (Kd.V k85 85 wc w.heap.size (fun k_ => some k_ ≠ (eC : Value).ownBlock ∧ some k_ ≠ (fE : Value).ownBlock ∧ k_ ≠ a3 ∧ k_ ≠ aZ ∧ k_ ≠ a0 ∧ k_ ≠ a1 ∧ k_ ≠ aX ∧ k_ ≠ aV ∧ k_ ≠ aQ ∧ k_ ≠ aP ∧ k_ ≠ aR ∧ k_ ≠ aO ∧ k_ ≠ aW ∧ k_ ≠ aH ∧ k_ ≠ aI ∧ k_ ≠ aK ∧ k_ ≠ aA) (.slice iI e0.length iJ) e0)) (bG : Aside0 (Kd.V k42 42 wc w.heap.size (fun k_ => some k_ ≠ (eC : Value).ownBlock ∧ some k_ ≠ (fE : Value).ownBlock ∧ k_ ≠ a3 ∧ k_ ≠ aZ ∧ k_ ≠ a0 ∧ k_ ≠ a1 ∧ k_ ≠ aX ∧ k_ ≠ aV ∧ k_ ≠ aQ ∧ k_ ≠ aP ∧ k_ ≠ aR ∧ k_ ≠ aO ∧ k_ ≠ aW ∧ k_ ≠ aH ∧ k_ ≠ aI ∧ k_ ≠ aK ∧ k_ ≠ aA) (.slice e9 fC.length fA) fC)) (bH : Aside0 (Kd.V k85 85 wc w.heap.size (fun k_ => some k_ ≠ (eC : Value).ownBlock ∧ some k_ ≠ (fE : Value).ownBlock ∧ k_ ≠ a3 ∧ k_ ≠ aZ ∧ k_ ≠ a0 ∧ k_ ≠ a1 ∧ k_ ≠ aX ∧ k_ ≠ aV ∧ k_ ≠ aQ ∧ k_ ≠ aP ∧ k_ ≠ aR ∧ k_ ≠ aO ∧ k_ ≠ aW ∧ k_ ≠ aH ∧ k_ ≠ aI ∧ k_ ≠ aK ∧ k_ ≠ aA) (.slice fI fG.length fJ) fG)) (bI : Aside0 (Kd.V k42 42 wc w.heap.size (fun k_ => some k_ ≠ (eC : Value).ownBlock ∧ some k_ ≠ (fE : Value).ownBlock ∧ k_ ≠ a3 ∧ k_ ≠ aZ ∧ k_ ≠ a0 ∧ k_ ≠ a1 ∧ k_ ≠ aX ∧ k_ ≠ aV ∧ k_ ≠ aQ ∧ k_ ≠ aP ∧ k_ ≠ aR ∧ k_ ≠ aO ∧ k_ ≠ aW ∧ k_ ≠ aH ∧ k_ ≠ aI ∧ k_ ≠ aK ∧ k_ ≠ aA) (.slice fK fN.length fL) fN)) (bJ : Aside0 (Kd.V k85 85 wc w.heap.size (fun k_ => some k_ ≠ (eC : Value).ownBlock ∧ some k_ ≠ (fE : Value).ownBlock ∧ k_ ≠ a3 ∧ k_ ≠ aZ ∧ k_ ≠ a0 ∧ k_ ≠ a1 ∧ k_ ≠ aX ∧ k_ ≠ aV ∧ k_ ≠ aQ ∧ k_ ≠ aP ∧ k_ ≠ aR ∧ k_ ≠ aO ∧ k_ ≠ aW ∧ k_ ≠ aH ∧ k_ ≠ aI ∧ k_ ≠ aK ∧ k_ ≠ aA) (.slice fP fV.length fQ) fV)) (bK : Aside0 (Kd.V k42 42 wc w.heap.size (fun k_ => some k_ ≠ (eC : Value).ownBlock ∧ some k_ ≠ (fE : Value).ownBlock ∧ k_ ≠ a3 ∧ k_ ≠ aZ ∧ k_ ≠ a0 ∧ k_ ≠ a1 ∧ k_ ≠ aX ∧ k_ ≠ aV ∧ k_ ≠ aQ ∧ k_ ≠ aP ∧ k_ ≠ aR ∧ k_ ≠ aO ∧ k_ ≠ aW ∧ k_ ≠ aH ∧ k_ ≠ aI ∧ k_ ≠ aK ∧ k_ ≠ aA) (.slice fZ gD.length f0) gD)) (bL : Aside0 (Kd.V k85 85 wc w.heap.size (fun k_ => some k_ ≠ (eC : Value).ownBlock ∧ some k_ ≠ (fE : Value).ownBlock ∧ k_ ≠ a3 ∧ k_ ≠ aZ ∧ k_ ≠ a0 ∧ k_ ≠ a1 ∧ k_ ≠ aX ∧ k_ ≠ aV ∧ k_ ≠ aQ ∧ k_ ≠ aP ∧ k_ ≠ aR ∧ k_ ≠ aO ∧ k_ ≠ aW ∧ k_ ≠ aH ∧ k_ ≠ aI ∧ k_ ≠ aK ∧ k_ ≠ aA) (.slice gA gO.length gB) gO)) (aL : Aside0 (wc.heap[a3]? = some (.cells #[.int .i64 aE, (.slice cR aD.length cS), (.slice cW aF.length cX), .int .i64 aG, .int .u64 aJ, .int .i64 dG, .int .i64 dR, .int .u64 eG, .int .i64 b3, .int .i64 bQ, (.slice cC aM.length cD), (.slice cF aN.length cG), .int .i64 aS, .int .u64 aU] 68 (0, 0)))) (aB : Aside0 (wc.heap[aZ]? = some (.cells #[.int .i64 aE, (.slice cR aD.length cS), (.slice cW aF.length cX), .int .i64 aG, .int .u64 aJ] 26 (0, 0)))) (aC : Aside0 (wc.heap[a0]? = some (.cells #[.int .i64 bQ, (.slice cC aM.length cD), (.slice cF aN.length cG), .int .i64 aS, .int .u64 aU] 26 (0, 0)))) (aT : Aside0 (wc.heap[a1]? = some (.cells #[.int .i64 eX, (.slice fY dS.length fD), (.slice f3 dT.length fH), .int .i64 e1, .int .u64 e3] 26 (0, 0)))) (aY : Aside0 (wc.heap[aX]? = some (.cells #[.int .i64 eZ, (.slice gE d1.length fO), (.slice gP d3.length fW), .int .i64 fB, .int .u64 fF] 26 (0, 0)))) (a2 : Aside0 (wc.heap[aV]? = some (.cells #[.int .i64 fM, (.slice g8 eN.length g9), (.slice hD eP.length hE), .int .i64 f1, .int .u64 gC] 26 (0, 0)))) (a4 : Aside0 (wc.heap[aQ]? = some (.cells #[.int .i64 fX, (.slice hR eT.length hS), (.slice hT eU.length hU), .int .i64 gL, .int .u64 gQ] 26 (0, 0)))) (a5 : Aside0 (wc.heap[aP]? = some (.cells #[.int .i64 f2, (.slice hV eY.length hW), (.slice iI e0.length iJ), .int .i64 gR, .int .u64 gS] 26 (0, 0)))) (bO : Aside0 (wc.heap[aR]? = some (.cells #[.int .i64 gM, (.slice e9 fC.length fA), (.slice fI fG.length fJ), .int .i64 g2, .int .u64 g4] 26 (0, 0)))) (bS : Aside0 (wc.heap[aO]? = some (.cells #[.int .i64 gN, (.slice fK fN.length fL), (.slice fP fV.length fQ), .int .i64 g3, .int .u64 g5] 26 (0, 0)))) (bV : Aside0 (wc.heap[aW]? = some (.cells #[.int .i64 gT, (.slice fZ gD.length f0), (.slice gA gO.length gB), .int .i64 g7, .int .u64 hB] 26 (0, 0)))) (bU : Aside0 (wc.heap[aH]? = some (.cells #[.int .i64 dU, .int .i64 dX, .bool dY, .string d2, .int .i64 d4, .int .i64 d5] 42 (0, 0)))) (bX : Aside0 (wc.heap[aI]? = some (.cells #[.int .i64 d6, .int .i64 d7, .bool eA, .string eB, .int .i64 eD, .int .i64 eE] 42 (0, 0)))) (b4 : Aside0 (wc.heap[aK]? = some (.cells #[.int .i64 eF, .int .i64 eI, .bool eL, .string eM, .int .i64 eO, .int .i64 eR] 42 (0, 0)))) (cA : Aside0 (wc.heap[aA]? = some (.cells #[.int .i64 b0, .int .i64 b2, .bool b5, .string b9, .int .i64 cB, .int .i64 cH] 42 (0, 0)))) (HB : Aside0 (Below w.heap.size w wc)) (hc : Try.f9.body.bind (tailOf 24) = some (.seq h b)) (hK : ∀ a w', Code.wp Try.prog b (bodyPost Try.prog Try.f9 fun e w' => e = .returned (.bool r) ∧ Below w.heap.size w w') a w' → K a w') : Code.wp Try.prog h (Exit.then K (bodyPost Try.prog Try.f9 fun e w' => e = .returned (.bool r) ∧ Below w.heap.size w w')) ⟨#[.agg #[.int .i64 aE, .slice cR aD.length cS, .slice cW aF.length cX, .int .i64 aG, .int .u64 aJ, .int .i64 dG, .int .i64 dR, .int .u64 eG, .int .i64 b3, .int .i64 bQ, .slice cC aM.length cD, .slice cF aN.length cG, .int .i64 aS, .int .u64 aU], .pointer (some ⟨a3, 0, none⟩), .bool false, .pointer (some ⟨aZ, 0, none⟩), .int .i64 dG, .int .i64 dR, .int .u64 eG, .int .i64 b3, .pointer (some ⟨a0, 0, none⟩), .bool mG, .bool nT, .pointer (some ⟨a1, 0, none⟩), .int .i64 dZ, .int .i64 d0, .pointer (some ⟨aX, 0, none⟩), .int .i64 d8, .int .i64 d9, .pointer (some ⟨aV, 0, none⟩), .int .i64 eH, .pointer (some ⟨aQ, 0, none⟩), .int .i64 eQ, .pointer (some ⟨aP, 0, none⟩), .int .i64 eV, .pointer (some ⟨aR, 0, none⟩), .int .i64 e2, .pointer (some ⟨aO, 0, none⟩), eC, .pointer (some ⟨aW, 0, none⟩), fE, .pointer (some ⟨aH, 0, none⟩), .bool gU, .pointer (some ⟨aI, 0, none⟩), .bool hC, .pointer (some ⟨aK, 0, none⟩), .bool jV, .pointer (some ⟨aA, 0, none⟩), .bool kG, .bool nD, .bool lU, u39, u40, u41, u42, u43, u44, u45, u46, u47, u48, u49, u50, u51, u52, u53, u54, u55, u56, u57, u58, u59, u60, u61, u62, u63, u64, u65, u66, u67, u68, u69, u70, u71, u72, u73, u74, u75, u76, u77, u78, u79, u80, u81, u82, u83, u84, u85, u86, u87, u88, u89, u90, u91, u92, u93, u94, u95, u96, u97, u98, u99, u100, u101, u102, u103, u104, u105, u106, u107, u108, u109, u110, u111, u112, u113, u114, u115, u116, u117, u118, u119, u120, u121, u122, u123, u124, u125, u126, u127, u128, u129, u130, u131, u132, u133, u134, u135, u136, u137, u138, u139, u140, u141, u142, u143, u144, u145, u146, u147, u148, u149, u150, u151, u152, u153, u154, u155, u156, u157, u158, u159, u160, u161, u162, u163, u164, u165, u166, u167, u168, u169, u170, u171, u172, u173, u174, u175, u176, u177, u178, u179, u180, u181, u182, u183, u184, u185, u186, u187, u188, u189, u190, u191, u192, u193, u194, u195, u196, u197, u198, u199, u200, u201, u202, u203, u204, u205, u206, u207, u208, u209, u210, u211, u212, u213, u214, u215, u216, u217, u218, u219, u220], []⟩ wc := by
 have hu68 := Try.underlying68
 have hu26 := Try.underlying26
 have hu42 := Try.underlying42
 have hc2 : some (Code.seq _ _) = some (Code.seq h b) := hc
 cases hc2
 clear hc
 cases kq with
 | zero => exact absurd HA.out (by simp [stanchionlaw17_SessionActs.j2])
 | succ kj474 =>
  have H := HA.out
  clear HA
  simp only [stanchionlaw17_SessionActs.j2] at H
  by_cases c645 : nD = true
  ·subst c645
   rw [if_pos rfl] at H
   by_cases oT : dZ = d8
   ·rw [if_pos oT] at H
    have c646b0 : (dZ == d8) = true := beq_iff_eq.mpr oT
    have c646b1 : (dZ != d8) = false := bne_eq_false_iff_eq.mpr oT
    clear oT
    by_cases oU : d0 = d9
    ·rw [if_pos oU] at H
     have c647b0 : (d0 == d9) = true := beq_iff_eq.mpr oU
     have c647b1 : (d0 != d9) = false := bne_eq_false_iff_eq.mpr oU
     clear oU
     by_cases oV : eH = eQ
     ·rw [if_pos oV] at H
      have c648b0 : (eH == eQ) = true := beq_iff_eq.mpr oV
      have c648b1 : (eH != eQ) = false := bne_eq_false_iff_eq.mpr oV
      clear oV
      by_cases oW : eV = e2
      ·rw [if_pos oW] at H
       have c649b0 : (eV == e2) = true := beq_iff_eq.mpr oW
       have c649b1 : (eV != e2) = false := bne_eq_false_iff_eq.mpr oW
       clear oW
       replace H := Option.bind_eq_some_iff.mp H
       obtain ⟨t745, A6500, H⟩ := H
       try dsimp only at H
       have A650 := ak A6500
       clear A6500
       by_cases c651 : t745 = true
       ·subst c651
        rw [if_pos rfl] at H
        by_cases c652 : lU = true
        ·subst c652
         rw [if_pos rfl] at H
         replace H := Option.bind_eq_some_iff.mp H
         obtain ⟨kV, A6530, H⟩ := H
         try dsimp only at H
         have A653 := ak A6530
         clear A6530
         replace H := Option.bind_eq_some_iff.mp H
         obtain ⟨kT, A6540, H⟩ := H
         try dsimp only at H
         have A654 := ak A6540
         clear A6540
         by_cases nE : (kV == kT) = true
         ·rw [if_pos nE] at H
          have c655b0 : (kV == kT) = true := nE
          (try (have c655b1 : decide (kV = kT) = true := by simpa using nE))
          (try (have c655b2 : (kV == kT) = true := by simpa using nE))
          clear nE
          replace H := Option.bind_eq_some_iff.mp H
          obtain ⟨mH, A6560, H⟩ := H
          try dsimp only at H
          have A656 := ak A6560
          clear A6560
          by_cases c657 : mH = true
          ·subst c657
           rw [if_pos rfl] at H
           replace H := Option.bind_eq_some_iff.mp H
           obtain ⟨⟨t749, t750, t753, t756, t757⟩, A6580, H⟩ := H
           try dsimp only at H
           have A658 := ak A6580
           clear A6580
           replace H := Option.bind_eq_some_iff.mp H
           obtain ⟨⟨t758, t759, t762, t765, t766⟩, A6590, H⟩ := H
           try dsimp only at H
           have A659 := ak A6590
           clear A6590
           replace H := Option.bind_eq_some_iff.mp H
           obtain ⟨kU, A6600, H⟩ := H
           try dsimp only at H
           have A660 := ak A6600
           clear A6600
           obtain rfl := Option.some.inj H
           try go_wp2
           replace cN := ak (Kd.R_drew cN.out)
           replace cO := ak (Kd.R_drew cO.out)
           replace a6 := ak (Kd.V_drew a6.out)
           replace a7 := ak (Kd.V_drew a7.out)
           replace a8 := ak (Kd.V_drew a8.out)
           replace a9 := ak (Kd.V_drew a9.out)
           replace bA := ak (Kd.V_drew bA.out)
           replace bB := ak (Kd.V_drew bB.out)
           replace bC := ak (Kd.V_drew bC.out)
           replace bD := ak (Kd.V_drew bD.out)
           replace bE := ak (Kd.V_drew bE.out)
           replace bF := ak (Kd.V_drew bF.out)
           replace bG := ak (Kd.V_drew bG.out)
           replace bH := ak (Kd.V_drew bH.out)
           replace bI := ak (Kd.V_drew bI.out)
           replace bJ := ak (Kd.V_drew bJ.out)
           replace bK := ak (Kd.V_drew bK.out)
           replace bL := ak (Kd.V_drew bL.out)
           replace aL := ak (blk_drew aL.out)
           replace aB := ak (blk_drew aB.out)
           replace aC := ak (blk_drew aC.out)
           replace aT := ak (blk_drew aT.out)
           replace aY := ak (blk_drew aY.out)
           replace a2 := ak (blk_drew a2.out)
           replace a4 := ak (blk_drew a4.out)
           replace a5 := ak (blk_drew a5.out)
           replace bO := ak (blk_drew bO.out)
           replace bS := ak (blk_drew bS.out)
           replace bV := ak (blk_drew bV.out)
           replace bU := ak (blk_drew bU.out)
           replace bX := ak (blk_drew bX.out)
           replace b4 := ak (blk_drew b4.out)
           replace cA := ak (blk_drew cA.out)
           replace HB := ak (below_drew1 HB.out)
           obtain ⟨Ao662, co662, eo662⟩ := Kd.R_slice cN.out
           (first | subst eo662 | (injection eo662 with f1_ f2_ f3_; have m5 := f1_.symm; have m6 := f3_.symm; clear f1_ f2_ f3_; subst m5; subst m6))
           obtain ⟨Ao663, co663, eo663⟩ := Kd.R_slice cO.out
           (first | subst eo663 | (injection eo663 with f1_ f2_ f3_; have m5 := f1_.symm; have m6 := f3_.symm; clear f1_ f2_ f3_; subst m5; subst m6))
           refine start_ (n := 51) (S := fun w' => w'.cell? ⟨aZ, 0, none⟩ = some (.int .i64 aE) ∧ w'.cell? ⟨aZ, 1, none⟩ = some (.slice cR aD.length cS) ∧ w'.cell? ⟨aZ, 2, none⟩ = some (.slice cW aF.length cX) ∧ w'.cell? ⟨aZ, 3, none⟩ = some (.int .i64 aG) ∧ w'.cell? ⟨aZ, 4, none⟩ = some (.int .u64 aJ) ∧ w'.cell? ⟨a0, 0, none⟩ = some (.int .i64 bQ) ∧ w'.cell? ⟨a0, 1, none⟩ = some (.slice cC aM.length cD) ∧ w'.cell? ⟨a0, 2, none⟩ = some (.slice cF aN.length cG) ∧ w'.cell? ⟨a0, 3, none⟩ = some (.int .i64 aS) ∧ w'.cell? ⟨a0, 4, none⟩ = some (.int .u64 aU)) (ds := []) #[false, false, false, false, false, false, false, false, false, false, false, false, false, false, false, false, false, false, false, false, false, false, false, false, false, false, false, false, false, false, false, false, false, false, false, false, false, false, false, false, false, false, false, false, false, false, false, false, false, false, false] (by kernel_rfl) rfl rfl ⟨(blk_cell aB.out 0).trans rfl, (blk_cell aB.out 1).trans rfl, (blk_cell aB.out 2).trans rfl, (blk_cell aB.out 3).trans rfl, (blk_cell aB.out 4).trans rfl, (blk_cell aC.out 0).trans rfl, (blk_cell aC.out 1).trans rfl, (blk_cell aC.out 2).trans rfl, (blk_cell aC.out 3).trans rfl, (blk_cell aC.out 4).trans rfl⟩ (fun hHeld => ?_); refine with_tabW stanchionlaw17_SessionActs.tab25 stanchionlaw17_SessionActs.bits25 (fun HT_ HW_ => ?_)
           generalize wc.drew = w661 at cN cO a6 a7 a8 a9 bA bB bC bD bE bF bG bH bI bJ bK bL aL aB aC aT aY a2 a4 a5 bO bS bV bU bX b4 cA HB hHeld ⊢
           refine qa 0 171 (tb 51 1) (any_of HT_.out (by kernel_rfl)) ?_
           refine qa 1 172 (tb 51 3) (any_of HT_.out (by kernel_rfl)) ?_
           refine qa 2 173 (tb 51 7) (any_of HT_.out (by kernel_rfl)) ?_
           refine qa 3 174 (tb 51 15) (any_of HT_.out (by kernel_rfl)) ?_
           refine qa 4 175 (tb 51 31) (any_of HT_.out (by kernel_rfl)) ?_
           refine qa 5 176 (tb 51 63) (any_of HT_.out (by kernel_rfl)) ?_
           refine qa 6 177 (tb 51 127) (any_of HT_.out (by kernel_rfl)) ?_
           refine qa 7 178 (tb 51 255) (any_of HT_.out (by kernel_rfl)) ?_
           refine qa 8 179 (tb 51 511) (any_of HT_.out (by kernel_rfl)) ?_
           refine qa 9 180 (tb 51 1023) (any_of HT_.out (by kernel_rfl)) ?_
           refine qa 10 181 (tb 51 2047) (any_of HT_.out (by kernel_rfl)) ?_
           refine qa 11 182 (tb 51 4095) (any_of HT_.out (by kernel_rfl)) ?_
           refine qa 12 183 (tb 51 8191) (any_of HT_.out (by kernel_rfl)) ?_
           refine qa 13 184 (tb 51 16383) (any_of HT_.out (by kernel_rfl)) ?_
           refine qa 14 185 (tb 51 32767) (any_of HT_.out (by kernel_rfl)) ?_
           refine qa 15 186 (tb 51 65535) (any_of HT_.out (by kernel_rfl)) ?_
           refine qa 16 187 (tb 51 131071) (any_of HT_.out (by kernel_rfl)) ?_
           refine qa 17 188 (tb 51 262143) (any_of HT_.out (by kernel_rfl)) ?_
           refine qa 18 189 (tb 51 524287) (any_of HT_.out (by kernel_rfl)) ?_
           refine qa 19 190 (tb 51 1048575) (any_of HT_.out (by kernel_rfl)) ?_
           refine qa 20 191 (tb 51 2097151) (any_of HT_.out (by kernel_rfl)) ?_
           refine qa 21 192 (tb 51 4194303) (any_of HT_.out (by kernel_rfl)) ?_
           refine qa 22 193 (tb 51 8388607) (any_of HT_.out (by kernel_rfl)) ?_
           refine qa 23 194 (tb 51 16777215) (any_of HT_.out (by kernel_rfl)) ?_
           refine one_ (i := 24) (N := some 195) (tb 51 33554431) rfl rfl (one_of HT_.out (by kernel_rfl)) (by decide) (fun K hK => ?_)
           refine goes_ Try.func35 (by kernel_rfl) rfl #[.slice Ao662 eW.length co662, .slice Ao663 e4.length co663] (by rfl) rfl rfl mp ?_
           with_reducible refine (stanchionref17_Sessions.calls kj474 _ _ eW _ _ e4 true _ ?side1 ?side2 ?side3 ?side4 A650.out).mono ?_
           (case side1 => exact pc (Kd.R_reads' cN.out).2.2)
           (case side2 => exact (Kd.R_reads' cN.out).2.1)
           (case side3 => exact pc (Kd.R_reads' cO.out).2.2)
           (case side4 => exact (Kd.R_reads' cO.out).2.1)
           rintro e w' ⟨rfl, ⟨nd, rfl⟩⟩
           refine ⟨_, rfl, ?_⟩
           refine hK.out _ _ ⟨(blk_cell aB.out 0).trans rfl, (blk_cell aB.out 1).trans rfl, (blk_cell aB.out 2).trans rfl, (blk_cell aB.out 3).trans rfl, (blk_cell aB.out 4).trans rfl, (blk_cell aC.out 0).trans rfl, (blk_cell aC.out 1).trans rfl, (blk_cell aC.out 2).trans rfl, (blk_cell aC.out 3).trans rfl, (blk_cell aC.out 4).trans rfl⟩ (fun hHeld => ?_)
           clear hK K
           refine norm_ (a' := ?_) ?_ ?_
           rotate_left
           ·show Act.put _ (some 195) _ = _
            simp only [Act.put, List.setIfInBounds_toArray, List.set_cons_zero, List.set_cons_succ, i64_w, i32_w]
            rfl
           refine qa 25 196 (tb 51 67108863) (any_of HT_.out (by kernel_rfl)) ?_
           refine qa 26 197 (tb 51 134217727) (any_of HT_.out (by kernel_rfl)) ?_
           refine qa 27 198 (tb 51 268435455) (any_of HT_.out (by kernel_rfl)) ?_
           refine qa 28 199 (tb 51 536870911) (any_of HT_.out (by kernel_rfl)) ?_
           refine qa 29 200 (tb 51 1073741823) (any_of HT_.out (by kernel_rfl)) ?_
           refine kj 30 201 (tb 51 2147483647) (take_ofW HT_.out HW_.out (by kernel_rfl)) hHeld ?_
           refine kj 31 202 (tb 51 4294967295) (take_ofW HT_.out HW_.out (by kernel_rfl)) hHeld ?_
           refine kj 33 204 (tb 51 12884901887) (take_ofW HT_.out HW_.out (by kernel_rfl)) hHeld ?_
           refine kj 34 205 (tb 51 30064771071) (take_ofW HT_.out HW_.out (by kernel_rfl)) hHeld ?_
           refine one_ (i := 32) (N := some 203) (tb 51 34359738367) rfl rfl (one_of HT_.out (by kernel_rfl)) (by decide) (fun K hK => ?_)
           refine goes_ Try.func23 (by kernel_rfl) rfl #[.agg #[.int .i64 aE, .slice cR aD.length cS, .slice cW aF.length cX, .int .i64 aG, .int .u64 aJ], .agg #[.int .i64 bQ, .slice cC aM.length cD, .slice cF aN.length cG, .int .i64 aS, .int .u64 aU]] (by rfl) rfl rfl mp ?_
           with_reducible refine (session_Same.calls kj474 aE _ _ aD _ _ aF aG aJ bQ _ _ aM _ _ aN aS aU kV _ ?side1 ?side2 ?side3 ?side4 ?side5 ?side6 ?side7 ?side8 A653.out).mono ?_
           (case side1 => repeat (first | exact (Kd.C_below iM.out (uo bM.out bN.out bP.out bR.out bT.out bW.out b1.out b8.out cE.out cK.out cT.out dD.out dL.out dO.out dQ.out HB.out)) | (with_reducible refine Kd.C_alloc ?_ _) | (with_reducible refine Kd.C_drewN ?_ _) | (with_reducible refine Kd.C_drew ?_)))
           (case side2 => exact iN.out)
           (case side3 => repeat (first | exact (Kd.C_below iO.out (uo bM.out bN.out bP.out bR.out bT.out bW.out b1.out b8.out cE.out cK.out cT.out dD.out dL.out dO.out dQ.out HB.out)) | (with_reducible refine Kd.C_alloc ?_ _) | (with_reducible refine Kd.C_drewN ?_ _) | (with_reducible refine Kd.C_drew ?_)))
           (case side4 => exact iP.out)
           (case side5 => repeat (first | exact (Kd.C_below mI.out (uo bM.out bN.out bP.out bR.out bT.out bW.out b1.out b8.out cE.out cK.out cT.out dD.out dL.out dO.out dQ.out HB.out)) | (with_reducible refine Kd.C_alloc ?_ _) | (with_reducible refine Kd.C_drewN ?_ _) | (with_reducible refine Kd.C_drew ?_)))
           (case side6 => exact mJ.out)
           (case side7 => repeat (first | exact (Kd.C_below mK.out (uo bM.out bN.out bP.out bR.out bT.out bW.out b1.out b8.out cE.out cK.out cT.out dD.out dL.out dO.out dQ.out HB.out)) | (with_reducible refine Kd.C_alloc ?_ _) | (with_reducible refine Kd.C_drewN ?_ _) | (with_reducible refine Kd.C_drew ?_)))
           (case side8 => exact mL.out)
           rintro e w664 ⟨rfl, hb⟩
           refine ⟨_, rfl, ?_⟩
           replace cN := rb cN hb
           replace cO := rb cO hb
           replace a6 := vw a6 hb
           replace a7 := vw a7 hb
           replace a8 := vw a8 hb
           replace a9 := vw a9 hb
           replace bA := vw bA hb
           replace bB := vw bB hb
           replace bC := vw bC hb
           replace bD := vw bD hb
           replace bE := vw bE hb
           replace bF := vw bF hb
           replace bG := vw bG hb
           replace bH := vw bH hb
           replace bI := vw bI hb
           replace bJ := vw bJ hb
           replace bK := vw bK hb
           replace bL := vw bL hb
           replace aL := ak (blk_below (pk aL.out) hb)
           replace aB := ak (blk_below (pk aB.out) hb)
           replace aC := ak (blk_below (pk aC.out) hb)
           replace aT := ak (blk_below (pk aT.out) hb)
           replace aY := ak (blk_below (pk aY.out) hb)
           replace a2 := ak (blk_below (pk a2.out) hb)
           replace a4 := ak (blk_below (pk a4.out) hb)
           replace a5 := ak (blk_below (pk a5.out) hb)
           replace bO := ak (blk_below (pk bO.out) hb)
           replace bS := ak (blk_below (pk bS.out) hb)
           replace bV := ak (blk_below (pk bV.out) hb)
           replace bU := ak (blk_below (pk bU.out) hb)
           replace bX := ak (blk_below (pk bX.out) hb)
           replace b4 := ak (blk_below (pk b4.out) hb)
           replace cA := ak (blk_below (pk cA.out) hb)
           replace HB := ak (below_step (uo bM.out bN.out bP.out bR.out bT.out bW.out b1.out b8.out cE.out cK.out cT.out dD.out dL.out dO.out dQ.out HB.out) hb)
           (try clear hb)
           (try clear hb2)
           (try clear hk)
           (try clear hi)
           refine hK.out _ _ ⟨(blk_cell aB.out 0).trans rfl, (blk_cell aB.out 1).trans rfl, (blk_cell aB.out 2).trans rfl, (blk_cell aB.out 3).trans rfl, (blk_cell aB.out 4).trans rfl, (blk_cell aC.out 0).trans rfl, (blk_cell aC.out 1).trans rfl, (blk_cell aC.out 2).trans rfl, (blk_cell aC.out 3).trans rfl, (blk_cell aC.out 4).trans rfl⟩ (fun hHeld => ?_)
           clear hK K
           refine norm_ (a' := ?_) ?_ ?_
           rotate_left
           ·show Act.put _ (some 203) _ = _
            simp only [Act.put, List.setIfInBounds_toArray, List.set_cons_zero, List.set_cons_succ, i64_w, i32_w]
            rfl
           refine one_ (i := 35) (N := some 206) (tb 51 68719476735) rfl rfl (one_of HT_.out (by kernel_rfl)) (by decide) (fun K hK => ?_)
           refine goes_ Try.func21 (by kernel_rfl) rfl #[.agg #[.int .i64 aE, .slice cR aD.length cS, .slice cW aF.length cX, .int .i64 aG, .int .u64 aJ], .agg #[.int .i64 bQ, .slice cC aM.length cD, .slice cF aN.length cG, .int .i64 aS, .int .u64 aU]] (by rfl) rfl rfl mp ?_
           with_reducible refine (stanchionref17_Same.calls kj474 aE _ _ aD _ _ aF aG aJ bQ _ _ aM _ _ aN aS aU kT _ ?side1 ?side2 ?side3 ?side4 ?side5 ?side6 ?side7 ?side8 A654.out).mono ?_
           (case side1 => exact pc (Kd.C_below iM.out HB.out))
           (case side2 => exact iN.out)
           (case side3 => exact pc (Kd.C_below iO.out HB.out))
           (case side4 => exact iP.out)
           (case side5 => exact pc (Kd.C_below mI.out HB.out))
           (case side6 => exact mJ.out)
           (case side7 => exact pc (Kd.C_below mK.out HB.out))
           (case side8 => exact mL.out)
           rintro e w665 ⟨rfl, hb⟩
           refine ⟨_, rfl, ?_⟩
           replace cN := rb cN hb
           replace cO := rb cO hb
           replace a6 := vw a6 hb
           replace a7 := vw a7 hb
           replace a8 := vw a8 hb
           replace a9 := vw a9 hb
           replace bA := vw bA hb
           replace bB := vw bB hb
           replace bC := vw bC hb
           replace bD := vw bD hb
           replace bE := vw bE hb
           replace bF := vw bF hb
           replace bG := vw bG hb
           replace bH := vw bH hb
           replace bI := vw bI hb
           replace bJ := vw bJ hb
           replace bK := vw bK hb
           replace bL := vw bL hb
           replace aL := bb aL hb
           replace aB := bb aB hb
           replace aC := bb aC hb
           replace aT := bb aT hb
           replace aY := bb aY hb
           replace a2 := bb a2 hb
           replace a4 := bb a4 hb
           replace a5 := bb a5 hb
           replace bO := bb bO hb
           replace bS := bb bS hb
           replace bV := bb bV hb
           replace bU := bb bU hb
           replace bX := bb bX hb
           replace b4 := bb b4 hb
           replace cA := bb cA hb
           replace HB := ak (below_step (uo bM.out bN.out bP.out bR.out bT.out bW.out b1.out b8.out cE.out cK.out cT.out dD.out dL.out dO.out dQ.out HB.out) hb)
           (try clear hb)
           (try clear hb2)
           (try clear hk)
           (try clear hi)
           refine hK.out _ _ ⟨(blk_cell aB.out 0).trans rfl, (blk_cell aB.out 1).trans rfl, (blk_cell aB.out 2).trans rfl, (blk_cell aB.out 3).trans rfl, (blk_cell aB.out 4).trans rfl, (blk_cell aC.out 0).trans rfl, (blk_cell aC.out 1).trans rfl, (blk_cell aC.out 2).trans rfl, (blk_cell aC.out 3).trans rfl, (blk_cell aC.out 4).trans rfl⟩ (fun hHeld => ?_)
           clear hK K
           refine norm_ (a' := ?_) ?_ ?_
           rotate_left
           ·show Act.put _ (some 206) _ = _
            simp only [Act.put, List.setIfInBounds_toArray, List.set_cons_zero, List.set_cons_succ, i64_w, i32_w]
            rfl
           refine qa 36 207 (tb 51 137438953471) (any_of HT_.out (by kernel_rfl)) ?_
           refine qa 37 208 (tb 51 274877906943) (any_of HT_.out (by kernel_rfl)) ?_
           refine qa 38 209 (tb 51 549755813887) (any_of HT_.out (by kernel_rfl)) ?_
           refine kj 39 210 (tb 51 1099511627775) (take_ofW HT_.out HW_.out (by kernel_rfl)) hHeld ?_
           refine kj 40 211 (tb 51 2199023255551) (take_ofW HT_.out HW_.out (by kernel_rfl)) hHeld ?_
           refine one_ (i := 41) (N := some 212) (tb 51 4398046511103) rfl rfl (one_of HT_.out (by kernel_rfl)) (by decide) (fun K hK => ?_)
           refine goes_ Try.func23 (by kernel_rfl) rfl #[.agg #[.int .i64 aE, .slice cR aD.length cS, .slice cW aF.length cX, .int .i64 aG, .int .u64 aJ], .agg #[.int .i64 aE, .slice cR aD.length cS, .slice cW aF.length cX, .int .i64 aG, .int .u64 aJ]] (by rfl) rfl rfl mp ?_
           with_reducible refine (session_Same.calls kj474 aE _ _ aD _ _ aF aG aJ aE _ _ aD _ _ aF aG aJ true _ ?side1 ?side2 ?side3 ?side4 ?side5 ?side6 ?side7 ?side8 A656.out).mono ?_
           (case side1 => exact pc (Kd.C_below iM.out HB.out))
           (case side2 => exact iN.out)
           (case side3 => exact pc (Kd.C_below iO.out HB.out))
           (case side4 => exact iP.out)
           (case side5 => exact pc (Kd.C_below iM.out HB.out))
           (case side6 => exact iN.out)
           (case side7 => exact pc (Kd.C_below iO.out HB.out))
           (case side8 => exact iP.out)
           rintro e w666 ⟨rfl, hb⟩
           refine ⟨_, rfl, ?_⟩
           replace cN := rb cN hb
           replace cO := rb cO hb
           replace a6 := vw a6 hb
           replace a7 := vw a7 hb
           replace a8 := vw a8 hb
           replace a9 := vw a9 hb
           replace bA := vw bA hb
           replace bB := vw bB hb
           replace bC := vw bC hb
           replace bD := vw bD hb
           replace bE := vw bE hb
           replace bF := vw bF hb
           replace bG := vw bG hb
           replace bH := vw bH hb
           replace bI := vw bI hb
           replace bJ := vw bJ hb
           replace bK := vw bK hb
           replace bL := vw bL hb
           replace aL := bb aL hb
           replace aB := bb aB hb
           replace aC := bb aC hb
           replace aT := bb aT hb
           replace aY := bb aY hb
           replace a2 := bb a2 hb
           replace a4 := bb a4 hb
           replace a5 := bb a5 hb
           replace bO := bb bO hb
           replace bS := bb bS hb
           replace bV := bb bV hb
           replace bU := bb bU hb
           replace bX := bb bX hb
           replace b4 := bb b4 hb
           replace cA := bb cA hb
           replace HB := ak (below_step (uo bM.out bN.out bP.out bR.out bT.out bW.out b1.out b8.out cE.out cK.out cT.out dD.out dL.out dO.out dQ.out HB.out) hb)
           (try clear hb)
           (try clear hb2)
           (try clear hk)
           (try clear hi)
           refine hK.out _ _ ⟨(blk_cell aB.out 0).trans rfl, (blk_cell aB.out 1).trans rfl, (blk_cell aB.out 2).trans rfl, (blk_cell aB.out 3).trans rfl, (blk_cell aB.out 4).trans rfl, (blk_cell aC.out 0).trans rfl, (blk_cell aC.out 1).trans rfl, (blk_cell aC.out 2).trans rfl, (blk_cell aC.out 3).trans rfl, (blk_cell aC.out 4).trans rfl⟩ (fun hHeld => ?_)
           clear hK K
           refine norm_ (a' := ?_) ?_ ?_
           rotate_left
           ·show Act.put _ (some 212) _ = _
            simp only [Act.put, List.setIfInBounds_toArray, List.set_cons_zero, List.set_cons_succ, i64_w, i32_w]
            rfl
           refine qa 42 213 (tb 51 8796093022207) (any_of HT_.out (by kernel_rfl)) ?_
           refine qa 43 214 (tb 51 17592186044415) (any_of HT_.out (by kernel_rfl)) ?_
           refine qa 44 215 (tb 51 35184372088831) (any_of HT_.out (by kernel_rfl)) ?_
           refine qa 46 217 (tb 51 105553116266495) (any_of HT_.out (by kernel_rfl)) ?_
           refine one_ (i := 45) (N := some 216) (tb 51 140737488355327) rfl rfl (one_of HT_.out (by kernel_rfl)) (by decide) (fun K hK => ?_)
           refine goes_ Try.func36 (by kernel_rfl) rfl #[.int .i64 b3] (by rfl) rfl rfl mp ?_
           with_reducible refine (session_New.calls b3 t749 t750 t753 t756 t757 _ A658.out).mono ?_
           rintro e w667 ⟨v751, v754, rfl, jC, jE, hb⟩
           refine ⟨_, rfl, ?_⟩
           have m8 := ak (Kd.R_lower (Kd.R_newB (Kd.R_newB (Kd.R_newB (Kd.R_newB (Kd.R_new' (Kd.R_new' jC (Kd.R_lt (pR cN.out))) (Kd.R_lt (pR cO.out))) (pk bU.out)) (pk bX.out)) (pk b4.out)) (pk cA.out)) (below_size (uo bM.out bN.out bP.out bR.out bT.out bW.out b1.out b8.out cE.out cK.out cT.out dD.out dL.out dO.out dQ.out HB.out)))
           have m9 := ak (Kd.R_lower jE (below_size (uo bM.out bN.out bP.out bR.out bT.out bW.out b1.out b8.out cE.out cK.out cT.out dD.out dL.out dO.out dQ.out HB.out)))
           replace cN := ak (Kd.R_elder' (pR cN.out) (Kd.R_base jC) hb)
           replace cO := ak (Kd.R_elder' (pR cO.out) (Kd.R_base jC) hb)
           replace a6 := ak (Kd.V_mono (Kd.V_told (Kd.V_told (Kd.V_old (pV a6.out) hb) (Kd.R_base jC)) (Kd.R_base jE)) (fun _ h_ => h_.1))
           replace a7 := ak (Kd.V_mono (Kd.V_told (Kd.V_told (Kd.V_old (pV a7.out) hb) (Kd.R_base jC)) (Kd.R_base jE)) (fun _ h_ => h_.1))
           replace a8 := ak (Kd.V_mono (Kd.V_told (Kd.V_told (Kd.V_old (pV a8.out) hb) (Kd.R_base jC)) (Kd.R_base jE)) (fun _ h_ => h_.1))
           replace a9 := ak (Kd.V_mono (Kd.V_told (Kd.V_told (Kd.V_old (pV a9.out) hb) (Kd.R_base jC)) (Kd.R_base jE)) (fun _ h_ => h_.1))
           replace bA := ak (Kd.V_mono (Kd.V_told (Kd.V_told (Kd.V_old (pV bA.out) hb) (Kd.R_base jC)) (Kd.R_base jE)) (fun _ h_ => h_.1))
           replace bB := ak (Kd.V_mono (Kd.V_told (Kd.V_told (Kd.V_old (pV bB.out) hb) (Kd.R_base jC)) (Kd.R_base jE)) (fun _ h_ => h_.1))
           replace bC := ak (Kd.V_mono (Kd.V_told (Kd.V_told (Kd.V_old (pV bC.out) hb) (Kd.R_base jC)) (Kd.R_base jE)) (fun _ h_ => h_.1))
           replace bD := ak (Kd.V_mono (Kd.V_told (Kd.V_told (Kd.V_old (pV bD.out) hb) (Kd.R_base jC)) (Kd.R_base jE)) (fun _ h_ => h_.1))
           replace bE := ak (Kd.V_mono (Kd.V_told (Kd.V_told (Kd.V_old (pV bE.out) hb) (Kd.R_base jC)) (Kd.R_base jE)) (fun _ h_ => h_.1))
           replace bF := ak (Kd.V_mono (Kd.V_told (Kd.V_told (Kd.V_old (pV bF.out) hb) (Kd.R_base jC)) (Kd.R_base jE)) (fun _ h_ => h_.1))
           replace bG := ak (Kd.V_mono (Kd.V_told (Kd.V_told (Kd.V_old (pV bG.out) hb) (Kd.R_base jC)) (Kd.R_base jE)) (fun _ h_ => h_.1))
           replace bH := ak (Kd.V_mono (Kd.V_told (Kd.V_told (Kd.V_old (pV bH.out) hb) (Kd.R_base jC)) (Kd.R_base jE)) (fun _ h_ => h_.1))
           replace bI := ak (Kd.V_mono (Kd.V_told (Kd.V_told (Kd.V_old (pV bI.out) hb) (Kd.R_base jC)) (Kd.R_base jE)) (fun _ h_ => h_.1))
           replace bJ := ak (Kd.V_mono (Kd.V_told (Kd.V_told (Kd.V_old (pV bJ.out) hb) (Kd.R_base jC)) (Kd.R_base jE)) (fun _ h_ => h_.1))
           replace bK := ak (Kd.V_mono (Kd.V_told (Kd.V_told (Kd.V_old (pV bK.out) hb) (Kd.R_base jC)) (Kd.R_base jE)) (fun _ h_ => h_.1))
           replace bL := ak (Kd.V_mono (Kd.V_told (Kd.V_told (Kd.V_old (pV bL.out) hb) (Kd.R_base jC)) (Kd.R_base jE)) (fun _ h_ => h_.1))
           replace aL := bb aL hb
           replace aB := bb aB hb
           replace aC := bb aC hb
           replace aT := bb aT hb
           replace aY := bb aY hb
           replace a2 := bb a2 hb
           replace a4 := bb a4 hb
           replace a5 := bb a5 hb
           replace bO := bb bO hb
           replace bS := bb bS hb
           replace bV := bb bV hb
           replace bU := bb bU hb
           replace bX := bb bX hb
           replace b4 := bb b4 hb
           replace cA := bb cA hb
           replace HB := ak (below_step (uo bM.out bN.out bP.out bR.out bT.out bW.out b1.out b8.out cE.out cK.out cT.out dD.out dL.out dO.out dQ.out HB.out) hb)
           (try clear hb)
           (try clear hb2)
           (try clear hk)
           (try clear hi)
           (try clear jC)
           (try clear jE)
           refine hK.out _ _ ⟨(blk_cell aB.out 0).trans rfl, (blk_cell aB.out 1).trans rfl, (blk_cell aB.out 2).trans rfl, (blk_cell aB.out 3).trans rfl, (blk_cell aB.out 4).trans rfl, (blk_cell aC.out 0).trans rfl, (blk_cell aC.out 1).trans rfl, (blk_cell aC.out 2).trans rfl, (blk_cell aC.out 3).trans rfl, (blk_cell aC.out 4).trans rfl⟩ (fun hHeld => ?_)
           clear hK K
           refine norm_ (a' := ?_) ?_ ?_
           rotate_left
           ·show Act.put _ (some 216) _ = _
            simp only [Act.put, List.setIfInBounds_toArray, List.set_cons_zero, List.set_cons_succ, i64_w, i32_w]
            rfl
           refine one_ (i := 47) (N := some 218) (tb 51 281474976710655) rfl rfl (one_of HT_.out (by kernel_rfl)) (by decide) (fun K hK => ?_)
           refine goes_ Try.func37 (by kernel_rfl) rfl #[.int .i64 b3] (by rfl) rfl rfl mp ?_
           with_reducible refine (stanchionref17_New.calls b3 t758 t759 t762 t765 t766 _ A659.out).mono ?_
           rintro e w668 ⟨v760, v763, rfl, jC, jE, hb⟩
           refine ⟨_, rfl, ?_⟩
           have oB := ak (Kd.R_lower (Kd.R_newB (Kd.R_newB (Kd.R_newB (Kd.R_newB (Kd.R_new' (Kd.R_new' (Kd.R_new' jC (Kd.R_lt (pR cN.out))) (Kd.R_lt (pR cO.out))) (Kd.R_lt (pR m8.out))) (pk bU.out)) (pk bX.out)) (pk b4.out)) (pk cA.out)) (below_size (uo bM.out bN.out bP.out bR.out bT.out bW.out b1.out b8.out cE.out cK.out cT.out dD.out dL.out dO.out dQ.out HB.out)))
           have oC := ak (Kd.R_lower (Kd.R_new' jE (Kd.R_lt (pR m9.out))) (below_size (uo bM.out bN.out bP.out bR.out bT.out bW.out b1.out b8.out cE.out cK.out cT.out dD.out dL.out dO.out dQ.out HB.out)))
           replace cN := ak (Kd.R_elder' (pR cN.out) (Kd.R_base jC) hb)
           replace cO := ak (Kd.R_elder' (pR cO.out) (Kd.R_base jC) hb)
           replace a6 := ak (Kd.V_mono (Kd.V_told (Kd.V_told (Kd.V_old (pV a6.out) hb) (Kd.R_base jC)) (Kd.R_base jE)) (fun _ h_ => h_.1))
           replace a7 := ak (Kd.V_mono (Kd.V_told (Kd.V_told (Kd.V_old (pV a7.out) hb) (Kd.R_base jC)) (Kd.R_base jE)) (fun _ h_ => h_.1))
           replace a8 := ak (Kd.V_mono (Kd.V_told (Kd.V_told (Kd.V_old (pV a8.out) hb) (Kd.R_base jC)) (Kd.R_base jE)) (fun _ h_ => h_.1))
           replace a9 := ak (Kd.V_mono (Kd.V_told (Kd.V_told (Kd.V_old (pV a9.out) hb) (Kd.R_base jC)) (Kd.R_base jE)) (fun _ h_ => h_.1))
           replace bA := ak (Kd.V_mono (Kd.V_told (Kd.V_told (Kd.V_old (pV bA.out) hb) (Kd.R_base jC)) (Kd.R_base jE)) (fun _ h_ => h_.1))
           replace bB := ak (Kd.V_mono (Kd.V_told (Kd.V_told (Kd.V_old (pV bB.out) hb) (Kd.R_base jC)) (Kd.R_base jE)) (fun _ h_ => h_.1))
           replace bC := ak (Kd.V_mono (Kd.V_told (Kd.V_told (Kd.V_old (pV bC.out) hb) (Kd.R_base jC)) (Kd.R_base jE)) (fun _ h_ => h_.1))
           replace bD := ak (Kd.V_mono (Kd.V_told (Kd.V_told (Kd.V_old (pV bD.out) hb) (Kd.R_base jC)) (Kd.R_base jE)) (fun _ h_ => h_.1))
           replace bE := ak (Kd.V_mono (Kd.V_told (Kd.V_told (Kd.V_old (pV bE.out) hb) (Kd.R_base jC)) (Kd.R_base jE)) (fun _ h_ => h_.1))
           replace bF := ak (Kd.V_mono (Kd.V_told (Kd.V_told (Kd.V_old (pV bF.out) hb) (Kd.R_base jC)) (Kd.R_base jE)) (fun _ h_ => h_.1))
           replace bG := ak (Kd.V_mono (Kd.V_told (Kd.V_told (Kd.V_old (pV bG.out) hb) (Kd.R_base jC)) (Kd.R_base jE)) (fun _ h_ => h_.1))
           replace bH := ak (Kd.V_mono (Kd.V_told (Kd.V_told (Kd.V_old (pV bH.out) hb) (Kd.R_base jC)) (Kd.R_base jE)) (fun _ h_ => h_.1))
           replace bI := ak (Kd.V_mono (Kd.V_told (Kd.V_told (Kd.V_old (pV bI.out) hb) (Kd.R_base jC)) (Kd.R_base jE)) (fun _ h_ => h_.1))
           replace bJ := ak (Kd.V_mono (Kd.V_told (Kd.V_told (Kd.V_old (pV bJ.out) hb) (Kd.R_base jC)) (Kd.R_base jE)) (fun _ h_ => h_.1))
           replace bK := ak (Kd.V_mono (Kd.V_told (Kd.V_told (Kd.V_old (pV bK.out) hb) (Kd.R_base jC)) (Kd.R_base jE)) (fun _ h_ => h_.1))
           replace bL := ak (Kd.V_mono (Kd.V_told (Kd.V_told (Kd.V_old (pV bL.out) hb) (Kd.R_base jC)) (Kd.R_base jE)) (fun _ h_ => h_.1))
           replace m8 := ak (Kd.R_elder' (pR m8.out) (Kd.R_base jC) hb)
           replace m9 := ak (Kd.R_elder' (pR m9.out) (Kd.R_base jE) hb)
           replace aL := bb aL hb
           replace aB := bb aB hb
           replace aC := bb aC hb
           replace aT := bb aT hb
           replace aY := bb aY hb
           replace a2 := bb a2 hb
           replace a4 := bb a4 hb
           replace a5 := bb a5 hb
           replace bO := bb bO hb
           replace bS := bb bS hb
           replace bV := bb bV hb
           replace bU := bb bU hb
           replace bX := bb bX hb
           replace b4 := bb b4 hb
           replace cA := bb cA hb
           replace HB := ak (below_step (uo bM.out bN.out bP.out bR.out bT.out bW.out b1.out b8.out cE.out cK.out cT.out dD.out dL.out dO.out dQ.out HB.out) hb)
           (try clear hb)
           (try clear hb2)
           (try clear hk)
           (try clear hi)
           (try clear jC)
           (try clear jE)
           obtain ⟨Ao669, co669, eo669⟩ := Kd.R_slice m8.out
           (first | subst eo669 | (injection eo669 with f1_ f2_ f3_; have m5 := f1_.symm; have m6 := f3_.symm; clear f1_ f2_ f3_; subst m5; subst m6))
           obtain ⟨Ao670, co670, eo670⟩ := Kd.R_slice m9.out
           (first | subst eo670 | (injection eo670 with f1_ f2_ f3_; have m5 := f1_.symm; have m6 := f3_.symm; clear f1_ f2_ f3_; subst m5; subst m6))
           obtain ⟨Ao671, co671, eo671⟩ := Kd.R_slice oB.out
           (first | subst eo671 | (injection eo671 with f1_ f2_ f3_; have m5 := f1_.symm; have m6 := f3_.symm; clear f1_ f2_ f3_; subst m5; subst m6))
           obtain ⟨Ao672, co672, eo672⟩ := Kd.R_slice oC.out
           (first | subst eo672 | (injection eo672 with f1_ f2_ f3_; have m5 := f1_.symm; have m6 := f3_.symm; clear f1_ f2_ f3_; subst m5; subst m6))
           refine hK.out _ _ ⟨(blk_cell aB.out 0).trans rfl, (blk_cell aB.out 1).trans rfl, (blk_cell aB.out 2).trans rfl, (blk_cell aB.out 3).trans rfl, (blk_cell aB.out 4).trans rfl, (blk_cell aC.out 0).trans rfl, (blk_cell aC.out 1).trans rfl, (blk_cell aC.out 2).trans rfl, (blk_cell aC.out 3).trans rfl, (blk_cell aC.out 4).trans rfl⟩ (fun hHeld => ?_)
           clear hK K
           refine norm_ (a' := ?_) ?_ ?_
           rotate_left
           ·show Act.put _ (some 218) _ = _
            simp only [Act.put, List.setIfInBounds_toArray, List.set_cons_zero, List.set_cons_succ, i64_w, i32_w]
            rfl
           refine one_ (i := 48) (N := some 219) (tb 51 562949953421311) rfl rfl (one_of HT_.out (by kernel_rfl)) (by decide) (fun K hK => ?_)
           refine goes_ Try.func21 (by kernel_rfl) rfl #[.agg #[.int .i64 t749, .slice Ao669 t750.length co669, .slice Ao670 t753.length co670, .int .i64 t756, .int .u64 t757], .agg #[.int .i64 t758, .slice Ao671 t759.length co671, .slice Ao672 t762.length co672, .int .i64 t765, .int .u64 t766]] (by rfl) rfl rfl mp ?_
           with_reducible refine (stanchionref17_Same.calls kj474 t749 _ _ t750 _ _ t753 t756 t757 t758 _ _ t759 _ _ t762 t765 t766 kU _ ?side1 ?side2 ?side3 ?side4 ?side5 ?side6 ?side7 ?side8 A660.out).mono ?_
           (case side1 => exact pc (Kd.R_reads' m8.out).2.2)
           (case side2 => exact (Kd.R_reads' m8.out).2.1)
           (case side3 => exact pc (Kd.R_reads' m9.out).2.2)
           (case side4 => exact (Kd.R_reads' m9.out).2.1)
           (case side5 => exact pc (Kd.R_reads' oB.out).2.2)
           (case side6 => exact (Kd.R_reads' oB.out).2.1)
           (case side7 => exact pc (Kd.R_reads' oC.out).2.2)
           (case side8 => exact (Kd.R_reads' oC.out).2.1)
           rintro e w673 ⟨rfl, hb⟩
           refine ⟨_, rfl, ?_⟩
           replace cN := rb cN hb
           replace cO := rb cO hb
           replace a6 := vw a6 hb
           replace a7 := vw a7 hb
           replace a8 := vw a8 hb
           replace a9 := vw a9 hb
           replace bA := vw bA hb
           replace bB := vw bB hb
           replace bC := vw bC hb
           replace bD := vw bD hb
           replace bE := vw bE hb
           replace bF := vw bF hb
           replace bG := vw bG hb
           replace bH := vw bH hb
           replace bI := vw bI hb
           replace bJ := vw bJ hb
           replace bK := vw bK hb
           replace bL := vw bL hb
           replace m8 := rb m8 hb
           replace m9 := rb m9 hb
           replace oB := rb oB hb
           replace oC := rb oC hb
           replace aL := bb aL hb
           replace aB := bb aB hb
           replace aC := bb aC hb
           replace aT := bb aT hb
           replace aY := bb aY hb
           replace a2 := bb a2 hb
           replace a4 := bb a4 hb
           replace a5 := bb a5 hb
           replace bO := bb bO hb
           replace bS := bb bS hb
           replace bV := bb bV hb
           replace bU := bb bU hb
           replace bX := bb bX hb
           replace b4 := bb b4 hb
           replace cA := bb cA hb
           replace HB := ak (below_step (uo bM.out bN.out bP.out bR.out bT.out bW.out b1.out b8.out cE.out cK.out cT.out dD.out dL.out dO.out dQ.out HB.out) hb)
           (try clear hb)
           (try clear hb2)
           (try clear hk)
           (try clear hi)
           refine hK.out _ _ ⟨(blk_cell aB.out 0).trans rfl, (blk_cell aB.out 1).trans rfl, (blk_cell aB.out 2).trans rfl, (blk_cell aB.out 3).trans rfl, (blk_cell aB.out 4).trans rfl, (blk_cell aC.out 0).trans rfl, (blk_cell aC.out 1).trans rfl, (blk_cell aC.out 2).trans rfl, (blk_cell aC.out 3).trans rfl, (blk_cell aC.out 4).trans rfl⟩ (fun hHeld => ?_)
           clear hK K
           refine norm_ (a' := ?_) ?_ ?_
           rotate_left
           ·show Act.put _ (some 219) _ = _
            simp only [Act.put, List.setIfInBounds_toArray, List.set_cons_zero, List.set_cons_succ, i64_w, i32_w]
            rfl
           refine qa 49 220 (tb 51 1125899906842623) (any_of HT_.out (by kernel_rfl)) ?_
           refine qa 50 2 (tb 51 2251799813685247) (any_of HT_.out (by kernel_rfl)) ?_
           refine done_ (done_of HT_.out (by kernel_rfl)) ?_
           try go_wp2
           first | go_ret | ((try simp only [Exit.inBlock, Exit.then]); refine bodyPost_ret (results_tmp rfl _ _ _) ?hd_ ?hR_; (case hd_ => rfl))
           exact ⟨by first | rfl | (simp [errW_none, errW_some] <;> rfl) | (simp [*, errW_none, errW_some] <;> rfl), uo bM.out bN.out bP.out bR.out bT.out bW.out b1.out b8.out cE.out cK.out cT.out dD.out dL.out dO.out dQ.out HB.out⟩
          ·replace c657 := Bool.eq_false_iff.mpr c657
           subst c657
           rw [if_neg (show ¬ (false = true) by decide)] at H
           obtain rfl := Option.some.inj H
           exact absurd hr_ (by decide)
         ·rw [if_neg nE] at H
          have c655b0 : (kV == kT) = false := by simpa using nE
          (try (have c655b1 : decide (kV = kT) = false := by simpa using nE))
          (try (have c655b2 : (kV == kT) = false := by simpa using nE))
          (try (have c655b3 : ¬ (kV = kT) := by simpa using nE))
          clear nE
          obtain rfl := Option.some.inj H
          exact absurd hr_ (by decide)
        ·replace c652 := Bool.eq_false_iff.mpr c652
         subst c652
         rw [if_neg (show ¬ (false = true) by decide)] at H
         obtain rfl := Option.some.inj H
         exact absurd hr_ (by decide)
       ·replace c651 := Bool.eq_false_iff.mpr c651
        subst c651
        rw [if_neg (show ¬ (false = true) by decide)] at H
        obtain rfl := Option.some.inj H
        exact absurd hr_ (by decide)
      ·rw [if_neg oW] at H
       have c649b0 : (eV == e2) = false := beq_eq_false_iff_ne.mpr oW
       have c649b1 : (eV != e2) = true := bne_iff_ne.mpr oW
       obtain rfl := Option.some.inj H
       exact absurd hr_ (by decide)
     ·rw [if_neg oV] at H
      have c648b0 : (eH == eQ) = false := beq_eq_false_iff_ne.mpr oV
      have c648b1 : (eH != eQ) = true := bne_iff_ne.mpr oV
      obtain rfl := Option.some.inj H
      exact absurd hr_ (by decide)
    ·rw [if_neg oU] at H
     have c647b0 : (d0 == d9) = false := beq_eq_false_iff_ne.mpr oU
     have c647b1 : (d0 != d9) = true := bne_iff_ne.mpr oU
     obtain rfl := Option.some.inj H
     exact absurd hr_ (by decide)
   ·rw [if_neg oT] at H
    have c646b0 : (dZ == d8) = false := beq_eq_false_iff_ne.mpr oT
    have c646b1 : (dZ != d8) = true := bne_iff_ne.mpr oT
    obtain rfl := Option.some.inj H
    exact absurd hr_ (by decide)
  ·replace c645 := Bool.eq_false_iff.mpr c645
   subst c645
   rw [if_neg (show ¬ (false = true) by decide)] at H
   obtain rfl := Option.some.inj H
   exact absurd hr_ (by decide)

/-! ### stanchionlaw17_SessionActs: function 9, region 24 -/
set_option maxHeartbeats 64000000 in
set_option maxRecDepth 100000 in
theorem stanchionlaw17_SessionActs.rB {aE : Int} {cR : Option Addr} {cS : Nat} {aD : List S42} {cW : Option Addr} {cX : Nat} {aF : List S85} {aG aJ dG dR eG b3 bQ : Int} {cC : Option Addr} {cD : Nat} {aM : List S42} {cF : Option Addr} {cG : Nat} {aN : List S85} {aS aU : Int} {r : Bool} {w : World} {mG nT : Bool} {a3 aZ a0 kj3 : Nat} {eX : Int} {dS : List S42} {dT : List S85} {e1 e3 dZ d0 eZ : Int} {d1 : List S42} {d3 : List S85} {fB fF d8 d9 fM : Int} {eN : List S42} {eP : List S85} {f1 gC eH fX : Int} {eT : List S42} {eU : List S85} {gL gQ eQ f2 : Int} {eY : List S42} {e0 : List S85} {gR gS eV gM : Int} {fC : List S42} {fG : List S85} {g2 g4 e2 gN : Int} {fN : List S42} {fV : List S85} {g3 g5 : Int} {eW : List S42} {gT : Int} {gD : List S42} {gO : List S85} {g7 hB : Int} {e4 : List S42} {dU dX : Int} {dY : Bool} {d2 : ByteArray} {d4 d5 : Int} {gU : Bool} {d6 d7 : Int} {eA : Bool} {eB : ByteArray} {eD eE : Int} {hC : Bool} {eF eI : Int} {eL : Bool} {eM : ByteArray} {eO eR : Int} {jV : Bool} {b0 b2 : Int} {b5 : Bool} {b9 : ByteArray} {cB cH : Int} {kG : Bool} {a1 : Nat} {fY : Option Addr} {fD : Nat} {f3 : Option Addr} {fH aX : Nat} {gE : Option Addr} {fO : Nat} {gP : Option Addr} {fW aV : Nat} {g8 : Option Addr} {g9 : Nat} {hD : Option Addr} {hE aQ : Nat} {hR : Option Addr} {hS : Nat} {hT : Option Addr} {hU aP : Nat} {hV : Option Addr} {hW : Nat} {iI : Option Addr} {iJ aR : Nat} {e9 : Option Addr} {fA : Nat} {fI : Option Addr} {fJ : Nat} {eC : Value} {aO : Nat} {fK : Option Addr} {fL : Nat} {fP : Option Addr} {fQ : Nat} {fE : Value} {aW : Nat} {fZ : Option Addr} {f0 : Nat} {gA : Option Addr} {gB aH aI aK aA : Nat} {wc : World} {nD : Bool} {kq : Nat} {u39 u40 u41 u42 u43 u44 u45 u46 u47 u48 u49 u50 u51 u52 u53 u54 u55 u56 u57 u58 u59 u60 u61 u62 u63 u64 u65 u66 u67 u68 u69 u70 u71 u72 u73 u74 u75 u76 u77 u78 u79 u80 u81 u82 u83 u84 u85 u86 u87 u88 u89 u90 u91 u92 u93 u94 u95 u96 u97 u98 u99 u100 u101 u102 u103 u104 u105 u106 u107 u108 u109 u110 u111 u112 u113 u114 u115 u116 u117 u118 u119 u120 u121 u122 u123 u124 u125 u126 u127 u128 u129 u130 u131 u132 u133 u134 u135 u136 u137 u138 u139 u140 u141 u142 u143 u144 u145 u146 u147 u148 u149 u150 u151 u152 u153 u154 u155 u156 u157 u158 u159 u160 u161 u162 u163 u164 u165 u166 u167 u168 u169 u170 u171 u172 u173 u174 u175 u176 u177 u178 u179 u180 u181 u182 u183 u184 u185 u186 u187 u188 u189 u190 u191 u192 u193 u194 u195 u196 u197 u198 u199 u200 u201 u202 u203 u204 u205 u206 u207 u208 u209 u210 u211 u212 u213 u214 u215 u216 u217 u218 u219 u220 : Value} {h b : Code} {K : Act → World → Prop} (hr_ : r = true) (iM : Aside0 (k42.C w cR aD.length aD)) (iN : Aside0 (aD.length ≤ cS)) (iO : Aside0 (k85.C w cW aF.length aF)) (iP : Aside0 (aF.length ≤ cX)) (mI : Aside0 (k42.C w cC aM.length aM)) (mJ : Aside0 (aM.length ≤ cD)) (mK : Aside0 (k85.C w cF aN.length aN)) (mL : Aside0 (aN.length ≤ cG)) (bM : Aside0 (w.heap.size ≤ a3)) (bN : Aside0 (w.heap.size ≤ aZ)) (bP : Aside0 (w.heap.size ≤ a0)) (bR : Aside0 (w.heap.size ≤ a1)) (bT : Aside0 (w.heap.size ≤ aX)) (bW : Aside0 (w.heap.size ≤ aV)) (b1 : Aside0 (w.heap.size ≤ aQ)) (b8 : Aside0 (w.heap.size ≤ aP)) (cE : Aside0 (w.heap.size ≤ aR)) (cK : Aside0 (w.heap.size ≤ aO)) (cT : Aside0 (w.heap.size ≤ aW)) (dD : Aside0 (w.heap.size ≤ aH)) (hF : Aside0 (a3 ≠ aH)) (lF : Aside0 (aH ≠ a3)) (hG : Aside0 (aZ ≠ aH)) (lG : Aside0 (aH ≠ aZ)) (hH : Aside0 (a0 ≠ aH)) (lH : Aside0 (aH ≠ a0)) (e5 : Aside0 (a1 ≠ aH)) (i5 : Aside0 (aH ≠ a1)) (e6 : Aside0 (aX ≠ aH)) (i6 : Aside0 (aH ≠ aX)) (fR : Aside0 (aV ≠ aH)) (jR : Aside0 (aH ≠ aV)) (fS : Aside0 (aQ ≠ aH)) (jS : Aside0 (aH ≠ aQ)) (gF : Aside0 (aP ≠ aH)) (j8 : Aside0 (aH ≠ aP)) (gG : Aside0 (aR ≠ aH)) (j9 : Aside0 (aH ≠ aR)) (gW : Aside0 (aO ≠ aH)) (kK : Aside0 (aH ≠ aO)) (gX : Aside0 (aW ≠ aH)) (kL : Aside0 (aH ≠ aW)) (dL : Aside0 (w.heap.size ≤ aI)) (hI : Aside0 (a3 ≠ aI)) (lI : Aside0 (aI ≠ a3)) (hJ : Aside0 (aZ ≠ aI)) (lJ : Aside0 (aI ≠ aZ)) (hL : Aside0 (a0 ≠ aI)) (lK : Aside0 (aI ≠ a0)) (e7 : Aside0 (a1 ≠ aI)) (i7 : Aside0 (aI ≠ a1)) (e8 : Aside0 (aX ≠ aI)) (i8 : Aside0 (aI ≠ aX)) (fT : Aside0 (aV ≠ aI)) (jT : Aside0 (aI ≠ aV)) (fU : Aside0 (aQ ≠ aI)) (jU : Aside0 (aI ≠ aQ)) (gH : Aside0 (aP ≠ aI)) (kA : Aside0 (aI ≠ aP)) (gI : Aside0 (aR ≠ aI)) (kB : Aside0 (aI ≠ aR)) (gY : Aside0 (aO ≠ aI)) (kM : Aside0 (aI ≠ aO)) (gZ : Aside0 (aW ≠ aI)) (kN : Aside0 (aI ≠ aW)) (hM : Aside0 (aH ≠ aI)) (lL : Aside0 (aI ≠ aH)) (dO : Aside0 (w.heap.size ≤ aK)) (i9 : Aside0 (a3 ≠ aK)) (mX : Aside0 (aK ≠ a3)) (jA : Aside0 (aZ ≠ aK)) (mY : Aside0 (aK ≠ aZ)) (jB : Aside0 (a0 ≠ aK)) (mZ : Aside0 (aK ≠ a0)) (gJ : Aside0 (a1 ≠ aK)) (kC : Aside0 (aK ≠ a1)) (gK : Aside0 (aX ≠ aK)) (kD : Aside0 (aK ≠ aX)) (g0 : Aside0 (aV ≠ aK)) (kO : Aside0 (aK ≠ aV)) (g1 : Aside0 (aQ ≠ aK)) (kP : Aside0 (aK ≠ aQ)) (hN : Aside0 (aP ≠ aK)) (lM : Aside0 (aK ≠ aP)) (hO : Aside0 (aR ≠ aK)) (lN : Aside0 (aK ≠ aR)) (iG : Aside0 (aO ≠ aK)) (mB : Aside0 (aK ≠ aO)) (iH : Aside0 (aW ≠ aK)) (mC : Aside0 (aK ≠ aW)) (hP : Aside0 (aH ≠ aK)) (lO : Aside0 (aK ≠ aH)) (hQ : Aside0 (aI ≠ aK)) (lP : Aside0 (aK ≠ aI)) (dQ : Aside0 (w.heap.size ≤ aA)) (dH : Aside0 (a3 ≠ aA)) (m0 : Aside0 (aA ≠ a3)) (dI : Aside0 (aZ ≠ aA)) (m1 : Aside0 (aA ≠ aZ)) (dJ : Aside0 (a0 ≠ aA)) (m2 : Aside0 (aA ≠ a0)) (cP : Aside0 (a1 ≠ aA)) (kE : Aside0 (aA ≠ a1)) (cQ : Aside0 (aX ≠ aA)) (kF : Aside0 (aA ≠ aX)) (cU : Aside0 (aV ≠ aA)) (kQ : Aside0 (aA ≠ aV)) (cV : Aside0 (aQ ≠ aA)) (kR : Aside0 (aA ≠ aQ)) (cY : Aside0 (aP ≠ aA)) (lQ : Aside0 (aA ≠ aP)) (cZ : Aside0 (aR ≠ aA)) (lR : Aside0 (aA ≠ aR)) (dE : Aside0 (aO ≠ aA)) (mD : Aside0 (aA ≠ aO)) (dF : Aside0 (aW ≠ aA)) (mE : Aside0 (aA ≠ aW)) (c0 : Aside0 (aH ≠ aA)) (lS : Aside0 (aA ≠ aH)) (dA : Aside0 (aI ≠ aA)) (lT : Aside0 (aA ≠ aI)) (dK : Aside0 (aK ≠ aA)) (m3 : Aside0 (aA ≠ aK)) (HA : Aside0 (stanchionlaw17_SessionActs.j1 kq b3 dZ d0 d8 d9 eH eQ eV e2 eW e4 gU hC jV kG nD aE aD aF aG aJ bQ aM aN aS aU dU dX dY d2 d4 d5 d6 d7 eA eB eD eE eF eI eL eM eO eR b0 b2 b5 b9 cB cH = some r)) (HJ31 : Aside0 (kq ≤ kj3)) (cN : Aside0 (Kd.R k42 42 wc w.heap.size (fun k_ => some k_ ≠ (fE : Value).ownBlock ∧ k_ ≠ aH ∧ k_ ≠ aI ∧ k_ ≠ aK ∧ k_ ≠ aA) eC eW)) (cO : Aside0 (Kd.R k42 42 wc w.heap.size (fun k_ => some k_ ≠ (eC : Value).ownBlock ∧ k_ ≠ aH ∧ k_ ≠ aI ∧ k_ ≠ aK ∧ k_ ≠ aA) fE e4)) (a6 : Aside0 (Kd.V k42 42 wc w.heap.size (fun k_ => some k_ ≠ (eC : Value).ownBlock ∧ some k_ ≠ (fE : Value).ownBlock ∧ k_ ≠ a3 ∧ k_ ≠ aZ ∧ k_ ≠ a0 ∧ k_ ≠ a1 ∧ k_ ≠ aX ∧ k_ ≠ aV ∧ k_ ≠ aQ ∧ k_ ≠ aP ∧ k_ ≠ aR ∧ k_ ≠ aO ∧ k_ ≠ aW ∧ k_ ≠ aH ∧ k_ ≠ aI ∧ k_ ≠ aK ∧ k_ ≠ aA) (.slice fY dS.length fD) dS)) (a7 : Aside0 (Kd.V k85 85 wc w.heap.size (fun k_ => some k_ ≠ (eC : Value).ownBlock ∧ some k_ ≠ (fE : Value).ownBlock ∧ k_ ≠ a3 ∧ k_ ≠ aZ ∧ k_ ≠ a0 ∧ k_ ≠ a1 ∧ k_ ≠ aX ∧ k_ ≠ aV ∧ k_ ≠ aQ ∧ k_ ≠ aP ∧ k_ ≠ aR ∧ k_ ≠ aO ∧ k_ ≠ aW ∧ k_ ≠ aH ∧ k_ ≠ aI ∧ k_ ≠ aK ∧ k_ ≠ aA) (.slice f3 dT.length fH) dT)) (a8 : Aside0 (Kd.V k42 42 wc w.heap.size (fun k_ => some k_ ≠ (eC : Value).ownBlock ∧ some k_ ≠ (fE : Value).ownBlock ∧ k_ ≠ a3 ∧ k_ ≠ aZ ∧ k_ ≠ a0 ∧ k_ ≠ a1 ∧ k_ ≠ aX ∧ k_ ≠ aV ∧ k_ ≠ aQ ∧ k_ ≠ aP ∧ k_ ≠ aR ∧ k_ ≠ aO ∧ k_ ≠ aW ∧ k_ ≠ aH ∧ k_ ≠ aI ∧ k_ ≠ aK ∧ k_ ≠ aA) (.slice gE d1.length fO) d1)) (a9 : Aside0 (Kd.V k85 85 wc w.heap.size (fun k_ => some k_ ≠ (eC : Value).ownBlock ∧ some k_ ≠ (fE : Value).ownBlock ∧ k_ ≠ a3 ∧ k_ ≠ aZ ∧ k_ ≠ a0 ∧ k_ ≠ a1 ∧ k_ ≠ aX ∧ k_ ≠ aV ∧ k_ ≠ aQ ∧ k_ ≠ aP ∧ k_ ≠ aR ∧ k_ ≠ aO ∧ k_ ≠ aW ∧ k_ ≠ aH ∧ k_ ≠ aI ∧ k_ ≠ aK ∧ k_ ≠ aA) (.slice gP d3.length fW) d3)) (bA : Aside0 (Kd.V k42 42 wc w.heap.size (fun k_ => some k_ ≠ (eC : Value).ownBlock ∧ some k_ ≠ (fE : Value).ownBlock ∧ k_ ≠ a3 ∧ k_ ≠ aZ ∧ k_ ≠ a0 ∧ k_ ≠ a1 ∧ k_ ≠ aX ∧ k_ ≠ aV ∧ k_ ≠ aQ ∧ k_ ≠ aP ∧ k_ ≠ aR ∧ k_ ≠ aO ∧ k_ ≠ aW ∧ k_ ≠ aH ∧ k_ ≠ aI ∧ k_ ≠ aK ∧ k_ ≠ aA) (.slice g8 eN.length g9) eN)) (bB : Aside0 (Kd.V k85 85 wc w.heap.size (fun k_ => some k_ ≠ (eC : Value).ownBlock ∧ some k_ ≠ (fE : Value).ownBlock ∧ k_ ≠ a3 ∧ k_ ≠ aZ ∧ k_ ≠ a0 ∧ k_ ≠ a1 ∧ k_ ≠ aX ∧ k_ ≠ aV ∧ k_ ≠ aQ ∧ k_ ≠ aP ∧ k_ ≠ aR ∧ k_ ≠ aO ∧ k_ ≠ aW ∧ k_ ≠ aH ∧ k_ ≠ aI ∧ k_ ≠ aK ∧ k_ ≠ aA) (.slice hD eP.length hE) eP)) (bC : Aside0 (Kd.V k42 42 wc w.heap.size (fun k_ => some k_ ≠ (eC : Value).ownBlock ∧ some k_ ≠ (fE : Value).ownBlock ∧ k_ ≠ a3 ∧ k_ ≠ aZ ∧ k_ ≠ a0 ∧ k_ ≠ a1 ∧ k_ ≠ aX ∧ k_ ≠ aV ∧ k_ ≠ aQ ∧ k_ ≠ aP ∧ k_ ≠ aR ∧ k_ ≠ aO ∧ k_ ≠ aW ∧ k_ ≠ aH ∧ k_ ≠ aI ∧ k_ ≠ aK ∧ k_ ≠ aA) (.slice hR eT.length hS) eT)) (bD : Aside0 (Kd.V k85 85 wc w.heap.size (fun k_ => some k_ ≠ (eC : Value).ownBlock ∧ some k_ ≠ (fE : Value).ownBlock ∧ k_ ≠ a3 ∧ k_ ≠ aZ ∧ k_ ≠ a0 ∧ k_ ≠ a1 ∧ k_ ≠ aX ∧ k_ ≠ aV ∧ k_ ≠ aQ ∧ k_ ≠ aP ∧ k_ ≠ aR ∧ k_ ≠ aO ∧ k_ ≠ aW ∧ k_ ≠ aH ∧ k_ ≠ aI ∧ k_ ≠ aK ∧ k_ ≠ aA) (.slice hT eU.length hU) eU)) (bE : Aside0 (Kd.V k42 42 wc w.heap.size (fun k_ => some k_ ≠ (eC : Value).ownBlock ∧ some k_ ≠ (fE : Value).ownBlock ∧ k_ ≠ a3 ∧ k_ ≠ aZ ∧ k_ ≠ a0 ∧ k_ ≠ a1 ∧ k_ ≠ aX ∧ k_ ≠ aV ∧ k_ ≠ aQ ∧ k_ ≠ aP ∧ k_ ≠ aR ∧ k_ ≠ aO ∧ k_ ≠ aW ∧ k_ ≠ aH ∧ k_ ≠ aI ∧ k_ ≠ aK ∧ k_ ≠ aA) (.slice hV eY.length hW) eY)) (bF : Aside0 (Kd.V k85 85 wc w.heap.size (fun k_ => some k_ ≠ (eC : Value).ownBlock ∧ some k_ ≠ (fE : Value).ownBlock ∧ k_ ≠ a3 ∧ k_ ≠ aZ ∧ k_ ≠ a0 ∧ k_ ≠ a1 ∧ k_ ≠ aX ∧ k_ ≠ aV ∧ k_ ≠ aQ ∧ k_ ≠ aP ∧ k_ ≠ aR ∧ k_ ≠ aO ∧ k_ ≠ aW ∧ k_ ≠ aH ∧ k_ ≠ aI ∧ k_ ≠ aK ∧ k_ ≠ aA) (.slice iI e0.length iJ) e0)) (bG : Aside0 (Kd.V k42 42 wc w.heap.size (fun k_ => some k_ ≠ (eC : Value).ownBlock ∧ some k_ ≠ (fE : Value).ownBlock ∧ k_ ≠ a3 ∧ k_ ≠ aZ ∧ k_ ≠ a0 ∧ k_ ≠ a1 ∧ k_ ≠ aX ∧ k_ ≠ aV ∧ k_ ≠ aQ ∧ k_ ≠ aP ∧ k_ ≠ aR ∧ k_ ≠ aO ∧ k_ ≠ aW ∧ k_ ≠ aH ∧ k_ ≠ aI ∧ k_ ≠ aK ∧ k_ ≠ aA) (.slice e9 fC.length fA) fC)) (bH : Aside0 (Kd.V k85 85 wc w.heap.size (fun k_ => some k_ ≠ (eC : Value).ownBlock ∧ some k_ ≠ (fE : Value).ownBlock ∧ k_ ≠ a3 ∧ k_ ≠ aZ ∧ k_ ≠ a0 ∧ k_ ≠ a1 ∧ k_ ≠ aX ∧ k_ ≠ aV ∧ k_ ≠ aQ ∧ k_ ≠ aP ∧ k_ ≠ aR ∧ k_ ≠ aO ∧ k_ ≠ aW ∧ k_ ≠ aH ∧ k_ ≠ aI ∧ k_ ≠ aK ∧ k_ ≠ aA) (.slice fI fG.length fJ) fG)) (bI : Aside0 (Kd.V k42 42 wc w.heap.size (fun k_ => some k_ ≠ (eC : Value).ownBlock ∧ some k_ ≠ (fE : Value).ownBlock ∧ k_ ≠ a3 ∧ k_ ≠ aZ ∧ k_ ≠ a0 ∧ k_ ≠ a1 ∧ k_ ≠ aX ∧ k_ ≠ aV ∧ k_ ≠ aQ ∧ k_ ≠ aP ∧ k_ ≠ aR ∧ k_ ≠ aO ∧ k_ ≠ aW ∧ k_ ≠ aH ∧ k_ ≠ aI ∧ k_ ≠ aK ∧ k_ ≠ aA) (.slice fK fN.length fL) fN)) (bJ : Aside0 (Kd.V k85 85 wc w.heap.size (fun k_ => some k_ ≠ (eC : Value).ownBlock ∧ some k_ ≠ (fE : Value).ownBlock ∧ k_ ≠ a3 ∧ k_ ≠ aZ ∧ k_ ≠ a0 ∧ k_ ≠ a1 ∧ k_ ≠ aX ∧ k_ ≠ aV ∧ k_ ≠ aQ ∧ k_ ≠ aP ∧ k_ ≠ aR ∧ k_ ≠ aO ∧ k_ ≠ aW ∧ k_ ≠ aH ∧ k_ ≠ aI ∧ k_ ≠ aK ∧ k_ ≠ aA) (.slice fP fV.length fQ) fV)) (bK : Aside0 (Kd.V k42 42 wc w.heap.size (fun k_ => some k_ ≠ (eC : Value).ownBlock ∧ some k_ ≠ (fE : Value).ownBlock ∧ k_ ≠ a3 ∧ k_ ≠ aZ ∧ k_ ≠ a0 ∧ k_ ≠ a1 ∧ k_ ≠ aX ∧ k_ ≠ aV ∧ k_ ≠ aQ ∧ k_ ≠ aP ∧ k_ ≠ aR ∧ k_ ≠ aO ∧ k_ ≠ aW ∧ k_ ≠ aH ∧ k_ ≠ aI ∧ k_ ≠ aK ∧ k_ ≠ aA) (.slice fZ gD.length f0) gD)) (bL : Aside0 (Kd.V k85 85 wc w.heap.size (fun k_ => some k_ ≠ (eC : Value).ownBlock ∧ some k_ ≠ (fE : Value).ownBlock ∧ k_ ≠ a3 ∧ k_ ≠ aZ ∧ k_ ≠ a0 ∧ k_ ≠ a1 ∧ k_ ≠ aX ∧ k_ ≠ aV ∧ k_ ≠ aQ ∧ k_ ≠ aP ∧ k_ ≠ aR ∧ k_ ≠ aO ∧ k_ ≠ aW ∧ k_ ≠ aH ∧ k_ ≠ aI ∧ k_ ≠ aK ∧ k_ ≠ aA) (.slice gA gO.length gB) gO)) (aL : Aside0 (wc.heap[a3]? = some (.cells #[.int .i64 aE, (.slice cR aD.length cS), (.slice cW aF.length cX), .int .i64 aG, .int .u64 aJ, .int .i64 dG, .int .i64 dR, .int .u64 eG, .int .i64 b3, .int .i64 bQ, (.slice cC aM.length cD), (.slice cF aN.length cG), .int .i64 aS, .int .u64 aU] 68 (0, 0)))) (aB : Aside0 (wc.heap[aZ]? = some (.cells #[.int .i64 aE, (.slice cR aD.length cS), (.slice cW aF.length cX), .int .i64 aG, .int .u64 aJ] 26 (0, 0)))) (aC : Aside0 (wc.heap[a0]? = some (.cells #[.int .i64 bQ, (.slice cC aM.length cD), (.slice cF aN.length cG), .int .i64 aS, .int .u64 aU] 26 (0, 0)))) (aT : Aside0 (wc.heap[a1]? = some (.cells #[.int .i64 eX, (.slice fY dS.length fD), (.slice f3 dT.length fH), .int .i64 e1, .int .u64 e3] 26 (0, 0)))) (aY : Aside0 (wc.heap[aX]? = some (.cells #[.int .i64 eZ, (.slice gE d1.length fO), (.slice gP d3.length fW), .int .i64 fB, .int .u64 fF] 26 (0, 0)))) (a2 : Aside0 (wc.heap[aV]? = some (.cells #[.int .i64 fM, (.slice g8 eN.length g9), (.slice hD eP.length hE), .int .i64 f1, .int .u64 gC] 26 (0, 0)))) (a4 : Aside0 (wc.heap[aQ]? = some (.cells #[.int .i64 fX, (.slice hR eT.length hS), (.slice hT eU.length hU), .int .i64 gL, .int .u64 gQ] 26 (0, 0)))) (a5 : Aside0 (wc.heap[aP]? = some (.cells #[.int .i64 f2, (.slice hV eY.length hW), (.slice iI e0.length iJ), .int .i64 gR, .int .u64 gS] 26 (0, 0)))) (bO : Aside0 (wc.heap[aR]? = some (.cells #[.int .i64 gM, (.slice e9 fC.length fA), (.slice fI fG.length fJ), .int .i64 g2, .int .u64 g4] 26 (0, 0)))) (bS : Aside0 (wc.heap[aO]? = some (.cells #[.int .i64 gN, (.slice fK fN.length fL), (.slice fP fV.length fQ), .int .i64 g3, .int .u64 g5] 26 (0, 0)))) (bV : Aside0 (wc.heap[aW]? = some (.cells #[.int .i64 gT, (.slice fZ gD.length f0), (.slice gA gO.length gB), .int .i64 g7, .int .u64 hB] 26 (0, 0)))) (bU : Aside0 (wc.heap[aH]? = some (.cells #[.int .i64 dU, .int .i64 dX, .bool dY, .string d2, .int .i64 d4, .int .i64 d5] 42 (0, 0)))) (bX : Aside0 (wc.heap[aI]? = some (.cells #[.int .i64 d6, .int .i64 d7, .bool eA, .string eB, .int .i64 eD, .int .i64 eE] 42 (0, 0)))) (b4 : Aside0 (wc.heap[aK]? = some (.cells #[.int .i64 eF, .int .i64 eI, .bool eL, .string eM, .int .i64 eO, .int .i64 eR] 42 (0, 0)))) (cA : Aside0 (wc.heap[aA]? = some (.cells #[.int .i64 b0, .int .i64 b2, .bool b5, .string b9, .int .i64 cB, .int .i64 cH] 42 (0, 0)))) (HB : Aside0 (Below w.heap.size w wc)) (hc : Try.f9.body.bind (tailOf 23) = some (.seq h b)) (hK : ∀ a w', Code.wp Try.prog b (bodyPost Try.prog Try.f9 fun e w' => e = .returned (.bool r) ∧ Below w.heap.size w w') a w' → K a w') : Code.wp Try.prog h (Exit.then K (bodyPost Try.prog Try.f9 fun e w' => e = .returned (.bool r) ∧ Below w.heap.size w w')) ⟨#[.agg #[.int .i64 aE, .slice cR aD.length cS, .slice cW aF.length cX, .int .i64 aG, .int .u64 aJ, .int .i64 dG, .int .i64 dR, .int .u64 eG, .int .i64 b3, .int .i64 bQ, .slice cC aM.length cD, .slice cF aN.length cG, .int .i64 aS, .int .u64 aU], .pointer (some ⟨a3, 0, none⟩), .bool false, .pointer (some ⟨aZ, 0, none⟩), .int .i64 dG, .int .i64 dR, .int .u64 eG, .int .i64 b3, .pointer (some ⟨a0, 0, none⟩), .bool mG, .bool nT, .pointer (some ⟨a1, 0, none⟩), .int .i64 dZ, .int .i64 d0, .pointer (some ⟨aX, 0, none⟩), .int .i64 d8, .int .i64 d9, .pointer (some ⟨aV, 0, none⟩), .int .i64 eH, .pointer (some ⟨aQ, 0, none⟩), .int .i64 eQ, .pointer (some ⟨aP, 0, none⟩), .int .i64 eV, .pointer (some ⟨aR, 0, none⟩), .int .i64 e2, .pointer (some ⟨aO, 0, none⟩), eC, .pointer (some ⟨aW, 0, none⟩), fE, .pointer (some ⟨aH, 0, none⟩), .bool gU, .pointer (some ⟨aI, 0, none⟩), .bool hC, .pointer (some ⟨aK, 0, none⟩), .bool jV, .pointer (some ⟨aA, 0, none⟩), .bool kG, .bool nD, undef, u39, u40, u41, u42, u43, u44, u45, u46, u47, u48, u49, u50, u51, u52, u53, u54, u55, u56, u57, u58, u59, u60, u61, u62, u63, u64, u65, u66, u67, u68, u69, u70, u71, u72, u73, u74, u75, u76, u77, u78, u79, u80, u81, u82, u83, u84, u85, u86, u87, u88, u89, u90, u91, u92, u93, u94, u95, u96, u97, u98, u99, u100, u101, u102, u103, u104, u105, u106, u107, u108, u109, u110, u111, u112, u113, u114, u115, u116, u117, u118, u119, u120, u121, u122, u123, u124, u125, u126, u127, u128, u129, u130, u131, u132, u133, u134, u135, u136, u137, u138, u139, u140, u141, u142, u143, u144, u145, u146, u147, u148, u149, u150, u151, u152, u153, u154, u155, u156, u157, u158, u159, u160, u161, u162, u163, u164, u165, u166, u167, u168, u169, u170, u171, u172, u173, u174, u175, u176, u177, u178, u179, u180, u181, u182, u183, u184, u185, u186, u187, u188, u189, u190, u191, u192, u193, u194, u195, u196, u197, u198, u199, u200, u201, u202, u203, u204, u205, u206, u207, u208, u209, u210, u211, u212, u213, u214, u215, u216, u217, u218, u219, u220], []⟩ wc := by
 have hu68 := Try.underlying68
 have hu26 := Try.underlying26
 have hu42 := Try.underlying42
 have hc2 : some (Code.seq _ _) = some (Code.seq h b) := hc
 cases hc2
 clear hc
 cases kq with
 | zero => exact absurd HA.out (by simp [stanchionlaw17_SessionActs.j1])
 | succ kj31 =>
  have H := HA.out
  clear HA
  simp only [stanchionlaw17_SessionActs.j1] at H
  have HC475 := ak H
  clear H
  have H := HC475.out
  clear HC475
  by_cases nA : (dU == d6 && (dX == d7 && (dY == eA && (d2.toList == eB.toList && (d4 == eD && (d5 == eE)))))) = true
  ·rw [if_pos nA] at H
   have m4 : (dU == d6 && (dX == d7 && (dY == eA && (d2.toList == eB.toList && (d4 == eD && (d5 == eE)))))) = true := nA
   (try (have c476b1 : decide (dU = d6 && (dX == d7 && (dY == eA && (d2.toList == eB.toList && (d4 == eD && (d5 == eE)))))) = true := by simpa using nA))
   (try (have c476b2 : (dU == d6 && (dX == d7 && (dY == eA && (d2.toList == eB.toList && (d4 == eD && (d5 == eE)))))) = true := by simpa using nA))
   clear nA
   (first | rw [m4] | (simp only [i64_w, i32_w]; rw [m4]) | skip)
   by_cases nB : (gU == hC) = true
   ·rw [if_pos nB] at H
    have c477b0 : (gU == hC) = true := nB
    (try (have c477b1 : decide (gU = hC) = true := by simpa using nB))
    (try (have c477b2 : (gU == hC) = true := by simpa using nB))
    clear nB
    by_cases nC : (eF == b0 && (eI == b2 && (eL == b5 && (eM.toList == b9.toList && (eO == cB && (eR == cH)))))) = true
    ·rw [if_pos nC] at H
     have c478b0 : (eF == b0 && (eI == b2 && (eL == b5 && (eM.toList == b9.toList && (eO == cB && (eR == cH)))))) = true := nC
     (try (have c478b1 : decide (eF = b0 && (eI == b2 && (eL == b5 && (eM.toList == b9.toList && (eO == cB && (eR == cH)))))) = true := by simpa using nC))
     (try (have c478b2 : (eF == b0 && (eI == b2 && (eL == b5 && (eM.toList == b9.toList && (eO == cB && (eR == cH)))))) = true := by simpa using nC))
     clear nC
     have H' := ak H
     clear H
     have hnb479 := lF.out
     have hnc479 := hF.out
     have hnb480 := lG.out
     have hnc480 := hG.out
     have hnb481 := lH.out
     have hnc481 := hH.out
     have hnb482 := i5.out
     have hnc482 := e5.out
     have hnb483 := i6.out
     have hnc483 := e6.out
     have hnb484 := jR.out
     have hnc484 := fR.out
     have hnb485 := jS.out
     have hnc485 := fS.out
     have hnb486 := j8.out
     have hnc486 := gF.out
     have hnb487 := j9.out
     have hnc487 := gG.out
     have hnb488 := kK.out
     have hnc488 := gW.out
     have hnb489 := kL.out
     have hnc489 := gX.out
     have hnb490 := hM.out
     have hnc490 := lL.out
     have hnb491 := hP.out
     have hnc491 := lO.out
     have hnb492 := c0.out
     have hnc492 := lS.out
     obtain ⟨hcz493_0, hcz493_1, hcz493_2, hcz493_3, hcz493_4, hcz493_5⟩ := Cb.c6 bU.out
     obtain ⟨hfz493_0, hfz493_1, hfz493_2, hfz493_3, hfz493_4, hfz493_5⟩ := Cb.f6 bU.out
     have hnb494 := lI.out
     have hnc494 := hI.out
     have hnb495 := lJ.out
     have hnc495 := hJ.out
     have hnb496 := lK.out
     have hnc496 := hL.out
     have hnb497 := i7.out
     have hnc497 := e7.out
     have hnb498 := i8.out
     have hnc498 := e8.out
     have hnb499 := jT.out
     have hnc499 := fT.out
     have hnb500 := jU.out
     have hnc500 := fU.out
     have hnb501 := kA.out
     have hnc501 := gH.out
     have hnb502 := kB.out
     have hnc502 := gI.out
     have hnb503 := kM.out
     have hnc503 := gY.out
     have hnb504 := kN.out
     have hnc504 := gZ.out
     have hnb505 := hQ.out
     have hnc505 := lP.out
     have hnb506 := dA.out
     have hnc506 := lT.out
     obtain ⟨hcz507_0, hcz507_1, hcz507_2, hcz507_3, hcz507_4, hcz507_5⟩ := Cb.c6 bX.out
     obtain ⟨hfz507_0, hfz507_1, hfz507_2, hfz507_3, hfz507_4, hfz507_5⟩ := Cb.f6 bX.out
     have hnb508 := mX.out
     have hnc508 := i9.out
     have hnb509 := mY.out
     have hnc509 := jA.out
     have hnb510 := mZ.out
     have hnc510 := jB.out
     have hnb511 := kC.out
     have hnc511 := gJ.out
     have hnb512 := kD.out
     have hnc512 := gK.out
     have hnb513 := kO.out
     have hnc513 := g0.out
     have hnb514 := kP.out
     have hnc514 := g1.out
     have hnb515 := lM.out
     have hnc515 := hN.out
     have hnb516 := lN.out
     have hnc516 := hO.out
     have hnb517 := mB.out
     have hnc517 := iG.out
     have hnb518 := mC.out
     have hnc518 := iH.out
     have hnb519 := dK.out
     have hnc519 := m3.out
     obtain ⟨hcz520_0, hcz520_1, hcz520_2, hcz520_3, hcz520_4, hcz520_5⟩ := Cb.c6 b4.out
     obtain ⟨hfz520_0, hfz520_1, hfz520_2, hfz520_3, hfz520_4, hfz520_5⟩ := Cb.f6 b4.out
     have hnb521 := m0.out
     have hnc521 := dH.out
     have hnb522 := m1.out
     have hnc522 := dI.out
     have hnb523 := m2.out
     have hnc523 := dJ.out
     have hnb524 := kE.out
     have hnc524 := cP.out
     have hnb525 := kF.out
     have hnc525 := cQ.out
     have hnb526 := kQ.out
     have hnc526 := cU.out
     have hnb527 := kR.out
     have hnc527 := cV.out
     have hnb528 := lQ.out
     have hnc528 := cY.out
     have hnb529 := lR.out
     have hnc529 := cZ.out
     have hnb530 := mD.out
     have hnc530 := dE.out
     have hnb531 := mE.out
     have hnc531 := dF.out
     obtain ⟨hcz532_0, hcz532_1, hcz532_2, hcz532_3, hcz532_4, hcz532_5⟩ := Cb.c6 cA.out
     obtain ⟨hfz532_0, hfz532_1, hfz532_2, hfz532_3, hfz532_4, hfz532_5⟩ := Cb.f6 cA.out
     go_upto_region 25 with (fail)
     exact stanchionlaw17_SessionActs.rC (hr_ := hr_) (iM := iM) (iN := iN) (iO := iO) (iP := iP) (mI := mI) (mJ := mJ) (mK := mK) (mL := mL) (bM := bM) (bN := bN) (bP := bP) (bR := bR) (bT := bT) (bW := bW) (b1 := b1) (b8 := b8) (cE := cE) (cK := cK) (cT := cT) (dD := dD) (dL := dL) (dO := dO) (dQ := dQ) (HA := H') (HJ474 := ⟨Nat.le_refl _⟩) (cN := ⟨pR cN.out⟩) (cO := ⟨pR cO.out⟩) (a6 := ⟨pV a6.out⟩) (a7 := ⟨pV a7.out⟩) (a8 := ⟨pV a8.out⟩) (a9 := ⟨pV a9.out⟩) (bA := ⟨pV bA.out⟩) (bB := ⟨pV bB.out⟩) (bC := ⟨pV bC.out⟩) (bD := ⟨pV bD.out⟩) (bE := ⟨pV bE.out⟩) (bF := ⟨pV bF.out⟩) (bG := ⟨pV bG.out⟩) (bH := ⟨pV bH.out⟩) (bI := ⟨pV bI.out⟩) (bJ := ⟨pV bJ.out⟩) (bK := ⟨pV bK.out⟩) (bL := ⟨pV bL.out⟩) (aL := ⟨pk aL.out⟩) (aB := ⟨pk aB.out⟩) (aC := ⟨pk aC.out⟩) (aT := ⟨pk aT.out⟩) (aY := ⟨pk aY.out⟩) (a2 := ⟨pk a2.out⟩) (a4 := ⟨pk a4.out⟩) (a5 := ⟨pk a5.out⟩) (bO := ⟨pk bO.out⟩) (bS := ⟨pk bS.out⟩) (bV := ⟨pk bV.out⟩) (bU := ⟨pk bU.out⟩) (bX := ⟨pk bX.out⟩) (b4 := ⟨pk b4.out⟩) (cA := ⟨pk cA.out⟩) (HB := ⟨uo bM.out bN.out bP.out bR.out bT.out bW.out b1.out b8.out cE.out cK.out cT.out dD.out dL.out dO.out dQ.out HB.out⟩) (hc := rfl) (hK := by assumption)
    ·rw [if_neg nC] at H
     have c478b0 : (eF == b0 && (eI == b2 && (eL == b5 && (eM.toList == b9.toList && (eO == cB && (eR == cH)))))) = false := by simpa using nC
     (try (have c478b1 : decide (eF = b0 && (eI == b2 && (eL == b5 && (eM.toList == b9.toList && (eO == cB && (eR == cH)))))) = false := by simpa using nC))
     (try (have c478b2 : (eF == b0 && (eI == b2 && (eL == b5 && (eM.toList == b9.toList && (eO == cB && (eR == cH)))))) = false := by simpa using nC))
     (try (have c478b3 : ¬ (eF = b0 && (eI == b2 && (eL == b5 && (eM.toList == b9.toList && (eO == cB && (eR == cH)))))) := by simpa using nC))
     clear nC
     have H' := ak H
     clear H
     have hnb533 := lF.out
     have hnc533 := hF.out
     have hnb534 := lG.out
     have hnc534 := hG.out
     have hnb535 := lH.out
     have hnc535 := hH.out
     have hnb536 := i5.out
     have hnc536 := e5.out
     have hnb537 := i6.out
     have hnc537 := e6.out
     have hnb538 := jR.out
     have hnc538 := fR.out
     have hnb539 := jS.out
     have hnc539 := fS.out
     have hnb540 := j8.out
     have hnc540 := gF.out
     have hnb541 := j9.out
     have hnc541 := gG.out
     have hnb542 := kK.out
     have hnc542 := gW.out
     have hnb543 := kL.out
     have hnc543 := gX.out
     have hnb544 := hM.out
     have hnc544 := lL.out
     have hnb545 := hP.out
     have hnc545 := lO.out
     have hnb546 := c0.out
     have hnc546 := lS.out
     obtain ⟨hcz547_0, hcz547_1, hcz547_2, hcz547_3, hcz547_4, hcz547_5⟩ := Cb.c6 bU.out
     obtain ⟨hfz547_0, hfz547_1, hfz547_2, hfz547_3, hfz547_4, hfz547_5⟩ := Cb.f6 bU.out
     have hnb548 := lI.out
     have hnc548 := hI.out
     have hnb549 := lJ.out
     have hnc549 := hJ.out
     have hnb550 := lK.out
     have hnc550 := hL.out
     have hnb551 := i7.out
     have hnc551 := e7.out
     have hnb552 := i8.out
     have hnc552 := e8.out
     have hnb553 := jT.out
     have hnc553 := fT.out
     have hnb554 := jU.out
     have hnc554 := fU.out
     have hnb555 := kA.out
     have hnc555 := gH.out
     have hnb556 := kB.out
     have hnc556 := gI.out
     have hnb557 := kM.out
     have hnc557 := gY.out
     have hnb558 := kN.out
     have hnc558 := gZ.out
     have hnb559 := hQ.out
     have hnc559 := lP.out
     have hnb560 := dA.out
     have hnc560 := lT.out
     obtain ⟨hcz561_0, hcz561_1, hcz561_2, hcz561_3, hcz561_4, hcz561_5⟩ := Cb.c6 bX.out
     obtain ⟨hfz561_0, hfz561_1, hfz561_2, hfz561_3, hfz561_4, hfz561_5⟩ := Cb.f6 bX.out
     have hnb562 := mX.out
     have hnc562 := i9.out
     have hnb563 := mY.out
     have hnc563 := jA.out
     have hnb564 := mZ.out
     have hnc564 := jB.out
     have hnb565 := kC.out
     have hnc565 := gJ.out
     have hnb566 := kD.out
     have hnc566 := gK.out
     have hnb567 := kO.out
     have hnc567 := g0.out
     have hnb568 := kP.out
     have hnc568 := g1.out
     have hnb569 := lM.out
     have hnc569 := hN.out
     have hnb570 := lN.out
     have hnc570 := hO.out
     have hnb571 := mB.out
     have hnc571 := iG.out
     have hnb572 := mC.out
     have hnc572 := iH.out
     have hnb573 := dK.out
     have hnc573 := m3.out
     obtain ⟨hcz574_0, hcz574_1, hcz574_2, hcz574_3, hcz574_4, hcz574_5⟩ := Cb.c6 b4.out
     obtain ⟨hfz574_0, hfz574_1, hfz574_2, hfz574_3, hfz574_4, hfz574_5⟩ := Cb.f6 b4.out
     have hnb575 := m0.out
     have hnc575 := dH.out
     have hnb576 := m1.out
     have hnc576 := dI.out
     have hnb577 := m2.out
     have hnc577 := dJ.out
     have hnb578 := kE.out
     have hnc578 := cP.out
     have hnb579 := kF.out
     have hnc579 := cQ.out
     have hnb580 := kQ.out
     have hnc580 := cU.out
     have hnb581 := kR.out
     have hnc581 := cV.out
     have hnb582 := lQ.out
     have hnc582 := cY.out
     have hnb583 := lR.out
     have hnc583 := cZ.out
     have hnb584 := mD.out
     have hnc584 := dE.out
     have hnb585 := mE.out
     have hnc585 := dF.out
     obtain ⟨hcz586_0, hcz586_1, hcz586_2, hcz586_3, hcz586_4, hcz586_5⟩ := Cb.c6 cA.out
     obtain ⟨hfz586_0, hfz586_1, hfz586_2, hfz586_3, hfz586_4, hfz586_5⟩ := Cb.f6 cA.out
     go_upto_region 25 with (fail)
     exact stanchionlaw17_SessionActs.rC (hr_ := hr_) (iM := iM) (iN := iN) (iO := iO) (iP := iP) (mI := mI) (mJ := mJ) (mK := mK) (mL := mL) (bM := bM) (bN := bN) (bP := bP) (bR := bR) (bT := bT) (bW := bW) (b1 := b1) (b8 := b8) (cE := cE) (cK := cK) (cT := cT) (dD := dD) (dL := dL) (dO := dO) (dQ := dQ) (HA := H') (HJ474 := ⟨Nat.le_refl _⟩) (cN := ⟨pR cN.out⟩) (cO := ⟨pR cO.out⟩) (a6 := ⟨pV a6.out⟩) (a7 := ⟨pV a7.out⟩) (a8 := ⟨pV a8.out⟩) (a9 := ⟨pV a9.out⟩) (bA := ⟨pV bA.out⟩) (bB := ⟨pV bB.out⟩) (bC := ⟨pV bC.out⟩) (bD := ⟨pV bD.out⟩) (bE := ⟨pV bE.out⟩) (bF := ⟨pV bF.out⟩) (bG := ⟨pV bG.out⟩) (bH := ⟨pV bH.out⟩) (bI := ⟨pV bI.out⟩) (bJ := ⟨pV bJ.out⟩) (bK := ⟨pV bK.out⟩) (bL := ⟨pV bL.out⟩) (aL := ⟨pk aL.out⟩) (aB := ⟨pk aB.out⟩) (aC := ⟨pk aC.out⟩) (aT := ⟨pk aT.out⟩) (aY := ⟨pk aY.out⟩) (a2 := ⟨pk a2.out⟩) (a4 := ⟨pk a4.out⟩) (a5 := ⟨pk a5.out⟩) (bO := ⟨pk bO.out⟩) (bS := ⟨pk bS.out⟩) (bV := ⟨pk bV.out⟩) (bU := ⟨pk bU.out⟩) (bX := ⟨pk bX.out⟩) (b4 := ⟨pk b4.out⟩) (cA := ⟨pk cA.out⟩) (HB := ⟨uo bM.out bN.out bP.out bR.out bT.out bW.out b1.out b8.out cE.out cK.out cT.out dD.out dL.out dO.out dQ.out HB.out⟩) (hc := rfl) (hK := by assumption)
   ·rw [if_neg nB] at H
    have c477b0 : (gU == hC) = false := by simpa using nB
    (try (have c477b1 : decide (gU = hC) = false := by simpa using nB))
    (try (have c477b2 : (gU == hC) = false := by simpa using nB))
    (try (have c477b3 : ¬ (gU = hC) := by simpa using nB))
    clear nB
    have H' := ak H
    clear H
    have hnb587 := lF.out
    have hnc587 := hF.out
    have hnb588 := lG.out
    have hnc588 := hG.out
    have hnb589 := lH.out
    have hnc589 := hH.out
    have hnb590 := i5.out
    have hnc590 := e5.out
    have hnb591 := i6.out
    have hnc591 := e6.out
    have hnb592 := jR.out
    have hnc592 := fR.out
    have hnb593 := jS.out
    have hnc593 := fS.out
    have hnb594 := j8.out
    have hnc594 := gF.out
    have hnb595 := j9.out
    have hnc595 := gG.out
    have hnb596 := kK.out
    have hnc596 := gW.out
    have hnb597 := kL.out
    have hnc597 := gX.out
    have hnb598 := hM.out
    have hnc598 := lL.out
    have hnb599 := hP.out
    have hnc599 := lO.out
    have hnb600 := c0.out
    have hnc600 := lS.out
    obtain ⟨hcz601_0, hcz601_1, hcz601_2, hcz601_3, hcz601_4, hcz601_5⟩ := Cb.c6 bU.out
    obtain ⟨hfz601_0, hfz601_1, hfz601_2, hfz601_3, hfz601_4, hfz601_5⟩ := Cb.f6 bU.out
    have hnb602 := lI.out
    have hnc602 := hI.out
    have hnb603 := lJ.out
    have hnc603 := hJ.out
    have hnb604 := lK.out
    have hnc604 := hL.out
    have hnb605 := i7.out
    have hnc605 := e7.out
    have hnb606 := i8.out
    have hnc606 := e8.out
    have hnb607 := jT.out
    have hnc607 := fT.out
    have hnb608 := jU.out
    have hnc608 := fU.out
    have hnb609 := kA.out
    have hnc609 := gH.out
    have hnb610 := kB.out
    have hnc610 := gI.out
    have hnb611 := kM.out
    have hnc611 := gY.out
    have hnb612 := kN.out
    have hnc612 := gZ.out
    have hnb613 := hQ.out
    have hnc613 := lP.out
    have hnb614 := dA.out
    have hnc614 := lT.out
    obtain ⟨hcz615_0, hcz615_1, hcz615_2, hcz615_3, hcz615_4, hcz615_5⟩ := Cb.c6 bX.out
    obtain ⟨hfz615_0, hfz615_1, hfz615_2, hfz615_3, hfz615_4, hfz615_5⟩ := Cb.f6 bX.out
    go_upto_region 25 with (fail)
    exact stanchionlaw17_SessionActs.rC (hr_ := hr_) (iM := iM) (iN := iN) (iO := iO) (iP := iP) (mI := mI) (mJ := mJ) (mK := mK) (mL := mL) (bM := bM) (bN := bN) (bP := bP) (bR := bR) (bT := bT) (bW := bW) (b1 := b1) (b8 := b8) (cE := cE) (cK := cK) (cT := cT) (dD := dD) (dL := dL) (dO := dO) (dQ := dQ) (HA := H') (HJ474 := ⟨Nat.le_refl _⟩) (cN := ⟨pR cN.out⟩) (cO := ⟨pR cO.out⟩) (a6 := ⟨pV a6.out⟩) (a7 := ⟨pV a7.out⟩) (a8 := ⟨pV a8.out⟩) (a9 := ⟨pV a9.out⟩) (bA := ⟨pV bA.out⟩) (bB := ⟨pV bB.out⟩) (bC := ⟨pV bC.out⟩) (bD := ⟨pV bD.out⟩) (bE := ⟨pV bE.out⟩) (bF := ⟨pV bF.out⟩) (bG := ⟨pV bG.out⟩) (bH := ⟨pV bH.out⟩) (bI := ⟨pV bI.out⟩) (bJ := ⟨pV bJ.out⟩) (bK := ⟨pV bK.out⟩) (bL := ⟨pV bL.out⟩) (aL := ⟨pk aL.out⟩) (aB := ⟨pk aB.out⟩) (aC := ⟨pk aC.out⟩) (aT := ⟨pk aT.out⟩) (aY := ⟨pk aY.out⟩) (a2 := ⟨pk a2.out⟩) (a4 := ⟨pk a4.out⟩) (a5 := ⟨pk a5.out⟩) (bO := ⟨pk bO.out⟩) (bS := ⟨pk bS.out⟩) (bV := ⟨pk bV.out⟩) (bU := ⟨pk bU.out⟩) (bX := ⟨pk bX.out⟩) (b4 := ⟨pk b4.out⟩) (cA := ⟨pk cA.out⟩) (HB := ⟨uo bM.out bN.out bP.out bR.out bT.out bW.out b1.out b8.out cE.out cK.out cT.out dD.out dL.out dO.out dQ.out HB.out⟩) (hc := rfl) (hK := by assumption)
  ·rw [if_neg nA] at H
   have m4 : (dU == d6 && (dX == d7 && (dY == eA && (d2.toList == eB.toList && (d4 == eD && (d5 == eE)))))) = false := by simpa using nA
   (try (have c476b1 : decide (dU = d6 && (dX == d7 && (dY == eA && (d2.toList == eB.toList && (d4 == eD && (d5 == eE)))))) = false := by simpa using nA))
   (try (have c476b2 : (dU == d6 && (dX == d7 && (dY == eA && (d2.toList == eB.toList && (d4 == eD && (d5 == eE)))))) = false := by simpa using nA))
   (try (have c476b3 : ¬ (dU = d6 && (dX == d7 && (dY == eA && (d2.toList == eB.toList && (d4 == eD && (d5 == eE)))))) := by simpa using nA))
   clear nA
   (first | rw [m4] | (simp only [i64_w, i32_w]; rw [m4]) | skip)
   have H' := ak H
   clear H
   have hnb616 := lF.out
   have hnc616 := hF.out
   have hnb617 := lG.out
   have hnc617 := hG.out
   have hnb618 := lH.out
   have hnc618 := hH.out
   have hnb619 := i5.out
   have hnc619 := e5.out
   have hnb620 := i6.out
   have hnc620 := e6.out
   have hnb621 := jR.out
   have hnc621 := fR.out
   have hnb622 := jS.out
   have hnc622 := fS.out
   have hnb623 := j8.out
   have hnc623 := gF.out
   have hnb624 := j9.out
   have hnc624 := gG.out
   have hnb625 := kK.out
   have hnc625 := gW.out
   have hnb626 := kL.out
   have hnc626 := gX.out
   have hnb627 := hM.out
   have hnc627 := lL.out
   have hnb628 := hP.out
   have hnc628 := lO.out
   have hnb629 := c0.out
   have hnc629 := lS.out
   obtain ⟨hcz630_0, hcz630_1, hcz630_2, hcz630_3, hcz630_4, hcz630_5⟩ := Cb.c6 bU.out
   obtain ⟨hfz630_0, hfz630_1, hfz630_2, hfz630_3, hfz630_4, hfz630_5⟩ := Cb.f6 bU.out
   have hnb631 := lI.out
   have hnc631 := hI.out
   have hnb632 := lJ.out
   have hnc632 := hJ.out
   have hnb633 := lK.out
   have hnc633 := hL.out
   have hnb634 := i7.out
   have hnc634 := e7.out
   have hnb635 := i8.out
   have hnc635 := e8.out
   have hnb636 := jT.out
   have hnc636 := fT.out
   have hnb637 := jU.out
   have hnc637 := fU.out
   have hnb638 := kA.out
   have hnc638 := gH.out
   have hnb639 := kB.out
   have hnc639 := gI.out
   have hnb640 := kM.out
   have hnc640 := gY.out
   have hnb641 := kN.out
   have hnc641 := gZ.out
   have hnb642 := hQ.out
   have hnc642 := lP.out
   have hnb643 := dA.out
   have hnc643 := lT.out
   obtain ⟨hcz644_0, hcz644_1, hcz644_2, hcz644_3, hcz644_4, hcz644_5⟩ := Cb.c6 bX.out
   obtain ⟨hfz644_0, hfz644_1, hfz644_2, hfz644_3, hfz644_4, hfz644_5⟩ := Cb.f6 bX.out
   go_upto_region 25 with (fail)
   exact stanchionlaw17_SessionActs.rC (hr_ := hr_) (iM := iM) (iN := iN) (iO := iO) (iP := iP) (mI := mI) (mJ := mJ) (mK := mK) (mL := mL) (bM := bM) (bN := bN) (bP := bP) (bR := bR) (bT := bT) (bW := bW) (b1 := b1) (b8 := b8) (cE := cE) (cK := cK) (cT := cT) (dD := dD) (dL := dL) (dO := dO) (dQ := dQ) (HA := H') (HJ474 := ⟨Nat.le_refl _⟩) (cN := ⟨pR cN.out⟩) (cO := ⟨pR cO.out⟩) (a6 := ⟨pV a6.out⟩) (a7 := ⟨pV a7.out⟩) (a8 := ⟨pV a8.out⟩) (a9 := ⟨pV a9.out⟩) (bA := ⟨pV bA.out⟩) (bB := ⟨pV bB.out⟩) (bC := ⟨pV bC.out⟩) (bD := ⟨pV bD.out⟩) (bE := ⟨pV bE.out⟩) (bF := ⟨pV bF.out⟩) (bG := ⟨pV bG.out⟩) (bH := ⟨pV bH.out⟩) (bI := ⟨pV bI.out⟩) (bJ := ⟨pV bJ.out⟩) (bK := ⟨pV bK.out⟩) (bL := ⟨pV bL.out⟩) (aL := ⟨pk aL.out⟩) (aB := ⟨pk aB.out⟩) (aC := ⟨pk aC.out⟩) (aT := ⟨pk aT.out⟩) (aY := ⟨pk aY.out⟩) (a2 := ⟨pk a2.out⟩) (a4 := ⟨pk a4.out⟩) (a5 := ⟨pk a5.out⟩) (bO := ⟨pk bO.out⟩) (bS := ⟨pk bS.out⟩) (bV := ⟨pk bV.out⟩) (bU := ⟨pk bU.out⟩) (bX := ⟨pk bX.out⟩) (b4 := ⟨pk b4.out⟩) (cA := ⟨pk cA.out⟩) (HB := ⟨uo bM.out bN.out bP.out bR.out bT.out bW.out b1.out b8.out cE.out cK.out cT.out dD.out dL.out dO.out dQ.out HB.out⟩) (hc := rfl) (hK := by assumption)

/-! ### stanchionlaw17_SessionActs: function 9, region 23 -/
set_option maxHeartbeats 64000000 in
set_option maxRecDepth 100000 in
theorem stanchionlaw17_SessionActs.rM {aE : Int} {cR : Option Addr} {cS : Nat} {aD : List S42} {cW : Option Addr} {cX : Nat} {aF : List S85} {aG aJ dG dR eG b3 bQ : Int} {cC : Option Addr} {cD : Nat} {aM : List S42} {cF : Option Addr} {cG : Nat} {aN : List S85} {aS aU : Int} {r : Bool} {w : World} {mG nT : Bool} {a3 aZ a0 kj3 : Nat} {eX : Int} {dS : List S42} {dT : List S85} {e1 e3 dZ d0 eZ : Int} {d1 : List S42} {d3 : List S85} {fB fF d8 d9 fM : Int} {eN : List S42} {eP : List S85} {f1 gC eH fX : Int} {eT : List S42} {eU : List S85} {gL gQ eQ f2 : Int} {eY : List S42} {e0 : List S85} {gR gS eV gM : Int} {fC : List S42} {fG : List S85} {g2 g4 e2 gN : Int} {fN : List S42} {fV : List S85} {g3 g5 : Int} {eW : List S42} {gT : Int} {gD : List S42} {gO : List S85} {g7 hB : Int} {e4 : List S42} {dU dX : Int} {dY : Bool} {d2 : ByteArray} {d4 d5 : Int} {gU : Bool} {d6 d7 : Int} {eA : Bool} {eB : ByteArray} {eD eE : Int} {hC : Bool} {eF eI : Int} {eL : Bool} {eM : ByteArray} {eO eR : Int} {jV : Bool} {b0 b2 : Int} {b5 : Bool} {b9 : ByteArray} {cB cH : Int} {kG : Bool} {a1 : Nat} {fY : Option Addr} {fD : Nat} {f3 : Option Addr} {fH aX : Nat} {gE : Option Addr} {fO : Nat} {gP : Option Addr} {fW aV : Nat} {g8 : Option Addr} {g9 : Nat} {hD : Option Addr} {hE aQ : Nat} {hR : Option Addr} {hS : Nat} {hT : Option Addr} {hU aP : Nat} {hV : Option Addr} {hW : Nat} {iI : Option Addr} {iJ aR : Nat} {e9 : Option Addr} {fA : Nat} {fI : Option Addr} {fJ : Nat} {eC : Value} {aO : Nat} {fK : Option Addr} {fL : Nat} {fP : Option Addr} {fQ : Nat} {fE : Value} {aW : Nat} {fZ : Option Addr} {f0 : Nat} {gA : Option Addr} {gB aH aI aK aA : Nat} {wq : World} {u39 u40 u41 u42 u43 u44 u45 u46 u47 u48 u49 u50 u51 u52 u53 u54 u55 u56 u57 u58 u59 u60 u61 u62 u63 u64 u65 u66 u67 u68 u69 u70 u71 u72 u73 u74 u75 u76 u77 u78 u79 u80 u81 u82 u83 u84 u85 u86 u87 u88 u89 u90 u91 u92 u93 u94 u95 u96 u97 u98 u99 u100 u101 u102 u103 u104 u105 u106 u107 u108 u109 u110 u111 u112 u113 u114 u115 u116 u117 u118 u119 u120 u121 u122 u123 u124 u125 u126 u127 u128 u129 u130 u131 u132 u133 u134 u135 u136 u137 u138 u139 u140 u141 u142 u143 u144 u145 u146 u147 u148 u149 u150 u151 u152 u153 u154 u155 u156 u157 u158 u159 u160 u161 u162 u163 u164 u165 u166 u167 u168 u169 u170 u171 u172 u173 u174 u175 u176 u177 u178 u179 u180 u181 u182 u183 u184 u185 u186 u187 u188 u189 u190 u191 u192 u193 u194 u195 u196 u197 u198 u199 u200 u201 u202 u203 u204 u205 u206 u207 u208 u209 u210 u211 u212 u213 u214 u215 u216 u217 u218 u219 u220 : Value} {h b : Code} {K : Act → World → Prop} (hr_ : r = true) (iM : Aside0 (k42.C w cR aD.length aD)) (iN : Aside0 (aD.length ≤ cS)) (iO : Aside0 (k85.C w cW aF.length aF)) (iP : Aside0 (aF.length ≤ cX)) (mI : Aside0 (k42.C w cC aM.length aM)) (mJ : Aside0 (aM.length ≤ cD)) (mK : Aside0 (k85.C w cF aN.length aN)) (mL : Aside0 (aN.length ≤ cG)) (bM : Aside0 (w.heap.size ≤ a3)) (bN : Aside0 (w.heap.size ≤ aZ)) (bP : Aside0 (w.heap.size ≤ a0)) (HC32 : Aside0 (((stanchionref17_Same.f kj3 eX dS dT e1 e3 eZ d1 d3 fB fF).bind fun (t741 : Bool) => if t741 = true then (stanchionref17_Same.f kj3 fM eN eP f1 gC fX eT eU gL gQ).bind fun (t742 : Bool) => if t742 = true then (stanchionref17_Same.f kj3 f2 eY e0 gR gS gM fC fG g2 g4).bind fun (t743 : Bool) => if t743 = true then (stanchionref17_Same.f kj3 gN fN fV g3 g5 gT gD gO g7 hB).bind fun (t744 : Bool) => j1 kj3 b3 dZ d0 d8 d9 eH eQ eV e2 eW e4 gU hC jV kG t744 aE aD aF aG aJ bQ aM aN aS aU dU dX dY d2 d4 d5 d6 d7 eA eB eD eE eF eI eL eM eO eR b0 b2 b5 b9 cB cH else j1 kj3 b3 dZ d0 d8 d9 eH eQ eV e2 eW e4 gU hC jV kG false aE aD aF aG aJ bQ aM aN aS aU dU dX dY d2 d4 d5 d6 d7 eA eB eD eE eF eI eL eM eO eR b0 b2 b5 b9 cB cH else j1 kj3 b3 dZ d0 d8 d9 eH eQ eV e2 eW e4 gU hC jV kG false aE aD aF aG aJ bQ aM aN aS aU dU dX dY d2 d4 d5 d6 d7 eA eB eD eE eF eI eL eM eO eR b0 b2 b5 b9 cB cH else j1 kj3 b3 dZ d0 d8 d9 eH eQ eV e2 eW e4 gU hC jV kG false aE aD aF aG aJ bQ aM aN aS aU dU dX dY d2 d4 d5 d6 d7 eA eB eD eE eF eI eL eM eO eR b0 b2 b5 b9 cB cH) = some r)) (bR : Aside0 (w.heap.size ≤ a1)) (hX : Aside0 (a3 ≠ a1)) (kW : Aside0 (a1 ≠ a3)) (hY : Aside0 (aZ ≠ a1)) (kX : Aside0 (a1 ≠ aZ)) (hZ : Aside0 (a0 ≠ a1)) (kY : Aside0 (a1 ≠ a0)) (bT : Aside0 (w.heap.size ≤ aX)) (h0 : Aside0 (a3 ≠ aX)) (kZ : Aside0 (aX ≠ a3)) (h1 : Aside0 (aZ ≠ aX)) (k0 : Aside0 (aX ≠ aZ)) (h2 : Aside0 (a0 ≠ aX)) (k1 : Aside0 (aX ≠ a0)) (h3 : Aside0 (a1 ≠ aX)) (k2 : Aside0 (aX ≠ a1)) (bW : Aside0 (w.heap.size ≤ aV)) (iQ : Aside0 (a3 ≠ aV)) (lW : Aside0 (aV ≠ a3)) (iR : Aside0 (aZ ≠ aV)) (lX : Aside0 (aV ≠ aZ)) (iS : Aside0 (a0 ≠ aV)) (lY : Aside0 (aV ≠ a0)) (h4 : Aside0 (a1 ≠ aV)) (k3 : Aside0 (aV ≠ a1)) (h5 : Aside0 (aX ≠ aV)) (k4 : Aside0 (aV ≠ aX)) (b1 : Aside0 (w.heap.size ≤ aQ)) (iT : Aside0 (a3 ≠ aQ)) (lZ : Aside0 (aQ ≠ a3)) (iU : Aside0 (aZ ≠ aQ)) (l0 : Aside0 (aQ ≠ aZ)) (iV : Aside0 (a0 ≠ aQ)) (l1 : Aside0 (aQ ≠ a0)) (h6 : Aside0 (a1 ≠ aQ)) (k5 : Aside0 (aQ ≠ a1)) (h7 : Aside0 (aX ≠ aQ)) (k6 : Aside0 (aQ ≠ aX)) (iW : Aside0 (aV ≠ aQ)) (l2 : Aside0 (aQ ≠ aV)) (b8 : Aside0 (w.heap.size ≤ aP)) (jG : Aside0 (a3 ≠ aP)) (mM : Aside0 (aP ≠ a3)) (jH : Aside0 (aZ ≠ aP)) (mN : Aside0 (aP ≠ aZ)) (jI : Aside0 (a0 ≠ aP)) (mO : Aside0 (aP ≠ a0)) (h8 : Aside0 (a1 ≠ aP)) (k7 : Aside0 (aP ≠ a1)) (h9 : Aside0 (aX ≠ aP)) (k8 : Aside0 (aP ≠ aX)) (iX : Aside0 (aV ≠ aP)) (l3 : Aside0 (aP ≠ aV)) (iY : Aside0 (aQ ≠ aP)) (l4 : Aside0 (aP ≠ aQ)) (cE : Aside0 (w.heap.size ≤ aR)) (jJ : Aside0 (a3 ≠ aR)) (mP : Aside0 (aR ≠ a3)) (jK : Aside0 (aZ ≠ aR)) (mQ : Aside0 (aR ≠ aZ)) (jL : Aside0 (a0 ≠ aR)) (mR : Aside0 (aR ≠ a0)) (iA : Aside0 (a1 ≠ aR)) (k9 : Aside0 (aR ≠ a1)) (iB : Aside0 (aX ≠ aR)) (lA : Aside0 (aR ≠ aX)) (iZ : Aside0 (aV ≠ aR)) (l5 : Aside0 (aR ≠ aV)) (i0 : Aside0 (aQ ≠ aR)) (l6 : Aside0 (aR ≠ aQ)) (jM : Aside0 (aP ≠ aR)) (mS : Aside0 (aR ≠ aP)) (cK : Aside0 (w.heap.size ≤ aO)) (jY : Aside0 (a3 ≠ aO)) (nH : Aside0 (aO ≠ a3)) (jZ : Aside0 (aZ ≠ aO)) (nI : Aside0 (aO ≠ aZ)) (j3 : Aside0 (a0 ≠ aO)) (nJ : Aside0 (aO ≠ a0)) (iC : Aside0 (a1 ≠ aO)) (lB : Aside0 (aO ≠ a1)) (iD : Aside0 (aX ≠ aO)) (lC : Aside0 (aO ≠ aX)) (i1 : Aside0 (aV ≠ aO)) (l7 : Aside0 (aO ≠ aV)) (i2 : Aside0 (aQ ≠ aO)) (l8 : Aside0 (aO ≠ aQ)) (jN : Aside0 (aP ≠ aO)) (mT : Aside0 (aO ≠ aP)) (jO : Aside0 (aR ≠ aO)) (mU : Aside0 (aO ≠ aR)) (cT : Aside0 (w.heap.size ≤ aW)) (j4 : Aside0 (a3 ≠ aW)) (nK : Aside0 (aW ≠ a3)) (j5 : Aside0 (aZ ≠ aW)) (nL : Aside0 (aW ≠ aZ)) (j6 : Aside0 (a0 ≠ aW)) (nM : Aside0 (aW ≠ a0)) (iE : Aside0 (a1 ≠ aW)) (lD : Aside0 (aW ≠ a1)) (iF : Aside0 (aX ≠ aW)) (lE : Aside0 (aW ≠ aX)) (i3 : Aside0 (aV ≠ aW)) (l9 : Aside0 (aW ≠ aV)) (i4 : Aside0 (aQ ≠ aW)) (mA : Aside0 (aW ≠ aQ)) (jP : Aside0 (aP ≠ aW)) (mV : Aside0 (aW ≠ aP)) (jQ : Aside0 (aR ≠ aW)) (mW : Aside0 (aW ≠ aR)) (j7 : Aside0 (aO ≠ aW)) (nN : Aside0 (aW ≠ aO)) (dD : Aside0 (w.heap.size ≤ aH)) (hF : Aside0 (a3 ≠ aH)) (lF : Aside0 (aH ≠ a3)) (hG : Aside0 (aZ ≠ aH)) (lG : Aside0 (aH ≠ aZ)) (hH : Aside0 (a0 ≠ aH)) (lH : Aside0 (aH ≠ a0)) (e5 : Aside0 (a1 ≠ aH)) (i5 : Aside0 (aH ≠ a1)) (e6 : Aside0 (aX ≠ aH)) (i6 : Aside0 (aH ≠ aX)) (fR : Aside0 (aV ≠ aH)) (jR : Aside0 (aH ≠ aV)) (fS : Aside0 (aQ ≠ aH)) (jS : Aside0 (aH ≠ aQ)) (gF : Aside0 (aP ≠ aH)) (j8 : Aside0 (aH ≠ aP)) (gG : Aside0 (aR ≠ aH)) (j9 : Aside0 (aH ≠ aR)) (gW : Aside0 (aO ≠ aH)) (kK : Aside0 (aH ≠ aO)) (gX : Aside0 (aW ≠ aH)) (kL : Aside0 (aH ≠ aW)) (dL : Aside0 (w.heap.size ≤ aI)) (hI : Aside0 (a3 ≠ aI)) (lI : Aside0 (aI ≠ a3)) (hJ : Aside0 (aZ ≠ aI)) (lJ : Aside0 (aI ≠ aZ)) (hL : Aside0 (a0 ≠ aI)) (lK : Aside0 (aI ≠ a0)) (e7 : Aside0 (a1 ≠ aI)) (i7 : Aside0 (aI ≠ a1)) (e8 : Aside0 (aX ≠ aI)) (i8 : Aside0 (aI ≠ aX)) (fT : Aside0 (aV ≠ aI)) (jT : Aside0 (aI ≠ aV)) (fU : Aside0 (aQ ≠ aI)) (jU : Aside0 (aI ≠ aQ)) (gH : Aside0 (aP ≠ aI)) (kA : Aside0 (aI ≠ aP)) (gI : Aside0 (aR ≠ aI)) (kB : Aside0 (aI ≠ aR)) (gY : Aside0 (aO ≠ aI)) (kM : Aside0 (aI ≠ aO)) (gZ : Aside0 (aW ≠ aI)) (kN : Aside0 (aI ≠ aW)) (hM : Aside0 (aH ≠ aI)) (lL : Aside0 (aI ≠ aH)) (dO : Aside0 (w.heap.size ≤ aK)) (i9 : Aside0 (a3 ≠ aK)) (mX : Aside0 (aK ≠ a3)) (jA : Aside0 (aZ ≠ aK)) (mY : Aside0 (aK ≠ aZ)) (jB : Aside0 (a0 ≠ aK)) (mZ : Aside0 (aK ≠ a0)) (gJ : Aside0 (a1 ≠ aK)) (kC : Aside0 (aK ≠ a1)) (gK : Aside0 (aX ≠ aK)) (kD : Aside0 (aK ≠ aX)) (g0 : Aside0 (aV ≠ aK)) (kO : Aside0 (aK ≠ aV)) (g1 : Aside0 (aQ ≠ aK)) (kP : Aside0 (aK ≠ aQ)) (hN : Aside0 (aP ≠ aK)) (lM : Aside0 (aK ≠ aP)) (hO : Aside0 (aR ≠ aK)) (lN : Aside0 (aK ≠ aR)) (iG : Aside0 (aO ≠ aK)) (mB : Aside0 (aK ≠ aO)) (iH : Aside0 (aW ≠ aK)) (mC : Aside0 (aK ≠ aW)) (hP : Aside0 (aH ≠ aK)) (lO : Aside0 (aK ≠ aH)) (hQ : Aside0 (aI ≠ aK)) (lP : Aside0 (aK ≠ aI)) (dQ : Aside0 (w.heap.size ≤ aA)) (dH : Aside0 (a3 ≠ aA)) (m0 : Aside0 (aA ≠ a3)) (dI : Aside0 (aZ ≠ aA)) (m1 : Aside0 (aA ≠ aZ)) (dJ : Aside0 (a0 ≠ aA)) (m2 : Aside0 (aA ≠ a0)) (cP : Aside0 (a1 ≠ aA)) (kE : Aside0 (aA ≠ a1)) (cQ : Aside0 (aX ≠ aA)) (kF : Aside0 (aA ≠ aX)) (cU : Aside0 (aV ≠ aA)) (kQ : Aside0 (aA ≠ aV)) (cV : Aside0 (aQ ≠ aA)) (kR : Aside0 (aA ≠ aQ)) (cY : Aside0 (aP ≠ aA)) (lQ : Aside0 (aA ≠ aP)) (cZ : Aside0 (aR ≠ aA)) (lR : Aside0 (aA ≠ aR)) (dE : Aside0 (aO ≠ aA)) (mD : Aside0 (aA ≠ aO)) (dF : Aside0 (aW ≠ aA)) (mE : Aside0 (aA ≠ aW)) (c0 : Aside0 (aH ≠ aA)) (lS : Aside0 (aA ≠ aH)) (dA : Aside0 (aI ≠ aA)) (lT : Aside0 (aA ≠ aI)) (dK : Aside0 (aK ≠ aA)) (m3 : Aside0 (aA ≠ aK)) (cA : Aside0 (wq.heap[aA]? = some (.cells #[Value.int IntKind.i64 b0, Value.int IntKind.i64 b2, Value.bool b5, Value.string b9, Value.int IntKind.i64 cB, Value.int IntKind.i64 cH] 42 (0, 0)))) (bY : Aside0 (k42.V 42 wq w.heap.size (fun (k : Nat) => ((((((some k ≠ eC.ownBlock ∧ k ≠ a3 ∧ k ≠ aZ ∧ k ≠ a0 ∧ k ≠ a1 ∧ k ≠ aX ∧ k ≠ aV ∧ k ≠ aQ ∧ k ≠ aP ∧ k ≠ aR ∧ k ≠ aO) ∧ some k ≠ fE.ownBlock) ∧ k ≠ aW) ∧ k ≠ aH) ∧ k ≠ aI) ∧ k ≠ aK) ∧ k ≠ aA) (Value.slice fY dS.length fD) dS)) (bZ : Aside0 (k85.V 85 wq w.heap.size (fun (k : Nat) => ((((((some k ≠ eC.ownBlock ∧ k ≠ a3 ∧ k ≠ aZ ∧ k ≠ a0 ∧ k ≠ a1 ∧ k ≠ aX ∧ k ≠ aV ∧ k ≠ aQ ∧ k ≠ aP ∧ k ≠ aR ∧ k ≠ aO) ∧ some k ≠ fE.ownBlock) ∧ k ≠ aW) ∧ k ≠ aH) ∧ k ≠ aI) ∧ k ≠ aK) ∧ k ≠ aA) (Value.slice f3 dT.length fH) dT)) (b6 : Aside0 (k42.V 42 wq w.heap.size (fun (k : Nat) => ((((((some k ≠ eC.ownBlock ∧ k ≠ a3 ∧ k ≠ aZ ∧ k ≠ a0 ∧ k ≠ a1 ∧ k ≠ aX ∧ k ≠ aV ∧ k ≠ aQ ∧ k ≠ aP ∧ k ≠ aR ∧ k ≠ aO) ∧ some k ≠ fE.ownBlock) ∧ k ≠ aW) ∧ k ≠ aH) ∧ k ≠ aI) ∧ k ≠ aK) ∧ k ≠ aA) (Value.slice gE d1.length fO) d1)) (b7 : Aside0 (k85.V 85 wq w.heap.size (fun (k : Nat) => ((((((some k ≠ eC.ownBlock ∧ k ≠ a3 ∧ k ≠ aZ ∧ k ≠ a0 ∧ k ≠ a1 ∧ k ≠ aX ∧ k ≠ aV ∧ k ≠ aQ ∧ k ≠ aP ∧ k ≠ aR ∧ k ≠ aO) ∧ some k ≠ fE.ownBlock) ∧ k ≠ aW) ∧ k ≠ aH) ∧ k ≠ aI) ∧ k ≠ aK) ∧ k ≠ aA) (Value.slice gP d3.length fW) d3)) (cI : Aside0 (k42.V 42 wq w.heap.size (fun (k : Nat) => ((((((some k ≠ eC.ownBlock ∧ k ≠ a3 ∧ k ≠ aZ ∧ k ≠ a0 ∧ k ≠ a1 ∧ k ≠ aX ∧ k ≠ aV ∧ k ≠ aQ ∧ k ≠ aP ∧ k ≠ aR ∧ k ≠ aO) ∧ some k ≠ fE.ownBlock) ∧ k ≠ aW) ∧ k ≠ aH) ∧ k ≠ aI) ∧ k ≠ aK) ∧ k ≠ aA) (Value.slice g8 eN.length g9) eN)) (cJ : Aside0 (k85.V 85 wq w.heap.size (fun (k : Nat) => ((((((some k ≠ eC.ownBlock ∧ k ≠ a3 ∧ k ≠ aZ ∧ k ≠ a0 ∧ k ≠ a1 ∧ k ≠ aX ∧ k ≠ aV ∧ k ≠ aQ ∧ k ≠ aP ∧ k ≠ aR ∧ k ≠ aO) ∧ some k ≠ fE.ownBlock) ∧ k ≠ aW) ∧ k ≠ aH) ∧ k ≠ aI) ∧ k ≠ aK) ∧ k ≠ aA) (Value.slice hD eP.length hE) eP)) (cL : Aside0 (k42.V 42 wq w.heap.size (fun (k : Nat) => ((((((some k ≠ eC.ownBlock ∧ k ≠ a3 ∧ k ≠ aZ ∧ k ≠ a0 ∧ k ≠ a1 ∧ k ≠ aX ∧ k ≠ aV ∧ k ≠ aQ ∧ k ≠ aP ∧ k ≠ aR ∧ k ≠ aO) ∧ some k ≠ fE.ownBlock) ∧ k ≠ aW) ∧ k ≠ aH) ∧ k ≠ aI) ∧ k ≠ aK) ∧ k ≠ aA) (Value.slice hR eT.length hS) eT)) (cM : Aside0 (k85.V 85 wq w.heap.size (fun (k : Nat) => ((((((some k ≠ eC.ownBlock ∧ k ≠ a3 ∧ k ≠ aZ ∧ k ≠ a0 ∧ k ≠ a1 ∧ k ≠ aX ∧ k ≠ aV ∧ k ≠ aQ ∧ k ≠ aP ∧ k ≠ aR ∧ k ≠ aO) ∧ some k ≠ fE.ownBlock) ∧ k ≠ aW) ∧ k ≠ aH) ∧ k ≠ aI) ∧ k ≠ aK) ∧ k ≠ aA) (Value.slice hT eU.length hU) eU)) (dB : Aside0 (k42.V 42 wq w.heap.size (fun (k : Nat) => ((((((some k ≠ eC.ownBlock ∧ k ≠ a3 ∧ k ≠ aZ ∧ k ≠ a0 ∧ k ≠ a1 ∧ k ≠ aX ∧ k ≠ aV ∧ k ≠ aQ ∧ k ≠ aP ∧ k ≠ aR ∧ k ≠ aO) ∧ some k ≠ fE.ownBlock) ∧ k ≠ aW) ∧ k ≠ aH) ∧ k ≠ aI) ∧ k ≠ aK) ∧ k ≠ aA) (Value.slice hV eY.length hW) eY)) (dC : Aside0 (k85.V 85 wq w.heap.size (fun (k : Nat) => ((((((some k ≠ eC.ownBlock ∧ k ≠ a3 ∧ k ≠ aZ ∧ k ≠ a0 ∧ k ≠ a1 ∧ k ≠ aX ∧ k ≠ aV ∧ k ≠ aQ ∧ k ≠ aP ∧ k ≠ aR ∧ k ≠ aO) ∧ some k ≠ fE.ownBlock) ∧ k ≠ aW) ∧ k ≠ aH) ∧ k ≠ aI) ∧ k ≠ aK) ∧ k ≠ aA) (Value.slice iI e0.length iJ) e0)) (dM : Aside0 (k42.V 42 wq w.heap.size (fun (k : Nat) => ((((((some k ≠ eC.ownBlock ∧ k ≠ a3 ∧ k ≠ aZ ∧ k ≠ a0 ∧ k ≠ a1 ∧ k ≠ aX ∧ k ≠ aV ∧ k ≠ aQ ∧ k ≠ aP ∧ k ≠ aR ∧ k ≠ aO) ∧ some k ≠ fE.ownBlock) ∧ k ≠ aW) ∧ k ≠ aH) ∧ k ≠ aI) ∧ k ≠ aK) ∧ k ≠ aA) (Value.slice e9 fC.length fA) fC)) (dN : Aside0 (k85.V 85 wq w.heap.size (fun (k : Nat) => ((((((some k ≠ eC.ownBlock ∧ k ≠ a3 ∧ k ≠ aZ ∧ k ≠ a0 ∧ k ≠ a1 ∧ k ≠ aX ∧ k ≠ aV ∧ k ≠ aQ ∧ k ≠ aP ∧ k ≠ aR ∧ k ≠ aO) ∧ some k ≠ fE.ownBlock) ∧ k ≠ aW) ∧ k ≠ aH) ∧ k ≠ aI) ∧ k ≠ aK) ∧ k ≠ aA) (Value.slice fI fG.length fJ) fG)) (dV : Aside0 (k42.V 42 wq w.heap.size (fun (k : Nat) => ((((((some k ≠ eC.ownBlock ∧ k ≠ a3 ∧ k ≠ aZ ∧ k ≠ a0 ∧ k ≠ a1 ∧ k ≠ aX ∧ k ≠ aV ∧ k ≠ aQ ∧ k ≠ aP ∧ k ≠ aR ∧ k ≠ aO) ∧ some k ≠ fE.ownBlock) ∧ k ≠ aW) ∧ k ≠ aH) ∧ k ≠ aI) ∧ k ≠ aK) ∧ k ≠ aA) (Value.slice fK fN.length fL) fN)) (dW : Aside0 (k85.V 85 wq w.heap.size (fun (k : Nat) => ((((((some k ≠ eC.ownBlock ∧ k ≠ a3 ∧ k ≠ aZ ∧ k ≠ a0 ∧ k ≠ a1 ∧ k ≠ aX ∧ k ≠ aV ∧ k ≠ aQ ∧ k ≠ aP ∧ k ≠ aR ∧ k ≠ aO) ∧ some k ≠ fE.ownBlock) ∧ k ≠ aW) ∧ k ≠ aH) ∧ k ≠ aI) ∧ k ≠ aK) ∧ k ≠ aA) (Value.slice fP fV.length fQ) fV)) (dP : Aside0 (k42.R 42 wq w.heap.size (fun (k : Nat) => ((((True ∧ some k ≠ fE.ownBlock) ∧ k ≠ aH) ∧ k ≠ aI) ∧ k ≠ aK) ∧ k ≠ aA) eC eW)) (eJ : Aside0 (k42.V 42 wq w.heap.size (fun (k : Nat) => (((((some k ≠ fE.ownBlock ∧ some k ≠ eC.ownBlock ∧ k ≠ a3 ∧ k ≠ aZ ∧ k ≠ a0 ∧ k ≠ a1 ∧ k ≠ aX ∧ k ≠ aV ∧ k ≠ aQ ∧ k ≠ aP ∧ k ≠ aR ∧ k ≠ aO) ∧ k ≠ aW) ∧ k ≠ aH) ∧ k ≠ aI) ∧ k ≠ aK) ∧ k ≠ aA) (Value.slice fZ gD.length f0) gD)) (eK : Aside0 (k85.V 85 wq w.heap.size (fun (k : Nat) => (((((some k ≠ fE.ownBlock ∧ some k ≠ eC.ownBlock ∧ k ≠ a3 ∧ k ≠ aZ ∧ k ≠ a0 ∧ k ≠ a1 ∧ k ≠ aX ∧ k ≠ aV ∧ k ≠ aQ ∧ k ≠ aP ∧ k ≠ aR ∧ k ≠ aO) ∧ k ≠ aW) ∧ k ≠ aH) ∧ k ≠ aI) ∧ k ≠ aK) ∧ k ≠ aA) (Value.slice gA gO.length gB) gO)) (eS : Aside0 (k42.R 42 wq w.heap.size (fun (k : Nat) => ((((True ∧ some k ≠ eC.ownBlock) ∧ k ≠ aH) ∧ k ≠ aI) ∧ k ≠ aK) ∧ k ≠ aA) fE e4)) (aL : Aside0 (wq.heap[a3]? = some (Obj.cells #[Value.int IntKind.i64 aE, Value.slice cR aD.length cS, Value.slice cW aF.length cX, Value.int IntKind.i64 aG, Value.int IntKind.u64 aJ, Value.int IntKind.i64 dG, Value.int IntKind.i64 dR, Value.int IntKind.u64 eG, Value.int IntKind.i64 b3, Value.int IntKind.i64 bQ, Value.slice cC aM.length cD, Value.slice cF aN.length cG, Value.int IntKind.i64 aS, Value.int IntKind.u64 aU] 68))) (aB : Aside0 (wq.heap[aZ]? = some (Obj.cells #[Value.int IntKind.i64 aE, Value.slice cR aD.length cS, Value.slice cW aF.length cX, Value.int IntKind.i64 aG, Value.int IntKind.u64 aJ] 26))) (aC : Aside0 (wq.heap[a0]? = some (Obj.cells #[Value.int IntKind.i64 bQ, Value.slice cC aM.length cD, Value.slice cF aN.length cG, Value.int IntKind.i64 aS, Value.int IntKind.u64 aU] 26))) (aT : Aside0 (wq.heap[a1]? = some (Obj.cells #[Value.int IntKind.i64 eX, Value.slice fY dS.length fD, Value.slice f3 dT.length fH, Value.int IntKind.i64 e1, Value.int IntKind.u64 e3] 26))) (aY : Aside0 (wq.heap[aX]? = some (Obj.cells #[Value.int IntKind.i64 eZ, Value.slice gE d1.length fO, Value.slice gP d3.length fW, Value.int IntKind.i64 fB, Value.int IntKind.u64 fF] 26))) (a2 : Aside0 (wq.heap[aV]? = some (Obj.cells #[Value.int IntKind.i64 fM, Value.slice g8 eN.length g9, Value.slice hD eP.length hE, Value.int IntKind.i64 f1, Value.int IntKind.u64 gC] 26))) (a4 : Aside0 (wq.heap[aQ]? = some (Obj.cells #[Value.int IntKind.i64 fX, Value.slice hR eT.length hS, Value.slice hT eU.length hU, Value.int IntKind.i64 gL, Value.int IntKind.u64 gQ] 26))) (a5 : Aside0 (wq.heap[aP]? = some (Obj.cells #[Value.int IntKind.i64 f2, Value.slice hV eY.length hW, Value.slice iI e0.length iJ, Value.int IntKind.i64 gR, Value.int IntKind.u64 gS] 26))) (bO : Aside0 (wq.heap[aR]? = some (Obj.cells #[Value.int IntKind.i64 gM, Value.slice e9 fC.length fA, Value.slice fI fG.length fJ, Value.int IntKind.i64 g2, Value.int IntKind.u64 g4] 26))) (bS : Aside0 (wq.heap[aO]? = some (Obj.cells #[Value.int IntKind.i64 gN, Value.slice fK fN.length fL, Value.slice fP fV.length fQ, Value.int IntKind.i64 g3, Value.int IntKind.u64 g5] 26))) (bV : Aside0 (wq.heap[aW]? = some (Obj.cells #[Value.int IntKind.i64 gT, Value.slice fZ gD.length f0, Value.slice gA gO.length gB, Value.int IntKind.i64 g7, Value.int IntKind.u64 hB] 26))) (bU : Aside0 (wq.heap[aH]? = some (Obj.cells #[Value.int IntKind.i64 dU, Value.int IntKind.i64 dX, Value.bool dY, Value.string d2, Value.int IntKind.i64 d4, Value.int IntKind.i64 d5] 42))) (bX : Aside0 (wq.heap[aI]? = some (Obj.cells #[Value.int IntKind.i64 d6, Value.int IntKind.i64 d7, Value.bool eA, Value.string eB, Value.int IntKind.i64 eD, Value.int IntKind.i64 eE] 42))) (b4 : Aside0 (wq.heap[aK]? = some (Obj.cells #[Value.int IntKind.i64 eF, Value.int IntKind.i64 eI, Value.bool eL, Value.string eM, Value.int IntKind.i64 eO, Value.int IntKind.i64 eR] 42))) (HB : Aside0 (Below w.heap.size w wq)) (hc : Try.f9.body.bind (tailOf 22) = some (.seq h b)) (hK : ∀ a w', Code.wp Try.prog b (bodyPost Try.prog Try.f9 fun e w' => e = .returned (.bool r) ∧ Below w.heap.size w w') a w' → K a w') : Code.wp Try.prog h (Exit.then K (bodyPost Try.prog Try.f9 fun e w' => e = .returned (.bool r) ∧ Below w.heap.size w w')) ⟨#[.agg #[.int .i64 aE, .slice cR aD.length cS, .slice cW aF.length cX, .int .i64 aG, .int .u64 aJ, .int .i64 dG, .int .i64 dR, .int .u64 eG, .int .i64 b3, .int .i64 bQ, .slice cC aM.length cD, .slice cF aN.length cG, .int .i64 aS, .int .u64 aU], .pointer (some ⟨a3, 0, none⟩), .bool false, .pointer (some ⟨aZ, 0, none⟩), .int .i64 dG, .int .i64 dR, .int .u64 eG, .int .i64 b3, .pointer (some ⟨a0, 0, none⟩), .bool mG, .bool nT, .pointer (some ⟨a1, 0, none⟩), .int .i64 dZ, .int .i64 d0, .pointer (some ⟨aX, 0, none⟩), .int .i64 d8, .int .i64 d9, .pointer (some ⟨aV, 0, none⟩), .int .i64 eH, .pointer (some ⟨aQ, 0, none⟩), .int .i64 eQ, .pointer (some ⟨aP, 0, none⟩), .int .i64 eV, .pointer (some ⟨aR, 0, none⟩), .int .i64 e2, .pointer (some ⟨aO, 0, none⟩), eC, .pointer (some ⟨aW, 0, none⟩), fE, .pointer (some ⟨aH, 0, none⟩), .bool gU, .pointer (some ⟨aI, 0, none⟩), .bool hC, .pointer (some ⟨aK, 0, none⟩), .bool jV, .pointer (some ⟨aA, 0, none⟩), .bool kG, undef, undef, u39, u40, u41, u42, u43, u44, u45, u46, u47, u48, u49, u50, u51, u52, u53, u54, u55, u56, u57, u58, u59, u60, u61, u62, u63, u64, u65, u66, u67, u68, u69, u70, u71, u72, u73, u74, u75, u76, u77, u78, u79, u80, u81, u82, u83, u84, u85, u86, u87, u88, u89, u90, u91, u92, u93, u94, u95, u96, u97, u98, u99, u100, u101, u102, u103, u104, u105, u106, u107, u108, u109, u110, u111, u112, u113, u114, u115, u116, u117, u118, u119, u120, u121, u122, u123, u124, u125, u126, u127, u128, u129, u130, u131, u132, u133, u134, u135, u136, u137, u138, u139, u140, u141, u142, u143, u144, u145, u146, u147, u148, u149, u150, u151, u152, u153, u154, u155, u156, u157, u158, u159, u160, u161, u162, u163, u164, u165, u166, u167, u168, u169, u170, u171, u172, u173, u174, u175, u176, u177, u178, u179, u180, u181, u182, u183, u184, u185, u186, u187, u188, u189, u190, u191, u192, u193, u194, u195, u196, u197, u198, u199, u200, u201, u202, u203, u204, u205, u206, u207, u208, u209, u210, u211, u212, u213, u214, u215, u216, u217, u218, u219, u220], []⟩ wq := by
 have hu68 := Try.underlying68
 have hu26 := Try.underlying26
 have hu42 := Try.underlying42
 have hc2 : some (Code.seq _ _) = some (Code.seq h b) := hc
 cases hc2
 clear hc
 have H := HC32.out
 clear HC32
 replace H := Option.bind_eq_some_iff.mp H
 obtain ⟨jW, A2080, H⟩ := H
 try dsimp only at H
 have A208 := ak A2080
 clear A2080
 by_cases wA : jW = true
 ·subst wA
  rw [if_pos rfl] at H
  replace H := Option.bind_eq_some_iff.mp H
  obtain ⟨jD, A2100, H⟩ := H
  try dsimp only at H
  have rL := ak A2100
  clear A2100
  by_cases wB : jD = true
  ·subst wB
   rw [if_pos rfl] at H
   replace H := Option.bind_eq_some_iff.mp H
   obtain ⟨iL, A2120, H⟩ := H
   try dsimp only at H
   have A212 := ak A2120
   clear A2120
   by_cases wC : iL = true
   ·subst wC
    rw [if_pos rfl] at H
    replace H := Option.bind_eq_some_iff.mp H
    obtain ⟨hA, A2140, H⟩ := H
    try dsimp only at H
    have A214 := ak A2140
    clear A2140
    have H' := ak H
    clear H
    have hnb215 := kW.out
    have hnc215 := hX.out
    have hnb216 := kX.out
    have hnc216 := hY.out
    have hnb217 := kY.out
    have hnc217 := hZ.out
    have hnb218 := h3.out
    have hnc218 := k2.out
    have hnb219 := h4.out
    have hnc219 := k3.out
    have hnb220 := h6.out
    have hnc220 := k5.out
    have hnb221 := h8.out
    have hnc221 := k7.out
    have hnb222 := iA.out
    have hnc222 := k9.out
    have hnb223 := iC.out
    have hnc223 := lB.out
    have hnb224 := iE.out
    have hnc224 := lD.out
    have hnb225 := e5.out
    have hnc225 := i5.out
    have hnb226 := e7.out
    have hnc226 := i7.out
    have hnb227 := gJ.out
    have hnc227 := kC.out
    have hnb228 := cP.out
    have hnc228 := kE.out
    obtain ⟨wD, wE, wF, wG, wH⟩ := Cb.c5 aT.out
    obtain ⟨wI, wJ, wK, wL, wM⟩ := Cb.f5 aT.out
    have hnb230 := kZ.out
    have hnc230 := h0.out
    have hnb231 := k0.out
    have hnc231 := h1.out
    have hnb232 := k1.out
    have hnc232 := h2.out
    have hnb233 := h5.out
    have hnc233 := k4.out
    have hnb234 := h7.out
    have hnc234 := k6.out
    have hnb235 := h9.out
    have hnc235 := k8.out
    have hnb236 := iB.out
    have hnc236 := lA.out
    have hnb237 := iD.out
    have hnc237 := lC.out
    have hnb238 := iF.out
    have hnc238 := lE.out
    have hnb239 := e6.out
    have hnc239 := i6.out
    have hnb240 := e8.out
    have hnc240 := i8.out
    have hnb241 := gK.out
    have hnc241 := kD.out
    have hnb242 := cQ.out
    have hnc242 := kF.out
    obtain ⟨wN, wO, wP, wQ, wR⟩ := Cb.c5 aY.out
    obtain ⟨wS, wT, wU, wV, wW⟩ := Cb.f5 aY.out
    go_upto_region 24 with (first | ((with_reducible refine gate_callee (f := 21) rfl ?_); refine goesL_ (some 137) rfl rfl Try.func21 (by kernel_rfl) rfl #[.agg #[.int .i64 eX, .slice fY dS.length fD, .slice f3 dT.length fH, .int .i64 e1, .int .u64 e3], .agg #[.int .i64 eZ, .slice gE d1.length fO, .slice gP d3.length fW, .int .i64 fB, .int .u64 fF]] rfl mp ?_; (with_reducible refine (stanchionref17_Same.calls kj3 eX _ _ dS _ _ dT e1 e3 eZ _ _ d1 _ _ d3 fB fF true _ ?side1 ?side2 ?side3 ?side4 ?side5 ?side6 ?side7 ?side8 A208.out).mono ?_); (case side1 => exact pc (Kd.V_reads' bY.out).2.2); (case side2 => exact (Kd.V_reads' bY.out).2.1); (case side3 => exact pc (Kd.V_reads' bZ.out).2.2); (case side4 => exact (Kd.V_reads' bZ.out).2.1); (case side5 => exact pc (Kd.V_reads' b6.out).2.2); (case side6 => exact (Kd.V_reads' b6.out).2.1); (case side7 => exact pc (Kd.V_reads' b7.out).2.2); (case side8 => exact (Kd.V_reads' b7.out).2.1); rintro e w244 ⟨rfl, hb⟩; refine ⟨_, rfl, ?_⟩; replace bY := vw bY hb; replace bZ := vw bZ hb; replace b6 := vw b6 hb; replace b7 := vw b7 hb; replace cI := vw cI hb; replace cJ := vw cJ hb; replace cL := vw cL hb; replace cM := vw cM hb; replace dB := vw dB hb; replace dC := vw dC hb; replace dM := vw dM hb; replace dN := vw dN hb; replace dV := vw dV hb; replace dW := vw dW hb; replace dP := rb dP hb; replace eJ := vw eJ hb; replace eK := vw eK hb; replace eS := rb eS hb; replace aL := bb aL hb; replace aB := bb aB hb; replace aC := bb aC hb; replace aT := bb aT hb; replace aY := bb aY hb; replace a2 := bb a2 hb; replace a4 := bb a4 hb; replace a5 := bb a5 hb; replace bO := bb bO hb; replace bS := bb bS hb; replace bV := bb bV hb; replace bU := bb bU hb; replace bX := bb bX hb; replace b4 := bb b4 hb; replace cA := bb cA hb; replace HB := ak (below_step (uo bM.out bN.out bP.out bR.out bT.out bW.out b1.out b8.out cE.out cK.out cT.out dD.out dL.out dO.out dQ.out HB.out) hb); (try clear hb); (try clear hb2); (try clear hk); (try clear hi); have hnb245 := lW.out; have hnc245 := iQ.out; have hnb246 := lX.out; have hnc246 := iR.out; have hnb247 := lY.out; have hnc247 := iS.out; have hnb248 := iW.out; have hnc248 := l2.out; have hnb249 := iX.out; have hnc249 := l3.out; have hnb250 := iZ.out; have hnc250 := l5.out; have hnb251 := i1.out; have hnc251 := l7.out; have hnb252 := i3.out; have hnc252 := l9.out; have hnb253 := fR.out; have hnc253 := jR.out; have hnb254 := fT.out; have hnc254 := jT.out; have hnb255 := g0.out; have hnc255 := kO.out; have hnb256 := cU.out; have hnc256 := kQ.out; obtain ⟨wX, wY, wZ, w0, w2⟩ := Cb.c5 a2.out; obtain ⟨w3, w4, w6, w8, w9⟩ := Cb.f5 a2.out; have hnb258 := lZ.out; have hnc258 := iT.out; have hnb259 := l0.out; have hnc259 := iU.out; have hnb260 := l1.out; have hnc260 := iV.out; have hnb261 := iY.out; have hnc261 := l4.out; have hnb262 := i0.out; have hnc262 := l6.out; have hnb263 := i2.out; have hnc263 := l8.out; have hnb264 := i4.out; have hnc264 := mA.out; have hnb265 := fS.out; have hnc265 := jS.out; have hnb266 := fU.out; have hnc266 := jU.out; have hnb267 := g1.out; have hnc267 := kP.out; have hnb268 := cV.out; have hnc268 := kR.out; obtain ⟨xA, xB, xC, xD, xE⟩ := Cb.c5 a4.out; obtain ⟨xF, xG, xH, xI, xJ⟩ := Cb.f5 a4.out) | (go_at_call 21; (with_reducible refine (stanchionref17_Same.calls kj3 fM _ _ eN _ _ eP f1 gC fX _ _ eT _ _ eU gL gQ true _ ?side1 ?side2 ?side3 ?side4 ?side5 ?side6 ?side7 ?side8 rL.out).mono ?_); (case side1 => exact pc (Kd.V_reads' cI.out).2.2); (case side2 => exact (Kd.V_reads' cI.out).2.1); (case side3 => exact pc (Kd.V_reads' cJ.out).2.2); (case side4 => exact (Kd.V_reads' cJ.out).2.1); (case side5 => exact pc (Kd.V_reads' cL.out).2.2); (case side6 => exact (Kd.V_reads' cL.out).2.1); (case side7 => exact pc (Kd.V_reads' cM.out).2.2); (case side8 => exact (Kd.V_reads' cM.out).2.1); rintro e w270 ⟨rfl, hb⟩; replace bY := vw bY hb; replace bZ := vw bZ hb; replace b6 := vw b6 hb; replace b7 := vw b7 hb; replace cI := vw cI hb; replace cJ := vw cJ hb; replace cL := vw cL hb; replace cM := vw cM hb; replace dB := vw dB hb; replace dC := vw dC hb; replace dM := vw dM hb; replace dN := vw dN hb; replace dV := vw dV hb; replace dW := vw dW hb; replace dP := rb dP hb; replace eJ := vw eJ hb; replace eK := vw eK hb; replace eS := rb eS hb; replace aL := bb aL hb; replace aB := bb aB hb; replace aC := bb aC hb; replace aT := bb aT hb; replace aY := bb aY hb; replace a2 := bb a2 hb; replace a4 := bb a4 hb; replace a5 := bb a5 hb; replace bO := bb bO hb; replace bS := bb bS hb; replace bV := bb bV hb; replace bU := bb bU hb; replace bX := bb bX hb; replace b4 := bb b4 hb; replace cA := bb cA hb; replace HB := ak (below_step (uo bM.out bN.out bP.out bR.out bT.out bW.out b1.out b8.out cE.out cK.out cT.out dD.out dL.out dO.out dQ.out HB.out) hb); (try clear hb); (try clear hb2); (try clear hk); (try clear hi); have hnb271 := mM.out; have hnc271 := jG.out; have hnb272 := mN.out; have hnc272 := jH.out; have hnb273 := mO.out; have hnc273 := jI.out; have hnb274 := jM.out; have hnc274 := mS.out; have hnb275 := jN.out; have hnc275 := mT.out; have hnb276 := jP.out; have hnc276 := mV.out; have hnb277 := gF.out; have hnc277 := j8.out; have hnb278 := gH.out; have hnc278 := kA.out; have hnb279 := hN.out; have hnc279 := lM.out; have hnb280 := cY.out; have hnc280 := lQ.out; obtain ⟨xK, xL, xM, xN, xO⟩ := Cb.c5 a5.out; obtain ⟨xP, xQ, xR, xS, xT⟩ := Cb.f5 a5.out; have hnb282 := mP.out; have hnc282 := jJ.out; have hnb283 := mQ.out; have hnc283 := jK.out; have hnb284 := mR.out; have hnc284 := jL.out; have hnb285 := jO.out; have hnc285 := mU.out; have hnb286 := jQ.out; have hnc286 := mW.out; have hnb287 := gG.out; have hnc287 := j9.out; have hnb288 := gI.out; have hnc288 := kB.out; have hnb289 := hO.out; have hnc289 := lN.out; have hnb290 := cZ.out; have hnc290 := lR.out; obtain ⟨xU, xV, xW, xX, xY⟩ := Cb.c5 bO.out; obtain ⟨xZ, x0, x1, x2, x3⟩ := Cb.f5 bO.out) | (go_at_call 21; (with_reducible refine (stanchionref17_Same.calls kj3 f2 _ _ eY _ _ e0 gR gS gM _ _ fC _ _ fG g2 g4 true _ ?side1 ?side2 ?side3 ?side4 ?side5 ?side6 ?side7 ?side8 A212.out).mono ?_); (case side1 => exact pc (Kd.V_reads' dB.out).2.2); (case side2 => exact (Kd.V_reads' dB.out).2.1); (case side3 => exact pc (Kd.V_reads' dC.out).2.2); (case side4 => exact (Kd.V_reads' dC.out).2.1); (case side5 => exact pc (Kd.V_reads' dM.out).2.2); (case side6 => exact (Kd.V_reads' dM.out).2.1); (case side7 => exact pc (Kd.V_reads' dN.out).2.2); (case side8 => exact (Kd.V_reads' dN.out).2.1); rintro e w292 ⟨rfl, hb⟩; replace bY := vw bY hb; replace bZ := vw bZ hb; replace b6 := vw b6 hb; replace b7 := vw b7 hb; replace cI := vw cI hb; replace cJ := vw cJ hb; replace cL := vw cL hb; replace cM := vw cM hb; replace dB := vw dB hb; replace dC := vw dC hb; replace dM := vw dM hb; replace dN := vw dN hb; replace dV := vw dV hb; replace dW := vw dW hb; replace dP := rb dP hb; replace eJ := vw eJ hb; replace eK := vw eK hb; replace eS := rb eS hb; replace aL := bb aL hb; replace aB := bb aB hb; replace aC := bb aC hb; replace aT := bb aT hb; replace aY := bb aY hb; replace a2 := bb a2 hb; replace a4 := bb a4 hb; replace a5 := bb a5 hb; replace bO := bb bO hb; replace bS := bb bS hb; replace bV := bb bV hb; replace bU := bb bU hb; replace bX := bb bX hb; replace b4 := bb b4 hb; replace cA := bb cA hb; replace HB := ak (below_step (uo bM.out bN.out bP.out bR.out bT.out bW.out b1.out b8.out cE.out cK.out cT.out dD.out dL.out dO.out dQ.out HB.out) hb); (try clear hb); (try clear hb2); (try clear hk); (try clear hi); have hnb293 := nH.out; have hnc293 := jY.out; have hnb294 := nI.out; have hnc294 := jZ.out; have hnb295 := nJ.out; have hnc295 := j3.out; have hnb296 := j7.out; have hnc296 := nN.out; have hnb297 := gW.out; have hnc297 := kK.out; have hnb298 := gY.out; have hnc298 := kM.out; have hnb299 := iG.out; have hnc299 := mB.out; have hnb300 := dE.out; have hnc300 := mD.out; obtain ⟨x4, x5, x6, x7, x8⟩ := Cb.c5 bS.out; obtain ⟨x9, yA, yB, yC, yD⟩ := Cb.f5 bS.out; have hnb302 := nK.out; have hnc302 := j4.out; have hnb303 := nL.out; have hnc303 := j5.out; have hnb304 := nM.out; have hnc304 := j6.out; have hnb305 := gX.out; have hnc305 := kL.out; have hnb306 := gZ.out; have hnc306 := kN.out; have hnb307 := iH.out; have hnc307 := mC.out; have hnb308 := dF.out; have hnc308 := mE.out; obtain ⟨yE, yF, yG, yH, yI⟩ := Cb.c5 bV.out; obtain ⟨yJ, yK, yL, yM, yN⟩ := Cb.f5 bV.out) | (go_at_call 21; (with_reducible refine (stanchionref17_Same.calls kj3 gN _ _ fN _ _ fV g3 g5 gT _ _ gD _ _ gO g7 hB hA _ ?side1 ?side2 ?side3 ?side4 ?side5 ?side6 ?side7 ?side8 A214.out).mono ?_); (case side1 => exact pc (Kd.V_reads' dV.out).2.2); (case side2 => exact (Kd.V_reads' dV.out).2.1); (case side3 => exact pc (Kd.V_reads' dW.out).2.2); (case side4 => exact (Kd.V_reads' dW.out).2.1); (case side5 => exact pc (Kd.V_reads' eJ.out).2.2); (case side6 => exact (Kd.V_reads' eJ.out).2.1); (case side7 => exact pc (Kd.V_reads' eK.out).2.2); (case side8 => exact (Kd.V_reads' eK.out).2.1); rintro e w310 ⟨rfl, hb⟩; replace bY := vw bY hb; replace bZ := vw bZ hb; replace b6 := vw b6 hb; replace b7 := vw b7 hb; replace cI := vw cI hb; replace cJ := vw cJ hb; replace cL := vw cL hb; replace cM := vw cM hb; replace dB := vw dB hb; replace dC := vw dC hb; replace dM := vw dM hb; replace dN := vw dN hb; replace dV := vw dV hb; replace dW := vw dW hb; replace dP := rb dP hb; replace eJ := vw eJ hb; replace eK := vw eK hb; replace eS := rb eS hb; replace aL := bb aL hb; replace aB := bb aB hb; replace aC := bb aC hb; replace aT := bb aT hb; replace aY := bb aY hb; replace a2 := bb a2 hb; replace a4 := bb a4 hb; replace a5 := bb a5 hb; replace bO := bb bO hb; replace bS := bb bS hb; replace bV := bb bV hb; replace bU := bb bU hb; replace bX := bb bX hb; replace b4 := bb b4 hb; replace cA := bb cA hb; replace HB := ak (below_step (uo bM.out bN.out bP.out bR.out bT.out bW.out b1.out b8.out cE.out cK.out cT.out dD.out dL.out dO.out dQ.out HB.out) hb); (try clear hb); (try clear hb2); (try clear hk); (try clear hi)))
    exact stanchionlaw17_SessionActs.rB (hr_ := hr_) (iM := iM) (iN := iN) (iO := iO) (iP := iP) (mI := mI) (mJ := mJ) (mK := mK) (mL := mL) (bM := bM) (bN := bN) (bP := bP) (bR := bR) (bT := bT) (bW := bW) (b1 := b1) (b8 := b8) (cE := cE) (cK := cK) (cT := cT) (dD := dD) (hF := hF) (lF := lF) (hG := hG) (lG := lG) (hH := hH) (lH := lH) (e5 := e5) (i5 := i5) (e6 := e6) (i6 := i6) (fR := fR) (jR := jR) (fS := fS) (jS := jS) (gF := gF) (j8 := j8) (gG := gG) (j9 := j9) (gW := gW) (kK := kK) (gX := gX) (kL := kL) (dL := dL) (hI := hI) (lI := lI) (hJ := hJ) (lJ := lJ) (hL := hL) (lK := lK) (e7 := e7) (i7 := i7) (e8 := e8) (i8 := i8) (fT := fT) (jT := jT) (fU := fU) (jU := jU) (gH := gH) (kA := kA) (gI := gI) (kB := kB) (gY := gY) (kM := kM) (gZ := gZ) (kN := kN) (hM := hM) (lL := lL) (dO := dO) (i9 := i9) (mX := mX) (jA := jA) (mY := mY) (jB := jB) (mZ := mZ) (gJ := gJ) (kC := kC) (gK := gK) (kD := kD) (g0 := g0) (kO := kO) (g1 := g1) (kP := kP) (hN := hN) (lM := lM) (hO := hO) (lN := lN) (iG := iG) (mB := mB) (iH := iH) (mC := mC) (hP := hP) (lO := lO) (hQ := hQ) (lP := lP) (dQ := dQ) (dH := dH) (m0 := m0) (dI := dI) (m1 := m1) (dJ := dJ) (m2 := m2) (cP := cP) (kE := kE) (cQ := cQ) (kF := kF) (cU := cU) (kQ := kQ) (cV := cV) (kR := kR) (cY := cY) (lQ := lQ) (cZ := cZ) (lR := lR) (dE := dE) (mD := mD) (dF := dF) (mE := mE) (c0 := c0) (lS := lS) (dA := dA) (lT := lT) (dK := dK) (m3 := m3) (HA := H') (HJ31 := ⟨Nat.le_refl _⟩) (cN := ⟨pR (rm dP.out)⟩) (cO := ⟨pR (rm eS.out)⟩) (a6 := ⟨pV (vm bY.out)⟩) (a7 := ⟨pV (vm bZ.out)⟩) (a8 := ⟨pV (vm b6.out)⟩) (a9 := ⟨pV (vm b7.out)⟩) (bA := ⟨pV (vm cI.out)⟩) (bB := ⟨pV (vm cJ.out)⟩) (bC := ⟨pV (vm cL.out)⟩) (bD := ⟨pV (vm cM.out)⟩) (bE := ⟨pV (vm dB.out)⟩) (bF := ⟨pV (vm dC.out)⟩) (bG := ⟨pV (vm dM.out)⟩) (bH := ⟨pV (vm dN.out)⟩) (bI := ⟨pV (vm dV.out)⟩) (bJ := ⟨pV (vm dW.out)⟩) (bK := ⟨pV (vm eJ.out)⟩) (bL := ⟨pV (vm eK.out)⟩) (aL := ⟨pk aL.out⟩) (aB := ⟨pk aB.out⟩) (aC := ⟨pk aC.out⟩) (aT := ⟨pk aT.out⟩) (aY := ⟨pk aY.out⟩) (a2 := ⟨pk a2.out⟩) (a4 := ⟨pk a4.out⟩) (a5 := ⟨pk a5.out⟩) (bO := ⟨pk bO.out⟩) (bS := ⟨pk bS.out⟩) (bV := ⟨pk bV.out⟩) (bU := ⟨pk bU.out⟩) (bX := ⟨pk bX.out⟩) (b4 := ⟨pk b4.out⟩) (cA := ⟨pk cA.out⟩) (HB := ⟨uo bM.out bN.out bP.out bR.out bT.out bW.out b1.out b8.out cE.out cK.out cT.out dD.out dL.out dO.out dQ.out HB.out⟩) (hc := rfl) (hK := by assumption)
   ·replace wC := Bool.eq_false_iff.mpr wC
    subst wC
    rw [if_neg (show ¬ (false = true) by decide)] at H
    have H' := ak H
    clear H
    have hnb311 := kW.out
    have hnc311 := hX.out
    have hnb312 := kX.out
    have hnc312 := hY.out
    have hnb313 := kY.out
    have hnc313 := hZ.out
    have hnb314 := h3.out
    have hnc314 := k2.out
    have hnb315 := h4.out
    have hnc315 := k3.out
    have hnb316 := h6.out
    have hnc316 := k5.out
    have hnb317 := h8.out
    have hnc317 := k7.out
    have hnb318 := iA.out
    have hnc318 := k9.out
    have hnb319 := iC.out
    have hnc319 := lB.out
    have hnb320 := iE.out
    have hnc320 := lD.out
    have hnb321 := e5.out
    have hnc321 := i5.out
    have hnb322 := e7.out
    have hnc322 := i7.out
    have hnb323 := gJ.out
    have hnc323 := kC.out
    have hnb324 := cP.out
    have hnc324 := kE.out
    obtain ⟨yO, yP, yQ, yR, yS⟩ := Cb.c5 aT.out
    obtain ⟨yT, yU, yV, yW, yX⟩ := Cb.f5 aT.out
    have hnb326 := kZ.out
    have hnc326 := h0.out
    have hnb327 := k0.out
    have hnc327 := h1.out
    have hnb328 := k1.out
    have hnc328 := h2.out
    have hnb329 := h5.out
    have hnc329 := k4.out
    have hnb330 := h7.out
    have hnc330 := k6.out
    have hnb331 := h9.out
    have hnc331 := k8.out
    have hnb332 := iB.out
    have hnc332 := lA.out
    have hnb333 := iD.out
    have hnc333 := lC.out
    have hnb334 := iF.out
    have hnc334 := lE.out
    have hnb335 := e6.out
    have hnc335 := i6.out
    have hnb336 := e8.out
    have hnc336 := i8.out
    have hnb337 := gK.out
    have hnc337 := kD.out
    have hnb338 := cQ.out
    have hnc338 := kF.out
    obtain ⟨yY, yZ, y0, y1, y2⟩ := Cb.c5 aY.out
    obtain ⟨y3, y4, y5, y6, y7⟩ := Cb.f5 aY.out
    go_upto_region 24 with (first | ((with_reducible refine gate_callee (f := 21) rfl ?_); refine goesL_ (some 137) rfl rfl Try.func21 (by kernel_rfl) rfl #[.agg #[.int .i64 eX, .slice fY dS.length fD, .slice f3 dT.length fH, .int .i64 e1, .int .u64 e3], .agg #[.int .i64 eZ, .slice gE d1.length fO, .slice gP d3.length fW, .int .i64 fB, .int .u64 fF]] rfl mp ?_; (with_reducible refine (stanchionref17_Same.calls kj3 eX _ _ dS _ _ dT e1 e3 eZ _ _ d1 _ _ d3 fB fF true _ ?side1 ?side2 ?side3 ?side4 ?side5 ?side6 ?side7 ?side8 A208.out).mono ?_); (case side1 => exact pc (Kd.V_reads' bY.out).2.2); (case side2 => exact (Kd.V_reads' bY.out).2.1); (case side3 => exact pc (Kd.V_reads' bZ.out).2.2); (case side4 => exact (Kd.V_reads' bZ.out).2.1); (case side5 => exact pc (Kd.V_reads' b6.out).2.2); (case side6 => exact (Kd.V_reads' b6.out).2.1); (case side7 => exact pc (Kd.V_reads' b7.out).2.2); (case side8 => exact (Kd.V_reads' b7.out).2.1); rintro e w340 ⟨rfl, hb⟩; refine ⟨_, rfl, ?_⟩; replace bY := vw bY hb; replace bZ := vw bZ hb; replace b6 := vw b6 hb; replace b7 := vw b7 hb; replace cI := vw cI hb; replace cJ := vw cJ hb; replace cL := vw cL hb; replace cM := vw cM hb; replace dB := vw dB hb; replace dC := vw dC hb; replace dM := vw dM hb; replace dN := vw dN hb; replace dV := vw dV hb; replace dW := vw dW hb; replace dP := rb dP hb; replace eJ := vw eJ hb; replace eK := vw eK hb; replace eS := rb eS hb; replace aL := bb aL hb; replace aB := bb aB hb; replace aC := bb aC hb; replace aT := bb aT hb; replace aY := bb aY hb; replace a2 := bb a2 hb; replace a4 := bb a4 hb; replace a5 := bb a5 hb; replace bO := bb bO hb; replace bS := bb bS hb; replace bV := bb bV hb; replace bU := bb bU hb; replace bX := bb bX hb; replace b4 := bb b4 hb; replace cA := bb cA hb; replace HB := ak (below_step (uo bM.out bN.out bP.out bR.out bT.out bW.out b1.out b8.out cE.out cK.out cT.out dD.out dL.out dO.out dQ.out HB.out) hb); (try clear hb); (try clear hb2); (try clear hk); (try clear hi); have hnb341 := lW.out; have hnc341 := iQ.out; have hnb342 := lX.out; have hnc342 := iR.out; have hnb343 := lY.out; have hnc343 := iS.out; have hnb344 := iW.out; have hnc344 := l2.out; have hnb345 := iX.out; have hnc345 := l3.out; have hnb346 := iZ.out; have hnc346 := l5.out; have hnb347 := i1.out; have hnc347 := l7.out; have hnb348 := i3.out; have hnc348 := l9.out; have hnb349 := fR.out; have hnc349 := jR.out; have hnb350 := fT.out; have hnc350 := jT.out; have hnb351 := g0.out; have hnc351 := kO.out; have hnb352 := cU.out; have hnc352 := kQ.out; obtain ⟨y8, y9, zA, zB, zC⟩ := Cb.c5 a2.out; obtain ⟨zD, zE, zF, zG, zH⟩ := Cb.f5 a2.out; have hnb354 := lZ.out; have hnc354 := iT.out; have hnb355 := l0.out; have hnc355 := iU.out; have hnb356 := l1.out; have hnc356 := iV.out; have hnb357 := iY.out; have hnc357 := l4.out; have hnb358 := i0.out; have hnc358 := l6.out; have hnb359 := i2.out; have hnc359 := l8.out; have hnb360 := i4.out; have hnc360 := mA.out; have hnb361 := fS.out; have hnc361 := jS.out; have hnb362 := fU.out; have hnc362 := jU.out; have hnb363 := g1.out; have hnc363 := kP.out; have hnb364 := cV.out; have hnc364 := kR.out; obtain ⟨zI, zJ, zK, zL, zM⟩ := Cb.c5 a4.out; obtain ⟨zN, zO, zP, zQ, zR⟩ := Cb.f5 a4.out) | (go_at_call 21; (with_reducible refine (stanchionref17_Same.calls kj3 fM _ _ eN _ _ eP f1 gC fX _ _ eT _ _ eU gL gQ true _ ?side1 ?side2 ?side3 ?side4 ?side5 ?side6 ?side7 ?side8 rL.out).mono ?_); (case side1 => exact pc (Kd.V_reads' cI.out).2.2); (case side2 => exact (Kd.V_reads' cI.out).2.1); (case side3 => exact pc (Kd.V_reads' cJ.out).2.2); (case side4 => exact (Kd.V_reads' cJ.out).2.1); (case side5 => exact pc (Kd.V_reads' cL.out).2.2); (case side6 => exact (Kd.V_reads' cL.out).2.1); (case side7 => exact pc (Kd.V_reads' cM.out).2.2); (case side8 => exact (Kd.V_reads' cM.out).2.1); rintro e w366 ⟨rfl, hb⟩; replace bY := vw bY hb; replace bZ := vw bZ hb; replace b6 := vw b6 hb; replace b7 := vw b7 hb; replace cI := vw cI hb; replace cJ := vw cJ hb; replace cL := vw cL hb; replace cM := vw cM hb; replace dB := vw dB hb; replace dC := vw dC hb; replace dM := vw dM hb; replace dN := vw dN hb; replace dV := vw dV hb; replace dW := vw dW hb; replace dP := rb dP hb; replace eJ := vw eJ hb; replace eK := vw eK hb; replace eS := rb eS hb; replace aL := bb aL hb; replace aB := bb aB hb; replace aC := bb aC hb; replace aT := bb aT hb; replace aY := bb aY hb; replace a2 := bb a2 hb; replace a4 := bb a4 hb; replace a5 := bb a5 hb; replace bO := bb bO hb; replace bS := bb bS hb; replace bV := bb bV hb; replace bU := bb bU hb; replace bX := bb bX hb; replace b4 := bb b4 hb; replace cA := bb cA hb; replace HB := ak (below_step (uo bM.out bN.out bP.out bR.out bT.out bW.out b1.out b8.out cE.out cK.out cT.out dD.out dL.out dO.out dQ.out HB.out) hb); (try clear hb); (try clear hb2); (try clear hk); (try clear hi); have hnb367 := mM.out; have hnc367 := jG.out; have hnb368 := mN.out; have hnc368 := jH.out; have hnb369 := mO.out; have hnc369 := jI.out; have hnb370 := jM.out; have hnc370 := mS.out; have hnb371 := jN.out; have hnc371 := mT.out; have hnb372 := jP.out; have hnc372 := mV.out; have hnb373 := gF.out; have hnc373 := j8.out; have hnb374 := gH.out; have hnc374 := kA.out; have hnb375 := hN.out; have hnc375 := lM.out; have hnb376 := cY.out; have hnc376 := lQ.out; obtain ⟨zS, zT, zU, zV, zW⟩ := Cb.c5 a5.out; obtain ⟨zX, zY, zZ, z0, z1⟩ := Cb.f5 a5.out; have hnb378 := mP.out; have hnc378 := jJ.out; have hnb379 := mQ.out; have hnc379 := jK.out; have hnb380 := mR.out; have hnc380 := jL.out; have hnb381 := jO.out; have hnc381 := mU.out; have hnb382 := jQ.out; have hnc382 := mW.out; have hnb383 := gG.out; have hnc383 := j9.out; have hnb384 := gI.out; have hnc384 := kB.out; have hnb385 := hO.out; have hnc385 := lN.out; have hnb386 := cZ.out; have hnc386 := lR.out; obtain ⟨z2, z3, z4, z5, z6⟩ := Cb.c5 bO.out; obtain ⟨z7, z8, z9, hfz387_3, hfz387_4⟩ := Cb.f5 bO.out) | (go_at_call 21; (with_reducible refine (stanchionref17_Same.calls kj3 f2 _ _ eY _ _ e0 gR gS gM _ _ fC _ _ fG g2 g4 false _ ?side1 ?side2 ?side3 ?side4 ?side5 ?side6 ?side7 ?side8 A212.out).mono ?_); (case side1 => exact pc (Kd.V_reads' dB.out).2.2); (case side2 => exact (Kd.V_reads' dB.out).2.1); (case side3 => exact pc (Kd.V_reads' dC.out).2.2); (case side4 => exact (Kd.V_reads' dC.out).2.1); (case side5 => exact pc (Kd.V_reads' dM.out).2.2); (case side6 => exact (Kd.V_reads' dM.out).2.1); (case side7 => exact pc (Kd.V_reads' dN.out).2.2); (case side8 => exact (Kd.V_reads' dN.out).2.1); rintro e w388 ⟨rfl, hb⟩; replace bY := vw bY hb; replace bZ := vw bZ hb; replace b6 := vw b6 hb; replace b7 := vw b7 hb; replace cI := vw cI hb; replace cJ := vw cJ hb; replace cL := vw cL hb; replace cM := vw cM hb; replace dB := vw dB hb; replace dC := vw dC hb; replace dM := vw dM hb; replace dN := vw dN hb; replace dV := vw dV hb; replace dW := vw dW hb; replace dP := rb dP hb; replace eJ := vw eJ hb; replace eK := vw eK hb; replace eS := rb eS hb; replace aL := bb aL hb; replace aB := bb aB hb; replace aC := bb aC hb; replace aT := bb aT hb; replace aY := bb aY hb; replace a2 := bb a2 hb; replace a4 := bb a4 hb; replace a5 := bb a5 hb; replace bO := bb bO hb; replace bS := bb bS hb; replace bV := bb bV hb; replace bU := bb bU hb; replace bX := bb bX hb; replace b4 := bb b4 hb; replace cA := bb cA hb; replace HB := ak (below_step (uo bM.out bN.out bP.out bR.out bT.out bW.out b1.out b8.out cE.out cK.out cT.out dD.out dL.out dO.out dQ.out HB.out) hb); (try clear hb); (try clear hb2); (try clear hk); (try clear hi)))
    exact stanchionlaw17_SessionActs.rB (hr_ := hr_) (iM := iM) (iN := iN) (iO := iO) (iP := iP) (mI := mI) (mJ := mJ) (mK := mK) (mL := mL) (bM := bM) (bN := bN) (bP := bP) (bR := bR) (bT := bT) (bW := bW) (b1 := b1) (b8 := b8) (cE := cE) (cK := cK) (cT := cT) (dD := dD) (hF := hF) (lF := lF) (hG := hG) (lG := lG) (hH := hH) (lH := lH) (e5 := e5) (i5 := i5) (e6 := e6) (i6 := i6) (fR := fR) (jR := jR) (fS := fS) (jS := jS) (gF := gF) (j8 := j8) (gG := gG) (j9 := j9) (gW := gW) (kK := kK) (gX := gX) (kL := kL) (dL := dL) (hI := hI) (lI := lI) (hJ := hJ) (lJ := lJ) (hL := hL) (lK := lK) (e7 := e7) (i7 := i7) (e8 := e8) (i8 := i8) (fT := fT) (jT := jT) (fU := fU) (jU := jU) (gH := gH) (kA := kA) (gI := gI) (kB := kB) (gY := gY) (kM := kM) (gZ := gZ) (kN := kN) (hM := hM) (lL := lL) (dO := dO) (i9 := i9) (mX := mX) (jA := jA) (mY := mY) (jB := jB) (mZ := mZ) (gJ := gJ) (kC := kC) (gK := gK) (kD := kD) (g0 := g0) (kO := kO) (g1 := g1) (kP := kP) (hN := hN) (lM := lM) (hO := hO) (lN := lN) (iG := iG) (mB := mB) (iH := iH) (mC := mC) (hP := hP) (lO := lO) (hQ := hQ) (lP := lP) (dQ := dQ) (dH := dH) (m0 := m0) (dI := dI) (m1 := m1) (dJ := dJ) (m2 := m2) (cP := cP) (kE := kE) (cQ := cQ) (kF := kF) (cU := cU) (kQ := kQ) (cV := cV) (kR := kR) (cY := cY) (lQ := lQ) (cZ := cZ) (lR := lR) (dE := dE) (mD := mD) (dF := dF) (mE := mE) (c0 := c0) (lS := lS) (dA := dA) (lT := lT) (dK := dK) (m3 := m3) (HA := H') (HJ31 := ⟨Nat.le_refl _⟩) (cN := ⟨pR (rm dP.out)⟩) (cO := ⟨pR (rm eS.out)⟩) (a6 := ⟨pV (vm bY.out)⟩) (a7 := ⟨pV (vm bZ.out)⟩) (a8 := ⟨pV (vm b6.out)⟩) (a9 := ⟨pV (vm b7.out)⟩) (bA := ⟨pV (vm cI.out)⟩) (bB := ⟨pV (vm cJ.out)⟩) (bC := ⟨pV (vm cL.out)⟩) (bD := ⟨pV (vm cM.out)⟩) (bE := ⟨pV (vm dB.out)⟩) (bF := ⟨pV (vm dC.out)⟩) (bG := ⟨pV (vm dM.out)⟩) (bH := ⟨pV (vm dN.out)⟩) (bI := ⟨pV (vm dV.out)⟩) (bJ := ⟨pV (vm dW.out)⟩) (bK := ⟨pV (vm eJ.out)⟩) (bL := ⟨pV (vm eK.out)⟩) (aL := ⟨pk aL.out⟩) (aB := ⟨pk aB.out⟩) (aC := ⟨pk aC.out⟩) (aT := ⟨pk aT.out⟩) (aY := ⟨pk aY.out⟩) (a2 := ⟨pk a2.out⟩) (a4 := ⟨pk a4.out⟩) (a5 := ⟨pk a5.out⟩) (bO := ⟨pk bO.out⟩) (bS := ⟨pk bS.out⟩) (bV := ⟨pk bV.out⟩) (bU := ⟨pk bU.out⟩) (bX := ⟨pk bX.out⟩) (b4 := ⟨pk b4.out⟩) (cA := ⟨pk cA.out⟩) (HB := ⟨uo bM.out bN.out bP.out bR.out bT.out bW.out b1.out b8.out cE.out cK.out cT.out dD.out dL.out dO.out dQ.out HB.out⟩) (hc := rfl) (hK := by assumption)
  ·replace wB := Bool.eq_false_iff.mpr wB
   subst wB
   rw [if_neg (show ¬ (false = true) by decide)] at H
   have H' := ak H
   clear H
   have hnb389 := kW.out
   have hnc389 := hX.out
   have hnb390 := kX.out
   have hnc390 := hY.out
   have hnb391 := kY.out
   have hnc391 := hZ.out
   have hnb392 := h3.out
   have hnc392 := k2.out
   have hnb393 := h4.out
   have hnc393 := k3.out
   have hnb394 := h6.out
   have hnc394 := k5.out
   have hnb395 := h8.out
   have hnc395 := k7.out
   have hnb396 := iA.out
   have hnc396 := k9.out
   have hnb397 := iC.out
   have hnc397 := lB.out
   have hnb398 := iE.out
   have hnc398 := lD.out
   have hnb399 := e5.out
   have hnc399 := i5.out
   have hnb400 := e7.out
   have hnc400 := i7.out
   have hnb401 := gJ.out
   have hnc401 := kC.out
   have hnb402 := cP.out
   have hnc402 := kE.out
   obtain ⟨hcz403_0, hcz403_1, hcz403_2, hcz403_3, hcz403_4⟩ := Cb.c5 aT.out
   obtain ⟨hfz403_0, hfz403_1, hfz403_2, hfz403_3, hfz403_4⟩ := Cb.f5 aT.out
   have hnb404 := kZ.out
   have hnc404 := h0.out
   have hnb405 := k0.out
   have hnc405 := h1.out
   have hnb406 := k1.out
   have hnc406 := h2.out
   have hnb407 := h5.out
   have hnc407 := k4.out
   have hnb408 := h7.out
   have hnc408 := k6.out
   have hnb409 := h9.out
   have hnc409 := k8.out
   have hnb410 := iB.out
   have hnc410 := lA.out
   have hnb411 := iD.out
   have hnc411 := lC.out
   have hnb412 := iF.out
   have hnc412 := lE.out
   have hnb413 := e6.out
   have hnc413 := i6.out
   have hnb414 := e8.out
   have hnc414 := i8.out
   have hnb415 := gK.out
   have hnc415 := kD.out
   have hnb416 := cQ.out
   have hnc416 := kF.out
   obtain ⟨hcz417_0, hcz417_1, hcz417_2, hcz417_3, hcz417_4⟩ := Cb.c5 aY.out
   obtain ⟨hfz417_0, hfz417_1, hfz417_2, hfz417_3, hfz417_4⟩ := Cb.f5 aY.out
   go_upto_region 24 with (first | ((with_reducible refine gate_callee (f := 21) rfl ?_); refine goesL_ (some 137) rfl rfl Try.func21 (by kernel_rfl) rfl #[.agg #[.int .i64 eX, .slice fY dS.length fD, .slice f3 dT.length fH, .int .i64 e1, .int .u64 e3], .agg #[.int .i64 eZ, .slice gE d1.length fO, .slice gP d3.length fW, .int .i64 fB, .int .u64 fF]] rfl mp ?_; (with_reducible refine (stanchionref17_Same.calls kj3 eX _ _ dS _ _ dT e1 e3 eZ _ _ d1 _ _ d3 fB fF true _ ?side1 ?side2 ?side3 ?side4 ?side5 ?side6 ?side7 ?side8 A208.out).mono ?_); (case side1 => exact pc (Kd.V_reads' bY.out).2.2); (case side2 => exact (Kd.V_reads' bY.out).2.1); (case side3 => exact pc (Kd.V_reads' bZ.out).2.2); (case side4 => exact (Kd.V_reads' bZ.out).2.1); (case side5 => exact pc (Kd.V_reads' b6.out).2.2); (case side6 => exact (Kd.V_reads' b6.out).2.1); (case side7 => exact pc (Kd.V_reads' b7.out).2.2); (case side8 => exact (Kd.V_reads' b7.out).2.1); rintro e w418 ⟨rfl, hb⟩; refine ⟨_, rfl, ?_⟩; replace bY := vw bY hb; replace bZ := vw bZ hb; replace b6 := vw b6 hb; replace b7 := vw b7 hb; replace cI := vw cI hb; replace cJ := vw cJ hb; replace cL := vw cL hb; replace cM := vw cM hb; replace dB := vw dB hb; replace dC := vw dC hb; replace dM := vw dM hb; replace dN := vw dN hb; replace dV := vw dV hb; replace dW := vw dW hb; replace dP := rb dP hb; replace eJ := vw eJ hb; replace eK := vw eK hb; replace eS := rb eS hb; replace aL := bb aL hb; replace aB := bb aB hb; replace aC := bb aC hb; replace aT := bb aT hb; replace aY := bb aY hb; replace a2 := bb a2 hb; replace a4 := bb a4 hb; replace a5 := bb a5 hb; replace bO := bb bO hb; replace bS := bb bS hb; replace bV := bb bV hb; replace bU := bb bU hb; replace bX := bb bX hb; replace b4 := bb b4 hb; replace cA := bb cA hb; replace HB := ak (below_step (uo bM.out bN.out bP.out bR.out bT.out bW.out b1.out b8.out cE.out cK.out cT.out dD.out dL.out dO.out dQ.out HB.out) hb); (try clear hb); (try clear hb2); (try clear hk); (try clear hi); have hnb419 := lW.out; have hnc419 := iQ.out; have hnb420 := lX.out; have hnc420 := iR.out; have hnb421 := lY.out; have hnc421 := iS.out; have hnb422 := iW.out; have hnc422 := l2.out; have hnb423 := iX.out; have hnc423 := l3.out; have hnb424 := iZ.out; have hnc424 := l5.out; have hnb425 := i1.out; have hnc425 := l7.out; have hnb426 := i3.out; have hnc426 := l9.out; have hnb427 := fR.out; have hnc427 := jR.out; have hnb428 := fT.out; have hnc428 := jT.out; have hnb429 := g0.out; have hnc429 := kO.out; have hnb430 := cU.out; have hnc430 := kQ.out; obtain ⟨hcz431_0, hcz431_1, hcz431_2, hcz431_3, hcz431_4⟩ := Cb.c5 a2.out; obtain ⟨hfz431_0, hfz431_1, hfz431_2, hfz431_3, hfz431_4⟩ := Cb.f5 a2.out; have hnb432 := lZ.out; have hnc432 := iT.out; have hnb433 := l0.out; have hnc433 := iU.out; have hnb434 := l1.out; have hnc434 := iV.out; have hnb435 := iY.out; have hnc435 := l4.out; have hnb436 := i0.out; have hnc436 := l6.out; have hnb437 := i2.out; have hnc437 := l8.out; have hnb438 := i4.out; have hnc438 := mA.out; have hnb439 := fS.out; have hnc439 := jS.out; have hnb440 := fU.out; have hnc440 := jU.out; have hnb441 := g1.out; have hnc441 := kP.out; have hnb442 := cV.out; have hnc442 := kR.out; obtain ⟨hcz443_0, hcz443_1, hcz443_2, hcz443_3, hcz443_4⟩ := Cb.c5 a4.out; obtain ⟨hfz443_0, hfz443_1, hfz443_2, hfz443_3, hfz443_4⟩ := Cb.f5 a4.out) | (go_at_call 21; (with_reducible refine (stanchionref17_Same.calls kj3 fM _ _ eN _ _ eP f1 gC fX _ _ eT _ _ eU gL gQ false _ ?side1 ?side2 ?side3 ?side4 ?side5 ?side6 ?side7 ?side8 rL.out).mono ?_); (case side1 => exact pc (Kd.V_reads' cI.out).2.2); (case side2 => exact (Kd.V_reads' cI.out).2.1); (case side3 => exact pc (Kd.V_reads' cJ.out).2.2); (case side4 => exact (Kd.V_reads' cJ.out).2.1); (case side5 => exact pc (Kd.V_reads' cL.out).2.2); (case side6 => exact (Kd.V_reads' cL.out).2.1); (case side7 => exact pc (Kd.V_reads' cM.out).2.2); (case side8 => exact (Kd.V_reads' cM.out).2.1); rintro e w444 ⟨rfl, hb⟩; replace bY := vw bY hb; replace bZ := vw bZ hb; replace b6 := vw b6 hb; replace b7 := vw b7 hb; replace cI := vw cI hb; replace cJ := vw cJ hb; replace cL := vw cL hb; replace cM := vw cM hb; replace dB := vw dB hb; replace dC := vw dC hb; replace dM := vw dM hb; replace dN := vw dN hb; replace dV := vw dV hb; replace dW := vw dW hb; replace dP := rb dP hb; replace eJ := vw eJ hb; replace eK := vw eK hb; replace eS := rb eS hb; replace aL := bb aL hb; replace aB := bb aB hb; replace aC := bb aC hb; replace aT := bb aT hb; replace aY := bb aY hb; replace a2 := bb a2 hb; replace a4 := bb a4 hb; replace a5 := bb a5 hb; replace bO := bb bO hb; replace bS := bb bS hb; replace bV := bb bV hb; replace bU := bb bU hb; replace bX := bb bX hb; replace b4 := bb b4 hb; replace cA := bb cA hb; replace HB := ak (below_step (uo bM.out bN.out bP.out bR.out bT.out bW.out b1.out b8.out cE.out cK.out cT.out dD.out dL.out dO.out dQ.out HB.out) hb); (try clear hb); (try clear hb2); (try clear hk); (try clear hi)))
   exact stanchionlaw17_SessionActs.rB (hr_ := hr_) (iM := iM) (iN := iN) (iO := iO) (iP := iP) (mI := mI) (mJ := mJ) (mK := mK) (mL := mL) (bM := bM) (bN := bN) (bP := bP) (bR := bR) (bT := bT) (bW := bW) (b1 := b1) (b8 := b8) (cE := cE) (cK := cK) (cT := cT) (dD := dD) (hF := hF) (lF := lF) (hG := hG) (lG := lG) (hH := hH) (lH := lH) (e5 := e5) (i5 := i5) (e6 := e6) (i6 := i6) (fR := fR) (jR := jR) (fS := fS) (jS := jS) (gF := gF) (j8 := j8) (gG := gG) (j9 := j9) (gW := gW) (kK := kK) (gX := gX) (kL := kL) (dL := dL) (hI := hI) (lI := lI) (hJ := hJ) (lJ := lJ) (hL := hL) (lK := lK) (e7 := e7) (i7 := i7) (e8 := e8) (i8 := i8) (fT := fT) (jT := jT) (fU := fU) (jU := jU) (gH := gH) (kA := kA) (gI := gI) (kB := kB) (gY := gY) (kM := kM) (gZ := gZ) (kN := kN) (hM := hM) (lL := lL) (dO := dO) (i9 := i9) (mX := mX) (jA := jA) (mY := mY) (jB := jB) (mZ := mZ) (gJ := gJ) (kC := kC) (gK := gK) (kD := kD) (g0 := g0) (kO := kO) (g1 := g1) (kP := kP) (hN := hN) (lM := lM) (hO := hO) (lN := lN) (iG := iG) (mB := mB) (iH := iH) (mC := mC) (hP := hP) (lO := lO) (hQ := hQ) (lP := lP) (dQ := dQ) (dH := dH) (m0 := m0) (dI := dI) (m1 := m1) (dJ := dJ) (m2 := m2) (cP := cP) (kE := kE) (cQ := cQ) (kF := kF) (cU := cU) (kQ := kQ) (cV := cV) (kR := kR) (cY := cY) (lQ := lQ) (cZ := cZ) (lR := lR) (dE := dE) (mD := mD) (dF := dF) (mE := mE) (c0 := c0) (lS := lS) (dA := dA) (lT := lT) (dK := dK) (m3 := m3) (HA := H') (HJ31 := ⟨Nat.le_refl _⟩) (cN := ⟨pR (rm dP.out)⟩) (cO := ⟨pR (rm eS.out)⟩) (a6 := ⟨pV (vm bY.out)⟩) (a7 := ⟨pV (vm bZ.out)⟩) (a8 := ⟨pV (vm b6.out)⟩) (a9 := ⟨pV (vm b7.out)⟩) (bA := ⟨pV (vm cI.out)⟩) (bB := ⟨pV (vm cJ.out)⟩) (bC := ⟨pV (vm cL.out)⟩) (bD := ⟨pV (vm cM.out)⟩) (bE := ⟨pV (vm dB.out)⟩) (bF := ⟨pV (vm dC.out)⟩) (bG := ⟨pV (vm dM.out)⟩) (bH := ⟨pV (vm dN.out)⟩) (bI := ⟨pV (vm dV.out)⟩) (bJ := ⟨pV (vm dW.out)⟩) (bK := ⟨pV (vm eJ.out)⟩) (bL := ⟨pV (vm eK.out)⟩) (aL := ⟨pk aL.out⟩) (aB := ⟨pk aB.out⟩) (aC := ⟨pk aC.out⟩) (aT := ⟨pk aT.out⟩) (aY := ⟨pk aY.out⟩) (a2 := ⟨pk a2.out⟩) (a4 := ⟨pk a4.out⟩) (a5 := ⟨pk a5.out⟩) (bO := ⟨pk bO.out⟩) (bS := ⟨pk bS.out⟩) (bV := ⟨pk bV.out⟩) (bU := ⟨pk bU.out⟩) (bX := ⟨pk bX.out⟩) (b4 := ⟨pk b4.out⟩) (cA := ⟨pk cA.out⟩) (HB := ⟨uo bM.out bN.out bP.out bR.out bT.out bW.out b1.out b8.out cE.out cK.out cT.out dD.out dL.out dO.out dQ.out HB.out⟩) (hc := rfl) (hK := by assumption)
 ·replace wA := Bool.eq_false_iff.mpr wA
  subst wA
  rw [if_neg (show ¬ (false = true) by decide)] at H
  have H' := ak H
  clear H
  have hnb445 := kW.out
  have hnc445 := hX.out
  have hnb446 := kX.out
  have hnc446 := hY.out
  have hnb447 := kY.out
  have hnc447 := hZ.out
  have hnb448 := h3.out
  have hnc448 := k2.out
  have hnb449 := h4.out
  have hnc449 := k3.out
  have hnb450 := h6.out
  have hnc450 := k5.out
  have hnb451 := h8.out
  have hnc451 := k7.out
  have hnb452 := iA.out
  have hnc452 := k9.out
  have hnb453 := iC.out
  have hnc453 := lB.out
  have hnb454 := iE.out
  have hnc454 := lD.out
  have hnb455 := e5.out
  have hnc455 := i5.out
  have hnb456 := e7.out
  have hnc456 := i7.out
  have hnb457 := gJ.out
  have hnc457 := kC.out
  have hnb458 := cP.out
  have hnc458 := kE.out
  obtain ⟨hcz459_0, hcz459_1, hcz459_2, hcz459_3, hcz459_4⟩ := Cb.c5 aT.out
  obtain ⟨hfz459_0, n2, n3, n4, n5⟩ := Cb.f5 aT.out
  have hnb460 := kZ.out
  have hnc460 := h0.out
  have hnb461 := k0.out
  have hnc461 := h1.out
  have hnb462 := k1.out
  have hnc462 := h2.out
  have hnb463 := h5.out
  have hnc463 := k4.out
  have hnb464 := h7.out
  have hnc464 := k6.out
  have hnb465 := h9.out
  have hnc465 := k8.out
  have hnb466 := iB.out
  have hnc466 := lA.out
  have hnb467 := iD.out
  have hnc467 := lC.out
  have hnb468 := iF.out
  have hnc468 := lE.out
  have hnb469 := e6.out
  have hnc469 := i6.out
  have hnb470 := e8.out
  have hnc470 := i8.out
  have hnb471 := gK.out
  have hnc471 := kD.out
  have hnb472 := cQ.out
  have hnc472 := kF.out
  obtain ⟨hcz473_0, hcz473_1, hcz473_2, hcz473_3, hcz473_4⟩ := Cb.c5 aY.out
  obtain ⟨n6, n7, n8, n9, oA⟩ := Cb.f5 aY.out
  go_upto_region 24 with (first | ((with_reducible refine gate_callee (f := 21) rfl ?_); refine goesL_ (some 137) rfl rfl Try.func21 (by kernel_rfl) rfl #[.agg #[.int .i64 eX, .slice fY dS.length fD, .slice f3 dT.length fH, .int .i64 e1, .int .u64 e3], .agg #[.int .i64 eZ, .slice gE d1.length fO, .slice gP d3.length fW, .int .i64 fB, .int .u64 fF]] rfl mp ?_; (with_reducible refine (stanchionref17_Same.calls kj3 eX _ _ dS _ _ dT e1 e3 eZ _ _ d1 _ _ d3 fB fF false _ ?side1 ?side2 ?side3 ?side4 ?side5 ?side6 ?side7 ?side8 A208.out).mono ?_); (case side1 => exact pc (Kd.V_reads' bY.out).2.2); (case side2 => exact (Kd.V_reads' bY.out).2.1); (case side3 => exact pc (Kd.V_reads' bZ.out).2.2); (case side4 => exact (Kd.V_reads' bZ.out).2.1); (case side5 => exact pc (Kd.V_reads' b6.out).2.2); (case side6 => exact (Kd.V_reads' b6.out).2.1); (case side7 => exact pc (Kd.V_reads' b7.out).2.2); (case side8 => exact (Kd.V_reads' b7.out).2.1); rintro e w474 ⟨rfl, hb⟩; refine ⟨_, rfl, ?_⟩; replace bY := vw bY hb; replace bZ := vw bZ hb; replace b6 := vw b6 hb; replace b7 := vw b7 hb; replace cI := vw cI hb; replace cJ := vw cJ hb; replace cL := vw cL hb; replace cM := vw cM hb; replace dB := vw dB hb; replace dC := vw dC hb; replace dM := vw dM hb; replace dN := vw dN hb; replace dV := vw dV hb; replace dW := vw dW hb; replace dP := rb dP hb; replace eJ := vw eJ hb; replace eK := vw eK hb; replace eS := rb eS hb; replace aL := bb aL hb; replace aB := bb aB hb; replace aC := bb aC hb; replace aT := bb aT hb; replace aY := bb aY hb; replace a2 := bb a2 hb; replace a4 := bb a4 hb; replace a5 := bb a5 hb; replace bO := bb bO hb; replace bS := bb bS hb; replace bV := bb bV hb; replace bU := bb bU hb; replace bX := bb bX hb; replace b4 := bb b4 hb; replace cA := bb cA hb; replace HB := ak (below_step (uo bM.out bN.out bP.out bR.out bT.out bW.out b1.out b8.out cE.out cK.out cT.out dD.out dL.out dO.out dQ.out HB.out) hb); (try clear hb); (try clear hb2); (try clear hk); (try clear hi)))
  exact stanchionlaw17_SessionActs.rB (hr_ := hr_) (iM := iM) (iN := iN) (iO := iO) (iP := iP) (mI := mI) (mJ := mJ) (mK := mK) (mL := mL) (bM := bM) (bN := bN) (bP := bP) (bR := bR) (bT := bT) (bW := bW) (b1 := b1) (b8 := b8) (cE := cE) (cK := cK) (cT := cT) (dD := dD) (hF := hF) (lF := lF) (hG := hG) (lG := lG) (hH := hH) (lH := lH) (e5 := e5) (i5 := i5) (e6 := e6) (i6 := i6) (fR := fR) (jR := jR) (fS := fS) (jS := jS) (gF := gF) (j8 := j8) (gG := gG) (j9 := j9) (gW := gW) (kK := kK) (gX := gX) (kL := kL) (dL := dL) (hI := hI) (lI := lI) (hJ := hJ) (lJ := lJ) (hL := hL) (lK := lK) (e7 := e7) (i7 := i7) (e8 := e8) (i8 := i8) (fT := fT) (jT := jT) (fU := fU) (jU := jU) (gH := gH) (kA := kA) (gI := gI) (kB := kB) (gY := gY) (kM := kM) (gZ := gZ) (kN := kN) (hM := hM) (lL := lL) (dO := dO) (i9 := i9) (mX := mX) (jA := jA) (mY := mY) (jB := jB) (mZ := mZ) (gJ := gJ) (kC := kC) (gK := gK) (kD := kD) (g0 := g0) (kO := kO) (g1 := g1) (kP := kP) (hN := hN) (lM := lM) (hO := hO) (lN := lN) (iG := iG) (mB := mB) (iH := iH) (mC := mC) (hP := hP) (lO := lO) (hQ := hQ) (lP := lP) (dQ := dQ) (dH := dH) (m0 := m0) (dI := dI) (m1 := m1) (dJ := dJ) (m2 := m2) (cP := cP) (kE := kE) (cQ := cQ) (kF := kF) (cU := cU) (kQ := kQ) (cV := cV) (kR := kR) (cY := cY) (lQ := lQ) (cZ := cZ) (lR := lR) (dE := dE) (mD := mD) (dF := dF) (mE := mE) (c0 := c0) (lS := lS) (dA := dA) (lT := lT) (dK := dK) (m3 := m3) (HA := H') (HJ31 := ⟨Nat.le_refl _⟩) (cN := ⟨pR (rm dP.out)⟩) (cO := ⟨pR (rm eS.out)⟩) (a6 := ⟨pV (vm bY.out)⟩) (a7 := ⟨pV (vm bZ.out)⟩) (a8 := ⟨pV (vm b6.out)⟩) (a9 := ⟨pV (vm b7.out)⟩) (bA := ⟨pV (vm cI.out)⟩) (bB := ⟨pV (vm cJ.out)⟩) (bC := ⟨pV (vm cL.out)⟩) (bD := ⟨pV (vm cM.out)⟩) (bE := ⟨pV (vm dB.out)⟩) (bF := ⟨pV (vm dC.out)⟩) (bG := ⟨pV (vm dM.out)⟩) (bH := ⟨pV (vm dN.out)⟩) (bI := ⟨pV (vm dV.out)⟩) (bJ := ⟨pV (vm dW.out)⟩) (bK := ⟨pV (vm eJ.out)⟩) (bL := ⟨pV (vm eK.out)⟩) (aL := ⟨pk aL.out⟩) (aB := ⟨pk aB.out⟩) (aC := ⟨pk aC.out⟩) (aT := ⟨pk aT.out⟩) (aY := ⟨pk aY.out⟩) (a2 := ⟨pk a2.out⟩) (a4 := ⟨pk a4.out⟩) (a5 := ⟨pk a5.out⟩) (bO := ⟨pk bO.out⟩) (bS := ⟨pk bS.out⟩) (bV := ⟨pk bV.out⟩) (bU := ⟨pk bU.out⟩) (bX := ⟨pk bX.out⟩) (b4 := ⟨pk b4.out⟩) (cA := ⟨pk cA.out⟩) (HB := ⟨uo bM.out bN.out bP.out bR.out bT.out bW.out b1.out b8.out cE.out cK.out cT.out dD.out dL.out dO.out dQ.out HB.out⟩) (hc := rfl) (hK := by assumption)

/-! ### stanchionlaw17_SessionActs: function 9, regions 11 to 23 -/
set_option maxHeartbeats 64000000 in
set_option maxRecDepth 100000 in
theorem stanchionlaw17_SessionActs.rA {k : Nat} {aE : Int} {cR : Option Addr} {cS : Nat} {aD : List S42} {cW : Option Addr} {cX : Nat} {aF : List S85} {aG aJ dG dR eG b3 bQ : Int} {cC : Option Addr} {cD : Nat} {aM : List S42} {cF : Option Addr} {cG : Nat} {aN : List S85} {aS aU : Int} {r : Bool} {w : World} {mG nT : Bool} {a3 aZ a0 : Nat} {wc : World} {p9 : Bool} {kq : Nat} {u39 u40 u41 u42 u43 u44 u45 u46 u47 u48 u49 u50 u51 u52 u53 u54 u55 u56 u57 u58 u60 u61 u62 u63 u64 u65 u66 u67 u68 u69 u70 u71 u72 u73 u74 u75 u76 u77 u78 u79 u80 u81 u82 u83 u84 u85 u86 u87 u88 u89 u90 u91 u92 u93 u94 u95 u96 u97 u98 u99 u100 u101 u102 u103 u104 u105 u106 u107 u108 u109 u110 u111 u112 u113 u114 u115 u116 u117 u118 u119 u120 u121 u122 u123 u124 u125 u126 u127 u128 u129 u130 u131 u132 u133 u134 u135 u136 u137 u138 u139 u140 u141 u142 u143 u144 u145 u146 u147 u148 u149 u150 u151 u152 u153 u154 u155 u156 u157 u158 u159 u160 u161 u162 u163 u164 u165 u166 u167 u168 u169 u170 u171 u172 u173 u174 u175 u176 u177 u178 u179 u180 u181 u182 u183 u184 u185 u186 u187 u188 u189 u190 u191 u192 u193 u194 u195 u196 u197 u198 u199 u200 u201 u202 u203 u204 u205 u206 u207 u208 u209 u210 u211 u212 u213 u214 u215 u216 u217 u218 u219 u220 : Value} {h b : Code} {K : Act → World → Prop} (hr_ : r = true) (iM : Aside0 (k42.C w cR aD.length aD)) (iN : Aside0 (aD.length ≤ cS)) (iO : Aside0 (k85.C w cW aF.length aF)) (iP : Aside0 (aF.length ≤ cX)) (mI : Aside0 (k42.C w cC aM.length aM)) (mJ : Aside0 (aM.length ≤ cD)) (mK : Aside0 (k85.C w cF aN.length aN)) (mL : Aside0 (aN.length ≤ cG)) (bM : Aside0 (w.heap.size ≤ a3)) (f4 : Aside0 (w.heap.size ≤ a3)) (bN : Aside0 (w.heap.size ≤ aZ)) (f7 : Aside0 (w.heap.size ≤ aZ)) (gV : Aside0 (a3 ≠ aZ)) (nF : Aside0 (aZ ≠ a3)) (bP : Aside0 (w.heap.size ≤ a0)) (f8 : Aside0 (w.heap.size ≤ a0)) (jX : Aside0 (aZ ≠ a0)) (nG : Aside0 (a0 ≠ aZ)) (hp : p9 = false) (HA : Aside0 (stanchionlaw17_SessionActs.j0 kq dG dR eG b3 mG p9 aE aD aF aG aJ bQ aM aN aS aU = some r)) (HJ3 : Aside0 (kq ≤ k)) (aL : Aside0 (wc.heap[a3]? = some (.cells #[.int .i64 aE, (.slice cR aD.length cS), (.slice cW aF.length cX), .int .i64 aG, .int .u64 aJ, .int .i64 dG, .int .i64 dR, .int .u64 eG, .int .i64 b3, .int .i64 bQ, (.slice cC aM.length cD), (.slice cF aN.length cG), .int .i64 aS, .int .u64 aU] 68 (0, 0)))) (aB : Aside0 (wc.heap[aZ]? = some (.cells #[.int .i64 aE, (.slice cR aD.length cS), (.slice cW aF.length cX), .int .i64 aG, .int .u64 aJ] 26 (0, 0)))) (aC : Aside0 (wc.heap[a0]? = some (.cells #[.int .i64 bQ, (.slice cC aM.length cD), (.slice cF aN.length cG), .int .i64 aS, .int .u64 aU] 26 (0, 0)))) (HB : Aside0 (Below w.heap.size w wc)) (hc : Try.f9.body.bind (tailOf 9) = some (.seq h b)) (hK : ∀ a w', Code.wp Try.prog b (bodyPost Try.prog Try.f9 fun e w' => e = .returned (.bool r) ∧ Below w.heap.size w w') a w' → K a w') : Code.wp Try.prog h (Exit.then K (bodyPost Try.prog Try.f9 fun e w' => e = .returned (.bool r) ∧ Below w.heap.size w w')) ⟨#[.agg #[.int .i64 aE, .slice cR aD.length cS, .slice cW aF.length cX, .int .i64 aG, .int .u64 aJ, .int .i64 dG, .int .i64 dR, .int .u64 eG, .int .i64 b3, .int .i64 bQ, .slice cC aM.length cD, .slice cF aN.length cG, .int .i64 aS, .int .u64 aU], .pointer (some ⟨a3, 0, none⟩), .bool false, .pointer (some ⟨aZ, 0, none⟩), .int .i64 dG, .int .i64 dR, .int .u64 eG, .int .i64 b3, .pointer (some ⟨a0, 0, none⟩), .bool mG, .bool nT, undef, undef, undef, undef, undef, undef, undef, undef, undef, undef, undef, undef, undef, undef, undef, undef, undef, undef, undef, undef, undef, undef, undef, undef, undef, undef, undef, undef, u39, u40, u41, u42, u43, u44, u45, u46, u47, u48, u49, u50, u51, u52, u53, u54, u55, u56, u57, u58, .bool p9, u60, u61, u62, u63, u64, u65, u66, u67, u68, u69, u70, u71, u72, u73, u74, u75, u76, u77, u78, u79, u80, u81, u82, u83, u84, u85, u86, u87, u88, u89, u90, u91, u92, u93, u94, u95, u96, u97, u98, u99, u100, u101, u102, u103, u104, u105, u106, u107, u108, u109, u110, u111, u112, u113, u114, u115, u116, u117, u118, u119, u120, u121, u122, u123, u124, u125, u126, u127, u128, u129, u130, u131, u132, u133, u134, u135, u136, u137, u138, u139, u140, u141, u142, u143, u144, u145, u146, u147, u148, u149, u150, u151, u152, u153, u154, u155, u156, u157, u158, u159, u160, u161, u162, u163, u164, u165, u166, u167, u168, u169, u170, u171, u172, u173, u174, u175, u176, u177, u178, u179, u180, u181, u182, u183, u184, u185, u186, u187, u188, u189, u190, u191, u192, u193, u194, u195, u196, u197, u198, u199, u200, u201, u202, u203, u204, u205, u206, u207, u208, u209, u210, u211, u212, u213, u214, u215, u216, u217, u218, u219, u220], []⟩ wc := by
 have hu68 := Try.underlying68
 have hu26 := Try.underlying26
 have hu42 := Try.underlying42
 have hc2 : some (Code.seq _ _) = some (Code.seq h b) := hc
 cases hc2
 clear hc
 cases kq with
 | zero => exact absurd HA.out (by simp [stanchionlaw17_SessionActs.j0])
 | succ kj3 =>
  have H := HA.out
  clear HA
  simp only [stanchionlaw17_SessionActs.j0] at H
  subst hp
  rw [if_neg (show ¬ (false = true) by decide)] at H
  replace H := Option.bind_eq_some_iff.mp H
  obtain ⟨⟨eX, dS, dT, e1, e3, dZ, d0⟩, A200, H⟩ := H
  try dsimp only at H
  have A20 := ak A200
  clear A200
  replace H := Option.bind_eq_some_iff.mp H
  obtain ⟨⟨eZ, d1, d3, fB, fF, d8, d9⟩, rL, H⟩ := H
  try dsimp only at H
  have A21 := ak rL
  clear rL
  replace H := Option.bind_eq_some_iff.mp H
  obtain ⟨⟨fM, eN, eP, f1, gC, eH⟩, A220, H⟩ := H
  try dsimp only at H
  have A22 := ak A220
  clear A220
  replace H := Option.bind_eq_some_iff.mp H
  obtain ⟨⟨fX, eT, eU, gL, gQ, eQ⟩, A230, H⟩ := H
  try dsimp only at H
  have A23 := ak A230
  clear A230
  replace H := Option.bind_eq_some_iff.mp H
  obtain ⟨⟨f2, eY, e0, gR, gS, eV⟩, A240, H⟩ := H
  try dsimp only at H
  have A24 := ak A240
  clear A240
  replace H := Option.bind_eq_some_iff.mp H
  obtain ⟨⟨gM, fC, fG, g2, g4, e2⟩, A250, H⟩ := H
  try dsimp only at H
  have A25 := ak A250
  clear A250
  replace H := Option.bind_eq_some_iff.mp H
  obtain ⟨⟨gN, fN, fV, g3, g5, eW⟩, A260, H⟩ := H
  try dsimp only at H
  have A26 := ak A260
  clear A260
  replace H := Option.bind_eq_some_iff.mp H
  obtain ⟨⟨gT, gD, gO, g7, hB, e4⟩, A270, H⟩ := H
  try dsimp only at H
  have A27 := ak A270
  clear A270
  replace H := Option.bind_eq_some_iff.mp H
  obtain ⟨⟨dU, dX, dY, d2, d4, d5, gU⟩, A280, H⟩ := H
  try dsimp only at H
  have A28 := ak A280
  clear A280
  replace H := Option.bind_eq_some_iff.mp H
  obtain ⟨⟨d6, d7, eA, eB, eD, eE, hC⟩, A290, H⟩ := H
  try dsimp only at H
  have A29 := ak A290
  clear A290
  replace H := Option.bind_eq_some_iff.mp H
  obtain ⟨⟨eF, eI, eL, eM, eO, eR, jV⟩, A300, H⟩ := H
  try dsimp only at H
  have A30 := ak A300
  clear A300
  replace H := Option.bind_eq_some_iff.mp H
  obtain ⟨⟨b0, b2, b5, b9, cB, cH, kG⟩, A310, H⟩ := H
  try dsimp only at H
  have A31 := ak A310
  clear A310
  have HC32 := ak H
  clear H
  have hnb33 := nF.out
  have hnc33 := gV.out
  have hnb34 := jX.out
  have hnc34 := nG.out
  obtain ⟨hcz35_0, hcz35_1, hcz35_2, hcz35_3, hcz35_4⟩ := Cb.c5 aB.out
  obtain ⟨hfz35_0, hfz35_1, hfz35_2, hfz35_3, hfz35_4⟩ := Cb.f5 aB.out
  go_upto_region 23 with (first | ((with_reducible refine gate_callee (f := 22) rfl ?_); refine goesL_ (some 64) rfl rfl Try.func22 (by kernel_rfl) rfl #[.agg #[.int .i64 aE, .slice cR aD.length cS, .slice cW aF.length cX, .int .i64 aG, .int .u64 aJ], .int .i64 dR] rfl mp ?_; (with_reducible refine (session_Open.calls kj3 aE (fun k_ => k_ < w.heap.size) _ _ aD (fun k_ => k_ < w.heap.size) _ _ aF aG aJ dR eX dS dT e1 e3 dZ d0 _ ?side1 ?side2 A20.out).mono ?_); (case side1 => exact Kd.V_mk iN.out (Kd.F_below (Kd.C_F k42_heap iM.out) (uc bM.out bN.out bP.out HB.out))); (case side2 => exact Kd.V_mk iP.out (Kd.F_below (Kd.C_F k85_heap iO.out) (uc bM.out bN.out bP.out HB.out))); rintro e w36 ⟨v617, v620, rfl, jC, jE, hb⟩; refine ⟨_, rfl, ?_⟩; have bY := ak (Kd.V_lower (Kd.V_mono (ok' := fun k_ => k_ ≠ a3 ∧ k_ ≠ aZ ∧ k_ ≠ a0) jC (fun k_ hk_ => ⟨Or.elim hk_ (fun hs_ => Or.elim hs_ (nl f4.out) (nl f4.out)) (fun hn_ => (Kd.freshB (pk aL.out) k_ hn_)), Or.elim hk_ (fun hs_ => Or.elim hs_ (nl f7.out) (nl f7.out)) (fun hn_ => (Kd.freshB (pk aB.out) k_ hn_)), Or.elim hk_ (fun hs_ => Or.elim hs_ (nl f8.out) (nl f8.out)) (fun hn_ => (Kd.freshB (pk aC.out) k_ hn_))⟩)) (below_size (uc bM.out bN.out bP.out HB.out))); have bZ := ak (Kd.V_lower (Kd.V_mono (ok' := fun k_ => k_ ≠ a3 ∧ k_ ≠ aZ ∧ k_ ≠ a0) jE (fun k_ hk_ => ⟨Or.elim hk_ (fun hs_ => Or.elim hs_ (nl f4.out) (nl f4.out)) (fun hn_ => (Kd.freshB (pk aL.out) k_ hn_)), Or.elim hk_ (fun hs_ => Or.elim hs_ (nl f7.out) (nl f7.out)) (fun hn_ => (Kd.freshB (pk aB.out) k_ hn_)), Or.elim hk_ (fun hs_ => Or.elim hs_ (nl f8.out) (nl f8.out)) (fun hn_ => (Kd.freshB (pk aC.out) k_ hn_))⟩)) (below_size (uc bM.out bN.out bP.out HB.out))); replace aL := bb aL hb; replace aB := bb aB hb; replace aC := bb aC hb; replace HB := ak (below_step (uc bM.out bN.out bP.out HB.out) hb); (try clear hb); (try clear hb2); (try clear hk); (try clear hi); (try clear jC); (try clear jE)) | ((with_reducible refine gate_dst (N := 11) rfl ?_); refine bv 11 26 #[.int .i64 0, .slice none 0 0, .slice none 0 0, .int .i64 0, .int .u64 0] ?_; intro a1 hg w37 hbox hb; obtain ⟨n_, bR⟩ := Cb.bx (uc bM.out bN.out bP.out HB.out) hg hb; have g6 := bR; obtain ⟨hX, kW⟩ := Cb.nb hg aL.out; obtain ⟨hY, kX⟩ := Cb.nb hg aB.out; obtain ⟨hZ, kY⟩ := Cb.nb hg aC.out; have aT := ak (hbox); replace bY := vb bY a1 hg hb; replace bZ := vb bZ a1 hg hb; replace aL := bb aL hb; replace aB := bb aB hb; replace aC := bb aC hb; replace HB := n_; clear n_; clear hb hbox hg; have hnb38 := kW.out; have hnc38 := hX.out; have hnb39 := kX.out; have hnc39 := hY.out; have hnb40 := kY.out; have hnc40 := hZ.out; obtain ⟨hcz41_0, hcz41_1, hcz41_2, hcz41_3, hcz41_4⟩ := Cb.c5 aT.out; obtain ⟨hfz41_0, hfz41_1, hfz41_2, hfz41_3, hfz41_4⟩ := Cb.f5 aT.out; obtain ⟨fY, fD, eo42⟩ := Kd.V_slice bY.out; subst eo42; obtain ⟨f3, fH, eo43⟩ := Kd.V_slice bZ.out; subst eo43) | ((with_reducible refine gate_store (t := 26) (p := 11) rfl ?_); refine store_event (t := 26) (p := 11) (v := ?vo_w44) (w1 := (((((w37.setCell ⟨a1, 0, none⟩ (.int .i64 eX)).setCell ⟨a1, 1, none⟩ (.slice fY dS.length fD)).setCell ⟨a1, 2, none⟩ (.slice f3 dT.length fH)).setCell ⟨a1, 3, none⟩ (.int .i64 e1)).setCell ⟨a1, 4, none⟩ (.int .u64 e3))) ?hg ?ho ?hn ?hr ?_; (case ho => rfl); (case hg => rfl); (case hn => rfl); (case hr => first | (go_simp; done) | (go_simp; rfl)); intro w44 hw; have n0_ : Aside0 (Kd.V k42 42 w44 w.heap.size (fun k_ => k_ ≠ a3 ∧ k_ ≠ aZ ∧ k_ ≠ a0 ∧ k_ ≠ a1) (.slice fY dS.length fD) dS) := ⟨(by rw [hw]; exact (by exact vm (vf5 (Kd.V_mono bY.out (fun k_ hk => (⟨hk, hk.2⟩ : _ ∧ k_ ≠ a1))) fun _ hk => hk.2)))⟩; have n1_ : Aside0 (Kd.V k85 85 w44 w.heap.size (fun k_ => k_ ≠ a3 ∧ k_ ≠ aZ ∧ k_ ≠ a0 ∧ k_ ≠ a1) (.slice f3 dT.length fH) dT) := ⟨(by rw [hw]; exact (by exact vm (vf5 (Kd.V_mono bZ.out (fun k_ hk => (⟨hk, hk.2⟩ : _ ∧ k_ ≠ a1))) fun _ hk => hk.2)))⟩; have n2_ : Aside0 (w44.heap[a3]? = some (.cells #[.int .i64 aE, .slice cR aD.length cS, .slice cW aF.length cX, .int .i64 aG, .int .u64 aJ, .int .i64 dG, .int .i64 dR, .int .u64 eG, .int .i64 b3, .int .i64 bQ, .slice cC aM.length cD, .slice cF aN.length cG, .int .i64 aS, .int .u64 aU] 68 (0, 0))) := ⟨(by rw [hw]; exact (by exact blk_far (blk_far (blk_far (blk_far (blk_far aL.out hX.out _) hX.out _) hX.out _) hX.out _) hX.out _))⟩; have n3_ : Aside0 (w44.heap[aZ]? = some (.cells #[.int .i64 aE, .slice cR aD.length cS, .slice cW aF.length cX, .int .i64 aG, .int .u64 aJ] 26 (0, 0))) := ⟨(by rw [hw]; exact (by exact blk_far (blk_far (blk_far (blk_far (blk_far aB.out hY.out _) hY.out _) hY.out _) hY.out _) hY.out _))⟩; have n4_ : Aside0 (w44.heap[a0]? = some (.cells #[.int .i64 bQ, .slice cC aM.length cD, .slice cF aN.length cG, .int .i64 aS, .int .u64 aU] 26 (0, 0))) := ⟨(by rw [hw]; exact (by exact blk_far (blk_far (blk_far (blk_far (blk_far aC.out hZ.out _) hZ.out _) hZ.out _) hZ.out _) hZ.out _))⟩; have n5_ : Aside0 (w44.heap[a1]? = some (.cells #[.int .i64 eX, .slice fY dS.length fD, .slice f3 dT.length fH, .int .i64 e1, .int .u64 e3] 26 (0, 0))) := ⟨(by rw [hw]; exact (by exact blk_put (blk_put (blk_put (blk_put (blk_put aT.out 0 _ rfl) 1 _ rfl) 2 _ rfl) 3 _ rfl) 4 _ rfl))⟩; have n6_ : Aside0 (Below w.heap.size w w44) := ⟨(by rw [hw]; exact (by repeat (first | exact HB.out | refine bs ?_ bR.out)))⟩; clear hw; clear bY; clear bZ; clear aL; clear aB; clear aC; clear aT; clear HB; have bY := n0_; have bZ := n1_; have aL := n2_; have aB := n3_; have aC := n4_; have aT := n5_; have HB := n6_; clear n0_ n1_ n2_ n3_ n4_ n5_ n6_; obtain ⟨hcz45_0, hcz45_1, hcz45_2, hcz45_3, hcz45_4⟩ := Cb.c5 aB.out; obtain ⟨qA, qB, qC, qD, qE⟩ := Cb.f5 aB.out) | ((with_reducible refine gate_callee (f := 28) rfl ?_); refine goesL_ (some 71) rfl rfl Try.func28 (by kernel_rfl) rfl #[.agg #[.int .i64 aE, .slice cR aD.length cS, .slice cW aF.length cX, .int .i64 aG, .int .u64 aJ], .int .i64 dR] rfl mp ?_; (with_reducible refine (stanchionref17_Open.calls kj3 aE (fun k_ => k_ < w.heap.size) _ _ aD (fun k_ => k_ < w.heap.size) _ _ aF aG aJ dR eZ d1 d3 fB fF d8 d9 _ ?side1 ?side2 A21.out).mono ?_); (case side1 => exact Kd.V_mk iN.out (Kd.F_below (Kd.C_F k42_heap iM.out) (ud bM.out bN.out bP.out bR.out HB.out))); (case side2 => exact Kd.V_mk iP.out (Kd.F_below (Kd.C_F k85_heap iO.out) (ud bM.out bN.out bP.out bR.out HB.out))); rintro e w46 ⟨v629, v632, rfl, jC, jE, hb⟩; refine ⟨_, rfl, ?_⟩; have b6 := ak (Kd.V_lower (Kd.V_mono (ok' := fun k_ => k_ ≠ a3 ∧ k_ ≠ aZ ∧ k_ ≠ a0 ∧ k_ ≠ a1) jC (fun k_ hk_ => ⟨Or.elim hk_ (fun hs_ => Or.elim hs_ (nl f4.out) (nl f4.out)) (fun hn_ => (Kd.freshB (pk aL.out) k_ hn_)), Or.elim hk_ (fun hs_ => Or.elim hs_ (nl f7.out) (nl f7.out)) (fun hn_ => (Kd.freshB (pk aB.out) k_ hn_)), Or.elim hk_ (fun hs_ => Or.elim hs_ (nl f8.out) (nl f8.out)) (fun hn_ => (Kd.freshB (pk aC.out) k_ hn_)), Or.elim hk_ (fun hs_ => Or.elim hs_ (nl g6.out) (nl g6.out)) (fun hn_ => (Kd.freshB (pk aT.out) k_ hn_))⟩)) (below_size (ud bM.out bN.out bP.out bR.out HB.out))); have b7 := ak (Kd.V_lower (Kd.V_mono (ok' := fun k_ => k_ ≠ a3 ∧ k_ ≠ aZ ∧ k_ ≠ a0 ∧ k_ ≠ a1) jE (fun k_ hk_ => ⟨Or.elim hk_ (fun hs_ => Or.elim hs_ (nl f4.out) (nl f4.out)) (fun hn_ => (Kd.freshB (pk aL.out) k_ hn_)), Or.elim hk_ (fun hs_ => Or.elim hs_ (nl f7.out) (nl f7.out)) (fun hn_ => (Kd.freshB (pk aB.out) k_ hn_)), Or.elim hk_ (fun hs_ => Or.elim hs_ (nl f8.out) (nl f8.out)) (fun hn_ => (Kd.freshB (pk aC.out) k_ hn_)), Or.elim hk_ (fun hs_ => Or.elim hs_ (nl g6.out) (nl g6.out)) (fun hn_ => (Kd.freshB (pk aT.out) k_ hn_))⟩)) (below_size (ud bM.out bN.out bP.out bR.out HB.out))); replace bY := vw bY hb; replace bZ := vw bZ hb; replace aL := bb aL hb; replace aB := bb aB hb; replace aC := bb aC hb; replace aT := bb aT hb; replace HB := ak (below_step (ud bM.out bN.out bP.out bR.out HB.out) hb); (try clear hb); (try clear hb2); (try clear hk); (try clear hi); (try clear jC); (try clear jE)) | ((with_reducible refine gate_dst (N := 14) rfl ?_); refine bv 14 26 #[.int .i64 0, .slice none 0 0, .slice none 0 0, .int .i64 0, .int .u64 0] ?_; intro aX hg w47 hbox hb; obtain ⟨n_, bT⟩ := Cb.bx (ud bM.out bN.out bP.out bR.out HB.out) hg hb; have iK := bT; obtain ⟨h0, kZ⟩ := Cb.nb hg aL.out; obtain ⟨h1, k0⟩ := Cb.nb hg aB.out; obtain ⟨h2, k1⟩ := Cb.nb hg aC.out; obtain ⟨h3, k2⟩ := Cb.nb hg aT.out; have aY := ak (hbox); replace bY := vb bY aX hg hb; replace bZ := vb bZ aX hg hb; replace b6 := vb b6 aX hg hb; replace b7 := vb b7 aX hg hb; replace aL := bb aL hb; replace aB := bb aB hb; replace aC := bb aC hb; replace aT := bb aT hb; replace HB := n_; clear n_; clear hb hbox hg; have hnb48 := kZ.out; have hnc48 := h0.out; have hnb49 := k0.out; have hnc49 := h1.out; have hnb50 := k1.out; have hnc50 := h2.out; have hnb51 := k2.out; have hnc51 := h3.out; obtain ⟨hcz52_0, hcz52_1, hcz52_2, hcz52_3, hcz52_4⟩ := Cb.c5 aY.out; obtain ⟨qF, qG, qH, qI, qJ⟩ := Cb.f5 aY.out; obtain ⟨gE, fO, eo53⟩ := Kd.V_slice b6.out; subst eo53; obtain ⟨gP, fW, eo54⟩ := Kd.V_slice b7.out; subst eo54) | ((with_reducible refine gate_store (t := 26) (p := 14) rfl ?_); refine store_event (t := 26) (p := 14) (v := ?vo_w55) (w1 := (((((w47.setCell ⟨aX, 0, none⟩ (.int .i64 eZ)).setCell ⟨aX, 1, none⟩ (.slice gE d1.length fO)).setCell ⟨aX, 2, none⟩ (.slice gP d3.length fW)).setCell ⟨aX, 3, none⟩ (.int .i64 fB)).setCell ⟨aX, 4, none⟩ (.int .u64 fF))) ?hg ?ho ?hn ?hr ?_; (case ho => rfl); (case hg => rfl); (case hn => rfl); (case hr => first | (go_simp; done) | (go_simp; rfl)); intro w55 hw; have n0_ : Aside0 (Kd.V k42 42 w55 w.heap.size (fun k_ => k_ ≠ a3 ∧ k_ ≠ aZ ∧ k_ ≠ a0 ∧ k_ ≠ a1 ∧ k_ ≠ aX) (.slice fY dS.length fD) dS) := ⟨(by rw [hw]; exact (by exact vm (vf5 (Kd.V_mono bY.out (fun k_ hk => (⟨hk, hk.2⟩ : _ ∧ k_ ≠ aX))) fun _ hk => hk.2)))⟩; have n1_ : Aside0 (Kd.V k85 85 w55 w.heap.size (fun k_ => k_ ≠ a3 ∧ k_ ≠ aZ ∧ k_ ≠ a0 ∧ k_ ≠ a1 ∧ k_ ≠ aX) (.slice f3 dT.length fH) dT) := ⟨(by rw [hw]; exact (by exact vm (vf5 (Kd.V_mono bZ.out (fun k_ hk => (⟨hk, hk.2⟩ : _ ∧ k_ ≠ aX))) fun _ hk => hk.2)))⟩; have n2_ : Aside0 (Kd.V k42 42 w55 w.heap.size (fun k_ => k_ ≠ a3 ∧ k_ ≠ aZ ∧ k_ ≠ a0 ∧ k_ ≠ a1 ∧ k_ ≠ aX) (.slice gE d1.length fO) d1) := ⟨(by rw [hw]; exact (by exact vm (vf5 (Kd.V_mono b6.out (fun k_ hk => (⟨hk, hk.2⟩ : _ ∧ k_ ≠ aX))) fun _ hk => hk.2)))⟩; have n3_ : Aside0 (Kd.V k85 85 w55 w.heap.size (fun k_ => k_ ≠ a3 ∧ k_ ≠ aZ ∧ k_ ≠ a0 ∧ k_ ≠ a1 ∧ k_ ≠ aX) (.slice gP d3.length fW) d3) := ⟨(by rw [hw]; exact (by exact vm (vf5 (Kd.V_mono b7.out (fun k_ hk => (⟨hk, hk.2⟩ : _ ∧ k_ ≠ aX))) fun _ hk => hk.2)))⟩; have n4_ : Aside0 (w55.heap[a3]? = some (.cells #[.int .i64 aE, .slice cR aD.length cS, .slice cW aF.length cX, .int .i64 aG, .int .u64 aJ, .int .i64 dG, .int .i64 dR, .int .u64 eG, .int .i64 b3, .int .i64 bQ, .slice cC aM.length cD, .slice cF aN.length cG, .int .i64 aS, .int .u64 aU] 68 (0, 0))) := ⟨(by rw [hw]; exact (by exact blk_far (blk_far (blk_far (blk_far (blk_far aL.out h0.out _) h0.out _) h0.out _) h0.out _) h0.out _))⟩; have n5_ : Aside0 (w55.heap[aZ]? = some (.cells #[.int .i64 aE, .slice cR aD.length cS, .slice cW aF.length cX, .int .i64 aG, .int .u64 aJ] 26 (0, 0))) := ⟨(by rw [hw]; exact (by exact blk_far (blk_far (blk_far (blk_far (blk_far aB.out h1.out _) h1.out _) h1.out _) h1.out _) h1.out _))⟩; have n6_ : Aside0 (w55.heap[a0]? = some (.cells #[.int .i64 bQ, .slice cC aM.length cD, .slice cF aN.length cG, .int .i64 aS, .int .u64 aU] 26 (0, 0))) := ⟨(by rw [hw]; exact (by exact blk_far (blk_far (blk_far (blk_far (blk_far aC.out h2.out _) h2.out _) h2.out _) h2.out _) h2.out _))⟩; have n7_ : Aside0 (w55.heap[a1]? = some (.cells #[.int .i64 eX, .slice fY dS.length fD, .slice f3 dT.length fH, .int .i64 e1, .int .u64 e3] 26 (0, 0))) := ⟨(by rw [hw]; exact (by exact blk_far (blk_far (blk_far (blk_far (blk_far aT.out h3.out _) h3.out _) h3.out _) h3.out _) h3.out _))⟩; have n8_ : Aside0 (w55.heap[aX]? = some (.cells #[.int .i64 eZ, .slice gE d1.length fO, .slice gP d3.length fW, .int .i64 fB, .int .u64 fF] 26 (0, 0))) := ⟨(by rw [hw]; exact (by exact blk_put (blk_put (blk_put (blk_put (blk_put aY.out 0 _ rfl) 1 _ rfl) 2 _ rfl) 3 _ rfl) 4 _ rfl))⟩; have n9_ : Aside0 (Below w.heap.size w w55) := ⟨(by rw [hw]; exact (by repeat (first | exact HB.out | refine bs ?_ bT.out)))⟩; clear hw; clear bY; clear bZ; clear b6; clear b7; clear aL; clear aB; clear aC; clear aT; clear aY; clear HB; have bY := n0_; have bZ := n1_; have b6 := n2_; have b7 := n3_; have aL := n4_; have aB := n5_; have aC := n6_; have aT := n7_; have aY := n8_; have HB := n9_; clear n0_ n1_ n2_ n3_ n4_ n5_ n6_ n7_ n8_ n9_; obtain ⟨hcz56_0, hcz56_1, hcz56_2, hcz56_3, hcz56_4⟩ := Cb.c5 aB.out; obtain ⟨qK, qL, qM, qN, qO⟩ := Cb.f5 aB.out) | ((with_reducible refine gate_callee (f := 26) rfl ?_); refine goesL_ (some 78) rfl rfl Try.func26 (by kernel_rfl) rfl #[.agg #[.int .i64 aE, .slice cR aD.length cS, .slice cW aF.length cX, .int .i64 aG, .int .u64 aJ], .int .i64 dG] rfl mp ?_; (with_reducible refine (session_Renew.calls kj3 aE (fun k_ => k_ < w.heap.size) _ _ aD (fun k_ => k_ < w.heap.size) _ _ aF aG aJ dG fM eN eP f1 gC eH _ ?side1 ?side2 A22.out).mono ?_); (case side1 => exact Kd.V_mk iN.out (Kd.F_below (Kd.C_F k42_heap iM.out) (ue bM.out bN.out bP.out bR.out bT.out HB.out))); (case side2 => exact Kd.V_mk iP.out (Kd.F_below (Kd.C_F k85_heap iO.out) (ue bM.out bN.out bP.out bR.out bT.out HB.out))); rintro e w57 ⟨v641, v644, rfl, jC, jE, hb⟩; refine ⟨_, rfl, ?_⟩; have cI := ak (Kd.V_lower (Kd.V_mono (ok' := fun k_ => k_ ≠ a3 ∧ k_ ≠ aZ ∧ k_ ≠ a0 ∧ k_ ≠ a1 ∧ k_ ≠ aX) jC (fun k_ hk_ => ⟨Or.elim hk_ (fun hs_ => Or.elim hs_ (nl f4.out) (nl f4.out)) (fun hn_ => (Kd.freshB (pk aL.out) k_ hn_)), Or.elim hk_ (fun hs_ => Or.elim hs_ (nl f7.out) (nl f7.out)) (fun hn_ => (Kd.freshB (pk aB.out) k_ hn_)), Or.elim hk_ (fun hs_ => Or.elim hs_ (nl f8.out) (nl f8.out)) (fun hn_ => (Kd.freshB (pk aC.out) k_ hn_)), Or.elim hk_ (fun hs_ => Or.elim hs_ (nl g6.out) (nl g6.out)) (fun hn_ => (Kd.freshB (pk aT.out) k_ hn_)), Or.elim hk_ (fun hs_ => Or.elim hs_ (nl iK.out) (nl iK.out)) (fun hn_ => (Kd.freshB (pk aY.out) k_ hn_))⟩)) (below_size (ue bM.out bN.out bP.out bR.out bT.out HB.out))); have cJ := ak (Kd.V_lower (Kd.V_mono (ok' := fun k_ => k_ ≠ a3 ∧ k_ ≠ aZ ∧ k_ ≠ a0 ∧ k_ ≠ a1 ∧ k_ ≠ aX) jE (fun k_ hk_ => ⟨Or.elim hk_ (fun hs_ => Or.elim hs_ (nl f4.out) (nl f4.out)) (fun hn_ => (Kd.freshB (pk aL.out) k_ hn_)), Or.elim hk_ (fun hs_ => Or.elim hs_ (nl f7.out) (nl f7.out)) (fun hn_ => (Kd.freshB (pk aB.out) k_ hn_)), Or.elim hk_ (fun hs_ => Or.elim hs_ (nl f8.out) (nl f8.out)) (fun hn_ => (Kd.freshB (pk aC.out) k_ hn_)), Or.elim hk_ (fun hs_ => Or.elim hs_ (nl g6.out) (nl g6.out)) (fun hn_ => (Kd.freshB (pk aT.out) k_ hn_)), Or.elim hk_ (fun hs_ => Or.elim hs_ (nl iK.out) (nl iK.out)) (fun hn_ => (Kd.freshB (pk aY.out) k_ hn_))⟩)) (below_size (ue bM.out bN.out bP.out bR.out bT.out HB.out))); replace bY := vw bY hb; replace bZ := vw bZ hb; replace b6 := vw b6 hb; replace b7 := vw b7 hb; replace aL := bb aL hb; replace aB := bb aB hb; replace aC := bb aC hb; replace aT := bb aT hb; replace aY := bb aY hb; replace HB := ak (below_step (ue bM.out bN.out bP.out bR.out bT.out HB.out) hb); (try clear hb); (try clear hb2); (try clear hk); (try clear hi); (try clear jC); (try clear jE)) | ((with_reducible refine gate_dst (N := 17) rfl ?_); refine bv 17 26 #[.int .i64 0, .slice none 0 0, .slice none 0 0, .int .i64 0, .int .u64 0] ?_; intro aV hg w58 hbox hb; obtain ⟨n_, bW⟩ := Cb.bx (ue bM.out bN.out bP.out bR.out bT.out HB.out) hg hb; have jF := bW; obtain ⟨iQ, lW⟩ := Cb.nb hg aL.out; obtain ⟨iR, lX⟩ := Cb.nb hg aB.out; obtain ⟨iS, lY⟩ := Cb.nb hg aC.out; obtain ⟨h4, k3⟩ := Cb.nb hg aT.out; obtain ⟨h5, k4⟩ := Cb.nb hg aY.out; have a2 := ak (hbox); replace bY := vb bY aV hg hb; replace bZ := vb bZ aV hg hb; replace b6 := vb b6 aV hg hb; replace b7 := vb b7 aV hg hb; replace cI := vb cI aV hg hb; replace cJ := vb cJ aV hg hb; replace aL := bb aL hb; replace aB := bb aB hb; replace aC := bb aC hb; replace aT := bb aT hb; replace aY := bb aY hb; replace HB := n_; clear n_; clear hb hbox hg; have hnb59 := lW.out; have hnc59 := iQ.out; have hnb60 := lX.out; have hnc60 := iR.out; have hnb61 := lY.out; have hnc61 := iS.out; have hnb62 := k3.out; have hnc62 := h4.out; have hnb63 := k4.out; have hnc63 := h5.out; obtain ⟨hcz64_0, hcz64_1, hcz64_2, hcz64_3, hcz64_4⟩ := Cb.c5 a2.out; obtain ⟨qP, qQ, qR, qS, qT⟩ := Cb.f5 a2.out; obtain ⟨g8, g9, eo65⟩ := Kd.V_slice cI.out; subst eo65; obtain ⟨hD, hE, eo66⟩ := Kd.V_slice cJ.out; subst eo66) | ((with_reducible refine gate_store (t := 26) (p := 17) rfl ?_); refine store_event (t := 26) (p := 17) (v := ?vo_w67) (w1 := (((((w58.setCell ⟨aV, 0, none⟩ (.int .i64 fM)).setCell ⟨aV, 1, none⟩ (.slice g8 eN.length g9)).setCell ⟨aV, 2, none⟩ (.slice hD eP.length hE)).setCell ⟨aV, 3, none⟩ (.int .i64 f1)).setCell ⟨aV, 4, none⟩ (.int .u64 gC))) ?hg ?ho ?hn ?hr ?_; (case ho => rfl); (case hg => rfl); (case hn => rfl); (case hr => first | (go_simp; done) | (go_simp; rfl)); intro rM hw; have n0_ : Aside0 (Kd.V k42 42 rM w.heap.size (fun k_ => k_ ≠ a3 ∧ k_ ≠ aZ ∧ k_ ≠ a0 ∧ k_ ≠ a1 ∧ k_ ≠ aX ∧ k_ ≠ aV) (.slice fY dS.length fD) dS) := ⟨(by rw [hw]; exact (by exact vm (vf5 (Kd.V_mono bY.out (fun k_ hk => (⟨hk, hk.2⟩ : _ ∧ k_ ≠ aV))) fun _ hk => hk.2)))⟩; have n1_ : Aside0 (Kd.V k85 85 rM w.heap.size (fun k_ => k_ ≠ a3 ∧ k_ ≠ aZ ∧ k_ ≠ a0 ∧ k_ ≠ a1 ∧ k_ ≠ aX ∧ k_ ≠ aV) (.slice f3 dT.length fH) dT) := ⟨(by rw [hw]; exact (by exact vm (vf5 (Kd.V_mono bZ.out (fun k_ hk => (⟨hk, hk.2⟩ : _ ∧ k_ ≠ aV))) fun _ hk => hk.2)))⟩; have n2_ : Aside0 (Kd.V k42 42 rM w.heap.size (fun k_ => k_ ≠ a3 ∧ k_ ≠ aZ ∧ k_ ≠ a0 ∧ k_ ≠ a1 ∧ k_ ≠ aX ∧ k_ ≠ aV) (.slice gE d1.length fO) d1) := ⟨(by rw [hw]; exact (by exact vm (vf5 (Kd.V_mono b6.out (fun k_ hk => (⟨hk, hk.2⟩ : _ ∧ k_ ≠ aV))) fun _ hk => hk.2)))⟩; have n3_ : Aside0 (Kd.V k85 85 rM w.heap.size (fun k_ => k_ ≠ a3 ∧ k_ ≠ aZ ∧ k_ ≠ a0 ∧ k_ ≠ a1 ∧ k_ ≠ aX ∧ k_ ≠ aV) (.slice gP d3.length fW) d3) := ⟨(by rw [hw]; exact (by exact vm (vf5 (Kd.V_mono b7.out (fun k_ hk => (⟨hk, hk.2⟩ : _ ∧ k_ ≠ aV))) fun _ hk => hk.2)))⟩; have n4_ : Aside0 (Kd.V k42 42 rM w.heap.size (fun k_ => k_ ≠ a3 ∧ k_ ≠ aZ ∧ k_ ≠ a0 ∧ k_ ≠ a1 ∧ k_ ≠ aX ∧ k_ ≠ aV) (.slice g8 eN.length g9) eN) := ⟨(by rw [hw]; exact (by exact vm (vf5 (Kd.V_mono cI.out (fun k_ hk => (⟨hk, hk.2⟩ : _ ∧ k_ ≠ aV))) fun _ hk => hk.2)))⟩; have n5_ : Aside0 (Kd.V k85 85 rM w.heap.size (fun k_ => k_ ≠ a3 ∧ k_ ≠ aZ ∧ k_ ≠ a0 ∧ k_ ≠ a1 ∧ k_ ≠ aX ∧ k_ ≠ aV) (.slice hD eP.length hE) eP) := ⟨(by rw [hw]; exact (by exact vm (vf5 (Kd.V_mono cJ.out (fun k_ hk => (⟨hk, hk.2⟩ : _ ∧ k_ ≠ aV))) fun _ hk => hk.2)))⟩; have n6_ : Aside0 (rM.heap[a3]? = some (.cells #[.int .i64 aE, .slice cR aD.length cS, .slice cW aF.length cX, .int .i64 aG, .int .u64 aJ, .int .i64 dG, .int .i64 dR, .int .u64 eG, .int .i64 b3, .int .i64 bQ, .slice cC aM.length cD, .slice cF aN.length cG, .int .i64 aS, .int .u64 aU] 68 (0, 0))) := ⟨(by rw [hw]; exact (by exact blk_far (blk_far (blk_far (blk_far (blk_far aL.out iQ.out _) iQ.out _) iQ.out _) iQ.out _) iQ.out _))⟩; have n7_ : Aside0 (rM.heap[aZ]? = some (.cells #[.int .i64 aE, .slice cR aD.length cS, .slice cW aF.length cX, .int .i64 aG, .int .u64 aJ] 26 (0, 0))) := ⟨(by rw [hw]; exact (by exact blk_far (blk_far (blk_far (blk_far (blk_far aB.out iR.out _) iR.out _) iR.out _) iR.out _) iR.out _))⟩; have n8_ : Aside0 (rM.heap[a0]? = some (.cells #[.int .i64 bQ, .slice cC aM.length cD, .slice cF aN.length cG, .int .i64 aS, .int .u64 aU] 26 (0, 0))) := ⟨(by rw [hw]; exact (by exact blk_far (blk_far (blk_far (blk_far (blk_far aC.out iS.out _) iS.out _) iS.out _) iS.out _) iS.out _))⟩; have n9_ : Aside0 (rM.heap[a1]? = some (.cells #[.int .i64 eX, .slice fY dS.length fD, .slice f3 dT.length fH, .int .i64 e1, .int .u64 e3] 26 (0, 0))) := ⟨(by rw [hw]; exact (by exact blk_far (blk_far (blk_far (blk_far (blk_far aT.out h4.out _) h4.out _) h4.out _) h4.out _) h4.out _))⟩; have n10_ : Aside0 (rM.heap[aX]? = some (.cells #[.int .i64 eZ, .slice gE d1.length fO, .slice gP d3.length fW, .int .i64 fB, .int .u64 fF] 26 (0, 0))) := ⟨(by rw [hw]; exact (by exact blk_far (blk_far (blk_far (blk_far (blk_far aY.out h5.out _) h5.out _) h5.out _) h5.out _) h5.out _))⟩; have n11_ : Aside0 (rM.heap[aV]? = some (.cells #[.int .i64 fM, .slice g8 eN.length g9, .slice hD eP.length hE, .int .i64 f1, .int .u64 gC] 26 (0, 0))) := ⟨(by rw [hw]; exact (by exact blk_put (blk_put (blk_put (blk_put (blk_put a2.out 0 _ rfl) 1 _ rfl) 2 _ rfl) 3 _ rfl) 4 _ rfl))⟩; have n12_ : Aside0 (Below w.heap.size w rM) := ⟨(by rw [hw]; exact (by repeat (first | exact HB.out | refine bs ?_ bW.out)))⟩; clear hw; clear bY; clear bZ; clear b6; clear b7; clear cI; clear cJ; clear aL; clear aB; clear aC; clear aT; clear aY; clear a2; clear HB; have bY := n0_; have bZ := n1_; have b6 := n2_; have b7 := n3_; have cI := n4_; have cJ := n5_; have aL := n6_; have aB := n7_; have aC := n8_; have aT := n9_; have aY := n10_; have a2 := n11_; have HB := n12_; clear n0_ n1_ n2_ n3_ n4_ n5_ n6_ n7_ n8_ n9_ n10_ n11_ n12_; obtain ⟨hcz68_0, hcz68_1, hcz68_2, hcz68_3, hcz68_4⟩ := Cb.c5 aB.out; obtain ⟨qU, qV, qW, qX, qY⟩ := Cb.f5 aB.out) | ((with_reducible refine gate_callee (f := 29) rfl ?_); refine goesL_ (some 84) rfl rfl Try.func29 (by kernel_rfl) rfl #[.agg #[.int .i64 aE, .slice cR aD.length cS, .slice cW aF.length cX, .int .i64 aG, .int .u64 aJ], .int .i64 dG] rfl mp ?_; (with_reducible refine (stanchionref17_Renew.calls kj3 aE (fun k_ => k_ < w.heap.size) _ _ aD (fun k_ => k_ < w.heap.size) _ _ aF aG aJ dG fX eT eU gL gQ eQ _ ?side1 ?side2 A23.out).mono ?_); (case side1 => exact Kd.V_mk iN.out (Kd.F_below (Kd.C_F k42_heap iM.out) (uf bM.out bN.out bP.out bR.out bT.out bW.out HB.out))); (case side2 => exact Kd.V_mk iP.out (Kd.F_below (Kd.C_F k85_heap iO.out) (uf bM.out bN.out bP.out bR.out bT.out bW.out HB.out))); rintro e w69 ⟨v652, v655, rfl, jC, jE, hb⟩; refine ⟨_, rfl, ?_⟩; have cL := ak (Kd.V_lower (Kd.V_mono (ok' := fun k_ => k_ ≠ a3 ∧ k_ ≠ aZ ∧ k_ ≠ a0 ∧ k_ ≠ a1 ∧ k_ ≠ aX ∧ k_ ≠ aV) jC (fun k_ hk_ => ⟨Or.elim hk_ (fun hs_ => Or.elim hs_ (nl f4.out) (nl f4.out)) (fun hn_ => (Kd.freshB (pk aL.out) k_ hn_)), Or.elim hk_ (fun hs_ => Or.elim hs_ (nl f7.out) (nl f7.out)) (fun hn_ => (Kd.freshB (pk aB.out) k_ hn_)), Or.elim hk_ (fun hs_ => Or.elim hs_ (nl f8.out) (nl f8.out)) (fun hn_ => (Kd.freshB (pk aC.out) k_ hn_)), Or.elim hk_ (fun hs_ => Or.elim hs_ (nl g6.out) (nl g6.out)) (fun hn_ => (Kd.freshB (pk aT.out) k_ hn_)), Or.elim hk_ (fun hs_ => Or.elim hs_ (nl iK.out) (nl iK.out)) (fun hn_ => (Kd.freshB (pk aY.out) k_ hn_)), Or.elim hk_ (fun hs_ => Or.elim hs_ (nl jF.out) (nl jF.out)) (fun hn_ => (Kd.freshB (pk a2.out) k_ hn_))⟩)) (below_size (uf bM.out bN.out bP.out bR.out bT.out bW.out HB.out))); have cM := ak (Kd.V_lower (Kd.V_mono (ok' := fun k_ => k_ ≠ a3 ∧ k_ ≠ aZ ∧ k_ ≠ a0 ∧ k_ ≠ a1 ∧ k_ ≠ aX ∧ k_ ≠ aV) jE (fun k_ hk_ => ⟨Or.elim hk_ (fun hs_ => Or.elim hs_ (nl f4.out) (nl f4.out)) (fun hn_ => (Kd.freshB (pk aL.out) k_ hn_)), Or.elim hk_ (fun hs_ => Or.elim hs_ (nl f7.out) (nl f7.out)) (fun hn_ => (Kd.freshB (pk aB.out) k_ hn_)), Or.elim hk_ (fun hs_ => Or.elim hs_ (nl f8.out) (nl f8.out)) (fun hn_ => (Kd.freshB (pk aC.out) k_ hn_)), Or.elim hk_ (fun hs_ => Or.elim hs_ (nl g6.out) (nl g6.out)) (fun hn_ => (Kd.freshB (pk aT.out) k_ hn_)), Or.elim hk_ (fun hs_ => Or.elim hs_ (nl iK.out) (nl iK.out)) (fun hn_ => (Kd.freshB (pk aY.out) k_ hn_)), Or.elim hk_ (fun hs_ => Or.elim hs_ (nl jF.out) (nl jF.out)) (fun hn_ => (Kd.freshB (pk a2.out) k_ hn_))⟩)) (below_size (uf bM.out bN.out bP.out bR.out bT.out bW.out HB.out))); replace bY := vw bY hb; replace bZ := vw bZ hb; replace b6 := vw b6 hb; replace b7 := vw b7 hb; replace cI := vw cI hb; replace cJ := vw cJ hb; replace aL := bb aL hb; replace aB := bb aB hb; replace aC := bb aC hb; replace aT := bb aT hb; replace aY := bb aY hb; replace a2 := bb a2 hb; replace HB := ak (below_step (uf bM.out bN.out bP.out bR.out bT.out bW.out HB.out) hb); (try clear hb); (try clear hb2); (try clear hk); (try clear hi); (try clear jC); (try clear jE)) | ((with_reducible refine gate_dst (N := 19) rfl ?_); refine bv 19 26 #[.int .i64 0, .slice none 0 0, .slice none 0 0, .int .i64 0, .int .u64 0] ?_; intro aQ hg w70 hbox hb; obtain ⟨n_, b1⟩ := Cb.bx (uf bM.out bN.out bP.out bR.out bT.out bW.out HB.out) hg hb; have kI := b1; obtain ⟨iT, lZ⟩ := Cb.nb hg aL.out; obtain ⟨iU, l0⟩ := Cb.nb hg aB.out; obtain ⟨iV, l1⟩ := Cb.nb hg aC.out; obtain ⟨h6, k5⟩ := Cb.nb hg aT.out; obtain ⟨h7, k6⟩ := Cb.nb hg aY.out; obtain ⟨iW, l2⟩ := Cb.nb hg a2.out; have a4 := ak (hbox); replace bY := vb bY aQ hg hb; replace bZ := vb bZ aQ hg hb; replace b6 := vb b6 aQ hg hb; replace b7 := vb b7 aQ hg hb; replace cI := vb cI aQ hg hb; replace cJ := vb cJ aQ hg hb; replace cL := vb cL aQ hg hb; replace cM := vb cM aQ hg hb; replace aL := bb aL hb; replace aB := bb aB hb; replace aC := bb aC hb; replace aT := bb aT hb; replace aY := bb aY hb; replace a2 := bb a2 hb; replace HB := n_; clear n_; clear hb hbox hg; have hnb71 := lZ.out; have hnc71 := iT.out; have hnb72 := l0.out; have hnc72 := iU.out; have hnb73 := l1.out; have hnc73 := iV.out; have hnb74 := k5.out; have hnc74 := h6.out; have hnb75 := k6.out; have hnc75 := h7.out; have hnb76 := l2.out; have hnc76 := iW.out; obtain ⟨hcz77_0, hcz77_1, hcz77_2, hcz77_3, hcz77_4⟩ := Cb.c5 a4.out; obtain ⟨qZ, q0, q1, q2, q3⟩ := Cb.f5 a4.out; obtain ⟨hR, hS, eo78⟩ := Kd.V_slice cL.out; subst eo78; obtain ⟨hT, hU, eo79⟩ := Kd.V_slice cM.out; subst eo79) | ((with_reducible refine gate_store (t := 26) (p := 19) rfl ?_); refine store_event (t := 26) (p := 19) (v := ?vo_w80) (w1 := (((((w70.setCell ⟨aQ, 0, none⟩ (.int .i64 fX)).setCell ⟨aQ, 1, none⟩ (.slice hR eT.length hS)).setCell ⟨aQ, 2, none⟩ (.slice hT eU.length hU)).setCell ⟨aQ, 3, none⟩ (.int .i64 gL)).setCell ⟨aQ, 4, none⟩ (.int .u64 gQ))) ?hg ?ho ?hn ?hr ?_; (case ho => rfl); (case hg => rfl); (case hn => rfl); (case hr => first | (go_simp; done) | (go_simp; rfl)); intro oD hw; have n0_ : Aside0 (Kd.V k42 42 oD w.heap.size (fun k_ => k_ ≠ a3 ∧ k_ ≠ aZ ∧ k_ ≠ a0 ∧ k_ ≠ a1 ∧ k_ ≠ aX ∧ k_ ≠ aV ∧ k_ ≠ aQ) (.slice fY dS.length fD) dS) := ⟨(by rw [hw]; exact (by exact vm (vf5 (Kd.V_mono bY.out (fun k_ hk => (⟨hk, hk.2⟩ : _ ∧ k_ ≠ aQ))) fun _ hk => hk.2)))⟩; have n1_ : Aside0 (Kd.V k85 85 oD w.heap.size (fun k_ => k_ ≠ a3 ∧ k_ ≠ aZ ∧ k_ ≠ a0 ∧ k_ ≠ a1 ∧ k_ ≠ aX ∧ k_ ≠ aV ∧ k_ ≠ aQ) (.slice f3 dT.length fH) dT) := ⟨(by rw [hw]; exact (by exact vm (vf5 (Kd.V_mono bZ.out (fun k_ hk => (⟨hk, hk.2⟩ : _ ∧ k_ ≠ aQ))) fun _ hk => hk.2)))⟩; have n2_ : Aside0 (Kd.V k42 42 oD w.heap.size (fun k_ => k_ ≠ a3 ∧ k_ ≠ aZ ∧ k_ ≠ a0 ∧ k_ ≠ a1 ∧ k_ ≠ aX ∧ k_ ≠ aV ∧ k_ ≠ aQ) (.slice gE d1.length fO) d1) := ⟨(by rw [hw]; exact (by exact vm (vf5 (Kd.V_mono b6.out (fun k_ hk => (⟨hk, hk.2⟩ : _ ∧ k_ ≠ aQ))) fun _ hk => hk.2)))⟩; have n3_ : Aside0 (Kd.V k85 85 oD w.heap.size (fun k_ => k_ ≠ a3 ∧ k_ ≠ aZ ∧ k_ ≠ a0 ∧ k_ ≠ a1 ∧ k_ ≠ aX ∧ k_ ≠ aV ∧ k_ ≠ aQ) (.slice gP d3.length fW) d3) := ⟨(by rw [hw]; exact (by exact vm (vf5 (Kd.V_mono b7.out (fun k_ hk => (⟨hk, hk.2⟩ : _ ∧ k_ ≠ aQ))) fun _ hk => hk.2)))⟩; have n4_ : Aside0 (Kd.V k42 42 oD w.heap.size (fun k_ => k_ ≠ a3 ∧ k_ ≠ aZ ∧ k_ ≠ a0 ∧ k_ ≠ a1 ∧ k_ ≠ aX ∧ k_ ≠ aV ∧ k_ ≠ aQ) (.slice g8 eN.length g9) eN) := ⟨(by rw [hw]; exact (by exact vm (vf5 (Kd.V_mono cI.out (fun k_ hk => (⟨hk, hk.2⟩ : _ ∧ k_ ≠ aQ))) fun _ hk => hk.2)))⟩; have n5_ : Aside0 (Kd.V k85 85 oD w.heap.size (fun k_ => k_ ≠ a3 ∧ k_ ≠ aZ ∧ k_ ≠ a0 ∧ k_ ≠ a1 ∧ k_ ≠ aX ∧ k_ ≠ aV ∧ k_ ≠ aQ) (.slice hD eP.length hE) eP) := ⟨(by rw [hw]; exact (by exact vm (vf5 (Kd.V_mono cJ.out (fun k_ hk => (⟨hk, hk.2⟩ : _ ∧ k_ ≠ aQ))) fun _ hk => hk.2)))⟩; have n6_ : Aside0 (Kd.V k42 42 oD w.heap.size (fun k_ => k_ ≠ a3 ∧ k_ ≠ aZ ∧ k_ ≠ a0 ∧ k_ ≠ a1 ∧ k_ ≠ aX ∧ k_ ≠ aV ∧ k_ ≠ aQ) (.slice hR eT.length hS) eT) := ⟨(by rw [hw]; exact (by exact vm (vf5 (Kd.V_mono cL.out (fun k_ hk => (⟨hk, hk.2⟩ : _ ∧ k_ ≠ aQ))) fun _ hk => hk.2)))⟩; have n7_ : Aside0 (Kd.V k85 85 oD w.heap.size (fun k_ => k_ ≠ a3 ∧ k_ ≠ aZ ∧ k_ ≠ a0 ∧ k_ ≠ a1 ∧ k_ ≠ aX ∧ k_ ≠ aV ∧ k_ ≠ aQ) (.slice hT eU.length hU) eU) := ⟨(by rw [hw]; exact (by exact vm (vf5 (Kd.V_mono cM.out (fun k_ hk => (⟨hk, hk.2⟩ : _ ∧ k_ ≠ aQ))) fun _ hk => hk.2)))⟩; have n8_ : Aside0 (oD.heap[a3]? = some (.cells #[.int .i64 aE, .slice cR aD.length cS, .slice cW aF.length cX, .int .i64 aG, .int .u64 aJ, .int .i64 dG, .int .i64 dR, .int .u64 eG, .int .i64 b3, .int .i64 bQ, .slice cC aM.length cD, .slice cF aN.length cG, .int .i64 aS, .int .u64 aU] 68 (0, 0))) := ⟨(by rw [hw]; exact (by exact blk_far (blk_far (blk_far (blk_far (blk_far aL.out iT.out _) iT.out _) iT.out _) iT.out _) iT.out _))⟩; have n9_ : Aside0 (oD.heap[aZ]? = some (.cells #[.int .i64 aE, .slice cR aD.length cS, .slice cW aF.length cX, .int .i64 aG, .int .u64 aJ] 26 (0, 0))) := ⟨(by rw [hw]; exact (by exact blk_far (blk_far (blk_far (blk_far (blk_far aB.out iU.out _) iU.out _) iU.out _) iU.out _) iU.out _))⟩; have n10_ : Aside0 (oD.heap[a0]? = some (.cells #[.int .i64 bQ, .slice cC aM.length cD, .slice cF aN.length cG, .int .i64 aS, .int .u64 aU] 26 (0, 0))) := ⟨(by rw [hw]; exact (by exact blk_far (blk_far (blk_far (blk_far (blk_far aC.out iV.out _) iV.out _) iV.out _) iV.out _) iV.out _))⟩; have n11_ : Aside0 (oD.heap[a1]? = some (.cells #[.int .i64 eX, .slice fY dS.length fD, .slice f3 dT.length fH, .int .i64 e1, .int .u64 e3] 26 (0, 0))) := ⟨(by rw [hw]; exact (by exact blk_far (blk_far (blk_far (blk_far (blk_far aT.out h6.out _) h6.out _) h6.out _) h6.out _) h6.out _))⟩; have n12_ : Aside0 (oD.heap[aX]? = some (.cells #[.int .i64 eZ, .slice gE d1.length fO, .slice gP d3.length fW, .int .i64 fB, .int .u64 fF] 26 (0, 0))) := ⟨(by rw [hw]; exact (by exact blk_far (blk_far (blk_far (blk_far (blk_far aY.out h7.out _) h7.out _) h7.out _) h7.out _) h7.out _))⟩; have n13_ : Aside0 (oD.heap[aV]? = some (.cells #[.int .i64 fM, .slice g8 eN.length g9, .slice hD eP.length hE, .int .i64 f1, .int .u64 gC] 26 (0, 0))) := ⟨(by rw [hw]; exact (by exact blk_far (blk_far (blk_far (blk_far (blk_far a2.out iW.out _) iW.out _) iW.out _) iW.out _) iW.out _))⟩; have n14_ : Aside0 (oD.heap[aQ]? = some (.cells #[.int .i64 fX, .slice hR eT.length hS, .slice hT eU.length hU, .int .i64 gL, .int .u64 gQ] 26 (0, 0))) := ⟨(by rw [hw]; exact (by exact blk_put (blk_put (blk_put (blk_put (blk_put a4.out 0 _ rfl) 1 _ rfl) 2 _ rfl) 3 _ rfl) 4 _ rfl))⟩; have n15_ : Aside0 (Below w.heap.size w oD) := ⟨(by rw [hw]; exact (by repeat (first | exact HB.out | refine bs ?_ b1.out)))⟩; clear hw; clear bY; clear bZ; clear b6; clear b7; clear cI; clear cJ; clear cL; clear cM; clear aL; clear aB; clear aC; clear aT; clear aY; clear a2; clear a4; clear HB; have bY := n0_; have bZ := n1_; have b6 := n2_; have b7 := n3_; have cI := n4_; have cJ := n5_; have cL := n6_; have cM := n7_; have aL := n8_; have aB := n9_; have aC := n10_; have aT := n11_; have aY := n12_; have a2 := n13_; have a4 := n14_; have HB := n15_; clear n0_ n1_ n2_ n3_ n4_ n5_ n6_ n7_ n8_ n9_ n10_ n11_ n12_ n13_ n14_ n15_; obtain ⟨hcz81_0, hcz81_1, hcz81_2, hcz81_3, hcz81_4⟩ := Cb.c5 aB.out; obtain ⟨q4, q5, q6, q7, q8⟩ := Cb.f5 aB.out) | ((with_reducible refine gate_callee (f := 24) rfl ?_); refine goesL_ (some 90) rfl rfl Try.func24 (by kernel_rfl) rfl #[.agg #[.int .i64 aE, .slice cR aD.length cS, .slice cW aF.length cX, .int .i64 aG, .int .u64 aJ], .int .i64 dG] rfl mp ?_; (with_reducible refine (session_Close.calls kj3 aE (fun k_ => k_ < w.heap.size) _ _ aD (fun k_ => k_ < w.heap.size) _ _ aF aG aJ dG f2 eY e0 gR gS eV _ ?side1 ?side2 A24.out).mono ?_); (case side1 => exact Kd.V_mk iN.out (Kd.F_below (Kd.C_F k42_heap iM.out) (ug bM.out bN.out bP.out bR.out bT.out bW.out b1.out HB.out))); (case side2 => exact Kd.V_mk iP.out (Kd.F_below (Kd.C_F k85_heap iO.out) (ug bM.out bN.out bP.out bR.out bT.out bW.out b1.out HB.out))); rintro e w82 ⟨v663, v666, rfl, jC, jE, hb⟩; refine ⟨_, rfl, ?_⟩; have dB := ak (Kd.V_lower (Kd.V_mono (ok' := fun k_ => k_ ≠ a3 ∧ k_ ≠ aZ ∧ k_ ≠ a0 ∧ k_ ≠ a1 ∧ k_ ≠ aX ∧ k_ ≠ aV ∧ k_ ≠ aQ) jC (fun k_ hk_ => ⟨Or.elim hk_ (fun hs_ => Or.elim hs_ (nl f4.out) (nl f4.out)) (fun hn_ => (Kd.freshB (pk aL.out) k_ hn_)), Or.elim hk_ (fun hs_ => Or.elim hs_ (nl f7.out) (nl f7.out)) (fun hn_ => (Kd.freshB (pk aB.out) k_ hn_)), Or.elim hk_ (fun hs_ => Or.elim hs_ (nl f8.out) (nl f8.out)) (fun hn_ => (Kd.freshB (pk aC.out) k_ hn_)), Or.elim hk_ (fun hs_ => Or.elim hs_ (nl g6.out) (nl g6.out)) (fun hn_ => (Kd.freshB (pk aT.out) k_ hn_)), Or.elim hk_ (fun hs_ => Or.elim hs_ (nl iK.out) (nl iK.out)) (fun hn_ => (Kd.freshB (pk aY.out) k_ hn_)), Or.elim hk_ (fun hs_ => Or.elim hs_ (nl jF.out) (nl jF.out)) (fun hn_ => (Kd.freshB (pk a2.out) k_ hn_)), Or.elim hk_ (fun hs_ => Or.elim hs_ (nl kI.out) (nl kI.out)) (fun hn_ => (Kd.freshB (pk a4.out) k_ hn_))⟩)) (below_size (ug bM.out bN.out bP.out bR.out bT.out bW.out b1.out HB.out))); have dC := ak (Kd.V_lower (Kd.V_mono (ok' := fun k_ => k_ ≠ a3 ∧ k_ ≠ aZ ∧ k_ ≠ a0 ∧ k_ ≠ a1 ∧ k_ ≠ aX ∧ k_ ≠ aV ∧ k_ ≠ aQ) jE (fun k_ hk_ => ⟨Or.elim hk_ (fun hs_ => Or.elim hs_ (nl f4.out) (nl f4.out)) (fun hn_ => (Kd.freshB (pk aL.out) k_ hn_)), Or.elim hk_ (fun hs_ => Or.elim hs_ (nl f7.out) (nl f7.out)) (fun hn_ => (Kd.freshB (pk aB.out) k_ hn_)), Or.elim hk_ (fun hs_ => Or.elim hs_ (nl f8.out) (nl f8.out)) (fun hn_ => (Kd.freshB (pk aC.out) k_ hn_)), Or.elim hk_ (fun hs_ => Or.elim hs_ (nl g6.out) (nl g6.out)) (fun hn_ => (Kd.freshB (pk aT.out) k_ hn_)), Or.elim hk_ (fun hs_ => Or.elim hs_ (nl iK.out) (nl iK.out)) (fun hn_ => (Kd.freshB (pk aY.out) k_ hn_)), Or.elim hk_ (fun hs_ => Or.elim hs_ (nl jF.out) (nl jF.out)) (fun hn_ => (Kd.freshB (pk a2.out) k_ hn_)), Or.elim hk_ (fun hs_ => Or.elim hs_ (nl kI.out) (nl kI.out)) (fun hn_ => (Kd.freshB (pk a4.out) k_ hn_))⟩)) (below_size (ug bM.out bN.out bP.out bR.out bT.out bW.out b1.out HB.out))); replace bY := vw bY hb; replace bZ := vw bZ hb; replace b6 := vw b6 hb; replace b7 := vw b7 hb; replace cI := vw cI hb; replace cJ := vw cJ hb; replace cL := vw cL hb; replace cM := vw cM hb; replace aL := bb aL hb; replace aB := bb aB hb; replace aC := bb aC hb; replace aT := bb aT hb; replace aY := bb aY hb; replace a2 := bb a2 hb; replace a4 := bb a4 hb; replace HB := ak (below_step (ug bM.out bN.out bP.out bR.out bT.out bW.out b1.out HB.out) hb); (try clear hb); (try clear hb2); (try clear hk); (try clear hi); (try clear jC); (try clear jE)) | ((with_reducible refine gate_dst (N := 21) rfl ?_); refine bv 21 26 #[.int .i64 0, .slice none 0 0, .slice none 0 0, .int .i64 0, .int .u64 0] ?_; intro aP hg w83 hbox hb; obtain ⟨n_, b8⟩ := Cb.bx (ug bM.out bN.out bP.out bR.out bT.out bW.out b1.out HB.out) hg hb; have lV := b8; obtain ⟨jG, mM⟩ := Cb.nb hg aL.out; obtain ⟨jH, mN⟩ := Cb.nb hg aB.out; obtain ⟨jI, mO⟩ := Cb.nb hg aC.out; obtain ⟨h8, k7⟩ := Cb.nb hg aT.out; obtain ⟨h9, k8⟩ := Cb.nb hg aY.out; obtain ⟨iX, l3⟩ := Cb.nb hg a2.out; obtain ⟨iY, l4⟩ := Cb.nb hg a4.out; have a5 := ak (hbox); replace bY := vb bY aP hg hb; replace bZ := vb bZ aP hg hb; replace b6 := vb b6 aP hg hb; replace b7 := vb b7 aP hg hb; replace cI := vb cI aP hg hb; replace cJ := vb cJ aP hg hb; replace cL := vb cL aP hg hb; replace cM := vb cM aP hg hb; replace dB := vb dB aP hg hb; replace dC := vb dC aP hg hb; replace aL := bb aL hb; replace aB := bb aB hb; replace aC := bb aC hb; replace aT := bb aT hb; replace aY := bb aY hb; replace a2 := bb a2 hb; replace a4 := bb a4 hb; replace HB := n_; clear n_; clear hb hbox hg; have hnb84 := mM.out; have hnc84 := jG.out; have hnb85 := mN.out; have hnc85 := jH.out; have hnb86 := mO.out; have hnc86 := jI.out; have hnb87 := k7.out; have hnc87 := h8.out; have hnb88 := k8.out; have hnc88 := h9.out; have hnb89 := l3.out; have hnc89 := iX.out; have hnb90 := l4.out; have hnc90 := iY.out; obtain ⟨hcz91_0, hcz91_1, hcz91_2, hcz91_3, hcz91_4⟩ := Cb.c5 a5.out; obtain ⟨q9, rA, rB, rC, rD⟩ := Cb.f5 a5.out; obtain ⟨hV, hW, eo92⟩ := Kd.V_slice dB.out; subst eo92; obtain ⟨iI, iJ, eo93⟩ := Kd.V_slice dC.out; subst eo93) | ((with_reducible refine gate_store (t := 26) (p := 21) rfl ?_); refine store_event (t := 26) (p := 21) (v := ?vo_w94) (w1 := (((((w83.setCell ⟨aP, 0, none⟩ (.int .i64 f2)).setCell ⟨aP, 1, none⟩ (.slice hV eY.length hW)).setCell ⟨aP, 2, none⟩ (.slice iI e0.length iJ)).setCell ⟨aP, 3, none⟩ (.int .i64 gR)).setCell ⟨aP, 4, none⟩ (.int .u64 gS))) ?hg ?ho ?hn ?hr ?_; (case ho => rfl); (case hg => rfl); (case hn => rfl); (case hr => first | (go_simp; done) | (go_simp; rfl)); intro nS hw; have n0_ : Aside0 (Kd.V k42 42 nS w.heap.size (fun k_ => k_ ≠ a3 ∧ k_ ≠ aZ ∧ k_ ≠ a0 ∧ k_ ≠ a1 ∧ k_ ≠ aX ∧ k_ ≠ aV ∧ k_ ≠ aQ ∧ k_ ≠ aP) (.slice fY dS.length fD) dS) := ⟨(by rw [hw]; exact (by exact vm (vf5 (Kd.V_mono bY.out (fun k_ hk => (⟨hk, hk.2⟩ : _ ∧ k_ ≠ aP))) fun _ hk => hk.2)))⟩; have n1_ : Aside0 (Kd.V k85 85 nS w.heap.size (fun k_ => k_ ≠ a3 ∧ k_ ≠ aZ ∧ k_ ≠ a0 ∧ k_ ≠ a1 ∧ k_ ≠ aX ∧ k_ ≠ aV ∧ k_ ≠ aQ ∧ k_ ≠ aP) (.slice f3 dT.length fH) dT) := ⟨(by rw [hw]; exact (by exact vm (vf5 (Kd.V_mono bZ.out (fun k_ hk => (⟨hk, hk.2⟩ : _ ∧ k_ ≠ aP))) fun _ hk => hk.2)))⟩; have n2_ : Aside0 (Kd.V k42 42 nS w.heap.size (fun k_ => k_ ≠ a3 ∧ k_ ≠ aZ ∧ k_ ≠ a0 ∧ k_ ≠ a1 ∧ k_ ≠ aX ∧ k_ ≠ aV ∧ k_ ≠ aQ ∧ k_ ≠ aP) (.slice gE d1.length fO) d1) := ⟨(by rw [hw]; exact (by exact vm (vf5 (Kd.V_mono b6.out (fun k_ hk => (⟨hk, hk.2⟩ : _ ∧ k_ ≠ aP))) fun _ hk => hk.2)))⟩; have n3_ : Aside0 (Kd.V k85 85 nS w.heap.size (fun k_ => k_ ≠ a3 ∧ k_ ≠ aZ ∧ k_ ≠ a0 ∧ k_ ≠ a1 ∧ k_ ≠ aX ∧ k_ ≠ aV ∧ k_ ≠ aQ ∧ k_ ≠ aP) (.slice gP d3.length fW) d3) := ⟨(by rw [hw]; exact (by exact vm (vf5 (Kd.V_mono b7.out (fun k_ hk => (⟨hk, hk.2⟩ : _ ∧ k_ ≠ aP))) fun _ hk => hk.2)))⟩; have n4_ : Aside0 (Kd.V k42 42 nS w.heap.size (fun k_ => k_ ≠ a3 ∧ k_ ≠ aZ ∧ k_ ≠ a0 ∧ k_ ≠ a1 ∧ k_ ≠ aX ∧ k_ ≠ aV ∧ k_ ≠ aQ ∧ k_ ≠ aP) (.slice g8 eN.length g9) eN) := ⟨(by rw [hw]; exact (by exact vm (vf5 (Kd.V_mono cI.out (fun k_ hk => (⟨hk, hk.2⟩ : _ ∧ k_ ≠ aP))) fun _ hk => hk.2)))⟩; have n5_ : Aside0 (Kd.V k85 85 nS w.heap.size (fun k_ => k_ ≠ a3 ∧ k_ ≠ aZ ∧ k_ ≠ a0 ∧ k_ ≠ a1 ∧ k_ ≠ aX ∧ k_ ≠ aV ∧ k_ ≠ aQ ∧ k_ ≠ aP) (.slice hD eP.length hE) eP) := ⟨(by rw [hw]; exact (by exact vm (vf5 (Kd.V_mono cJ.out (fun k_ hk => (⟨hk, hk.2⟩ : _ ∧ k_ ≠ aP))) fun _ hk => hk.2)))⟩; have n6_ : Aside0 (Kd.V k42 42 nS w.heap.size (fun k_ => k_ ≠ a3 ∧ k_ ≠ aZ ∧ k_ ≠ a0 ∧ k_ ≠ a1 ∧ k_ ≠ aX ∧ k_ ≠ aV ∧ k_ ≠ aQ ∧ k_ ≠ aP) (.slice hR eT.length hS) eT) := ⟨(by rw [hw]; exact (by exact vm (vf5 (Kd.V_mono cL.out (fun k_ hk => (⟨hk, hk.2⟩ : _ ∧ k_ ≠ aP))) fun _ hk => hk.2)))⟩; have n7_ : Aside0 (Kd.V k85 85 nS w.heap.size (fun k_ => k_ ≠ a3 ∧ k_ ≠ aZ ∧ k_ ≠ a0 ∧ k_ ≠ a1 ∧ k_ ≠ aX ∧ k_ ≠ aV ∧ k_ ≠ aQ ∧ k_ ≠ aP) (.slice hT eU.length hU) eU) := ⟨(by rw [hw]; exact (by exact vm (vf5 (Kd.V_mono cM.out (fun k_ hk => (⟨hk, hk.2⟩ : _ ∧ k_ ≠ aP))) fun _ hk => hk.2)))⟩; have n8_ : Aside0 (Kd.V k42 42 nS w.heap.size (fun k_ => k_ ≠ a3 ∧ k_ ≠ aZ ∧ k_ ≠ a0 ∧ k_ ≠ a1 ∧ k_ ≠ aX ∧ k_ ≠ aV ∧ k_ ≠ aQ ∧ k_ ≠ aP) (.slice hV eY.length hW) eY) := ⟨(by rw [hw]; exact (by exact vm (vf5 (Kd.V_mono dB.out (fun k_ hk => (⟨hk, hk.2⟩ : _ ∧ k_ ≠ aP))) fun _ hk => hk.2)))⟩; have n9_ : Aside0 (Kd.V k85 85 nS w.heap.size (fun k_ => k_ ≠ a3 ∧ k_ ≠ aZ ∧ k_ ≠ a0 ∧ k_ ≠ a1 ∧ k_ ≠ aX ∧ k_ ≠ aV ∧ k_ ≠ aQ ∧ k_ ≠ aP) (.slice iI e0.length iJ) e0) := ⟨(by rw [hw]; exact (by exact vm (vf5 (Kd.V_mono dC.out (fun k_ hk => (⟨hk, hk.2⟩ : _ ∧ k_ ≠ aP))) fun _ hk => hk.2)))⟩; have n10_ : Aside0 (nS.heap[a3]? = some (.cells #[.int .i64 aE, .slice cR aD.length cS, .slice cW aF.length cX, .int .i64 aG, .int .u64 aJ, .int .i64 dG, .int .i64 dR, .int .u64 eG, .int .i64 b3, .int .i64 bQ, .slice cC aM.length cD, .slice cF aN.length cG, .int .i64 aS, .int .u64 aU] 68 (0, 0))) := ⟨(by rw [hw]; exact (by exact blk_far (blk_far (blk_far (blk_far (blk_far aL.out jG.out _) jG.out _) jG.out _) jG.out _) jG.out _))⟩; have n11_ : Aside0 (nS.heap[aZ]? = some (.cells #[.int .i64 aE, .slice cR aD.length cS, .slice cW aF.length cX, .int .i64 aG, .int .u64 aJ] 26 (0, 0))) := ⟨(by rw [hw]; exact (by exact blk_far (blk_far (blk_far (blk_far (blk_far aB.out jH.out _) jH.out _) jH.out _) jH.out _) jH.out _))⟩; have n12_ : Aside0 (nS.heap[a0]? = some (.cells #[.int .i64 bQ, .slice cC aM.length cD, .slice cF aN.length cG, .int .i64 aS, .int .u64 aU] 26 (0, 0))) := ⟨(by rw [hw]; exact (by exact blk_far (blk_far (blk_far (blk_far (blk_far aC.out jI.out _) jI.out _) jI.out _) jI.out _) jI.out _))⟩; have n13_ : Aside0 (nS.heap[a1]? = some (.cells #[.int .i64 eX, .slice fY dS.length fD, .slice f3 dT.length fH, .int .i64 e1, .int .u64 e3] 26 (0, 0))) := ⟨(by rw [hw]; exact (by exact blk_far (blk_far (blk_far (blk_far (blk_far aT.out h8.out _) h8.out _) h8.out _) h8.out _) h8.out _))⟩; have n14_ : Aside0 (nS.heap[aX]? = some (.cells #[.int .i64 eZ, .slice gE d1.length fO, .slice gP d3.length fW, .int .i64 fB, .int .u64 fF] 26 (0, 0))) := ⟨(by rw [hw]; exact (by exact blk_far (blk_far (blk_far (blk_far (blk_far aY.out h9.out _) h9.out _) h9.out _) h9.out _) h9.out _))⟩; have n15_ : Aside0 (nS.heap[aV]? = some (.cells #[.int .i64 fM, .slice g8 eN.length g9, .slice hD eP.length hE, .int .i64 f1, .int .u64 gC] 26 (0, 0))) := ⟨(by rw [hw]; exact (by exact blk_far (blk_far (blk_far (blk_far (blk_far a2.out iX.out _) iX.out _) iX.out _) iX.out _) iX.out _))⟩; have n16_ : Aside0 (nS.heap[aQ]? = some (.cells #[.int .i64 fX, .slice hR eT.length hS, .slice hT eU.length hU, .int .i64 gL, .int .u64 gQ] 26 (0, 0))) := ⟨(by rw [hw]; exact (by exact blk_far (blk_far (blk_far (blk_far (blk_far a4.out iY.out _) iY.out _) iY.out _) iY.out _) iY.out _))⟩; have n17_ : Aside0 (nS.heap[aP]? = some (.cells #[.int .i64 f2, .slice hV eY.length hW, .slice iI e0.length iJ, .int .i64 gR, .int .u64 gS] 26 (0, 0))) := ⟨(by rw [hw]; exact (by exact blk_put (blk_put (blk_put (blk_put (blk_put a5.out 0 _ rfl) 1 _ rfl) 2 _ rfl) 3 _ rfl) 4 _ rfl))⟩; have n18_ : Aside0 (Below w.heap.size w nS) := ⟨(by rw [hw]; exact (by repeat (first | exact HB.out | refine bs ?_ b8.out)))⟩; clear hw; clear bY; clear bZ; clear b6; clear b7; clear cI; clear cJ; clear cL; clear cM; clear dB; clear dC; clear aL; clear aB; clear aC; clear aT; clear aY; clear a2; clear a4; clear a5; clear HB; have bY := n0_; have bZ := n1_; have b6 := n2_; have b7 := n3_; have cI := n4_; have cJ := n5_; have cL := n6_; have cM := n7_; have dB := n8_; have dC := n9_; have aL := n10_; have aB := n11_; have aC := n12_; have aT := n13_; have aY := n14_; have a2 := n15_; have a4 := n16_; have a5 := n17_; have HB := n18_; clear n0_ n1_ n2_ n3_ n4_ n5_ n6_ n7_ n8_ n9_ n10_ n11_ n12_ n13_ n14_ n15_ n16_ n17_ n18_; obtain ⟨hcz95_0, hcz95_1, hcz95_2, hcz95_3, hcz95_4⟩ := Cb.c5 aB.out; obtain ⟨rE, rF, rG, rH, rI⟩ := Cb.f5 aB.out) | ((with_reducible refine gate_callee (f := 30) rfl ?_); refine goesL_ (some 96) rfl rfl Try.func30 (by kernel_rfl) rfl #[.agg #[.int .i64 aE, .slice cR aD.length cS, .slice cW aF.length cX, .int .i64 aG, .int .u64 aJ], .int .i64 dG] rfl mp ?_; (with_reducible refine (stanchionref17_Close.calls kj3 aE (fun k_ => k_ < w.heap.size) _ _ aD (fun k_ => k_ < w.heap.size) _ _ aF aG aJ dG gM fC fG g2 g4 e2 _ ?side1 ?side2 A25.out).mono ?_); (case side1 => exact Kd.V_mk iN.out (Kd.F_below (Kd.C_F k42_heap iM.out) (uh bM.out bN.out bP.out bR.out bT.out bW.out b1.out b8.out HB.out))); (case side2 => exact Kd.V_mk iP.out (Kd.F_below (Kd.C_F k85_heap iO.out) (uh bM.out bN.out bP.out bR.out bT.out bW.out b1.out b8.out HB.out))); rintro e w96 ⟨v674, v677, rfl, jC, jE, hb⟩; refine ⟨_, rfl, ?_⟩; have dM := ak (Kd.V_lower (Kd.V_mono (ok' := fun k_ => k_ ≠ a3 ∧ k_ ≠ aZ ∧ k_ ≠ a0 ∧ k_ ≠ a1 ∧ k_ ≠ aX ∧ k_ ≠ aV ∧ k_ ≠ aQ ∧ k_ ≠ aP) jC (fun k_ hk_ => ⟨Or.elim hk_ (fun hs_ => Or.elim hs_ (nl f4.out) (nl f4.out)) (fun hn_ => (Kd.freshB (pk aL.out) k_ hn_)), Or.elim hk_ (fun hs_ => Or.elim hs_ (nl f7.out) (nl f7.out)) (fun hn_ => (Kd.freshB (pk aB.out) k_ hn_)), Or.elim hk_ (fun hs_ => Or.elim hs_ (nl f8.out) (nl f8.out)) (fun hn_ => (Kd.freshB (pk aC.out) k_ hn_)), Or.elim hk_ (fun hs_ => Or.elim hs_ (nl g6.out) (nl g6.out)) (fun hn_ => (Kd.freshB (pk aT.out) k_ hn_)), Or.elim hk_ (fun hs_ => Or.elim hs_ (nl iK.out) (nl iK.out)) (fun hn_ => (Kd.freshB (pk aY.out) k_ hn_)), Or.elim hk_ (fun hs_ => Or.elim hs_ (nl jF.out) (nl jF.out)) (fun hn_ => (Kd.freshB (pk a2.out) k_ hn_)), Or.elim hk_ (fun hs_ => Or.elim hs_ (nl kI.out) (nl kI.out)) (fun hn_ => (Kd.freshB (pk a4.out) k_ hn_)), Or.elim hk_ (fun hs_ => Or.elim hs_ (nl lV.out) (nl lV.out)) (fun hn_ => (Kd.freshB (pk a5.out) k_ hn_))⟩)) (below_size (uh bM.out bN.out bP.out bR.out bT.out bW.out b1.out b8.out HB.out))); have dN := ak (Kd.V_lower (Kd.V_mono (ok' := fun k_ => k_ ≠ a3 ∧ k_ ≠ aZ ∧ k_ ≠ a0 ∧ k_ ≠ a1 ∧ k_ ≠ aX ∧ k_ ≠ aV ∧ k_ ≠ aQ ∧ k_ ≠ aP) jE (fun k_ hk_ => ⟨Or.elim hk_ (fun hs_ => Or.elim hs_ (nl f4.out) (nl f4.out)) (fun hn_ => (Kd.freshB (pk aL.out) k_ hn_)), Or.elim hk_ (fun hs_ => Or.elim hs_ (nl f7.out) (nl f7.out)) (fun hn_ => (Kd.freshB (pk aB.out) k_ hn_)), Or.elim hk_ (fun hs_ => Or.elim hs_ (nl f8.out) (nl f8.out)) (fun hn_ => (Kd.freshB (pk aC.out) k_ hn_)), Or.elim hk_ (fun hs_ => Or.elim hs_ (nl g6.out) (nl g6.out)) (fun hn_ => (Kd.freshB (pk aT.out) k_ hn_)), Or.elim hk_ (fun hs_ => Or.elim hs_ (nl iK.out) (nl iK.out)) (fun hn_ => (Kd.freshB (pk aY.out) k_ hn_)), Or.elim hk_ (fun hs_ => Or.elim hs_ (nl jF.out) (nl jF.out)) (fun hn_ => (Kd.freshB (pk a2.out) k_ hn_)), Or.elim hk_ (fun hs_ => Or.elim hs_ (nl kI.out) (nl kI.out)) (fun hn_ => (Kd.freshB (pk a4.out) k_ hn_)), Or.elim hk_ (fun hs_ => Or.elim hs_ (nl lV.out) (nl lV.out)) (fun hn_ => (Kd.freshB (pk a5.out) k_ hn_))⟩)) (below_size (uh bM.out bN.out bP.out bR.out bT.out bW.out b1.out b8.out HB.out))); replace bY := vw bY hb; replace bZ := vw bZ hb; replace b6 := vw b6 hb; replace b7 := vw b7 hb; replace cI := vw cI hb; replace cJ := vw cJ hb; replace cL := vw cL hb; replace cM := vw cM hb; replace dB := vw dB hb; replace dC := vw dC hb; replace aL := bb aL hb; replace aB := bb aB hb; replace aC := bb aC hb; replace aT := bb aT hb; replace aY := bb aY hb; replace a2 := bb a2 hb; replace a4 := bb a4 hb; replace a5 := bb a5 hb; replace HB := ak (below_step (uh bM.out bN.out bP.out bR.out bT.out bW.out b1.out b8.out HB.out) hb); (try clear hb); (try clear hb2); (try clear hk); (try clear hi); (try clear jC); (try clear jE)) | ((with_reducible refine gate_dst (N := 23) rfl ?_); refine bv 23 26 #[.int .i64 0, .slice none 0 0, .slice none 0 0, .int .i64 0, .int .u64 0] ?_; intro aR hg w97 hbox hb; obtain ⟨n_, cE⟩ := Cb.bx (uh bM.out bN.out bP.out bR.out bT.out bW.out b1.out b8.out HB.out) hg hb; have m7 := cE; obtain ⟨jJ, mP⟩ := Cb.nb hg aL.out; obtain ⟨jK, mQ⟩ := Cb.nb hg aB.out; obtain ⟨jL, mR⟩ := Cb.nb hg aC.out; obtain ⟨iA, k9⟩ := Cb.nb hg aT.out; obtain ⟨iB, lA⟩ := Cb.nb hg aY.out; obtain ⟨iZ, l5⟩ := Cb.nb hg a2.out; obtain ⟨i0, l6⟩ := Cb.nb hg a4.out; obtain ⟨jM, mS⟩ := Cb.nb hg a5.out; have bO := ak (hbox); replace bY := vb bY aR hg hb; replace bZ := vb bZ aR hg hb; replace b6 := vb b6 aR hg hb; replace b7 := vb b7 aR hg hb; replace cI := vb cI aR hg hb; replace cJ := vb cJ aR hg hb; replace cL := vb cL aR hg hb; replace cM := vb cM aR hg hb; replace dB := vb dB aR hg hb; replace dC := vb dC aR hg hb; replace dM := vb dM aR hg hb; replace dN := vb dN aR hg hb; replace aL := bb aL hb; replace aB := bb aB hb; replace aC := bb aC hb; replace aT := bb aT hb; replace aY := bb aY hb; replace a2 := bb a2 hb; replace a4 := bb a4 hb; replace a5 := bb a5 hb; replace HB := n_; clear n_; clear hb hbox hg; have hnb98 := mP.out; have hnc98 := jJ.out; have hnb99 := mQ.out; have hnc99 := jK.out; have hnb100 := mR.out; have hnc100 := jL.out; have hnb101 := k9.out; have hnc101 := iA.out; have hnb102 := lA.out; have hnc102 := iB.out; have hnb103 := l5.out; have hnc103 := iZ.out; have hnb104 := l6.out; have hnc104 := i0.out; have hnb105 := mS.out; have hnc105 := jM.out; obtain ⟨r6, r7, r8, r9, sA⟩ := Cb.c5 bO.out; obtain ⟨sB, sC, sD, sE, sF⟩ := Cb.f5 bO.out; obtain ⟨e9, fA, eo107⟩ := Kd.V_slice dM.out; subst eo107; obtain ⟨fI, fJ, eo108⟩ := Kd.V_slice dN.out; subst eo108) | ((with_reducible refine gate_store (t := 26) (p := 23) rfl ?_); refine store_event (t := 26) (p := 23) (v := ?vo_w109) (w1 := (((((w97.setCell ⟨aR, 0, none⟩ (.int .i64 gM)).setCell ⟨aR, 1, none⟩ (.slice e9 fC.length fA)).setCell ⟨aR, 2, none⟩ (.slice fI fG.length fJ)).setCell ⟨aR, 3, none⟩ (.int .i64 g2)).setCell ⟨aR, 4, none⟩ (.int .u64 g4))) ?hg ?ho ?hn ?hr ?_; (case ho => rfl); (case hg => rfl); (case hn => rfl); (case hr => first | (go_simp; done) | (go_simp; rfl)); intro kS hw; have n0_ : Aside0 (Kd.V k42 42 kS w.heap.size (fun k_ => k_ ≠ a3 ∧ k_ ≠ aZ ∧ k_ ≠ a0 ∧ k_ ≠ a1 ∧ k_ ≠ aX ∧ k_ ≠ aV ∧ k_ ≠ aQ ∧ k_ ≠ aP ∧ k_ ≠ aR) (.slice fY dS.length fD) dS) := ⟨(by rw [hw]; exact (by exact vm (vf5 (Kd.V_mono bY.out (fun k_ hk => (⟨hk, hk.2⟩ : _ ∧ k_ ≠ aR))) fun _ hk => hk.2)))⟩; have n1_ : Aside0 (Kd.V k85 85 kS w.heap.size (fun k_ => k_ ≠ a3 ∧ k_ ≠ aZ ∧ k_ ≠ a0 ∧ k_ ≠ a1 ∧ k_ ≠ aX ∧ k_ ≠ aV ∧ k_ ≠ aQ ∧ k_ ≠ aP ∧ k_ ≠ aR) (.slice f3 dT.length fH) dT) := ⟨(by rw [hw]; exact (by exact vm (vf5 (Kd.V_mono bZ.out (fun k_ hk => (⟨hk, hk.2⟩ : _ ∧ k_ ≠ aR))) fun _ hk => hk.2)))⟩; have n2_ : Aside0 (Kd.V k42 42 kS w.heap.size (fun k_ => k_ ≠ a3 ∧ k_ ≠ aZ ∧ k_ ≠ a0 ∧ k_ ≠ a1 ∧ k_ ≠ aX ∧ k_ ≠ aV ∧ k_ ≠ aQ ∧ k_ ≠ aP ∧ k_ ≠ aR) (.slice gE d1.length fO) d1) := ⟨(by rw [hw]; exact (by exact vm (vf5 (Kd.V_mono b6.out (fun k_ hk => (⟨hk, hk.2⟩ : _ ∧ k_ ≠ aR))) fun _ hk => hk.2)))⟩; have n3_ : Aside0 (Kd.V k85 85 kS w.heap.size (fun k_ => k_ ≠ a3 ∧ k_ ≠ aZ ∧ k_ ≠ a0 ∧ k_ ≠ a1 ∧ k_ ≠ aX ∧ k_ ≠ aV ∧ k_ ≠ aQ ∧ k_ ≠ aP ∧ k_ ≠ aR) (.slice gP d3.length fW) d3) := ⟨(by rw [hw]; exact (by exact vm (vf5 (Kd.V_mono b7.out (fun k_ hk => (⟨hk, hk.2⟩ : _ ∧ k_ ≠ aR))) fun _ hk => hk.2)))⟩; have n4_ : Aside0 (Kd.V k42 42 kS w.heap.size (fun k_ => k_ ≠ a3 ∧ k_ ≠ aZ ∧ k_ ≠ a0 ∧ k_ ≠ a1 ∧ k_ ≠ aX ∧ k_ ≠ aV ∧ k_ ≠ aQ ∧ k_ ≠ aP ∧ k_ ≠ aR) (.slice g8 eN.length g9) eN) := ⟨(by rw [hw]; exact (by exact vm (vf5 (Kd.V_mono cI.out (fun k_ hk => (⟨hk, hk.2⟩ : _ ∧ k_ ≠ aR))) fun _ hk => hk.2)))⟩; have n5_ : Aside0 (Kd.V k85 85 kS w.heap.size (fun k_ => k_ ≠ a3 ∧ k_ ≠ aZ ∧ k_ ≠ a0 ∧ k_ ≠ a1 ∧ k_ ≠ aX ∧ k_ ≠ aV ∧ k_ ≠ aQ ∧ k_ ≠ aP ∧ k_ ≠ aR) (.slice hD eP.length hE) eP) := ⟨(by rw [hw]; exact (by exact vm (vf5 (Kd.V_mono cJ.out (fun k_ hk => (⟨hk, hk.2⟩ : _ ∧ k_ ≠ aR))) fun _ hk => hk.2)))⟩; have n6_ : Aside0 (Kd.V k42 42 kS w.heap.size (fun k_ => k_ ≠ a3 ∧ k_ ≠ aZ ∧ k_ ≠ a0 ∧ k_ ≠ a1 ∧ k_ ≠ aX ∧ k_ ≠ aV ∧ k_ ≠ aQ ∧ k_ ≠ aP ∧ k_ ≠ aR) (.slice hR eT.length hS) eT) := ⟨(by rw [hw]; exact (by exact vm (vf5 (Kd.V_mono cL.out (fun k_ hk => (⟨hk, hk.2⟩ : _ ∧ k_ ≠ aR))) fun _ hk => hk.2)))⟩; have n7_ : Aside0 (Kd.V k85 85 kS w.heap.size (fun k_ => k_ ≠ a3 ∧ k_ ≠ aZ ∧ k_ ≠ a0 ∧ k_ ≠ a1 ∧ k_ ≠ aX ∧ k_ ≠ aV ∧ k_ ≠ aQ ∧ k_ ≠ aP ∧ k_ ≠ aR) (.slice hT eU.length hU) eU) := ⟨(by rw [hw]; exact (by exact vm (vf5 (Kd.V_mono cM.out (fun k_ hk => (⟨hk, hk.2⟩ : _ ∧ k_ ≠ aR))) fun _ hk => hk.2)))⟩; have n8_ : Aside0 (Kd.V k42 42 kS w.heap.size (fun k_ => k_ ≠ a3 ∧ k_ ≠ aZ ∧ k_ ≠ a0 ∧ k_ ≠ a1 ∧ k_ ≠ aX ∧ k_ ≠ aV ∧ k_ ≠ aQ ∧ k_ ≠ aP ∧ k_ ≠ aR) (.slice hV eY.length hW) eY) := ⟨(by rw [hw]; exact (by exact vm (vf5 (Kd.V_mono dB.out (fun k_ hk => (⟨hk, hk.2⟩ : _ ∧ k_ ≠ aR))) fun _ hk => hk.2)))⟩; have n9_ : Aside0 (Kd.V k85 85 kS w.heap.size (fun k_ => k_ ≠ a3 ∧ k_ ≠ aZ ∧ k_ ≠ a0 ∧ k_ ≠ a1 ∧ k_ ≠ aX ∧ k_ ≠ aV ∧ k_ ≠ aQ ∧ k_ ≠ aP ∧ k_ ≠ aR) (.slice iI e0.length iJ) e0) := ⟨(by rw [hw]; exact (by exact vm (vf5 (Kd.V_mono dC.out (fun k_ hk => (⟨hk, hk.2⟩ : _ ∧ k_ ≠ aR))) fun _ hk => hk.2)))⟩; have n10_ : Aside0 (Kd.V k42 42 kS w.heap.size (fun k_ => k_ ≠ a3 ∧ k_ ≠ aZ ∧ k_ ≠ a0 ∧ k_ ≠ a1 ∧ k_ ≠ aX ∧ k_ ≠ aV ∧ k_ ≠ aQ ∧ k_ ≠ aP ∧ k_ ≠ aR) (.slice e9 fC.length fA) fC) := ⟨(by rw [hw]; exact (by exact vm (vf5 (Kd.V_mono dM.out (fun k_ hk => (⟨hk, hk.2⟩ : _ ∧ k_ ≠ aR))) fun _ hk => hk.2)))⟩; have n11_ : Aside0 (Kd.V k85 85 kS w.heap.size (fun k_ => k_ ≠ a3 ∧ k_ ≠ aZ ∧ k_ ≠ a0 ∧ k_ ≠ a1 ∧ k_ ≠ aX ∧ k_ ≠ aV ∧ k_ ≠ aQ ∧ k_ ≠ aP ∧ k_ ≠ aR) (.slice fI fG.length fJ) fG) := ⟨(by rw [hw]; exact (by exact vm (vf5 (Kd.V_mono dN.out (fun k_ hk => (⟨hk, hk.2⟩ : _ ∧ k_ ≠ aR))) fun _ hk => hk.2)))⟩; have n12_ : Aside0 (kS.heap[a3]? = some (.cells #[.int .i64 aE, .slice cR aD.length cS, .slice cW aF.length cX, .int .i64 aG, .int .u64 aJ, .int .i64 dG, .int .i64 dR, .int .u64 eG, .int .i64 b3, .int .i64 bQ, .slice cC aM.length cD, .slice cF aN.length cG, .int .i64 aS, .int .u64 aU] 68 (0, 0))) := ⟨(by rw [hw]; exact (by exact blk_far (blk_far (blk_far (blk_far (blk_far aL.out jJ.out _) jJ.out _) jJ.out _) jJ.out _) jJ.out _))⟩; have n13_ : Aside0 (kS.heap[aZ]? = some (.cells #[.int .i64 aE, .slice cR aD.length cS, .slice cW aF.length cX, .int .i64 aG, .int .u64 aJ] 26 (0, 0))) := ⟨(by rw [hw]; exact (by exact blk_far (blk_far (blk_far (blk_far (blk_far aB.out jK.out _) jK.out _) jK.out _) jK.out _) jK.out _))⟩; have n14_ : Aside0 (kS.heap[a0]? = some (.cells #[.int .i64 bQ, .slice cC aM.length cD, .slice cF aN.length cG, .int .i64 aS, .int .u64 aU] 26 (0, 0))) := ⟨(by rw [hw]; exact (by exact blk_far (blk_far (blk_far (blk_far (blk_far aC.out jL.out _) jL.out _) jL.out _) jL.out _) jL.out _))⟩; have n15_ : Aside0 (kS.heap[a1]? = some (.cells #[.int .i64 eX, .slice fY dS.length fD, .slice f3 dT.length fH, .int .i64 e1, .int .u64 e3] 26 (0, 0))) := ⟨(by rw [hw]; exact (by exact blk_far (blk_far (blk_far (blk_far (blk_far aT.out iA.out _) iA.out _) iA.out _) iA.out _) iA.out _))⟩; have n16_ : Aside0 (kS.heap[aX]? = some (.cells #[.int .i64 eZ, .slice gE d1.length fO, .slice gP d3.length fW, .int .i64 fB, .int .u64 fF] 26 (0, 0))) := ⟨(by rw [hw]; exact (by exact blk_far (blk_far (blk_far (blk_far (blk_far aY.out iB.out _) iB.out _) iB.out _) iB.out _) iB.out _))⟩; have n17_ : Aside0 (kS.heap[aV]? = some (.cells #[.int .i64 fM, .slice g8 eN.length g9, .slice hD eP.length hE, .int .i64 f1, .int .u64 gC] 26 (0, 0))) := ⟨(by rw [hw]; exact (by exact blk_far (blk_far (blk_far (blk_far (blk_far a2.out iZ.out _) iZ.out _) iZ.out _) iZ.out _) iZ.out _))⟩; have n18_ : Aside0 (kS.heap[aQ]? = some (.cells #[.int .i64 fX, .slice hR eT.length hS, .slice hT eU.length hU, .int .i64 gL, .int .u64 gQ] 26 (0, 0))) := ⟨(by rw [hw]; exact (by exact blk_far (blk_far (blk_far (blk_far (blk_far a4.out i0.out _) i0.out _) i0.out _) i0.out _) i0.out _))⟩; have n19_ : Aside0 (kS.heap[aP]? = some (.cells #[.int .i64 f2, .slice hV eY.length hW, .slice iI e0.length iJ, .int .i64 gR, .int .u64 gS] 26 (0, 0))) := ⟨(by rw [hw]; exact (by exact blk_far (blk_far (blk_far (blk_far (blk_far a5.out jM.out _) jM.out _) jM.out _) jM.out _) jM.out _))⟩; have n20_ : Aside0 (kS.heap[aR]? = some (.cells #[.int .i64 gM, .slice e9 fC.length fA, .slice fI fG.length fJ, .int .i64 g2, .int .u64 g4] 26 (0, 0))) := ⟨(by rw [hw]; exact (by exact blk_put (blk_put (blk_put (blk_put (blk_put bO.out 0 _ rfl) 1 _ rfl) 2 _ rfl) 3 _ rfl) 4 _ rfl))⟩; have n21_ : Aside0 (Below w.heap.size w kS) := ⟨(by rw [hw]; exact (by repeat (first | exact HB.out | refine bs ?_ cE.out)))⟩; clear hw; clear bY; clear bZ; clear b6; clear b7; clear cI; clear cJ; clear cL; clear cM; clear dB; clear dC; clear dM; clear dN; clear aL; clear aB; clear aC; clear aT; clear aY; clear a2; clear a4; clear a5; clear bO; clear HB; have bY := n0_; have bZ := n1_; have b6 := n2_; have b7 := n3_; have cI := n4_; have cJ := n5_; have cL := n6_; have cM := n7_; have dB := n8_; have dC := n9_; have dM := n10_; have dN := n11_; have aL := n12_; have aB := n13_; have aC := n14_; have aT := n15_; have aY := n16_; have a2 := n17_; have a4 := n18_; have a5 := n19_; have bO := n20_; have HB := n21_; clear n0_ n1_ n2_ n3_ n4_ n5_ n6_ n7_ n8_ n9_ n10_ n11_ n12_ n13_ n14_ n15_ n16_ n17_ n18_ n19_ n20_ n21_; obtain ⟨sG, sH, sI, sJ, sK⟩ := Cb.c5 aB.out; obtain ⟨sL, sM, sN, sO, sP⟩ := Cb.f5 aB.out) | ((with_reducible refine gate_callee (f := 27) rfl ?_); refine goesL_ (some 102) rfl rfl Try.func27 (by kernel_rfl) rfl #[.agg #[.int .i64 aE, .slice cR aD.length cS, .slice cW aF.length cX, .int .i64 aG, .int .u64 aJ], .int .u64 eG] rfl mp ?_; (with_reducible refine (session_Tick.calls kj3 aE (fun k_ => k_ < w.heap.size) _ _ aD (fun k_ => k_ < w.heap.size) _ _ aF aG aJ eG gN fN fV g3 g5 eW _ ?side1 ?side2 A26.out).mono ?_); (case side1 => exact Kd.V_mk iN.out (Kd.F_below (Kd.C_F k42_heap iM.out) (ui bM.out bN.out bP.out bR.out bT.out bW.out b1.out b8.out cE.out HB.out))); (case side2 => exact Kd.V_mk iP.out (Kd.F_below (Kd.C_F k85_heap iO.out) (ui bM.out bN.out bP.out bR.out bT.out bW.out b1.out b8.out cE.out HB.out))); rintro e w111 ⟨v685, v688, eC, rfl, jC, jE, mF, hb⟩; refine ⟨_, rfl, ?_⟩; have dV := ak (Kd.V_lower (Kd.V_mono (ok' := fun k_ => some k_ ≠ (eC : Value).ownBlock ∧ k_ ≠ a3 ∧ k_ ≠ aZ ∧ k_ ≠ a0 ∧ k_ ≠ a1 ∧ k_ ≠ aX ∧ k_ ≠ aV ∧ k_ ≠ aQ ∧ k_ ≠ aP ∧ k_ ≠ aR) jC (fun k_ hk_ => ⟨hk_.2, Or.elim hk_.1 (fun hs_ => Or.elim hs_ (nl f4.out) (nl f4.out)) (fun hn_ => (Kd.freshB (pk aL.out) k_ hn_)), Or.elim hk_.1 (fun hs_ => Or.elim hs_ (nl f7.out) (nl f7.out)) (fun hn_ => (Kd.freshB (pk aB.out) k_ hn_)), Or.elim hk_.1 (fun hs_ => Or.elim hs_ (nl f8.out) (nl f8.out)) (fun hn_ => (Kd.freshB (pk aC.out) k_ hn_)), Or.elim hk_.1 (fun hs_ => Or.elim hs_ (nl g6.out) (nl g6.out)) (fun hn_ => (Kd.freshB (pk aT.out) k_ hn_)), Or.elim hk_.1 (fun hs_ => Or.elim hs_ (nl iK.out) (nl iK.out)) (fun hn_ => (Kd.freshB (pk aY.out) k_ hn_)), Or.elim hk_.1 (fun hs_ => Or.elim hs_ (nl jF.out) (nl jF.out)) (fun hn_ => (Kd.freshB (pk a2.out) k_ hn_)), Or.elim hk_.1 (fun hs_ => Or.elim hs_ (nl kI.out) (nl kI.out)) (fun hn_ => (Kd.freshB (pk a4.out) k_ hn_)), Or.elim hk_.1 (fun hs_ => Or.elim hs_ (nl lV.out) (nl lV.out)) (fun hn_ => (Kd.freshB (pk a5.out) k_ hn_)), Or.elim hk_.1 (fun hs_ => Or.elim hs_ (nl m7.out) (nl m7.out)) (fun hn_ => (Kd.freshB (pk bO.out) k_ hn_))⟩)) (below_size (ui bM.out bN.out bP.out bR.out bT.out bW.out b1.out b8.out cE.out HB.out))); have dW := ak (Kd.V_lower (Kd.V_mono (ok' := fun k_ => some k_ ≠ (eC : Value).ownBlock ∧ k_ ≠ a3 ∧ k_ ≠ aZ ∧ k_ ≠ a0 ∧ k_ ≠ a1 ∧ k_ ≠ aX ∧ k_ ≠ aV ∧ k_ ≠ aQ ∧ k_ ≠ aP ∧ k_ ≠ aR) jE (fun k_ hk_ => ⟨hk_.2, Or.elim hk_.1 (fun hs_ => Or.elim hs_ (nl f4.out) (nl f4.out)) (fun hn_ => (Kd.freshB (pk aL.out) k_ hn_)), Or.elim hk_.1 (fun hs_ => Or.elim hs_ (nl f7.out) (nl f7.out)) (fun hn_ => (Kd.freshB (pk aB.out) k_ hn_)), Or.elim hk_.1 (fun hs_ => Or.elim hs_ (nl f8.out) (nl f8.out)) (fun hn_ => (Kd.freshB (pk aC.out) k_ hn_)), Or.elim hk_.1 (fun hs_ => Or.elim hs_ (nl g6.out) (nl g6.out)) (fun hn_ => (Kd.freshB (pk aT.out) k_ hn_)), Or.elim hk_.1 (fun hs_ => Or.elim hs_ (nl iK.out) (nl iK.out)) (fun hn_ => (Kd.freshB (pk aY.out) k_ hn_)), Or.elim hk_.1 (fun hs_ => Or.elim hs_ (nl jF.out) (nl jF.out)) (fun hn_ => (Kd.freshB (pk a2.out) k_ hn_)), Or.elim hk_.1 (fun hs_ => Or.elim hs_ (nl kI.out) (nl kI.out)) (fun hn_ => (Kd.freshB (pk a4.out) k_ hn_)), Or.elim hk_.1 (fun hs_ => Or.elim hs_ (nl lV.out) (nl lV.out)) (fun hn_ => (Kd.freshB (pk a5.out) k_ hn_)), Or.elim hk_.1 (fun hs_ => Or.elim hs_ (nl m7.out) (nl m7.out)) (fun hn_ => (Kd.freshB (pk bO.out) k_ hn_))⟩)) (below_size (ui bM.out bN.out bP.out bR.out bT.out bW.out b1.out b8.out cE.out HB.out))); have dP := ak (Kd.R_lower (Kd.R_mono (ok' := fun k_ => True) mF (fun _ hk_ => trivial)) (below_size (ui bM.out bN.out bP.out bR.out bT.out bW.out b1.out b8.out cE.out HB.out))); replace bY := ve bY mF hb; replace bZ := ve bZ mF hb; replace b6 := ve b6 mF hb; replace b7 := ve b7 mF hb; replace cI := ve cI mF hb; replace cJ := ve cJ mF hb; replace cL := ve cL mF hb; replace cM := ve cM mF hb; replace dB := ve dB mF hb; replace dC := ve dC mF hb; replace dM := ve dM mF hb; replace dN := ve dN mF hb; replace aL := bb aL hb; replace aB := bb aB hb; replace aC := bb aC hb; replace aT := bb aT hb; replace aY := bb aY hb; replace a2 := bb a2 hb; replace a4 := bb a4 hb; replace a5 := bb a5 hb; replace bO := bb bO hb; replace HB := ak (below_step (ui bM.out bN.out bP.out bR.out bT.out bW.out b1.out b8.out cE.out HB.out) hb); (try clear hb); (try clear hb2); (try clear hk); (try clear hi); (try clear jC); (try clear jE); (try clear mF)) | ((with_reducible refine gate_dst (N := 25) rfl ?_); refine bv 25 26 #[.int .i64 0, .slice none 0 0, .slice none 0 0, .int .i64 0, .int .u64 0] ?_; intro aO hg w112 hbox hb; obtain ⟨n_, cK⟩ := Cb.bx (ui bM.out bN.out bP.out bR.out bT.out bW.out b1.out b8.out cE.out HB.out) hg hb; have rJ := cK; obtain ⟨jY, nH⟩ := Cb.nb hg aL.out; obtain ⟨jZ, nI⟩ := Cb.nb hg aB.out; obtain ⟨j3, nJ⟩ := Cb.nb hg aC.out; obtain ⟨iC, lB⟩ := Cb.nb hg aT.out; obtain ⟨iD, lC⟩ := Cb.nb hg aY.out; obtain ⟨i1, l7⟩ := Cb.nb hg a2.out; obtain ⟨i2, l8⟩ := Cb.nb hg a4.out; obtain ⟨jN, mT⟩ := Cb.nb hg a5.out; obtain ⟨jO, mU⟩ := Cb.nb hg bO.out; have bS := ak (hbox); replace bY := vb bY aO hg hb; replace bZ := vb bZ aO hg hb; replace b6 := vb b6 aO hg hb; replace b7 := vb b7 aO hg hb; replace cI := vb cI aO hg hb; replace cJ := vb cJ aO hg hb; replace cL := vb cL aO hg hb; replace cM := vb cM aO hg hb; replace dB := vb dB aO hg hb; replace dC := vb dC aO hg hb; replace dM := vb dM aO hg hb; replace dN := vb dN aO hg hb; replace dV := vb dV aO hg hb; replace dW := vb dW aO hg hb; replace dP := rb dP hb; replace aL := bb aL hb; replace aB := bb aB hb; replace aC := bb aC hb; replace aT := bb aT hb; replace aY := bb aY hb; replace a2 := bb a2 hb; replace a4 := bb a4 hb; replace a5 := bb a5 hb; replace bO := bb bO hb; replace HB := n_; clear n_; clear hb hbox hg; have hnb113 := nH.out; have hnc113 := jY.out; have hnb114 := nI.out; have hnc114 := jZ.out; have hnb115 := nJ.out; have hnc115 := j3.out; have hnb116 := lB.out; have hnc116 := iC.out; have hnb117 := lC.out; have hnc117 := iD.out; have hnb118 := l7.out; have hnc118 := i1.out; have hnb119 := l8.out; have hnc119 := i2.out; have hnb120 := mT.out; have hnc120 := jN.out; have hnb121 := mU.out; have hnc121 := jO.out; obtain ⟨sQ, sR, sS, sT, sU⟩ := Cb.c5 bS.out; obtain ⟨sV, sW, sX, sY, sZ⟩ := Cb.f5 bS.out; obtain ⟨fK, fL, eo123⟩ := Kd.V_slice dV.out; subst eo123; obtain ⟨fP, fQ, eo124⟩ := Kd.V_slice dW.out; subst eo124) | ((with_reducible refine gate_store (t := 26) (p := 25) rfl ?_); refine store_event (t := 26) (p := 25) (v := ?vo_w125) (w1 := (((((w112.setCell ⟨aO, 0, none⟩ (.int .i64 gN)).setCell ⟨aO, 1, none⟩ (.slice fK fN.length fL)).setCell ⟨aO, 2, none⟩ (.slice fP fV.length fQ)).setCell ⟨aO, 3, none⟩ (.int .i64 g3)).setCell ⟨aO, 4, none⟩ (.int .u64 g5))) ?hg ?ho ?hn ?hr ?_; (case ho => rfl); (case hg => rfl); (case hn => rfl); (case hr => first | (go_simp; done) | (go_simp; rfl)); intro kH hw; have n0_ : Aside0 (Kd.V k42 42 kH w.heap.size (fun k_ => some k_ ≠ (eC : Value).ownBlock ∧ k_ ≠ a3 ∧ k_ ≠ aZ ∧ k_ ≠ a0 ∧ k_ ≠ a1 ∧ k_ ≠ aX ∧ k_ ≠ aV ∧ k_ ≠ aQ ∧ k_ ≠ aP ∧ k_ ≠ aR ∧ k_ ≠ aO) (.slice fY dS.length fD) dS) := ⟨(by rw [hw]; exact (by exact vm (vf5 (Kd.V_mono bY.out (fun k_ hk => (⟨hk, hk.2⟩ : _ ∧ k_ ≠ aO))) fun _ hk => hk.2)))⟩; have n1_ : Aside0 (Kd.V k85 85 kH w.heap.size (fun k_ => some k_ ≠ (eC : Value).ownBlock ∧ k_ ≠ a3 ∧ k_ ≠ aZ ∧ k_ ≠ a0 ∧ k_ ≠ a1 ∧ k_ ≠ aX ∧ k_ ≠ aV ∧ k_ ≠ aQ ∧ k_ ≠ aP ∧ k_ ≠ aR ∧ k_ ≠ aO) (.slice f3 dT.length fH) dT) := ⟨(by rw [hw]; exact (by exact vm (vf5 (Kd.V_mono bZ.out (fun k_ hk => (⟨hk, hk.2⟩ : _ ∧ k_ ≠ aO))) fun _ hk => hk.2)))⟩; have n2_ : Aside0 (Kd.V k42 42 kH w.heap.size (fun k_ => some k_ ≠ (eC : Value).ownBlock ∧ k_ ≠ a3 ∧ k_ ≠ aZ ∧ k_ ≠ a0 ∧ k_ ≠ a1 ∧ k_ ≠ aX ∧ k_ ≠ aV ∧ k_ ≠ aQ ∧ k_ ≠ aP ∧ k_ ≠ aR ∧ k_ ≠ aO) (.slice gE d1.length fO) d1) := ⟨(by rw [hw]; exact (by exact vm (vf5 (Kd.V_mono b6.out (fun k_ hk => (⟨hk, hk.2⟩ : _ ∧ k_ ≠ aO))) fun _ hk => hk.2)))⟩; have n3_ : Aside0 (Kd.V k85 85 kH w.heap.size (fun k_ => some k_ ≠ (eC : Value).ownBlock ∧ k_ ≠ a3 ∧ k_ ≠ aZ ∧ k_ ≠ a0 ∧ k_ ≠ a1 ∧ k_ ≠ aX ∧ k_ ≠ aV ∧ k_ ≠ aQ ∧ k_ ≠ aP ∧ k_ ≠ aR ∧ k_ ≠ aO) (.slice gP d3.length fW) d3) := ⟨(by rw [hw]; exact (by exact vm (vf5 (Kd.V_mono b7.out (fun k_ hk => (⟨hk, hk.2⟩ : _ ∧ k_ ≠ aO))) fun _ hk => hk.2)))⟩; have n4_ : Aside0 (Kd.V k42 42 kH w.heap.size (fun k_ => some k_ ≠ (eC : Value).ownBlock ∧ k_ ≠ a3 ∧ k_ ≠ aZ ∧ k_ ≠ a0 ∧ k_ ≠ a1 ∧ k_ ≠ aX ∧ k_ ≠ aV ∧ k_ ≠ aQ ∧ k_ ≠ aP ∧ k_ ≠ aR ∧ k_ ≠ aO) (.slice g8 eN.length g9) eN) := ⟨(by rw [hw]; exact (by exact vm (vf5 (Kd.V_mono cI.out (fun k_ hk => (⟨hk, hk.2⟩ : _ ∧ k_ ≠ aO))) fun _ hk => hk.2)))⟩; have n5_ : Aside0 (Kd.V k85 85 kH w.heap.size (fun k_ => some k_ ≠ (eC : Value).ownBlock ∧ k_ ≠ a3 ∧ k_ ≠ aZ ∧ k_ ≠ a0 ∧ k_ ≠ a1 ∧ k_ ≠ aX ∧ k_ ≠ aV ∧ k_ ≠ aQ ∧ k_ ≠ aP ∧ k_ ≠ aR ∧ k_ ≠ aO) (.slice hD eP.length hE) eP) := ⟨(by rw [hw]; exact (by exact vm (vf5 (Kd.V_mono cJ.out (fun k_ hk => (⟨hk, hk.2⟩ : _ ∧ k_ ≠ aO))) fun _ hk => hk.2)))⟩; have n6_ : Aside0 (Kd.V k42 42 kH w.heap.size (fun k_ => some k_ ≠ (eC : Value).ownBlock ∧ k_ ≠ a3 ∧ k_ ≠ aZ ∧ k_ ≠ a0 ∧ k_ ≠ a1 ∧ k_ ≠ aX ∧ k_ ≠ aV ∧ k_ ≠ aQ ∧ k_ ≠ aP ∧ k_ ≠ aR ∧ k_ ≠ aO) (.slice hR eT.length hS) eT) := ⟨(by rw [hw]; exact (by exact vm (vf5 (Kd.V_mono cL.out (fun k_ hk => (⟨hk, hk.2⟩ : _ ∧ k_ ≠ aO))) fun _ hk => hk.2)))⟩; have n7_ : Aside0 (Kd.V k85 85 kH w.heap.size (fun k_ => some k_ ≠ (eC : Value).ownBlock ∧ k_ ≠ a3 ∧ k_ ≠ aZ ∧ k_ ≠ a0 ∧ k_ ≠ a1 ∧ k_ ≠ aX ∧ k_ ≠ aV ∧ k_ ≠ aQ ∧ k_ ≠ aP ∧ k_ ≠ aR ∧ k_ ≠ aO) (.slice hT eU.length hU) eU) := ⟨(by rw [hw]; exact (by exact vm (vf5 (Kd.V_mono cM.out (fun k_ hk => (⟨hk, hk.2⟩ : _ ∧ k_ ≠ aO))) fun _ hk => hk.2)))⟩; have n8_ : Aside0 (Kd.V k42 42 kH w.heap.size (fun k_ => some k_ ≠ (eC : Value).ownBlock ∧ k_ ≠ a3 ∧ k_ ≠ aZ ∧ k_ ≠ a0 ∧ k_ ≠ a1 ∧ k_ ≠ aX ∧ k_ ≠ aV ∧ k_ ≠ aQ ∧ k_ ≠ aP ∧ k_ ≠ aR ∧ k_ ≠ aO) (.slice hV eY.length hW) eY) := ⟨(by rw [hw]; exact (by exact vm (vf5 (Kd.V_mono dB.out (fun k_ hk => (⟨hk, hk.2⟩ : _ ∧ k_ ≠ aO))) fun _ hk => hk.2)))⟩; have n9_ : Aside0 (Kd.V k85 85 kH w.heap.size (fun k_ => some k_ ≠ (eC : Value).ownBlock ∧ k_ ≠ a3 ∧ k_ ≠ aZ ∧ k_ ≠ a0 ∧ k_ ≠ a1 ∧ k_ ≠ aX ∧ k_ ≠ aV ∧ k_ ≠ aQ ∧ k_ ≠ aP ∧ k_ ≠ aR ∧ k_ ≠ aO) (.slice iI e0.length iJ) e0) := ⟨(by rw [hw]; exact (by exact vm (vf5 (Kd.V_mono dC.out (fun k_ hk => (⟨hk, hk.2⟩ : _ ∧ k_ ≠ aO))) fun _ hk => hk.2)))⟩; have n10_ : Aside0 (Kd.V k42 42 kH w.heap.size (fun k_ => some k_ ≠ (eC : Value).ownBlock ∧ k_ ≠ a3 ∧ k_ ≠ aZ ∧ k_ ≠ a0 ∧ k_ ≠ a1 ∧ k_ ≠ aX ∧ k_ ≠ aV ∧ k_ ≠ aQ ∧ k_ ≠ aP ∧ k_ ≠ aR ∧ k_ ≠ aO) (.slice e9 fC.length fA) fC) := ⟨(by rw [hw]; exact (by exact vm (vf5 (Kd.V_mono dM.out (fun k_ hk => (⟨hk, hk.2⟩ : _ ∧ k_ ≠ aO))) fun _ hk => hk.2)))⟩; have n11_ : Aside0 (Kd.V k85 85 kH w.heap.size (fun k_ => some k_ ≠ (eC : Value).ownBlock ∧ k_ ≠ a3 ∧ k_ ≠ aZ ∧ k_ ≠ a0 ∧ k_ ≠ a1 ∧ k_ ≠ aX ∧ k_ ≠ aV ∧ k_ ≠ aQ ∧ k_ ≠ aP ∧ k_ ≠ aR ∧ k_ ≠ aO) (.slice fI fG.length fJ) fG) := ⟨(by rw [hw]; exact (by exact vm (vf5 (Kd.V_mono dN.out (fun k_ hk => (⟨hk, hk.2⟩ : _ ∧ k_ ≠ aO))) fun _ hk => hk.2)))⟩; have n12_ : Aside0 (Kd.V k42 42 kH w.heap.size (fun k_ => some k_ ≠ (eC : Value).ownBlock ∧ k_ ≠ a3 ∧ k_ ≠ aZ ∧ k_ ≠ a0 ∧ k_ ≠ a1 ∧ k_ ≠ aX ∧ k_ ≠ aV ∧ k_ ≠ aQ ∧ k_ ≠ aP ∧ k_ ≠ aR ∧ k_ ≠ aO) (.slice fK fN.length fL) fN) := ⟨(by rw [hw]; exact (by exact vm (vf5 (Kd.V_mono dV.out (fun k_ hk => (⟨hk, hk.2⟩ : _ ∧ k_ ≠ aO))) fun _ hk => hk.2)))⟩; have n13_ : Aside0 (Kd.V k85 85 kH w.heap.size (fun k_ => some k_ ≠ (eC : Value).ownBlock ∧ k_ ≠ a3 ∧ k_ ≠ aZ ∧ k_ ≠ a0 ∧ k_ ≠ a1 ∧ k_ ≠ aX ∧ k_ ≠ aV ∧ k_ ≠ aQ ∧ k_ ≠ aP ∧ k_ ≠ aR ∧ k_ ≠ aO) (.slice fP fV.length fQ) fV) := ⟨(by rw [hw]; exact (by exact vm (vf5 (Kd.V_mono dW.out (fun k_ hk => (⟨hk, hk.2⟩ : _ ∧ k_ ≠ aO))) fun _ hk => hk.2)))⟩; have n14_ : Aside0 (Kd.R k42 42 kH w.heap.size (fun _ => True) eC eW) := ⟨(by rw [hw]; exact (by exact Kd.R_mono (rf5 (Kd.R_types dP.out bS.out (by decide)) fun _ hk => hk.2) (fun _ hk => trivial)))⟩; have n15_ : Aside0 (kH.heap[a3]? = some (.cells #[.int .i64 aE, .slice cR aD.length cS, .slice cW aF.length cX, .int .i64 aG, .int .u64 aJ, .int .i64 dG, .int .i64 dR, .int .u64 eG, .int .i64 b3, .int .i64 bQ, .slice cC aM.length cD, .slice cF aN.length cG, .int .i64 aS, .int .u64 aU] 68 (0, 0))) := ⟨(by rw [hw]; exact (by exact blk_far (blk_far (blk_far (blk_far (blk_far aL.out jY.out _) jY.out _) jY.out _) jY.out _) jY.out _))⟩; have n16_ : Aside0 (kH.heap[aZ]? = some (.cells #[.int .i64 aE, .slice cR aD.length cS, .slice cW aF.length cX, .int .i64 aG, .int .u64 aJ] 26 (0, 0))) := ⟨(by rw [hw]; exact (by exact blk_far (blk_far (blk_far (blk_far (blk_far aB.out jZ.out _) jZ.out _) jZ.out _) jZ.out _) jZ.out _))⟩; have n17_ : Aside0 (kH.heap[a0]? = some (.cells #[.int .i64 bQ, .slice cC aM.length cD, .slice cF aN.length cG, .int .i64 aS, .int .u64 aU] 26 (0, 0))) := ⟨(by rw [hw]; exact (by exact blk_far (blk_far (blk_far (blk_far (blk_far aC.out j3.out _) j3.out _) j3.out _) j3.out _) j3.out _))⟩; have n18_ : Aside0 (kH.heap[a1]? = some (.cells #[.int .i64 eX, .slice fY dS.length fD, .slice f3 dT.length fH, .int .i64 e1, .int .u64 e3] 26 (0, 0))) := ⟨(by rw [hw]; exact (by exact blk_far (blk_far (blk_far (blk_far (blk_far aT.out iC.out _) iC.out _) iC.out _) iC.out _) iC.out _))⟩; have n19_ : Aside0 (kH.heap[aX]? = some (.cells #[.int .i64 eZ, .slice gE d1.length fO, .slice gP d3.length fW, .int .i64 fB, .int .u64 fF] 26 (0, 0))) := ⟨(by rw [hw]; exact (by exact blk_far (blk_far (blk_far (blk_far (blk_far aY.out iD.out _) iD.out _) iD.out _) iD.out _) iD.out _))⟩; have n20_ : Aside0 (kH.heap[aV]? = some (.cells #[.int .i64 fM, .slice g8 eN.length g9, .slice hD eP.length hE, .int .i64 f1, .int .u64 gC] 26 (0, 0))) := ⟨(by rw [hw]; exact (by exact blk_far (blk_far (blk_far (blk_far (blk_far a2.out i1.out _) i1.out _) i1.out _) i1.out _) i1.out _))⟩; have n21_ : Aside0 (kH.heap[aQ]? = some (.cells #[.int .i64 fX, .slice hR eT.length hS, .slice hT eU.length hU, .int .i64 gL, .int .u64 gQ] 26 (0, 0))) := ⟨(by rw [hw]; exact (by exact blk_far (blk_far (blk_far (blk_far (blk_far a4.out i2.out _) i2.out _) i2.out _) i2.out _) i2.out _))⟩; have n22_ : Aside0 (kH.heap[aP]? = some (.cells #[.int .i64 f2, .slice hV eY.length hW, .slice iI e0.length iJ, .int .i64 gR, .int .u64 gS] 26 (0, 0))) := ⟨(by rw [hw]; exact (by exact blk_far (blk_far (blk_far (blk_far (blk_far a5.out jN.out _) jN.out _) jN.out _) jN.out _) jN.out _))⟩; have n23_ : Aside0 (kH.heap[aR]? = some (.cells #[.int .i64 gM, .slice e9 fC.length fA, .slice fI fG.length fJ, .int .i64 g2, .int .u64 g4] 26 (0, 0))) := ⟨(by rw [hw]; exact (by exact blk_far (blk_far (blk_far (blk_far (blk_far bO.out jO.out _) jO.out _) jO.out _) jO.out _) jO.out _))⟩; have n24_ : Aside0 (kH.heap[aO]? = some (.cells #[.int .i64 gN, .slice fK fN.length fL, .slice fP fV.length fQ, .int .i64 g3, .int .u64 g5] 26 (0, 0))) := ⟨(by rw [hw]; exact (by exact blk_put (blk_put (blk_put (blk_put (blk_put bS.out 0 _ rfl) 1 _ rfl) 2 _ rfl) 3 _ rfl) 4 _ rfl))⟩; have n25_ : Aside0 (Below w.heap.size w kH) := ⟨(by rw [hw]; exact (by repeat (first | exact HB.out | refine bs ?_ cK.out)))⟩; clear hw; clear bY; clear bZ; clear b6; clear b7; clear cI; clear cJ; clear cL; clear cM; clear dB; clear dC; clear dM; clear dN; clear dV; clear dW; clear dP; clear aL; clear aB; clear aC; clear aT; clear aY; clear a2; clear a4; clear a5; clear bO; clear bS; clear HB; have bY := n0_; have bZ := n1_; have b6 := n2_; have b7 := n3_; have cI := n4_; have cJ := n5_; have cL := n6_; have cM := n7_; have dB := n8_; have dC := n9_; have dM := n10_; have dN := n11_; have dV := n12_; have dW := n13_; have dP := n14_; have aL := n15_; have aB := n16_; have aC := n17_; have aT := n18_; have aY := n19_; have a2 := n20_; have a4 := n21_; have a5 := n22_; have bO := n23_; have bS := n24_; have HB := n25_; clear n0_ n1_ n2_ n3_ n4_ n5_ n6_ n7_ n8_ n9_ n10_ n11_ n12_ n13_ n14_ n15_ n16_ n17_ n18_ n19_ n20_ n21_ n22_ n23_ n24_ n25_; obtain ⟨tA, tB, tC, tD, tE⟩ := Cb.c5 aB.out; obtain ⟨tF, tG, tH, tI, tJ⟩ := Cb.f5 aB.out) | ((with_reducible refine gate_callee (f := 31) rfl ?_); refine goesL_ (some 108) rfl rfl Try.func31 (by kernel_rfl) rfl #[.agg #[.int .i64 aE, .slice cR aD.length cS, .slice cW aF.length cX, .int .i64 aG, .int .u64 aJ], .int .u64 eG] rfl mp ?_; (with_reducible refine (stanchionref17_Tick.calls kj3 aE (fun k_ => k_ < w.heap.size) _ _ aD (fun k_ => k_ < w.heap.size) _ _ aF aG aJ eG gT gD gO g7 hB e4 _ ?side1 ?side2 A27.out).mono ?_); (case side1 => exact Kd.V_mk iN.out (Kd.F_below (Kd.C_F k42_heap iM.out) (uj bM.out bN.out bP.out bR.out bT.out bW.out b1.out b8.out cE.out cK.out HB.out))); (case side2 => exact Kd.V_mk iP.out (Kd.F_below (Kd.C_F k85_heap iO.out) (uj bM.out bN.out bP.out bR.out bT.out bW.out b1.out b8.out cE.out cK.out HB.out))); rintro e w127 ⟨v698, v701, fE, rfl, jC, jE, mF, hb⟩; refine ⟨_, rfl, ?_⟩; have eJ := ak (Kd.V_lower (Kd.V_mono (ok' := fun k_ => some k_ ≠ (fE : Value).ownBlock ∧ some k_ ≠ (eC : Value).ownBlock ∧ k_ ≠ a3 ∧ k_ ≠ aZ ∧ k_ ≠ a0 ∧ k_ ≠ a1 ∧ k_ ≠ aX ∧ k_ ≠ aV ∧ k_ ≠ aQ ∧ k_ ≠ aP ∧ k_ ≠ aR ∧ k_ ≠ aO) jC (fun k_ hk_ => ⟨hk_.2, Or.elim hk_.1 (fun hs_ => Or.elim hs_ (fun hs_ => fun e_ => Nat.not_le.2 hs_ (Kd.R_base dP.out k_ e_.symm)) (fun hs_ => fun e_ => Nat.not_le.2 hs_ (Kd.R_base dP.out k_ e_.symm))) (fun hn_ => (Kd.fresh' (Kd.R_lt (pR dP.out)) k_ hn_)), Or.elim hk_.1 (fun hs_ => Or.elim hs_ (nl f4.out) (nl f4.out)) (fun hn_ => (Kd.freshB (pk aL.out) k_ hn_)), Or.elim hk_.1 (fun hs_ => Or.elim hs_ (nl f7.out) (nl f7.out)) (fun hn_ => (Kd.freshB (pk aB.out) k_ hn_)), Or.elim hk_.1 (fun hs_ => Or.elim hs_ (nl f8.out) (nl f8.out)) (fun hn_ => (Kd.freshB (pk aC.out) k_ hn_)), Or.elim hk_.1 (fun hs_ => Or.elim hs_ (nl g6.out) (nl g6.out)) (fun hn_ => (Kd.freshB (pk aT.out) k_ hn_)), Or.elim hk_.1 (fun hs_ => Or.elim hs_ (nl iK.out) (nl iK.out)) (fun hn_ => (Kd.freshB (pk aY.out) k_ hn_)), Or.elim hk_.1 (fun hs_ => Or.elim hs_ (nl jF.out) (nl jF.out)) (fun hn_ => (Kd.freshB (pk a2.out) k_ hn_)), Or.elim hk_.1 (fun hs_ => Or.elim hs_ (nl kI.out) (nl kI.out)) (fun hn_ => (Kd.freshB (pk a4.out) k_ hn_)), Or.elim hk_.1 (fun hs_ => Or.elim hs_ (nl lV.out) (nl lV.out)) (fun hn_ => (Kd.freshB (pk a5.out) k_ hn_)), Or.elim hk_.1 (fun hs_ => Or.elim hs_ (nl m7.out) (nl m7.out)) (fun hn_ => (Kd.freshB (pk bO.out) k_ hn_)), Or.elim hk_.1 (fun hs_ => Or.elim hs_ (nl rJ.out) (nl rJ.out)) (fun hn_ => (Kd.freshB (pk bS.out) k_ hn_))⟩)) (below_size (uj bM.out bN.out bP.out bR.out bT.out bW.out b1.out b8.out cE.out cK.out HB.out))); have eK := ak (Kd.V_lower (Kd.V_mono (ok' := fun k_ => some k_ ≠ (fE : Value).ownBlock ∧ some k_ ≠ (eC : Value).ownBlock ∧ k_ ≠ a3 ∧ k_ ≠ aZ ∧ k_ ≠ a0 ∧ k_ ≠ a1 ∧ k_ ≠ aX ∧ k_ ≠ aV ∧ k_ ≠ aQ ∧ k_ ≠ aP ∧ k_ ≠ aR ∧ k_ ≠ aO) jE (fun k_ hk_ => ⟨hk_.2, Or.elim hk_.1 (fun hs_ => Or.elim hs_ (fun hs_ => fun e_ => Nat.not_le.2 hs_ (Kd.R_base dP.out k_ e_.symm)) (fun hs_ => fun e_ => Nat.not_le.2 hs_ (Kd.R_base dP.out k_ e_.symm))) (fun hn_ => (Kd.fresh' (Kd.R_lt (pR dP.out)) k_ hn_)), Or.elim hk_.1 (fun hs_ => Or.elim hs_ (nl f4.out) (nl f4.out)) (fun hn_ => (Kd.freshB (pk aL.out) k_ hn_)), Or.elim hk_.1 (fun hs_ => Or.elim hs_ (nl f7.out) (nl f7.out)) (fun hn_ => (Kd.freshB (pk aB.out) k_ hn_)), Or.elim hk_.1 (fun hs_ => Or.elim hs_ (nl f8.out) (nl f8.out)) (fun hn_ => (Kd.freshB (pk aC.out) k_ hn_)), Or.elim hk_.1 (fun hs_ => Or.elim hs_ (nl g6.out) (nl g6.out)) (fun hn_ => (Kd.freshB (pk aT.out) k_ hn_)), Or.elim hk_.1 (fun hs_ => Or.elim hs_ (nl iK.out) (nl iK.out)) (fun hn_ => (Kd.freshB (pk aY.out) k_ hn_)), Or.elim hk_.1 (fun hs_ => Or.elim hs_ (nl jF.out) (nl jF.out)) (fun hn_ => (Kd.freshB (pk a2.out) k_ hn_)), Or.elim hk_.1 (fun hs_ => Or.elim hs_ (nl kI.out) (nl kI.out)) (fun hn_ => (Kd.freshB (pk a4.out) k_ hn_)), Or.elim hk_.1 (fun hs_ => Or.elim hs_ (nl lV.out) (nl lV.out)) (fun hn_ => (Kd.freshB (pk a5.out) k_ hn_)), Or.elim hk_.1 (fun hs_ => Or.elim hs_ (nl m7.out) (nl m7.out)) (fun hn_ => (Kd.freshB (pk bO.out) k_ hn_)), Or.elim hk_.1 (fun hs_ => Or.elim hs_ (nl rJ.out) (nl rJ.out)) (fun hn_ => (Kd.freshB (pk bS.out) k_ hn_))⟩)) (below_size (uj bM.out bN.out bP.out bR.out bT.out bW.out b1.out b8.out cE.out cK.out HB.out))); have eS := ak (Kd.R_lower (Kd.R_new' (Kd.R_mono (ok' := fun k_ => True) mF (fun _ hk_ => trivial)) (Kd.R_lt (pR dP.out))) (below_size (uj bM.out bN.out bP.out bR.out bT.out bW.out b1.out b8.out cE.out cK.out HB.out))); replace bY := ve bY mF hb; replace bZ := ve bZ mF hb; replace b6 := ve b6 mF hb; replace b7 := ve b7 mF hb; replace cI := ve cI mF hb; replace cJ := ve cJ mF hb; replace cL := ve cL mF hb; replace cM := ve cM mF hb; replace dB := ve dB mF hb; replace dC := ve dC mF hb; replace dM := ve dM mF hb; replace dN := ve dN mF hb; replace dV := ve dV mF hb; replace dW := ve dW mF hb; replace dP := ak (Kd.R_elder' (pR dP.out) (Kd.R_base mF) hb); replace aL := bb aL hb; replace aB := bb aB hb; replace aC := bb aC hb; replace aT := bb aT hb; replace aY := bb aY hb; replace a2 := bb a2 hb; replace a4 := bb a4 hb; replace a5 := bb a5 hb; replace bO := bb bO hb; replace bS := bb bS hb; replace HB := ak (below_step (uj bM.out bN.out bP.out bR.out bT.out bW.out b1.out b8.out cE.out cK.out HB.out) hb); (try clear hb); (try clear hb2); (try clear hk); (try clear hi); (try clear jC); (try clear jE); (try clear mF)) | ((with_reducible refine gate_dst (N := 27) rfl ?_); refine bv 27 26 #[.int .i64 0, .slice none 0 0, .slice none 0 0, .int .i64 0, .int .u64 0] ?_; intro aW hg w128 hbox hb; obtain ⟨n_, cT⟩ := Cb.bx (uj bM.out bN.out bP.out bR.out bT.out bW.out b1.out b8.out cE.out cK.out HB.out) hg hb; have GW708 := cT; obtain ⟨j4, nK⟩ := Cb.nb hg aL.out; obtain ⟨j5, nL⟩ := Cb.nb hg aB.out; obtain ⟨j6, nM⟩ := Cb.nb hg aC.out; obtain ⟨iE, lD⟩ := Cb.nb hg aT.out; obtain ⟨iF, lE⟩ := Cb.nb hg aY.out; obtain ⟨i3, l9⟩ := Cb.nb hg a2.out; obtain ⟨i4, mA⟩ := Cb.nb hg a4.out; obtain ⟨jP, mV⟩ := Cb.nb hg a5.out; obtain ⟨jQ, mW⟩ := Cb.nb hg bO.out; obtain ⟨j7, nN⟩ := Cb.nb hg bS.out; have bV := ak (hbox); replace bY := vb bY aW hg hb; replace bZ := vb bZ aW hg hb; replace b6 := vb b6 aW hg hb; replace b7 := vb b7 aW hg hb; replace cI := vb cI aW hg hb; replace cJ := vb cJ aW hg hb; replace cL := vb cL aW hg hb; replace cM := vb cM aW hg hb; replace dB := vb dB aW hg hb; replace dC := vb dC aW hg hb; replace dM := vb dM aW hg hb; replace dN := vb dN aW hg hb; replace dV := vb dV aW hg hb; replace dW := vb dW aW hg hb; replace dP := rb dP hb; replace eJ := vb eJ aW hg hb; replace eK := vb eK aW hg hb; replace eS := rb eS hb; replace aL := bb aL hb; replace aB := bb aB hb; replace aC := bb aC hb; replace aT := bb aT hb; replace aY := bb aY hb; replace a2 := bb a2 hb; replace a4 := bb a4 hb; replace a5 := bb a5 hb; replace bO := bb bO hb; replace bS := bb bS hb; replace HB := n_; clear n_; clear hb hbox hg; have hnb129 := nK.out; have hnc129 := j4.out; have hnb130 := nL.out; have hnc130 := j5.out; have hnb131 := nM.out; have hnc131 := j6.out; have hnb132 := lD.out; have hnc132 := iE.out; have hnb133 := lE.out; have hnc133 := iF.out; have hnb134 := l9.out; have hnc134 := i3.out; have hnb135 := mA.out; have hnc135 := i4.out; have hnb136 := mV.out; have hnc136 := jP.out; have hnb137 := mW.out; have hnc137 := jQ.out; have hnb138 := nN.out; have hnc138 := j7.out; obtain ⟨tK, tL, tM, tN, tO⟩ := Cb.c5 bV.out; obtain ⟨tP, tQ, tR, tS, tT⟩ := Cb.f5 bV.out; obtain ⟨fZ, f0, eo140⟩ := Kd.V_slice eJ.out; subst eo140; obtain ⟨gA, gB, eo141⟩ := Kd.V_slice eK.out; subst eo141; obtain ⟨tU, tV, tW, tX, tY⟩ := Cb.c5 aB.out; obtain ⟨tZ, t0, t1, t2, t3⟩ := Cb.f5 aB.out) | ((with_reducible refine gate_callee (f := 14) rfl ?_); refine goesL_ (some 114) rfl rfl Try.func14 (by kernel_rfl) rfl #[.agg #[.int .i64 aE, .slice cR aD.length cS, .slice cW aF.length cX, .int .i64 aG, .int .u64 aJ], .int .i64 dG] rfl mp ?_; (with_reducible refine (session_Find.calls aE _ _ aD _ _ aF aG aJ dG dU dX dY d2 d4 d5 gU _ ?side1 ?side2 ?side3 ?side4 A28.out).mono ?_); (case side1 => exact Kd.C_below iM.out (uk bM.out bN.out bP.out bR.out bT.out bW.out b1.out b8.out cE.out cK.out cT.out HB.out)); (case side2 => exact iN.out); (case side3 => exact Kd.C_below iO.out (uk bM.out bN.out bP.out bR.out bT.out bW.out b1.out b8.out cE.out cK.out cT.out HB.out)); (case side4 => exact iP.out); rintro e w143 ⟨rfl, hb⟩; refine ⟨_, rfl, ?_⟩; replace bY := vx bY (fun _ hk => hk.2) hb; replace bZ := vx bZ (fun _ hk => hk.2) hb; replace b6 := vx b6 (fun _ hk => hk.2) hb; replace b7 := vx b7 (fun _ hk => hk.2) hb; replace cI := vx cI (fun _ hk => hk.2) hb; replace cJ := vx cJ (fun _ hk => hk.2) hb; replace cL := vx cL (fun _ hk => hk.2) hb; replace cM := vx cM (fun _ hk => hk.2) hb; replace dB := vx dB (fun _ hk => hk.2) hb; replace dC := vx dC (fun _ hk => hk.2) hb; replace dM := vx dM (fun _ hk => hk.2) hb; replace dN := vx dN (fun _ hk => hk.2) hb; replace dV := vx dV (fun _ hk => hk.2) hb; replace dW := vx dW (fun _ hk => hk.2) hb; replace dP := rx dP bV hb; replace eJ := vx eJ (fun _ hk => hk.2) hb; replace eK := vx eK (fun _ hk => hk.2) hb; replace eS := rx eS bV hb; replace aL := fb aL j4 hb; replace aB := fb aB j5 hb; replace aC := fb aC j6 hb; replace aT := fb aT iE hb; replace aY := fb aY iF hb; replace a2 := fb a2 i3 hb; replace a4 := fb a4 i4 hb; replace a5 := fb a5 jP hb; replace bO := fb bO jQ hb; replace bS := fb bS j7 hb; replace bV := ak (blk_below (g := aW) (o := .cells #[.int .i64 gT, .slice fZ gD.length f0, .slice gA gO.length gB, .int .i64 g7, .int .u64 hB] 26 (0, 0)) (by exact pq (blk_put (blk_put (blk_put (blk_put (blk_put (pk bV.out) 0 _ rfl) 1 _ rfl) 2 _ rfl) 3 _ rfl) 4 _ rfl)) hb); replace HB := ak (below_step (uk bM.out bN.out bP.out bR.out bT.out bW.out b1.out b8.out cE.out cK.out cT.out HB.out) hb); (try clear hb); (try clear hb2); (try clear hk); (try clear hi)) | ((with_reducible refine gate_dst (N := 29) rfl ?_); refine bv 29 42 #[.int .i64 0, .int .i64 0, .bool false, .string (⟨#[]⟩ : ByteArray), .int .i64 0, .int .i64 0] ?_; intro aH hg w144 hbox hb; obtain ⟨n_, dD⟩ := Cb.bx (uk bM.out bN.out bP.out bR.out bT.out bW.out b1.out b8.out cE.out cK.out cT.out HB.out) hg hb; have GW716 := dD; obtain ⟨hF, lF⟩ := Cb.nb hg aL.out; obtain ⟨hG, lG⟩ := Cb.nb hg aB.out; obtain ⟨hH, lH⟩ := Cb.nb hg aC.out; obtain ⟨e5, i5⟩ := Cb.nb hg aT.out; obtain ⟨e6, i6⟩ := Cb.nb hg aY.out; obtain ⟨fR, jR⟩ := Cb.nb hg a2.out; obtain ⟨fS, jS⟩ := Cb.nb hg a4.out; obtain ⟨gF, j8⟩ := Cb.nb hg a5.out; obtain ⟨gG, j9⟩ := Cb.nb hg bO.out; obtain ⟨gW, kK⟩ := Cb.nb hg bS.out; obtain ⟨gX, kL⟩ := Cb.nb hg bV.out; have bU := ak (hbox); replace bY := vb bY aH hg hb; replace bZ := vb bZ aH hg hb; replace b6 := vb b6 aH hg hb; replace b7 := vb b7 aH hg hb; replace cI := vb cI aH hg hb; replace cJ := vb cJ aH hg hb; replace cL := vb cL aH hg hb; replace cM := vb cM aH hg hb; replace dB := vb dB aH hg hb; replace dC := vb dC aH hg hb; replace dM := vb dM aH hg hb; replace dN := vb dN aH hg hb; replace dV := vb dV aH hg hb; replace dW := vb dW aH hg hb; replace dP := ak (Kd.R_below (Kd.R_elderB (pR dP.out) aH (Nat.le_of_eq hg.symm)) hb); replace eJ := vb eJ aH hg hb; replace eK := vb eK aH hg hb; replace eS := ak (Kd.R_below (Kd.R_elderB (pR eS.out) aH (Nat.le_of_eq hg.symm)) hb); replace aL := bb aL hb; replace aB := bb aB hb; replace aC := bb aC hb; replace aT := bb aT hb; replace aY := bb aY hb; replace a2 := bb a2 hb; replace a4 := bb a4 hb; replace a5 := bb a5 hb; replace bO := bb bO hb; replace bS := bb bS hb; replace bV := bb bV hb; replace HB := n_; clear n_; clear hb hbox hg; have hnb145 := lF.out; have hnc145 := hF.out; have hnb146 := lG.out; have hnc146 := hG.out; have hnb147 := lH.out; have hnc147 := hH.out; have hnb148 := i5.out; have hnc148 := e5.out; have hnb149 := i6.out; have hnc149 := e6.out; have hnb150 := jR.out; have hnc150 := fR.out; have hnb151 := jS.out; have hnc151 := fS.out; have hnb152 := j8.out; have hnc152 := gF.out; have hnb153 := j9.out; have hnc153 := gG.out; have hnb154 := kK.out; have hnc154 := gW.out; have hnb155 := kL.out; have hnc155 := gX.out; obtain ⟨t4, t5, t6, t7, t8, t9⟩ := Cb.c6 bU.out; obtain ⟨uA, uB, uC, uD, uE, uF⟩ := Cb.f6 bU.out; obtain ⟨uG, uH, uI, uJ, uK⟩ := Cb.c5 aB.out; obtain ⟨uL, uM, uN, uO, uP⟩ := Cb.f5 aB.out) | ((with_reducible refine gate_callee (f := 32) rfl ?_); refine goesL_ (some 120) rfl rfl Try.func32 (by kernel_rfl) rfl #[.agg #[.int .i64 aE, .slice cR aD.length cS, .slice cW aF.length cX, .int .i64 aG, .int .u64 aJ], .int .i64 dG] rfl mp ?_; (with_reducible refine (stanchionref17_Find.calls kj3 aE _ _ aD _ _ aF aG aJ dG d6 d7 eA eB eD eE hC _ ?side1 ?side2 ?side3 ?side4 A29.out).mono ?_); (case side1 => exact Kd.C_below iM.out (ul bM.out bN.out bP.out bR.out bT.out bW.out b1.out b8.out cE.out cK.out cT.out dD.out HB.out)); (case side2 => exact iN.out); (case side3 => exact Kd.C_below iO.out (ul bM.out bN.out bP.out bR.out bT.out bW.out b1.out b8.out cE.out cK.out cT.out dD.out HB.out)); (case side4 => exact iP.out); rintro e w158 ⟨rfl, hb⟩; refine ⟨_, rfl, ?_⟩; replace bY := vx bY (fun _ hk => hk.2) hb; replace bZ := vx bZ (fun _ hk => hk.2) hb; replace b6 := vx b6 (fun _ hk => hk.2) hb; replace b7 := vx b7 (fun _ hk => hk.2) hb; replace cI := vx cI (fun _ hk => hk.2) hb; replace cJ := vx cJ (fun _ hk => hk.2) hb; replace cL := vx cL (fun _ hk => hk.2) hb; replace cM := vx cM (fun _ hk => hk.2) hb; replace dB := vx dB (fun _ hk => hk.2) hb; replace dC := vx dC (fun _ hk => hk.2) hb; replace dM := vx dM (fun _ hk => hk.2) hb; replace dN := vx dN (fun _ hk => hk.2) hb; replace dV := vx dV (fun _ hk => hk.2) hb; replace dW := vx dW (fun _ hk => hk.2) hb; replace dP := ry dP (fun _ hk => hk.2) hb; replace eJ := vx eJ (fun _ hk => hk.2) hb; replace eK := vx eK (fun _ hk => hk.2) hb; replace eS := ry eS (fun _ hk => hk.2) hb; replace aL := fb aL hF hb; replace aB := fb aB hG hb; replace aC := fb aC hH hb; replace aT := fb aT e5 hb; replace aY := fb aY e6 hb; replace a2 := fb a2 fR hb; replace a4 := fb a4 fS hb; replace a5 := fb a5 gF hb; replace bO := fb bO gG hb; replace bS := fb bS gW hb; replace bV := fb bV gX hb; replace bU := ak (blk_below (g := aH) (o := .cells #[.int .i64 dU, .int .i64 dX, .bool dY, .string d2, .int .i64 d4, .int .i64 d5] 42 (0, 0)) (by exact pq (blk_put (blk_put (blk_put (blk_put (blk_put (blk_put (pk bU.out) 0 _ rfl) 1 _ rfl) 2 _ rfl) 3 _ rfl) 4 _ rfl) 5 _ rfl)) hb); replace HB := ak (below_step (ul bM.out bN.out bP.out bR.out bT.out bW.out b1.out b8.out cE.out cK.out cT.out dD.out HB.out) hb); (try clear hb); (try clear hb2); (try clear hk); (try clear hi)) | ((with_reducible refine gate_dst (N := 31) rfl ?_); refine bv 31 42 #[.int .i64 0, .int .i64 0, .bool false, .string (⟨#[]⟩ : ByteArray), .int .i64 0, .int .i64 0] ?_; intro aI hg w159 hbox hb; obtain ⟨n_, dL⟩ := Cb.bx (ul bM.out bN.out bP.out bR.out bT.out bW.out b1.out b8.out cE.out cK.out cT.out dD.out HB.out) hg hb; have GW724 := dL; obtain ⟨hI, lI⟩ := Cb.nb hg aL.out; obtain ⟨hJ, lJ⟩ := Cb.nb hg aB.out; obtain ⟨hL, lK⟩ := Cb.nb hg aC.out; obtain ⟨e7, i7⟩ := Cb.nb hg aT.out; obtain ⟨e8, i8⟩ := Cb.nb hg aY.out; obtain ⟨fT, jT⟩ := Cb.nb hg a2.out; obtain ⟨fU, jU⟩ := Cb.nb hg a4.out; obtain ⟨gH, kA⟩ := Cb.nb hg a5.out; obtain ⟨gI, kB⟩ := Cb.nb hg bO.out; obtain ⟨gY, kM⟩ := Cb.nb hg bS.out; obtain ⟨gZ, kN⟩ := Cb.nb hg bV.out; obtain ⟨hM, lL⟩ := Cb.nb hg bU.out; have bX := ak (hbox); replace bY := vb bY aI hg hb; replace bZ := vb bZ aI hg hb; replace b6 := vb b6 aI hg hb; replace b7 := vb b7 aI hg hb; replace cI := vb cI aI hg hb; replace cJ := vb cJ aI hg hb; replace cL := vb cL aI hg hb; replace cM := vb cM aI hg hb; replace dB := vb dB aI hg hb; replace dC := vb dC aI hg hb; replace dM := vb dM aI hg hb; replace dN := vb dN aI hg hb; replace dV := vb dV aI hg hb; replace dW := vb dW aI hg hb; replace dP := ak (Kd.R_below (Kd.R_elderB (pR dP.out) aI (Nat.le_of_eq hg.symm)) hb); replace eJ := vb eJ aI hg hb; replace eK := vb eK aI hg hb; replace eS := ak (Kd.R_below (Kd.R_elderB (pR eS.out) aI (Nat.le_of_eq hg.symm)) hb); replace aL := bb aL hb; replace aB := bb aB hb; replace aC := bb aC hb; replace aT := bb aT hb; replace aY := bb aY hb; replace a2 := bb a2 hb; replace a4 := bb a4 hb; replace a5 := bb a5 hb; replace bO := bb bO hb; replace bS := bb bS hb; replace bV := bb bV hb; replace bU := bb bU hb; replace HB := n_; clear n_; clear hb hbox hg; have hnb160 := lI.out; have hnc160 := hI.out; have hnb161 := lJ.out; have hnc161 := hJ.out; have hnb162 := lK.out; have hnc162 := hL.out; have hnb163 := i7.out; have hnc163 := e7.out; have hnb164 := i8.out; have hnc164 := e8.out; have hnb165 := jT.out; have hnc165 := fT.out; have hnb166 := jU.out; have hnc166 := fU.out; have hnb167 := kA.out; have hnc167 := gH.out; have hnb168 := kB.out; have hnc168 := gI.out; have hnb169 := kM.out; have hnc169 := gY.out; have hnb170 := kN.out; have hnc170 := gZ.out; have hnb171 := lL.out; have hnc171 := hM.out; obtain ⟨uQ, uR, uS, uT, uU, uV⟩ := Cb.c6 bX.out; obtain ⟨uW, uX, uY, uZ, u0, u1⟩ := Cb.f6 bX.out; obtain ⟨u2, u3, u4, u5, u6⟩ := Cb.c5 aB.out; obtain ⟨u7, u8, u9, vA, vB⟩ := Cb.f5 aB.out) | ((with_reducible refine gate_callee (f := 33) rfl ?_); refine goesL_ (some 126) rfl rfl Try.func33 (by kernel_rfl) rfl #[.agg #[.int .i64 aE, .slice cR aD.length cS, .slice cW aF.length cX, .int .i64 aG, .int .u64 aJ], .int .i64 dR] rfl mp ?_; (with_reducible refine (session_Of.calls aE _ _ aD _ _ aF aG aJ dR eF eI eL eM eO eR jV _ ?side1 ?side2 ?side3 ?side4 A30.out).mono ?_); (case side1 => exact Kd.C_below iM.out (um bM.out bN.out bP.out bR.out bT.out bW.out b1.out b8.out cE.out cK.out cT.out dD.out dL.out HB.out)); (case side2 => exact iN.out); (case side3 => exact Kd.C_below iO.out (um bM.out bN.out bP.out bR.out bT.out bW.out b1.out b8.out cE.out cK.out cT.out dD.out dL.out HB.out)); (case side4 => exact iP.out); rintro e w174 ⟨rfl, hb⟩; refine ⟨_, rfl, ?_⟩; replace bY := vx bY (fun _ hk => hk.2) hb; replace bZ := vx bZ (fun _ hk => hk.2) hb; replace b6 := vx b6 (fun _ hk => hk.2) hb; replace b7 := vx b7 (fun _ hk => hk.2) hb; replace cI := vx cI (fun _ hk => hk.2) hb; replace cJ := vx cJ (fun _ hk => hk.2) hb; replace cL := vx cL (fun _ hk => hk.2) hb; replace cM := vx cM (fun _ hk => hk.2) hb; replace dB := vx dB (fun _ hk => hk.2) hb; replace dC := vx dC (fun _ hk => hk.2) hb; replace dM := vx dM (fun _ hk => hk.2) hb; replace dN := vx dN (fun _ hk => hk.2) hb; replace dV := vx dV (fun _ hk => hk.2) hb; replace dW := vx dW (fun _ hk => hk.2) hb; replace dP := ry dP (fun _ hk => hk.2) hb; replace eJ := vx eJ (fun _ hk => hk.2) hb; replace eK := vx eK (fun _ hk => hk.2) hb; replace eS := ry eS (fun _ hk => hk.2) hb; replace aL := fb aL hI hb; replace aB := fb aB hJ hb; replace aC := fb aC hL hb; replace aT := fb aT e7 hb; replace aY := fb aY e8 hb; replace a2 := fb a2 fT hb; replace a4 := fb a4 fU hb; replace a5 := fb a5 gH hb; replace bO := fb bO gI hb; replace bS := fb bS gY hb; replace bV := fb bV gZ hb; replace bU := fb bU hM hb; replace bX := ak (blk_below (g := aI) (o := .cells #[.int .i64 d6, .int .i64 d7, .bool eA, .string eB, .int .i64 eD, .int .i64 eE] 42 (0, 0)) (by exact pq (blk_put (blk_put (blk_put (blk_put (blk_put (blk_put (pk bX.out) 0 _ rfl) 1 _ rfl) 2 _ rfl) 3 _ rfl) 4 _ rfl) 5 _ rfl)) hb); replace HB := ak (below_step (um bM.out bN.out bP.out bR.out bT.out bW.out b1.out b8.out cE.out cK.out cT.out dD.out dL.out HB.out) hb); (try clear hb); (try clear hb2); (try clear hk); (try clear hi)) | ((with_reducible refine gate_dst (N := 33) rfl ?_); refine bv 33 42 #[.int .i64 0, .int .i64 0, .bool false, .string (⟨#[]⟩ : ByteArray), .int .i64 0, .int .i64 0] ?_; intro aK hg w175 hbox hb; obtain ⟨n_, dO⟩ := Cb.bx (um bM.out bN.out bP.out bR.out bT.out bW.out b1.out b8.out cE.out cK.out cT.out dD.out dL.out HB.out) hg hb; have GW732 := dO; obtain ⟨i9, mX⟩ := Cb.nb hg aL.out; obtain ⟨jA, mY⟩ := Cb.nb hg aB.out; obtain ⟨jB, mZ⟩ := Cb.nb hg aC.out; obtain ⟨gJ, kC⟩ := Cb.nb hg aT.out; obtain ⟨gK, kD⟩ := Cb.nb hg aY.out; obtain ⟨g0, kO⟩ := Cb.nb hg a2.out; obtain ⟨g1, kP⟩ := Cb.nb hg a4.out; obtain ⟨hN, lM⟩ := Cb.nb hg a5.out; obtain ⟨hO, lN⟩ := Cb.nb hg bO.out; obtain ⟨iG, mB⟩ := Cb.nb hg bS.out; obtain ⟨iH, mC⟩ := Cb.nb hg bV.out; obtain ⟨hP, lO⟩ := Cb.nb hg bU.out; obtain ⟨hQ, lP⟩ := Cb.nb hg bX.out; have b4 := ak (hbox); replace bY := vb bY aK hg hb; replace bZ := vb bZ aK hg hb; replace b6 := vb b6 aK hg hb; replace b7 := vb b7 aK hg hb; replace cI := vb cI aK hg hb; replace cJ := vb cJ aK hg hb; replace cL := vb cL aK hg hb; replace cM := vb cM aK hg hb; replace dB := vb dB aK hg hb; replace dC := vb dC aK hg hb; replace dM := vb dM aK hg hb; replace dN := vb dN aK hg hb; replace dV := vb dV aK hg hb; replace dW := vb dW aK hg hb; replace dP := ak (Kd.R_below (Kd.R_elderB (pR dP.out) aK (Nat.le_of_eq hg.symm)) hb); replace eJ := vb eJ aK hg hb; replace eK := vb eK aK hg hb; replace eS := ak (Kd.R_below (Kd.R_elderB (pR eS.out) aK (Nat.le_of_eq hg.symm)) hb); replace aL := bb aL hb; replace aB := bb aB hb; replace aC := bb aC hb; replace aT := bb aT hb; replace aY := bb aY hb; replace a2 := bb a2 hb; replace a4 := bb a4 hb; replace a5 := bb a5 hb; replace bO := bb bO hb; replace bS := bb bS hb; replace bV := bb bV hb; replace bU := bb bU hb; replace bX := bb bX hb; replace HB := n_; clear n_; clear hb hbox hg; have hnb176 := mX.out; have hnc176 := i9.out; have hnb177 := mY.out; have hnc177 := jA.out; have hnb178 := mZ.out; have hnc178 := jB.out; have hnb179 := kC.out; have hnc179 := gJ.out; have hnb180 := kD.out; have hnc180 := gK.out; have hnb181 := kO.out; have hnc181 := g0.out; have hnb182 := kP.out; have hnc182 := g1.out; have hnb183 := lM.out; have hnc183 := hN.out; have hnb184 := lN.out; have hnc184 := hO.out; have hnb185 := mB.out; have hnc185 := iG.out; have hnb186 := mC.out; have hnc186 := iH.out; have hnb187 := lO.out; have hnc187 := hP.out; have hnb188 := lP.out; have hnc188 := hQ.out; obtain ⟨vC, vD, vE, vF, vG, vH⟩ := Cb.c6 b4.out; obtain ⟨vI, vJ, vK, vL, vM, vN⟩ := Cb.f6 b4.out; obtain ⟨vO, vP, vQ, vR, vS⟩ := Cb.c5 aB.out; obtain ⟨vT, vU, vV, vW, vX⟩ := Cb.f5 aB.out) | ((with_reducible refine gate_callee (f := 34) rfl ?_); refine goesL_ (some 132) rfl rfl Try.func34 (by kernel_rfl) rfl #[.agg #[.int .i64 aE, .slice cR aD.length cS, .slice cW aF.length cX, .int .i64 aG, .int .u64 aJ], .int .i64 dR] rfl mp ?_; (with_reducible refine (stanchionref17_Of.calls kj3 aE _ _ aD _ _ aF aG aJ dR b0 b2 b5 b9 cB cH kG _ ?side1 ?side2 ?side3 ?side4 A31.out).mono ?_); (case side1 => exact Kd.C_below iM.out (un bM.out bN.out bP.out bR.out bT.out bW.out b1.out b8.out cE.out cK.out cT.out dD.out dL.out dO.out HB.out)); (case side2 => exact iN.out); (case side3 => exact Kd.C_below iO.out (un bM.out bN.out bP.out bR.out bT.out bW.out b1.out b8.out cE.out cK.out cT.out dD.out dL.out dO.out HB.out)); (case side4 => exact iP.out); rintro e w191 ⟨rfl, hb⟩; refine ⟨_, rfl, ?_⟩; replace bY := vx bY (fun _ hk => hk.2) hb; replace bZ := vx bZ (fun _ hk => hk.2) hb; replace b6 := vx b6 (fun _ hk => hk.2) hb; replace b7 := vx b7 (fun _ hk => hk.2) hb; replace cI := vx cI (fun _ hk => hk.2) hb; replace cJ := vx cJ (fun _ hk => hk.2) hb; replace cL := vx cL (fun _ hk => hk.2) hb; replace cM := vx cM (fun _ hk => hk.2) hb; replace dB := vx dB (fun _ hk => hk.2) hb; replace dC := vx dC (fun _ hk => hk.2) hb; replace dM := vx dM (fun _ hk => hk.2) hb; replace dN := vx dN (fun _ hk => hk.2) hb; replace dV := vx dV (fun _ hk => hk.2) hb; replace dW := vx dW (fun _ hk => hk.2) hb; replace dP := ry dP (fun _ hk => hk.2) hb; replace eJ := vx eJ (fun _ hk => hk.2) hb; replace eK := vx eK (fun _ hk => hk.2) hb; replace eS := ry eS (fun _ hk => hk.2) hb; replace aL := fb aL i9 hb; replace aB := fb aB jA hb; replace aC := fb aC jB hb; replace aT := fb aT gJ hb; replace aY := fb aY gK hb; replace a2 := fb a2 g0 hb; replace a4 := fb a4 g1 hb; replace a5 := fb a5 hN hb; replace bO := fb bO hO hb; replace bS := fb bS iG hb; replace bV := fb bV iH hb; replace bU := fb bU hP hb; replace bX := fb bX hQ hb; replace b4 := ak (blk_below (g := aK) (o := .cells #[.int .i64 eF, .int .i64 eI, .bool eL, .string eM, .int .i64 eO, .int .i64 eR] 42 (0, 0)) (by exact pq (blk_put (blk_put (blk_put (blk_put (blk_put (blk_put (pk b4.out) 0 _ rfl) 1 _ rfl) 2 _ rfl) 3 _ rfl) 4 _ rfl) 5 _ rfl)) hb); replace HB := ak (below_step (un bM.out bN.out bP.out bR.out bT.out bW.out b1.out b8.out cE.out cK.out cT.out dD.out dL.out dO.out HB.out) hb); (try clear hb); (try clear hb2); (try clear hk); (try clear hi)) | ((with_reducible refine gate_dst (N := 35) rfl ?_); refine bv 35 42 #[.int .i64 0, .int .i64 0, .bool false, .string (⟨#[]⟩ : ByteArray), .int .i64 0, .int .i64 0] ?_; intro aA hg w192 hbox hb; obtain ⟨n_, dQ⟩ := Cb.bx (un bM.out bN.out bP.out bR.out bT.out bW.out b1.out b8.out cE.out cK.out cT.out dD.out dL.out dO.out HB.out) hg hb; have GW740 := dQ; obtain ⟨dH, m0⟩ := Cb.nb hg aL.out; obtain ⟨dI, m1⟩ := Cb.nb hg aB.out; obtain ⟨dJ, m2⟩ := Cb.nb hg aC.out; obtain ⟨cP, kE⟩ := Cb.nb hg aT.out; obtain ⟨cQ, kF⟩ := Cb.nb hg aY.out; obtain ⟨cU, kQ⟩ := Cb.nb hg a2.out; obtain ⟨cV, kR⟩ := Cb.nb hg a4.out; obtain ⟨cY, lQ⟩ := Cb.nb hg a5.out; obtain ⟨cZ, lR⟩ := Cb.nb hg bO.out; obtain ⟨dE, mD⟩ := Cb.nb hg bS.out; obtain ⟨dF, mE⟩ := Cb.nb hg bV.out; obtain ⟨c0, lS⟩ := Cb.nb hg bU.out; obtain ⟨dA, lT⟩ := Cb.nb hg bX.out; obtain ⟨dK, m3⟩ := Cb.nb hg b4.out; have cA := ak (hbox); replace bY := vb bY aA hg hb; replace bZ := vb bZ aA hg hb; replace b6 := vb b6 aA hg hb; replace b7 := vb b7 aA hg hb; replace cI := vb cI aA hg hb; replace cJ := vb cJ aA hg hb; replace cL := vb cL aA hg hb; replace cM := vb cM aA hg hb; replace dB := vb dB aA hg hb; replace dC := vb dC aA hg hb; replace dM := vb dM aA hg hb; replace dN := vb dN aA hg hb; replace dV := vb dV aA hg hb; replace dW := vb dW aA hg hb; replace dP := ak (Kd.R_below (Kd.R_elderB (pR dP.out) aA (Nat.le_of_eq hg.symm)) hb); replace eJ := vb eJ aA hg hb; replace eK := vb eK aA hg hb; replace eS := ak (Kd.R_below (Kd.R_elderB (pR eS.out) aA (Nat.le_of_eq hg.symm)) hb); replace aL := bb aL hb; replace aB := bb aB hb; replace aC := bb aC hb; replace aT := bb aT hb; replace aY := bb aY hb; replace a2 := bb a2 hb; replace a4 := bb a4 hb; replace a5 := bb a5 hb; replace bO := bb bO hb; replace bS := bb bS hb; replace bV := bb bV hb; replace bU := bb bU hb; replace bX := bb bX hb; replace b4 := bb b4 hb; replace HB := n_; clear n_; clear hb hbox hg; have hnb193 := m0.out; have hnc193 := dH.out; have hnb194 := m1.out; have hnc194 := dI.out; have hnb195 := m2.out; have hnc195 := dJ.out; have hnb196 := kE.out; have hnc196 := cP.out; have hnb197 := kF.out; have hnc197 := cQ.out; have hnb198 := kQ.out; have hnc198 := cU.out; have hnb199 := kR.out; have hnc199 := cV.out; have hnb200 := lQ.out; have hnc200 := cY.out; have hnb201 := lR.out; have hnc201 := cZ.out; have hnb202 := mD.out; have hnc202 := dE.out; have hnb203 := mE.out; have hnc203 := dF.out; have hnb204 := lS.out; have hnc204 := c0.out; have hnb205 := lT.out; have hnc205 := dA.out; have hnb206 := m3.out; have hnc206 := dK.out; obtain ⟨vY, vZ, v0, v1, v2, v3⟩ := Cb.c6 cA.out; obtain ⟨v4, v5, v6, v7, v8, v9⟩ := Cb.f6 cA.out))
  (try simp only [Act.put, List.setIfInBounds_toArray, List.set_cons_zero, List.set_cons_succ])
  exact stanchionlaw17_SessionActs.rM (hr_ := hr_) (iM := iM) (iN := iN) (iO := iO) (iP := iP) (mI := mI) (mJ := mJ) (mK := mK) (mL := mL) (bM := bM) (bN := bN) (bP := bP) (HC32 := HC32) (bR := bR) (hX := hX) (kW := kW) (hY := hY) (kX := kX) (hZ := hZ) (kY := kY) (bT := bT) (h0 := h0) (kZ := kZ) (h1 := h1) (k0 := k0) (h2 := h2) (k1 := k1) (h3 := h3) (k2 := k2) (bW := bW) (iQ := iQ) (lW := lW) (iR := iR) (lX := lX) (iS := iS) (lY := lY) (h4 := h4) (k3 := k3) (h5 := h5) (k4 := k4) (b1 := b1) (iT := iT) (lZ := lZ) (iU := iU) (l0 := l0) (iV := iV) (l1 := l1) (h6 := h6) (k5 := k5) (h7 := h7) (k6 := k6) (iW := iW) (l2 := l2) (b8 := b8) (jG := jG) (mM := mM) (jH := jH) (mN := mN) (jI := jI) (mO := mO) (h8 := h8) (k7 := k7) (h9 := h9) (k8 := k8) (iX := iX) (l3 := l3) (iY := iY) (l4 := l4) (cE := cE) (jJ := jJ) (mP := mP) (jK := jK) (mQ := mQ) (jL := jL) (mR := mR) (iA := iA) (k9 := k9) (iB := iB) (lA := lA) (iZ := iZ) (l5 := l5) (i0 := i0) (l6 := l6) (jM := jM) (mS := mS) (cK := cK) (jY := jY) (nH := nH) (jZ := jZ) (nI := nI) (j3 := j3) (nJ := nJ) (iC := iC) (lB := lB) (iD := iD) (lC := lC) (i1 := i1) (l7 := l7) (i2 := i2) (l8 := l8) (jN := jN) (mT := mT) (jO := jO) (mU := mU) (cT := cT) (j4 := j4) (nK := nK) (j5 := j5) (nL := nL) (j6 := j6) (nM := nM) (iE := iE) (lD := lD) (iF := iF) (lE := lE) (i3 := i3) (l9 := l9) (i4 := i4) (mA := mA) (jP := jP) (mV := mV) (jQ := jQ) (mW := mW) (j7 := j7) (nN := nN) (dD := dD) (hF := hF) (lF := lF) (hG := hG) (lG := lG) (hH := hH) (lH := lH) (e5 := e5) (i5 := i5) (e6 := e6) (i6 := i6) (fR := fR) (jR := jR) (fS := fS) (jS := jS) (gF := gF) (j8 := j8) (gG := gG) (j9 := j9) (gW := gW) (kK := kK) (gX := gX) (kL := kL) (dL := dL) (hI := hI) (lI := lI) (hJ := hJ) (lJ := lJ) (hL := hL) (lK := lK) (e7 := e7) (i7 := i7) (e8 := e8) (i8 := i8) (fT := fT) (jT := jT) (fU := fU) (jU := jU) (gH := gH) (kA := kA) (gI := gI) (kB := kB) (gY := gY) (kM := kM) (gZ := gZ) (kN := kN) (hM := hM) (lL := lL) (dO := dO) (i9 := i9) (mX := mX) (jA := jA) (mY := mY) (jB := jB) (mZ := mZ) (gJ := gJ) (kC := kC) (gK := gK) (kD := kD) (g0 := g0) (kO := kO) (g1 := g1) (kP := kP) (hN := hN) (lM := lM) (hO := hO) (lN := lN) (iG := iG) (mB := mB) (iH := iH) (mC := mC) (hP := hP) (lO := lO) (hQ := hQ) (lP := lP) (dQ := dQ) (dH := dH) (m0 := m0) (dI := dI) (m1 := m1) (dJ := dJ) (m2 := m2) (cP := cP) (kE := kE) (cQ := cQ) (kF := kF) (cU := cU) (kQ := kQ) (cV := cV) (kR := kR) (cY := cY) (lQ := lQ) (cZ := cZ) (lR := lR) (dE := dE) (mD := mD) (dF := dF) (mE := mE) (c0 := c0) (lS := lS) (dA := dA) (lT := lT) (dK := dK) (m3 := m3) (cA := ⟨by exact blk_put (blk_put (blk_put (blk_put (blk_put (blk_put cA.out 0 _ rfl) 1 _ rfl) 2 _ rfl) 3 _ rfl) 4 _ rfl) 5 _ rfl⟩) (bY := ⟨vf6 bY.out fun _ hk => hk.2⟩) (bZ := ⟨vf6 bZ.out fun _ hk => hk.2⟩) (b6 := ⟨vf6 b6.out fun _ hk => hk.2⟩) (b7 := ⟨vf6 b7.out fun _ hk => hk.2⟩) (cI := ⟨vf6 cI.out fun _ hk => hk.2⟩) (cJ := ⟨vf6 cJ.out fun _ hk => hk.2⟩) (cL := ⟨vf6 cL.out fun _ hk => hk.2⟩) (cM := ⟨vf6 cM.out fun _ hk => hk.2⟩) (dB := ⟨vf6 dB.out fun _ hk => hk.2⟩) (dC := ⟨vf6 dC.out fun _ hk => hk.2⟩) (dM := ⟨vf6 dM.out fun _ hk => hk.2⟩) (dN := ⟨vf6 dN.out fun _ hk => hk.2⟩) (dV := ⟨vf6 dV.out fun _ hk => hk.2⟩) (dW := ⟨vf6 dW.out fun _ hk => hk.2⟩) (dP := ⟨rf6 dP.out fun _ hk => hk.2⟩) (eJ := ⟨vf6 eJ.out fun _ hk => hk.2⟩) (eK := ⟨vf6 eK.out fun _ hk => hk.2⟩) (eS := ⟨rf6 eS.out fun _ hk => hk.2⟩) (aL := fb aL dH (Below.refl _ _)) (aB := fb aB dI (Below.refl _ _)) (aC := fb aC dJ (Below.refl _ _)) (aT := fb aT cP (Below.refl _ _)) (aY := fb aY cQ (Below.refl _ _)) (a2 := fb a2 cU (Below.refl _ _)) (a4 := fb a4 cV (Below.refl _ _)) (a5 := fb a5 cY (Below.refl _ _)) (bO := fb bO cZ (Below.refl _ _)) (bS := fb bS dE (Below.refl _ _)) (bV := fb bV dF (Below.refl _ _)) (bU := fb bU c0 (Below.refl _ _)) (bX := fb bX dA (Below.refl _ _)) (b4 := fb b4 dK (Below.refl _ _)) (HB := ⟨uo bM.out bN.out bP.out bR.out bT.out bW.out b1.out b8.out cE.out cK.out cT.out dD.out dL.out dO.out dQ.out HB.out⟩) (hc := rfl) (hK := by assumption)

end Go.Proofs.Ytnpmjboofmdflaa.PA
