-- Made by a program of this workplace out of the translation (wip/tools in the repo). Not trusted: Lean checks it.
import Derived.Test.YtnpmjboofmdflaaPAx0
import Derived.Test.YtnpmjboofmdflaaCb
import Derived.Test.YtnpmjboofmdflaaSq
import Derived.Test.YtnpmjboofmdflaaTq
import Derived.Test.YtnpmjboofmdflaaPAx1
import Derived.Test.YtnpmjboofmdflaaPAx3
import Derived.Test.YtnpmjboofmdflaaPAx4
import Derived.Test.YtnpmjboofmdflaaPAx8
import Derived.Test.YtnpmjboofmdflaaPAx9
import Derived.Test.YtnpmjboofmdflaaPAx10
import Derived.Test.YtnpmjboofmdflaaPAx11
import Derived.Test.YtnpmjboofmdflaaPAx13
import Derived.Test.YtnpmjboofmdflaaPAx14
import Derived.Test.YtnpmjboofmdflaaPAx15
import Derived.Test.YtnpmjboofmdflaaPAx18
import Derived.Test.YtnpmjboofmdflaaPAx19
import Derived.Test.YtnpmjboofmdflaaPAx21
namespace Go.Proofs.Ytnpmjboofmdflaa.PA
open Go.RowKit Go.Proofs.YtnpmjboofmdflaaW.PrintWords Go.Proofs.YtnpmjboofmdflaaW.PrintLast Go.Proofs.YtnpmjboofmdflaaW.PrintMore Go.Proofs.Ytnpmjboofmdflaa
attribute [local go_sem] max2_int min2_int max_two min_two max_three min_three max_four min_four   -- for this text's walks alone
set_option linter.unusedVariables false
set_option linter.unusedSimpArgs false

attribute [local go_sem high] eqA42
/-! ### stanchionlaw17_SessionActs: function 9 -/
set_option maxHeartbeats 64000000 in
set_option maxRecDepth 100000 in
theorem stanchionlaw17_SessionActs.calls (k : Nat) (aE : Int) (cR : Option Addr) (cS : Nat) (aD : List (S42)) (cW : Option Addr) (cX : Nat) (aF : List (S85)) (aG : Int) (aJ : Int) (dG : Int) (dR : Int) (eG : Int) (b3 : Int) (bQ : Int) (cC : Option Addr) (cD : Nat) (aM : List (S42)) (cF : Option Addr) (cG : Nat) (aN : List (S85)) (aS : Int) (aU : Int) (r : Bool) (w : World) (hr0_1 : Kd.C k42 w cR aD.length aD) (hc0_1 : aD.length ≤ cS) (hr0_2 : Kd.C k85 w cW aF.length aF) (hc0_2 : aF.length ≤ cX) (rN : Kd.C k42 w cC aM.length aM) (rO : aM.length ≤ cD) (rP : Kd.C k85 w cF aN.length aN) (rQ : aN.length ≤ cG) (h : stanchionlaw17_SessionActs.f k aE aD aF aG aJ dG dR eG b3 bQ aM aN aS aU = some r) (hr_ : r = true) :
  Calls Try.prog 9 #[.agg #[.int .i64 aE, .slice cR aD.length cS, .slice cW aF.length cX, .int .i64 aG, .int .u64 aJ, .int .i64 dG, .int .i64 dR, .int .u64 eG, .int .i64 b3, .int .i64 bQ, .slice cC aM.length cD, .slice cF aN.length cG, .int .i64 aS, .int .u64 aU]] w fun e w' => e = .returned (.bool r) ∧ Below w.heap.size w w' := by
 have hu68 := Try.underlying68
 have hu26 := Try.underlying26
 have hu42 := Try.underlying42
 have iM := ak hr0_1
 have iN := ak hc0_1
 clear hr0_1 hc0_1
 have iO := ak hr0_2
 have iP := ak hc0_2
 clear hr0_2 hc0_2
 have mI := ak rN
 have mJ := ak rO
 clear rN rO
 have mK := ak rP
 have mL := ak rQ
 clear rP rQ
 have HB := ak (Below.refl w.heap.size w)
 have H : ((stanchionlaw17_shown.f k).bind fun mG => ((stanchionlaw17_few.f aE aD aF aG aJ).bind fun nT => (if mG = true then (stanchionlaw17_SessionActs.j0 k dG dR eG b3 mG (!nT) aE aD aF aG aJ bQ aM aN aS aU) else (stanchionlaw17_SessionActs.j0 k dG dR eG b3 mG true aE aD aF aG aJ bQ aM aN aS aU)))) = some r := h
 clear h
 replace H := Option.bind_eq_some_iff.mp H
 obtain ⟨mG, A20, H⟩ := H
 try dsimp only at H
 have A2 := ak A20
 clear A20
 replace H := Option.bind_eq_some_iff.mp H
 obtain ⟨nT, A30, H⟩ := H
 try dsimp only at H
 have A3 := ak A30
 clear A30
 have HC4 := ak H
 clear H
 go_enter Try.func9, Try.ntmps9
 go_upto_region 9 with (first | ((with_reducible refine gate_dst (N := 1) rfl ?_); refine bv 1 68 #[.int .i64 aE, .slice cR aD.length cS, .slice cW aF.length cX, .int .i64 aG, .int .u64 aJ, .int .i64 dG, .int .i64 dR, .int .u64 eG, .int .i64 b3, .int .i64 bQ, .slice cC aM.length cD, .slice cF aN.length cG, .int .i64 aS, .int .u64 aU] ?_; intro a3 hg w5 hbox hb; obtain ⟨n_, bM⟩ := Cb.bx (pB HB.out) hg hb; have f4 := bM; have aL := ak (hbox); replace HB := n_; clear n_; clear hb hbox hg; obtain ⟨rR, rS, rT, rU, rV, rW, rX, rY, rZ, r0, oX, oY, oZ, o0⟩ := Cb.c14 aL.out; obtain ⟨oE, oF, oG, oH, oI, oJ, oK, oL, oM, oN, nO, nP, nQ, nR⟩ := Cb.f14 aL.out) | ((with_reducible refine gate_dst (N := 3) rfl ?_); refine bv 3 26 #[.int .i64 0, .slice none 0 0, .slice none 0 0, .int .i64 0, .int .u64 0] ?_; intro aZ hg w7 hbox hb; obtain ⟨n_, bN⟩ := Cb.bx (ua bM.out HB.out) hg hb; have f7 := bN; obtain ⟨gV, nF⟩ := Cb.nb hg aL.out; have aB := ak (hbox); replace aL := bb aL hb; replace HB := n_; clear n_; clear hb hbox hg; have hnb8 := nF.out; have hnc8 := gV.out; obtain ⟨r1, r2, r3, r4, r5⟩ := Cb.c5 aB.out; obtain ⟨oO, oP, oQ, oR, oS⟩ := Cb.f5 aB.out; obtain ⟨o1, o2, o3, o4, o5, o6, o7, o8, o9, pA, nU, nV, nW, nX⟩ := Cb.c14 aL.out; obtain ⟨pC, pD, pE, pF, pG, pH, pI, pJ, pK, pL, nY, nZ, n0, n1⟩ := Cb.f14 aL.out) | ((with_reducible refine gate_dst (N := 8) rfl ?_); refine bv 8 26 #[.int .i64 0, .slice none 0 0, .slice none 0 0, .int .i64 0, .int .u64 0] ?_; intro a0 hg w11 hbox hb; obtain ⟨n_, bP⟩ := Cb.bx (ub bM.out bN.out HB.out) hg hb; have f8 := bP; obtain ⟨kJ, rK⟩ := Cb.nb (o := .cells #[.int .i64 aE, .slice cR aD.length cS, .slice cW aF.length cX, .int .i64 aG, .int .u64 aJ, .int .i64 dG, .int .i64 dR, .int .u64 eG, .int .i64 b3, .int .i64 bQ, .slice cC aM.length cD, .slice cF aN.length cG, .int .i64 aS, .int .u64 aU] 68 (0, 0)) hg (by exact pq (blk_far (blk_far (blk_far (blk_far (blk_far (pk aL.out) gV.out _) gV.out _) gV.out _) gV.out _) gV.out _)); obtain ⟨jX, nG⟩ := Cb.nb (o := .cells #[.int .i64 aE, .slice cR aD.length cS, .slice cW aF.length cX, .int .i64 aG, .int .u64 aJ] 26 (0, 0)) hg (by exact pq (blk_put (blk_put (blk_put (blk_put (blk_put (pk aB.out) 0 _ rfl) 1 _ rfl) 2 _ rfl) 3 _ rfl) 4 _ rfl)); have aC := ak (hbox); replace aL := fb aL gV hb; replace aB := ak (blk_below (g := aZ) (o := .cells #[.int .i64 aE, .slice cR aD.length cS, .slice cW aF.length cX, .int .i64 aG, .int .u64 aJ] 26 (0, 0)) (by exact pq (blk_put (blk_put (blk_put (blk_put (blk_put (pk aB.out) 0 _ rfl) 1 _ rfl) 2 _ rfl) 3 _ rfl) 4 _ rfl)) hb); replace HB := n_; clear n_; clear hb hbox hg; have hnb12 := rK.out; have hnc12 := kJ.out; have hnb13 := nG.out; have hnc13 := jX.out; obtain ⟨pM, pN, pO, pP, pQ⟩ := Cb.c5 aC.out; obtain ⟨pS, pT, pU, pW, pX⟩ := Cb.f5 aC.out) | ((with_reducible refine gate_callee (f := 10) rfl ?_); refine goesL_ (some 51) rfl rfl Try.func10 (by kernel_rfl) rfl #[] rfl mp ?_; (with_reducible refine (stanchionlaw17_shown.calls k  mG _ A2.out).mono ?_); rintro e w15 ⟨rfl, hb⟩; refine ⟨_, rfl, ?_⟩; replace aL := fb aL kJ hb; replace aB := fb aB jX hb; replace aC := ak (blk_below (g := a0) (o := .cells #[.int .i64 bQ, .slice cC aM.length cD, .slice cF aN.length cG, .int .i64 aS, .int .u64 aU] 26 (0, 0)) (by exact pq (blk_put (blk_put (blk_put (blk_put (blk_put (pk aC.out) 0 _ rfl) 1 _ rfl) 2 _ rfl) 3 _ rfl) 4 _ rfl)) hb); replace HB := ak (below_step (uc bM.out bN.out bP.out HB.out) hb); (try clear hb); (try clear hb2); (try clear hk); (try clear hi); obtain ⟨pY, pZ, p0, p1, p3⟩ := Cb.c5 aB.out; obtain ⟨p4, p5, p6, p7, p8⟩ := Cb.f5 aB.out) | ((with_reducible refine gate_callee (f := 15) rfl ?_); refine goesL_ (some 53) rfl rfl Try.func15 (by kernel_rfl) rfl #[.agg #[.int .i64 aE, .slice cR aD.length cS, .slice cW aF.length cX, .int .i64 aG, .int .u64 aJ]] rfl mp ?_; (with_reducible refine (stanchionlaw17_few.calls aE _ _ aD _ _ aF aG aJ nT _ ?side1 ?side2 ?side3 ?side4 A3.out).mono ?_); (case side1 => exact pc (Kd.C_below iM.out HB.out)); (case side2 => exact iN.out); (case side3 => exact pc (Kd.C_below iO.out HB.out)); (case side4 => exact iP.out); rintro e w17 ⟨rfl, hb⟩; refine ⟨_, rfl, ?_⟩; replace aL := bb aL hb; replace aB := bb aB hb; replace aC := bb aC hb; replace HB := ak (below_step (uc bM.out bN.out bP.out HB.out) hb); (try clear hb); (try clear hb2); (try clear hk); (try clear hi)))
 (try simp only [Act.put, List.setIfInBounds_toArray, List.set_cons_zero, List.set_cons_succ])
 go_cut [59] (fun v59 wc => ∃ (kq : Nat) (p9 : Bool), v59 = .bool p9 ∧ Aside0 (stanchionlaw17_SessionActs.j0 kq dG dR eG b3 mG p9 aE aD aF aG aJ bQ aM aN aS aU = some r) ∧ Aside0 (kq ≤ k) ∧ Aside0 (wc.heap[a3]? = some (.cells #[.int .i64 aE, (.slice cR aD.length cS), (.slice cW aF.length cX), .int .i64 aG, .int .u64 aJ, .int .i64 dG, .int .i64 dR, .int .u64 eG, .int .i64 b3, .int .i64 bQ, (.slice cC aM.length cD), (.slice cF aN.length cG), .int .i64 aS, .int .u64 aU] 68 (0, 0))) ∧ Aside0 (wc.heap[aZ]? = some (.cells #[.int .i64 aE, (.slice cR aD.length cS), (.slice cW aF.length cX), .int .i64 aG, .int .u64 aJ] 26 (0, 0))) ∧ Aside0 (wc.heap[a0]? = some (.cells #[.int .i64 bQ, (.slice cC aM.length cD), (.slice cF aN.length cG), .int .i64 aS, .int .u64 aU] 26 (0, 0))) ∧ Aside0 (Below w.heap.size w wc))
 case first =>
  have H := HC4.out
  clear HC4
  by_cases c18 : mG = true
  ·subst c18
   rw [if_pos rfl] at H
   have H' := ak H
   clear H
   go_wp2
   go_meet
   case rel => exact ⟨_, (!nT), es, H', ⟨by first | omega | exact Nat.le_refl _⟩, ⟨pk aL.out⟩, ⟨pk aB.out⟩, ⟨pk aC.out⟩, ⟨uc bM.out bN.out bP.out HB.out⟩⟩
  ·replace c18 := Bool.eq_false_iff.mpr c18
   subst c18
   rw [if_neg (show ¬ (false = true) by decide)] at H
   have H' := ak H
   clear H
   go_wp2
   go_meet
   case rel => exact ⟨_, (true), es, H', ⟨by first | omega | exact Nat.le_refl _⟩, ⟨pk aL.out⟩, ⟨pk aB.out⟩, ⟨pk aC.out⟩, ⟨uc bM.out bN.out bP.out HB.out⟩⟩
 case rest =>
  clear HC4
  try clear c1 p2 c8 c9 c10 c12 c13 c15 c18 o1 o2 nU nV nW nX o3 o4 o5 o6 o7 o8 o9 pA pM pN pO pP pQ pY pZ p0 p1 p3 rR rS oX oY oZ o0 rT rU rV rW rX rY rZ r0 r1 r2 r3 r4 r5 pC pD nY nZ n0 n1 pE pF pG pH pI pJ pK pL pS pT pU pW pX p4 p5 p6 p7 p8 oE oF nO nP nQ nR oG oH oI oJ oK oL oM oN oO oP oQ oR oS
  obtain ⟨kq, p9, rfl, HA, HJ3, aL, aB, aC, HB⟩ := hcut
  have HA2 := HA
  cases kq with
  | zero => exact absurd HA.out (by simp [stanchionlaw17_SessionActs.j0])
  | succ kj3 =>
   have H := HA.out
   clear HA
   simp only [stanchionlaw17_SessionActs.j0] at H
   by_cases c19 : p9 = true
   ·subst c19
    rw [if_pos rfl] at H
    obtain rfl := Option.some.inj H
    go_wp2
    first | go_ret | ((try simp only [Exit.inBlock, Exit.then]); refine bodyPost_ret (results_tmp rfl _ _ _) ?hd_ ?hR_; (case hd_ => rfl))
    exact ⟨by first | rfl | (simp [errW_none, errW_some] <;> rfl) | (simp [*, errW_none, errW_some] <;> rfl), uc bM.out bN.out bP.out HB.out⟩
   ·replace c19 := Bool.eq_false_iff.mpr c19
    subst c19
    go_upto_region 11 with (fail)
    exact stanchionlaw17_SessionActs.rA (hr_ := hr_) (iM := iM) (iN := iN) (iO := iO) (iP := iP) (mI := mI) (mJ := mJ) (mK := mK) (mL := mL) (bM := bM) (f4 := f4) (bN := bN) (f7 := f7) (gV := gV) (nF := nF) (bP := bP) (f8 := f8) (jX := jX) (nG := nG) (hp := rfl) (HA := HA2) (HJ3 := HJ3) (aL := aL) (aB := aB) (aC := aC) (HB := HB) (hc := rfl) (hK := by assumption)

end Go.Proofs.Ytnpmjboofmdflaa.PA
