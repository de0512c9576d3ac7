-- Made by a program of this workplace out of the translation (wip/tools in the repo). Not trusted: Lean checks it.
import Derived.Test.YtnpmjboofmdflaaPAx0
import Derived.Test.YtnpmjboofmdflaaCb
import Derived.Test.YtnpmjboofmdflaaSq
import Derived.Test.YtnpmjboofmdflaaTq
import Derived.Test.YtnpmjboofmdflaaPAx3
import Derived.Test.YtnpmjboofmdflaaPAx5
import Derived.Test.YtnpmjboofmdflaaPAx8
namespace Go.Proofs.Ytnpmjboofmdflaa.PA
open Go.RowKit Go.Proofs.YtnpmjboofmdflaaW.PrintWords Go.Proofs.YtnpmjboofmdflaaW.PrintLast Go.Proofs.YtnpmjboofmdflaaW.PrintMore Go.Proofs.Ytnpmjboofmdflaa
attribute [local go_sem] max2_int min2_int max_two min_two max_three min_three max_four min_four   -- for this text's walks alone
set_option linter.unusedVariables false
set_option linter.unusedSimpArgs false

/-! ### stanchionlaw17_shown: function 10 -/
set_option maxHeartbeats 8000000 in
set_option maxRecDepth 100000 in
theorem stanchionlaw17_shown_t.calls (k : Nat)  (r : Bool) (w : World) (h : stanchionlaw17_shown.f k  = some r) (hr_ : r = true) :
  Calls Try.prog 10 #[] w fun e w' => e = .returned (.bool r) ∧ Below w.heap.size w w' := by
 have eO := Try.underlying26
 have eP := Try.underlying30
 have HB := ak (Below.refl w.heap.size w)
 have H : ((session_New.f 7).bind fun bt256 => ((session_Open.f k bt256.1 bt256.2.1 bt256.2.2.1 bt256.2.2.2.1 bt256.2.2.2.2 0).bind fun bt265 => ((session_Judge.f k bt265.1 bt265.2.1 bt265.2.2.1 bt265.2.2.2.1 bt265.2.2.2.2.1 0 7 1 1 (⟨#[]⟩ : ByteArray) 0 (⟨#[]⟩ : ByteArray) (⟨#[]⟩ : ByteArray) (⟨#[]⟩ : ByteArray) (⟨#[]⟩ : ByteArray) 0).bind fun bt277 => ((session_Take.f k bt265.1 bt265.2.1 bt265.2.2.1 bt265.2.2.2.1 bt265.2.2.2.2.1 1 0).bind fun bt279 => ((session_Answer.f bt279.1 bt279.2.1 bt279.2.2.1 bt279.2.2.2.1 bt279.2.2.2.2.1 1 (⟨#[120]⟩ : ByteArray)).bind fun bt289 => ((session_Judge.f k bt289.1 bt289.2.1 bt289.2.2.1 bt289.2.2.2.1 bt289.2.2.2.2.1 0 7 1 1 (⟨#[]⟩ : ByteArray) 0 (⟨#[]⟩ : ByteArray) (⟨#[]⟩ : ByteArray) (⟨#[]⟩ : ByteArray) (⟨#[]⟩ : ByteArray) 0).bind fun bt299 => ((session_Judge.f k bt289.1 bt289.2.1 bt289.2.2.1 bt289.2.2.2.1 bt289.2.2.2.2.1 0 7 1 3 (⟨#[]⟩ : ByteArray) 0 (⟨#[]⟩ : ByteArray) (⟨#[]⟩ : ByteArray) (⟨#[]⟩ : ByteArray) (⟨#[]⟩ : ByteArray) 0).bind fun bt301 => (if bt265.2.2.2.2.2.1 = 1 then (if bt265.2.2.2.2.2.2 = 0 then (if bt277.2 = 0 then (if bt279.2.2.2.2.2 = 0 then (if bt289.2.2.2.2.2 = 0 then (if bt299.1.toList = ([120] : List UInt8) then (if bt299.2 = 8 then (some (bt301.2 == 15)) else (some false)) else (some false)) else (some false)) else (some false)) else (some false)) else (some false)) else (some false))))))))) = some r := h
 clear h
 replace H := Option.bind_eq_some_iff.mp H
 obtain ⟨⟨bN, bJ, bK, bO, bP⟩, eG, H⟩ := H
 try dsimp only at H
 have A1 := ak eG
 clear eG
 replace H := Option.bind_eq_some_iff.mp H
 obtain ⟨⟨aK, aG, aH, aL, aM, bC, bD⟩, eH, H⟩ := H
 try dsimp only at H
 have A2 := ak eH
 clear eH
 replace H := Option.bind_eq_some_iff.mp H
 obtain ⟨⟨d2, bE⟩, eI, H⟩ := H
 try dsimp only at H
 have A3 := ak eI
 clear eI
 replace H := Option.bind_eq_some_iff.mp H
 obtain ⟨⟨aR, aO, aP, aS, aT, bF⟩, eJ, H⟩ := H
 try dsimp only at H
 have A4 := ak eJ
 clear eJ
 replace H := Option.bind_eq_some_iff.mp H
 obtain ⟨⟨aI, aJ, aN, aQ, aU, bG⟩, eK, H⟩ := H
 try dsimp only at H
 have A5 := ak eK
 clear eK
 replace H := Option.bind_eq_some_iff.mp H
 obtain ⟨⟨bH, bI⟩, eL, H⟩ := H
 try dsimp only at H
 have A6 := ak eL
 clear eL
 replace H := Option.bind_eq_some_iff.mp H
 obtain ⟨⟨d3, b0⟩, eM, H⟩ := H
 try dsimp only at H
 have A7 := ak eM
 clear eM
 by_cases c8 : bC = 1
 ·rw [if_pos c8] at H
  have d4 : (bC == 1) = true := beq_iff_eq.mpr c8
  have d5 : (bC != 1) = false := bne_eq_false_iff_eq.mpr c8
  clear c8
  by_cases c9 : bD = 0
  ·rw [if_pos c9] at H
   have d6 : (bD == 0) = true := beq_iff_eq.mpr c9
   have d7 : (bD != 0) = false := bne_eq_false_iff_eq.mpr c9
   clear c9
   by_cases bR : bE = 0
   ·rw [if_pos bR] at H
    have b1 : (bE == 0) = true := beq_iff_eq.mpr bR
    have b2 : (bE != 0) = false := bne_eq_false_iff_eq.mpr bR
    clear bR
    by_cases bS : bF = 0
    ·rw [if_pos bS] at H
     have b3 : (bF == 0) = true := beq_iff_eq.mpr bS
     have b4 : (bF != 0) = false := bne_eq_false_iff_eq.mpr bS
     clear bS
     by_cases bT : bG = 0
     ·rw [if_pos bT] at H
      have b5 : (bG == 0) = true := beq_iff_eq.mpr bT
      have b6 : (bG != 0) = false := bne_eq_false_iff_eq.mpr bT
      clear bT
      by_cases bU : bH.toList = ([120] : List UInt8)
      ·rw [if_pos bU] at H
       have b7 : (bH.toList == ([120] : List UInt8)) = true := beq_iff_eq.mpr bU
       have b8 : (bH.toList != ([120] : List UInt8)) = false := bne_eq_false_iff_eq.mpr bU
       clear bU
       by_cases bV : bI = 8
       ·rw [if_pos bV] at H
        have b9 : (bI == 8) = true := beq_iff_eq.mpr bV
        have cA : (bI != 8) = false := bne_eq_false_iff_eq.mpr bV
        clear bV
        obtain rfl := Option.some.inj H
        go_enter Try.func10, Try.ntmps10
        go_wp2_with (first | ((with_reducible refine gate_callee (f := 36) rfl ?_); refine goesL_ (some 13) rfl rfl Try.func36 (by kernel_rfl) rfl #[.int .i64 7] rfl mp ?_; (with_reducible refine (session_New.calls 7 bN bJ bK bO bP _ A1.out).mono ?_); rintro e eZ ⟨eQ, eR, rfl, bL, bM, hb⟩; refine ⟨_, rfl, ?_⟩; have aC := ak (Kd.R_lower bL (below_size (pB HB.out))); have aD := ak (Kd.R_lower bM (below_size (pB HB.out))); replace HB := ak (below_step (pB HB.out) hb); (try clear hb); (try clear hb2); (try clear hk); (try clear hi); (try clear bL); (try clear bM); obtain ⟨bW, bX, d8⟩ := Kd.R_slice aC.out; subst d8; obtain ⟨bY, bZ, d9⟩ := Kd.R_slice aD.out; subst d9) | ((with_reducible refine gate_callee (f := 22) rfl ?_); refine goesL_ (some 14) rfl rfl Try.func22 (by kernel_rfl) rfl #[.agg #[.int .i64 bN, .slice bW bJ.length bX, .slice bY bK.length bZ, .int .i64 bO, .int .u64 bP], .int .i64 0] rfl mp ?_; (with_reducible refine (session_Open.calls k bN (fun k_ => some k_ = (.slice bW bJ.length bX : Value).ownBlock) _ _ bJ (fun k_ => some k_ = (.slice bY bK.length bZ : Value).ownBlock) _ _ bK bO bP 0 aK aG aH aL aM bC bD _ ?side1 ?side2 A2.out).mono ?_); (case side1 => exact Kd.R_V (Kd.R_tight rfl (Kd.R_apart' (aC.out) (Kd.R_typed aD.out) (by decide)))); (case side2 => exact Kd.R_V (Kd.R_tight rfl (Kd.R_apart' (aD.out) (Kd.R_typed aC.out) (by decide)))); rintro e e0 ⟨eS, eT, rfl, bL, bM, hb⟩; refine ⟨_, rfl, ?_⟩; have aE := ak (Kd.V_lower (Kd.V_mono (ok' := fun k_ => True) bL (fun k_ hk_ => trivial)) (below_size (pB HB.out))); have aF := ak (Kd.V_lower (Kd.V_mono (ok' := fun k_ => True) bM (fun k_ hk_ => trivial)) (below_size (pB HB.out))); replace aC := rb aC hb; replace aD := rb aD hb; replace HB := ak (below_step (pB HB.out) hb); (try clear hb); (try clear hb2); (try clear hk); (try clear hi); (try clear bL); (try clear bM)) | ((with_reducible refine gate_dst (N := 1) rfl ?_); refine bv 1 26 #[.int .i64 0, .slice none 0 0, .slice none 0 0, .int .i64 0, .int .u64 0] ?_; intro aA hg e1 hbox hb; obtain ⟨n_, aV⟩ := Cb.bx (pB HB.out) hg hb; have eN := aV; have aB := ak (hbox); replace aC := rb aC hb; replace aD := rb aD hb; replace aE := vb aE aA hg hb; replace aF := vb aF aA hg hb; replace HB := n_; clear n_; clear hb hbox hg; obtain ⟨cB, cC, cD, cE, cF⟩ := Cb.c5 aB.out; obtain ⟨cG, cH, cI, cJ, cK⟩ := Cb.f5 aB.out; obtain ⟨aY, aW, eA⟩ := Kd.V_slice aE.out; subst eA; obtain ⟨aZ, aX, eB⟩ := Kd.V_slice aF.out; subst eB) | ((with_reducible refine gate_callee (f := 11) rfl ?_); refine goesL_ (some 21) rfl rfl Try.func11 (by kernel_rfl) rfl #[.agg #[.int .i64 aK, .slice aY aG.length aW, .slice aZ aH.length aX, .int .i64 aL, .int .u64 aM], .agg #[.int .i64 0, .int .i64 7, .int .i64 1, .int .i64 1, .string (⟨#[]⟩ : ByteArray), .int .i64 0, .string (⟨#[]⟩ : ByteArray), .string (⟨#[]⟩ : ByteArray), .string (⟨#[]⟩ : ByteArray), .string (⟨#[]⟩ : ByteArray), .int .i64 0]] rfl mp ?_; (with_reducible refine (session_Judge.calls k aK _ _ aG _ _ aH aL aM 0 7 1 1 (⟨#[]⟩ : ByteArray) 0 (⟨#[]⟩ : ByteArray) (⟨#[]⟩ : ByteArray) (⟨#[]⟩ : ByteArray) (⟨#[]⟩ : ByteArray) 0 d2 bE _ ?side1 ?side2 ?side3 ?side4 A3.out).mono ?_); (case side1 => refine (Kd.V_reads' (e := 42) (base := w.heap.size) (ok := fun k_ => (True ∧ k_ ≠ aA)) (n := aG.length) (c := aW) ?_).2.2; exact (qv ((vf5 aE.out fun _ hk => hk.2)))); (case side2 => exact (Kd.V_reads' aE.out).2.1); (case side3 => refine (Kd.V_reads' (e := 85) (base := w.heap.size) (ok := fun k_ => (True ∧ k_ ≠ aA)) (n := aH.length) (c := aX) ?_).2.2; exact (qv ((vf5 aF.out fun _ hk => hk.2)))); (case side4 => exact (Kd.V_reads' aF.out).2.1); rintro e e2 ⟨rfl, hb⟩; refine ⟨_, rfl, ?_⟩; replace aC := rx aC aB hb; replace aD := rx aD aB hb; replace aE := vx aE (fun _ hk => hk.2) hb; replace aF := vx aF (fun _ hk => hk.2) hb; replace aB := ak (blk_below (g := aA) (o := .cells #[.int .i64 aK, .slice aY aG.length aW, .slice aZ aH.length aX, .int .i64 aL, .int .u64 aM] 26 (0, 0)) (by exact pq (blk_put (blk_put (blk_put (blk_put (blk_put (pk aB.out) 0 _ rfl) 1 _ rfl) 2 _ rfl) 3 _ rfl) 4 _ rfl)) hb); replace HB := ak (below_step (ua aV.out HB.out) hb); (try clear hb); (try clear hb2); (try clear hk); (try clear hi); obtain ⟨cL, cM, cN, cO, cP⟩ := Cb.c5 aB.out; obtain ⟨cQ, cR, cS, cT, cU⟩ := Cb.f5 aB.out) | ((with_reducible refine gate_callee (f := 12) rfl ?_); refine goesL_ (some 26) rfl rfl Try.func12 (by kernel_rfl) rfl #[.agg #[.int .i64 aK, .slice aY aG.length aW, .slice aZ aH.length aX, .int .i64 aL, .int .u64 aM], .int .i64 1, .int .i64 0] rfl mp ?_; (with_reducible refine (session_Take.calls k aK (fun k_ => (True ∧ k_ ≠ aA)) _ _ aG (fun k_ => (True ∧ k_ ≠ aA)) _ _ aH aL aM 1 0 aR aO aP aS aT bF _ ?side1 ?side2 A4.out).mono ?_); (case side1 => exact aE.out); (case side2 => exact aF.out); rintro e eU ⟨eV, eW, rfl, bL, bM, hb⟩; refine ⟨_, rfl, ?_⟩; have a0 := ak (Kd.V_lower (Kd.V_mono (ok' := fun k_ => k_ ≠ aA) bL (fun k_ hk_ => Or.elim hk_ (fun hs_ => Or.elim hs_ (fun hs_ => hs_.2) (fun hs_ => hs_.2)) (fun hn_ => (Kd.freshB (pk aB.out) k_ hn_)))) (below_size (ua aV.out HB.out))); have a1 := ak (Kd.V_lower (Kd.V_mono (ok' := fun k_ => k_ ≠ aA) bM (fun k_ hk_ => Or.elim hk_ (fun hs_ => Or.elim hs_ (fun hs_ => hs_.2) (fun hs_ => hs_.2)) (fun hn_ => (Kd.freshB (pk aB.out) k_ hn_)))) (below_size (ua aV.out HB.out))); replace aC := rb aC hb; replace aD := rb aD hb; replace aE := vw aE hb; replace aF := vw aF hb; replace aB := bb aB hb; replace HB := ak (below_step (ua aV.out HB.out) hb); (try clear hb); (try clear hb2); (try clear hk); (try clear hi); (try clear bL); (try clear bM); obtain ⟨cV, cW, cX, cY, cZ⟩ := Cb.c5 aB.out; obtain ⟨c0, c1, c2, c3, c4⟩ := Cb.f5 aB.out; obtain ⟨a2, a3, eC⟩ := Kd.V_slice a0.out; subst eC; obtain ⟨a4, a5, eD⟩ := Kd.V_slice a1.out; subst eD) | ((with_reducible refine gate_store (t := 26) (p := 1) rfl ?_); refine store_event (t := 26) (p := 1) (v := ?vo_w29) (w1 := (((((eU.setCell ⟨aA, 0, none⟩ (.int .i64 aR)).setCell ⟨aA, 1, none⟩ (.slice a2 aO.length a3)).setCell ⟨aA, 2, none⟩ (.slice a4 aP.length a5)).setCell ⟨aA, 3, none⟩ (.int .i64 aS)).setCell ⟨aA, 4, none⟩ (.int .u64 aT))) ?hg ?ho ?hn ?hr ?_; (case ho => rfl); (case hg => rfl); (case hn => rfl); (case hr => first | (go_simp; done) | (go_simp; rfl)); intro bQ hw; have n0_ : Aside0 (Kd.R k42 42 bQ w.heap.size (fun _ => True) (.slice bW bJ.length bX) bJ) := ⟨(by rw [hw]; exact (by exact Kd.R_mono (rf5 (Kd.R_types aC.out aB.out (by decide)) fun _ hk => hk.2) (fun _ hk => trivial)))⟩; have n1_ : Aside0 (Kd.R k85 85 bQ w.heap.size (fun _ => True) (.slice bY bK.length bZ) bK) := ⟨(by rw [hw]; exact (by exact Kd.R_mono (rf5 (Kd.R_types aD.out aB.out (by decide)) fun _ hk => hk.2) (fun _ hk => trivial)))⟩; have n2_ : Aside0 (Kd.V k42 42 bQ w.heap.size (fun k_ => k_ ≠ aA) (.slice aY aG.length aW) aG) := ⟨(by rw [hw]; exact (by exact Kd.V_mono (vf5 (Kd.V_mono aE.out (fun k_ hk => (⟨hk, hk.2⟩ : _ ∧ k_ ≠ aA))) fun _ hk => hk.2) (fun _ hk => hk.1.2)))⟩; have n3_ : Aside0 (Kd.V k85 85 bQ w.heap.size (fun k_ => k_ ≠ aA) (.slice aZ aH.length aX) aH) := ⟨(by rw [hw]; exact (by exact Kd.V_mono (vf5 (Kd.V_mono aF.out (fun k_ hk => (⟨hk, hk.2⟩ : _ ∧ k_ ≠ aA))) fun _ hk => hk.2) (fun _ hk => hk.1.2)))⟩; have n4_ : Aside0 (Kd.V k42 42 bQ w.heap.size (fun k_ => k_ ≠ aA) (.slice a2 aO.length a3) aO) := ⟨(by rw [hw]; exact (by exact Kd.V_mono (vf5 (Kd.V_mono a0.out (fun k_ hk => (⟨hk, hk⟩ : _ ∧ k_ ≠ aA))) fun _ hk => hk.2) (fun _ hk => hk.1)))⟩; have n5_ : Aside0 (Kd.V k85 85 bQ w.heap.size (fun k_ => k_ ≠ aA) (.slice a4 aP.length a5) aP) := ⟨(by rw [hw]; exact (by exact Kd.V_mono (vf5 (Kd.V_mono a1.out (fun k_ hk => (⟨hk, hk⟩ : _ ∧ k_ ≠ aA))) fun _ hk => hk.2) (fun _ hk => hk.1)))⟩; have n6_ : Aside0 (bQ.heap[aA]? = some (.cells #[.int .i64 aR, .slice a2 aO.length a3, .slice a4 aP.length a5, .int .i64 aS, .int .u64 aT] 26 (0, 0))) := ⟨(by rw [hw]; exact (by exact blk_put (blk_put (blk_put (blk_put (blk_put aB.out 0 _ rfl) 1 _ rfl) 2 _ rfl) 3 _ rfl) 4 _ rfl))⟩; have n7_ : Aside0 (Below w.heap.size w bQ) := ⟨(by rw [hw]; exact (by repeat (first | exact HB.out | refine bs ?_ aV.out)))⟩; clear hw; clear aC; clear aD; clear aE; clear aF; clear a0; clear a1; clear aB; clear HB; have aC := n0_; have aD := n1_; have aE := n2_; have aF := n3_; have a0 := n4_; have a1 := n5_; have aB := n6_; have HB := n7_; clear n0_ n1_ n2_ n3_ n4_ n5_ n6_ n7_; obtain ⟨c6, c7, dA, dB, dC⟩ := Cb.c5 aB.out; obtain ⟨dD, dE, dF, dG, dH⟩ := Cb.f5 aB.out) | ((with_reducible refine gate_callee (f := 13) rfl ?_); refine goesL_ (some 31) rfl rfl Try.func13 (by kernel_rfl) rfl #[.agg #[.int .i64 aR, .slice a2 aO.length a3, .slice a4 aP.length a5, .int .i64 aS, .int .u64 aT], .int .i64 1, .string (⟨#[120]⟩ : ByteArray)] rfl mp ?_; (with_reducible refine (session_Answer.calls aR (fun k_ => k_ ≠ aA) _ _ aO (fun k_ => k_ ≠ aA) _ _ aP aS aT 1 (⟨#[120]⟩ : ByteArray) aI aJ aN aQ aU bG _ ?side1 ?side2 A5.out).mono ?_); (case side1 => exact a0.out); (case side2 => exact a1.out); rintro e e3 ⟨eX, eY, rfl, bL, bM, hb⟩; refine ⟨_, rfl, ?_⟩; have bA := ak (Kd.V_lower (Kd.V_mono (ok' := fun k_ => k_ ≠ aA) bL (fun k_ hk_ => Or.elim hk_ (fun hs_ => Or.elim hs_ (fun hs_ => hs_) (fun hs_ => hs_)) (fun hn_ => (Kd.freshB (pk aB.out) k_ hn_)))) (below_size (ua aV.out HB.out))); have bB := ak (Kd.V_lower (Kd.V_mono (ok' := fun k_ => k_ ≠ aA) bM (fun k_ hk_ => Or.elim hk_ (fun hs_ => Or.elim hs_ (fun hs_ => hs_) (fun hs_ => hs_)) (fun hn_ => (Kd.freshB (pk aB.out) k_ hn_)))) (below_size (ua aV.out HB.out))); replace aC := rb aC hb; replace aD := rb aD hb; replace aE := vw aE hb; replace aF := vw aF hb; replace a0 := vw a0 hb; replace a1 := vw a1 hb; replace aB := bb aB hb; replace HB := ak (below_step (ua aV.out HB.out) hb); (try clear hb); (try clear hb2); (try clear hk); (try clear hi); (try clear bL); (try clear bM); obtain ⟨dI, dJ, dK, dL, dM⟩ := Cb.c5 aB.out; obtain ⟨dN, dO, dP, dQ, dR⟩ := Cb.f5 aB.out; obtain ⟨a7, a6, eE⟩ := Kd.V_slice bA.out; subst eE; obtain ⟨a9, a8, eF⟩ := Kd.V_slice bB.out; subst eF) | ((with_reducible refine gate_callee (f := 11) rfl ?_); refine goesL_ (some 37) rfl rfl Try.func11 (by kernel_rfl) rfl #[.agg #[.int .i64 aI, .slice a7 aJ.length a6, .slice a9 aN.length a8, .int .i64 aQ, .int .u64 aU], .agg #[.int .i64 0, .int .i64 7, .int .i64 1, .int .i64 1, .string (⟨#[]⟩ : ByteArray), .int .i64 0, .string (⟨#[]⟩ : ByteArray), .string (⟨#[]⟩ : ByteArray), .string (⟨#[]⟩ : ByteArray), .string (⟨#[]⟩ : ByteArray), .int .i64 0]] rfl mp ?_; (with_reducible refine (session_Judge.calls k aI _ _ aJ _ _ aN aQ aU 0 7 1 1 (⟨#[]⟩ : ByteArray) 0 (⟨#[]⟩ : ByteArray) (⟨#[]⟩ : ByteArray) (⟨#[]⟩ : ByteArray) (⟨#[]⟩ : ByteArray) 0 bH bI _ ?side1 ?side2 ?side3 ?side4 A6.out).mono ?_); (case side1 => refine (Kd.V_reads' (e := 42) (base := w.heap.size) (ok := fun k_ => k_ ≠ aA) (n := aJ.length) (c := a6) ?_).2.2; exact (qv ((vf5 bA.out fun _ hk => hk)))); (case side2 => exact (Kd.V_reads' bA.out).2.1); (case side3 => refine (Kd.V_reads' (e := 85) (base := w.heap.size) (ok := fun k_ => k_ ≠ aA) (n := aN.length) (c := a8) ?_).2.2; exact (qv ((vf5 bB.out fun _ hk => hk)))); (case side4 => exact (Kd.V_reads' bB.out).2.1); rintro e e4 ⟨rfl, hb⟩; refine ⟨_, rfl, ?_⟩; replace aC := rx aC aB hb; replace aD := rx aD aB hb; replace aE := vx aE (fun _ hk => hk) hb; replace aF := vx aF (fun _ hk => hk) hb; replace a0 := vx a0 (fun _ hk => hk) hb; replace a1 := vx a1 (fun _ hk => hk) hb; replace bA := vx bA (fun _ hk => hk) hb; replace bB := vx bB (fun _ hk => hk) hb; replace aB := ak (blk_below (g := aA) (o := .cells #[.int .i64 aI, .slice a7 aJ.length a6, .slice a9 aN.length a8, .int .i64 aQ, .int .u64 aU] 26 (0, 0)) (by exact pq (blk_put (blk_put (blk_put (blk_put (blk_put (pk aB.out) 0 _ rfl) 1 _ rfl) 2 _ rfl) 3 _ rfl) 4 _ rfl)) hb); replace HB := ak (below_step (ua aV.out HB.out) hb); (try clear hb); (try clear hb2); (try clear hk); (try clear hi); obtain ⟨dS, dT, dU, dV, dW⟩ := Cb.c5 aB.out; obtain ⟨dX, dY, dZ, d0, d1⟩ := Cb.f5 aB.out) | ((with_reducible refine gate_callee (f := 11) rfl ?_); refine goesL_ (some 43) rfl rfl Try.func11 (by kernel_rfl) rfl #[.agg #[.int .i64 aI, .slice a7 aJ.length a6, .slice a9 aN.length a8, .int .i64 aQ, .int .u64 aU], .agg #[.int .i64 0, .int .i64 7, .int .i64 1, .int .i64 3, .string (⟨#[]⟩ : ByteArray), .int .i64 0, .string (⟨#[]⟩ : ByteArray), .string (⟨#[]⟩ : ByteArray), .string (⟨#[]⟩ : ByteArray), .string (⟨#[]⟩ : ByteArray), .int .i64 0]] rfl mp ?_; (with_reducible refine (session_Judge.calls k aI _ _ aJ _ _ aN aQ aU 0 7 1 3 (⟨#[]⟩ : ByteArray) 0 (⟨#[]⟩ : ByteArray) (⟨#[]⟩ : ByteArray) (⟨#[]⟩ : ByteArray) (⟨#[]⟩ : ByteArray) 0 d3 b0 _ ?side1 ?side2 ?side3 ?side4 A7.out).mono ?_); (case side1 => exact pc (Kd.V_reads' bA.out).2.2); (case side2 => exact (Kd.V_reads' bA.out).2.1); (case side3 => exact pc (Kd.V_reads' bB.out).2.2); (case side4 => exact (Kd.V_reads' bB.out).2.1); rintro e e5 ⟨rfl, hb⟩; refine ⟨_, rfl, ?_⟩; replace aC := rb aC hb; replace aD := rb aD hb; replace aE := vw aE hb; replace aF := vw aF hb; replace a0 := vw a0 hb; replace a1 := vw a1 hb; replace bA := vw bA hb; replace bB := vw bB hb; replace aB := bb aB hb; replace HB := ak (below_step (ua aV.out HB.out) hb); (try clear hb); (try clear hb2); (try clear hk); (try clear hi)))
        first | go_ret | ((try simp only [Exit.inBlock, Exit.then]); refine bodyPost_ret (results_tmp rfl _ _ _) ?hd_ ?hR_; (case hd_ => rfl))
        exact ⟨by first | rfl | (simp [errW_none, errW_some] <;> rfl) | (simp [*, errW_none, errW_some] <;> rfl), ua aV.out HB.out⟩
       ·rw [if_neg bV] at H
        have b9 : (bI == 8) = false := beq_eq_false_iff_ne.mpr bV
        have cA : (bI != 8) = true := bne_iff_ne.mpr bV
        obtain rfl := Option.some.inj H
        exact absurd hr_ (by decide)
      ·rw [if_neg bU] at H
       have b7 : (bH.toList == ([120] : List UInt8)) = false := beq_eq_false_iff_ne.mpr bU
       have b8 : (bH.toList != ([120] : List UInt8)) = true := bne_iff_ne.mpr bU
       obtain rfl := Option.some.inj H
       exact absurd hr_ (by decide)
     ·rw [if_neg bT] at H
      have b5 : (bG == 0) = false := beq_eq_false_iff_ne.mpr bT
      have b6 : (bG != 0) = true := bne_iff_ne.mpr bT
      obtain rfl := Option.some.inj H
      exact absurd hr_ (by decide)
    ·rw [if_neg bS] at H
     have b3 : (bF == 0) = false := beq_eq_false_iff_ne.mpr bS
     have b4 : (bF != 0) = true := bne_iff_ne.mpr bS
     obtain rfl := Option.some.inj H
     exact absurd hr_ (by decide)
   ·rw [if_neg bR] at H
    have b1 : (bE == 0) = false := beq_eq_false_iff_ne.mpr bR
    have b2 : (bE != 0) = true := bne_iff_ne.mpr bR
    obtain rfl := Option.some.inj H
    exact absurd hr_ (by decide)
  ·rw [if_neg c9] at H
   have d6 : (bD == 0) = false := beq_eq_false_iff_ne.mpr c9
   have d7 : (bD != 0) = true := bne_iff_ne.mpr c9
   obtain rfl := Option.some.inj H
   exact absurd hr_ (by decide)
 ·rw [if_neg c8] at H
  have d4 : (bC == 1) = false := beq_eq_false_iff_ne.mpr c8
  have d5 : (bC != 1) = true := bne_iff_ne.mpr c8
  obtain rfl := Option.some.inj H
  exact absurd hr_ (by decide)

theorem stanchionlaw17_shown.now : stanchionlaw17_shown.f 100 = some true := by decide +kernel
theorem stanchionlaw17_shown.more : ∀ (n k : Nat) (r : Bool), stanchionlaw17_shown.f k = some r → stanchionlaw17_shown.f (k + n) = some r
 | 0, _, _, h => h
 | n + 1, k, r, h => stanchionlaw17_shown.mono (k + n) r (stanchionlaw17_shown.more n k r h)
theorem stanchionlaw17_shown.tells (k : Nat) (r : Bool) (h : stanchionlaw17_shown.f k  = some r) : r = true := by
 have h1 := stanchionlaw17_shown.more 100 k r h
 have h2 := stanchionlaw17_shown.more k 100 true stanchionlaw17_shown.now
 rw [Nat.add_comm] at h2
 exact Option.some.inj (h1.symm.trans h2)
theorem stanchionlaw17_shown.calls (k : Nat)  (r : Bool) (w : World) (h : stanchionlaw17_shown.f k  = some r) :
 Calls Try.prog 10 #[] w fun e w' => e = .returned (.bool r) ∧ Below w.heap.size w w' := stanchionlaw17_shown_t.calls k r w h (stanchionlaw17_shown.tells k r h)
end Go.Proofs.Ytnpmjboofmdflaa.PA
