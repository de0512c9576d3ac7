-- Made by a program of this workplace out of the translation (wip/tools in the repo). Not trusted: Lean checks it.
import Derived.Test.YtnpmjboofmdflaaPAx0
import Derived.Test.YtnpmjboofmdflaaCb
import Derived.Test.YtnpmjboofmdflaaSq
import Derived.Test.YtnpmjboofmdflaaTq
import Derived.Test.YtnpmjboofmdflaaPAx3
import Derived.Test.YtnpmjboofmdflaaPAx4
namespace Go.Proofs.Ytnpmjboofmdflaa.PA
open Go.RowKit Go.Proofs.YtnpmjboofmdflaaW.PrintWords Go.Proofs.YtnpmjboofmdflaaW.PrintLast Go.Proofs.YtnpmjboofmdflaaW.PrintMore Go.Proofs.Ytnpmjboofmdflaa
attribute [local go_sem] max2_int min2_int max_two min_two max_three min_three max_four min_four   -- for this text's walks alone
set_option linter.unusedVariables false
set_option linter.unusedSimpArgs false

/-! ### session_Judge: function 11 -/
set_option maxHeartbeats 8000000 in
set_option maxRecDepth 100000 in
theorem session_Judge.calls (k : Nat) (aS : Int) (a8 : Option Addr) (a9 : Nat) (aU : List (S42)) (bA : Option Addr) (bB : Nat) (aV : List (S85)) (a4 : Int) (a5 : Int) (aX : Int) (aQ : Int) (aP : Int) (aI : Int) (aY : ByteArray) (aZ : Int) (a0 : ByteArray) (a1 : ByteArray) (a2 : ByteArray) (a3 : ByteArray) (aO : Int) (r1 : ByteArray) (r2 : Int) (w : World) (lZ : Kd.C k42 w a8 aU.length aU) (l0 : aU.length ≤ a9) (l1 : Kd.C k85 w bA aV.length aV) (l2 : aV.length ≤ bB) (h : session_Judge.f k aS aU aV a4 a5 aX aQ aP aI aY aZ a0 a1 a2 a3 aO = some (r1, r2)) :
  Calls Try.prog 11 #[.agg #[.int .i64 aS, .slice a8 aU.length a9, .slice bA aV.length bB, .int .i64 a4, .int .u64 a5], .agg #[.int .i64 aX, .int .i64 aQ, .int .i64 aP, .int .i64 aI, .string aY, .int .i64 aZ, .string a0, .string a1, .string a2, .string a3, .int .i64 aO]] w fun e w' => e = .returned (.tuple #[.string r1, .int .i64 r2]) ∧ Below w.heap.size w w' := by
 have v0 := Try.underlying26
 have v1 := Try.underlying30
 have v2 := Try.underlying42
 have bV := ak lZ
 have bW := ak l0
 clear lZ l0
 have bX := ak l1
 have bY := ak l2
 clear l1 l2
 have HB := ak (Below.refl w.heap.size w)
 have H : ((session_Find.f aS aU aV a4 a5 aP).bind fun bt119 => (if aQ = aS then (if bt119.2.2.2.2.2.2 = true then (if aI < 1 then (some ((⟨#[]⟩ : ByteArray), 15)) else (if aI = bt119.2.1 then (session_Judge.j0 k bt119.2.2.1 aX aQ aP aI aY aZ a0 a1 a2 a3 aO bt119.1 bt119.2.1 bt119.2.2.1 bt119.2.2.2.1 bt119.2.2.2.2.1 bt119.2.2.2.2.2.1) else (session_Judge.j0 k false aX aQ aP aI aY aZ a0 a1 a2 a3 aO bt119.1 bt119.2.1 bt119.2.2.1 bt119.2.2.2.1 bt119.2.2.2.2.1 bt119.2.2.2.2.2.1))) else (some ((⟨#[]⟩ : ByteArray), 7))) else (some ((⟨#[]⟩ : ByteArray), 14)))) = some (r1, r2) := h
 clear h
 replace H := Option.bind_eq_some_iff.mp H
 obtain ⟨⟨aT, aK, aR, aW, a6, a7, l8⟩, tZ, H⟩ := H
 try dsimp only at H
 have A3 := ak tZ
 clear tZ
 by_cases c4 : aQ = aS
 ·rw [if_pos c4] at H
  have l9 : (aQ == aS) = true := beq_iff_eq.mpr c4
  have mA : (aQ != aS) = false := bne_eq_false_iff_eq.mpr c4
  clear c4
  by_cases c5 : l8 = true
  ·subst c5
   have H1 : (if aI < 1 then (some ((⟨#[]⟩ : ByteArray), 15)) else (if aI = aK then (session_Judge.j0 k aR aX aQ aP aI aY aZ a0 a1 a2 a3 aO aT aK aR aW a6 a7) else (session_Judge.j0 k false aX aQ aP aI aY aZ a0 a1 a2 a3 aO aT aK aR aW a6 a7))) = some (r1, r2) := by rw [if_pos rfl] at H; exact H
   clear H
   have H := H1
   clear H1
   by_cases c6 : aI < 1
   ·rw [if_pos c6] at H
    have mB : decide (aI < 1) = true := decide_eq_true c6
    clear c6
    simp only [Option.some.injEq, Prod.mk.injEq] at H
    obtain ⟨rfl, rfl⟩ := H
    go_enter Try.func11, Try.ntmps11
    go_wp2_with (first | ((with_reducible refine gate_dst (N := 2) rfl ?_); refine bv 2 26 #[.int .i64 aS, .slice a8 aU.length a9, .slice bA aV.length bB, .int .i64 a4, .int .u64 a5] ?_; intro bG hg w7 hbox hb; obtain ⟨n_, aL⟩ := Cb.bx (pB HB.out) hg hb; have h0 := aL; have aD := ak (hbox); replace HB := n_; clear n_; clear hb hbox hg) | ((with_reducible refine gate_dst (N := 3) rfl ?_); refine bv 3 30 #[.int .i64 aX, .int .i64 aQ, .int .i64 aP, .int .i64 aI, .string aY, .int .i64 aZ, .string a0, .string a1, .string a2, .string a3, .int .i64 aO] ?_; intro bH hg w8 hbox hb; obtain ⟨n_, aM⟩ := Cb.bx (ua aL.out HB.out) hg hb; have h1 := aM; obtain ⟨aE, aF⟩ := Cb.nb hg aD.out; have aC := ak (hbox); replace aD := bb aD hb; replace HB := n_; clear n_; clear hb hbox hg; have v3 := aE.out; have v4 := aF.out; obtain ⟨bZ, b0, b1, b2, b3⟩ := Cb.c5 aD.out; obtain ⟨b4, b5, b6, b7, b8⟩ := Cb.f5 aD.out; obtain ⟨b9, cA, cB, cC, cD, cE, cF, cG, cH, cI, bI⟩ := Cb.c11 aC.out; obtain ⟨cJ, cK, cL, cM, cN, cO, cP, cQ, cR, cS, bJ⟩ := Cb.f11 aC.out) | ((with_reducible refine gate_callee (f := 14) rfl ?_); refine goesL_ (some 12) rfl rfl Try.func14 (by kernel_rfl) rfl #[.agg #[.int .i64 aS, .slice a8 aU.length a9, .slice bA aV.length bB, .int .i64 a4, .int .u64 a5], .int .i64 aP] rfl mp ?_; (with_reducible refine (session_Find.calls aS _ _ aU _ _ aV a4 a5 aP aT aK aR aW a6 a7 true _ ?side1 ?side2 ?side3 ?side4 A3.out).mono ?_); (case side1 => exact pc (Kd.C_below bV.out HB.out)); (case side2 => exact bW.out); (case side3 => exact pc (Kd.C_below bX.out HB.out)); (case side4 => exact bY.out); rintro e v8 ⟨rfl, hb⟩; refine ⟨_, rfl, ?_⟩; replace aD := bb aD hb; replace aC := bb aC hb; replace HB := ak (below_step (ub aL.out aM.out HB.out) hb); (try clear hb); (try clear hb2); (try clear hk); (try clear hi)) | ((with_reducible refine gate_dst (N := 6) rfl ?_); refine bv 6 42 #[.int .i64 0, .int .i64 0, .bool false, .string (⟨#[]⟩ : ByteArray), .int .i64 0, .int .i64 0] ?_; intro bK hg v9 hbox hb; obtain ⟨n_, aN⟩ := Cb.bx (ub aL.out aM.out HB.out) hg hb; have h2 := aN; obtain ⟨aA, aG⟩ := Cb.nb hg aD.out; obtain ⟨aB, aH⟩ := Cb.nb hg aC.out; have aJ := ak (hbox); replace aD := bb aD hb; replace aC := bb aC hb; replace HB := n_; clear n_; clear hb hbox hg; have t0 := aG.out; have t1 := aA.out; have t2 := aH.out; have t3 := aB.out; obtain ⟨cT, cU, cV, cW, cX, cY⟩ := Cb.c6 aJ.out; obtain ⟨cZ, c0, c7, c8, dA, dB⟩ := Cb.f6 aJ.out; obtain ⟨dC, dD, dE, dF, dG, dH, dI, dJ, dK, dL, bL⟩ := Cb.c11 aC.out; obtain ⟨dM, dN, dO, dP, dQ, dR, dS, dT, dU, dV, bM⟩ := Cb.f11 aC.out; obtain ⟨dW, dX, dY, dZ, d0⟩ := Cb.c5 aD.out; obtain ⟨d1, d2, d3, d4, d5⟩ := Cb.f5 aD.out))
    go_ret2
    exact ⟨by first | rfl | (simp [errW_none, errW_some] <;> rfl) | (simp [*, errW_none, errW_some] <;> rfl), uc aL.out aM.out aN.out HB.out⟩
   ·rw [if_neg c6] at H
    have mB : decide (aI < 1) = false := decide_eq_false c6
    clear c6
    have mC := ak H
    clear H
    go_enter Try.func11, Try.ntmps11
    go_upto_region 5 with (first | ((with_reducible refine gate_dst (N := 2) rfl ?_); refine bv 2 26 #[.int .i64 aS, .slice a8 aU.length a9, .slice bA aV.length bB, .int .i64 a4, .int .u64 a5] ?_; intro bG hg wA hbox hb; obtain ⟨n_, aL⟩ := Cb.bx (pB HB.out) hg hb; have h0 := aL; have aD := ak (hbox); replace HB := n_; clear n_; clear hb hbox hg) | ((with_reducible refine gate_dst (N := 3) rfl ?_); refine bv 3 30 #[.int .i64 aX, .int .i64 aQ, .int .i64 aP, .int .i64 aI, .string aY, .int .i64 aZ, .string a0, .string a1, .string a2, .string a3, .int .i64 aO] ?_; intro bH hg wB hbox hb; obtain ⟨n_, aM⟩ := Cb.bx (ua aL.out HB.out) hg hb; have h1 := aM; obtain ⟨aE, aF⟩ := Cb.nb hg aD.out; have aC := ak (hbox); replace aD := bb aD hb; replace HB := n_; clear n_; clear hb hbox hg; have t4 := aE.out; have t5 := aF.out; obtain ⟨d6, d7, d8, d9, eA⟩ := Cb.c5 aD.out; obtain ⟨eB, eC, eD, eE, eF⟩ := Cb.f5 aD.out; obtain ⟨eG, eH, eI, eJ, eK, eL, eM, eN, eO, eP, bN⟩ := Cb.c11 aC.out; obtain ⟨eQ, eR, eS, eT, eU, eV, eW, eX, eY, eZ, bO⟩ := Cb.f11 aC.out) | ((with_reducible refine gate_callee (f := 14) rfl ?_); refine goesL_ (some 12) rfl rfl Try.func14 (by kernel_rfl) rfl #[.agg #[.int .i64 aS, .slice a8 aU.length a9, .slice bA aV.length bB, .int .i64 a4, .int .u64 a5], .int .i64 aP] rfl mp ?_; (with_reducible refine (session_Find.calls aS _ _ aU _ _ aV a4 a5 aP aT aK aR aW a6 a7 true _ ?side1 ?side2 ?side3 ?side4 A3.out).mono ?_); (case side1 => exact pc (Kd.C_below bV.out HB.out)); (case side2 => exact bW.out); (case side3 => exact pc (Kd.C_below bX.out HB.out)); (case side4 => exact bY.out); rintro e wC ⟨rfl, hb⟩; refine ⟨_, rfl, ?_⟩; replace aD := bb aD hb; replace aC := bb aC hb; replace HB := ak (below_step (ub aL.out aM.out HB.out) hb); (try clear hb); (try clear hb2); (try clear hk); (try clear hi)) | ((with_reducible refine gate_dst (N := 6) rfl ?_); refine bv 6 42 #[.int .i64 0, .int .i64 0, .bool false, .string (⟨#[]⟩ : ByteArray), .int .i64 0, .int .i64 0] ?_; intro bK hg wD hbox hb; obtain ⟨n_, aN⟩ := Cb.bx (ub aL.out aM.out HB.out) hg hb; have h2 := aN; obtain ⟨aA, aG⟩ := Cb.nb hg aD.out; obtain ⟨aB, aH⟩ := Cb.nb hg aC.out; have aJ := ak (hbox); replace aD := bb aD hb; replace aC := bb aC hb; replace HB := n_; clear n_; clear hb hbox hg; have t6 := aG.out; have t7 := aA.out; have t8 := aH.out; have t9 := aB.out; obtain ⟨e0, e1, e2, e3, e4, e5⟩ := Cb.c6 aJ.out; obtain ⟨e6, e7, e8, e9, fA, fB⟩ := Cb.f6 aJ.out; obtain ⟨fC, fD, fE, fF, fG, fH, fI, fJ, fK, fL, bP⟩ := Cb.c11 aC.out; obtain ⟨fM, fN, fO, fP, fQ, fR, fS, fT, fU, fV, bQ⟩ := Cb.f11 aC.out; obtain ⟨fW, fX, fY, fZ, f0⟩ := Cb.c5 aD.out; obtain ⟨f1, f2, f3, f4, f7⟩ := Cb.f5 aD.out))
    (try simp only [Act.put, List.setIfInBounds_toArray, List.set_cons_zero, List.set_cons_succ])
    go_cut [28] (fun v28 wc => ∃ (kq : Nat) (bE : Bool), v28 = .bool bE ∧ Aside0 (session_Judge.j0 kq bE aX aQ aP aI aY aZ a0 a1 a2 a3 aO aT aK aR aW a6 a7 = some (r1, r2)) ∧ Aside0 (kq ≤ k) ∧ Aside0 (wc.heap[bG]? = some (.cells #[.int .i64 aS, (.slice a8 aU.length a9), (.slice bA aV.length bB), .int .i64 a4, .int .u64 a5] 26 (0, 0))) ∧ Aside0 (wc.heap[bH]? = some (.cells #[.int .i64 aX, .int .i64 aQ, .int .i64 aP, .int .i64 aI, .string aY, .int .i64 aZ, .string a0, .string a1, .string a2, .string a3, .int .i64 aO] 30 (0, 0))) ∧ Aside0 (wc.heap[bK]? = some (.cells #[.int .i64 aT, .int .i64 aK, .bool aR, .string aW, .int .i64 a6, .int .i64 a7] 42 (0, 0))) ∧ Aside0 (Below w.heap.size w wc))
    case first =>
     have H := mC.out
     clear mC
     by_cases iC : aI = aK
     ·rw [if_pos iC] at H
      have bC : (aI == aK) = true := beq_iff_eq.mpr iC
      have h3 : (aI != aK) = false := bne_eq_false_iff_eq.mpr iC
      clear iC
      (first | rw [bC] | (simp only [i64_w, i32_w]; rw [bC]) | skip)
      have H' := ak H
      clear H
      have uA := aF.out
      have uB := aE.out
      have uC := aB.out
      have uD := aH.out
      obtain ⟨f8, f9, gA, gB, gC, gD, gE, gF, gG, gH, bR⟩ := Cb.c11 aC.out
      obtain ⟨gI, gJ, gK, gL, gM, gN, gO, gP, gQ, gR, bS⟩ := Cb.f11 aC.out
      have uE := aG.out
      have uF := aA.out
      obtain ⟨gS, gT, gU, gV, gW, gX⟩ := Cb.c6 aJ.out
      obtain ⟨gY, gZ, g0, g1, g2, g3⟩ := Cb.f6 aJ.out
      go_wp2
      go_meet
      case rel => exact ⟨_, (aR), es, H', ⟨by first | omega | exact Nat.le_refl _⟩, ⟨by exact pq (blk_far (blk_far (blk_far (blk_far (blk_far (blk_far (pk aD.out) aA.out _) aA.out _) aA.out _) aA.out _) aA.out _) aA.out _)⟩, ⟨by exact pq (blk_far (blk_far (blk_far (blk_far (blk_far (blk_far (pk aC.out) aB.out _) aB.out _) aB.out _) aB.out _) aB.out _) aB.out _)⟩, ⟨by exact pq (blk_put (blk_put (blk_put (blk_put (blk_put (blk_put (pk aJ.out) 0 _ rfl) 1 _ rfl) 2 _ rfl) 3 _ rfl) 4 _ rfl) 5 _ rfl)⟩, ⟨uc aL.out aM.out aN.out HB.out⟩⟩
     ·rw [if_neg iC] at H
      have bC : (aI == aK) = false := beq_eq_false_iff_ne.mpr iC
      have h3 : (aI != aK) = true := bne_iff_ne.mpr iC
      (first | rw [bC] | (simp only [i64_w, i32_w]; rw [bC]) | skip)
      have H' := ak H
      clear H
      have uG := aF.out
      have uH := aE.out
      have uI := aB.out
      have uJ := aH.out
      obtain ⟨g4, g5, g6, g7, g8, g9, hA, hB, hC, hD, bT⟩ := Cb.c11 aC.out
      obtain ⟨hE, hF, hG, hH, hI, hJ, hK, hL, hM, hN, bU⟩ := Cb.f11 aC.out
      have uK := aG.out
      have uL := aA.out
      obtain ⟨hO, hP, hQ, hR, hS, hT⟩ := Cb.c6 aJ.out
      obtain ⟨hU, hV, hW, hX, hY, hZ⟩ := Cb.f6 aJ.out
      go_wp2
      go_meet
      case rel => exact ⟨_, (false), es, H', ⟨by first | omega | exact Nat.le_refl _⟩, ⟨by exact pq (blk_far (blk_far (blk_far (blk_far (blk_far (blk_far (pk aD.out) aA.out _) aA.out _) aA.out _) aA.out _) aA.out _) aA.out _)⟩, ⟨by exact pq (blk_far (blk_far (blk_far (blk_far (blk_far (blk_far (pk aC.out) aB.out _) aB.out _) aB.out _) aB.out _) aB.out _) aB.out _)⟩, ⟨by exact pq (blk_put (blk_put (blk_put (blk_put (blk_put (blk_put (pk aJ.out) 0 _ rfl) 1 _ rfl) 2 _ rfl) 3 _ rfl) 4 _ rfl) 5 _ rfl)⟩, ⟨uc aL.out aM.out aN.out HB.out⟩⟩
    case rest =>
     clear mC
     try clear c1 c2 p2 c3 c4 l9 mA c5 c6 mB c9 c11 c14 c15 c22 c27 c28 iC bC h3 c33 c34 c36 c38 c39 c41 bZ b0 b1 b2 b3 b9 cA bI cB cC cD cE cF cG cH cI cT cU cV cW cX cY dC dD bL dE dF dG dH dI dJ dK dL dW dX dY dZ d0 d6 d7 d8 d9 eA eG eH bN eI eJ eK eL eM eN eO eP e0 e1 e2 e3 e4 e5 fC fD bP fE fF fG fH fI fJ fK fL fW fX fY fZ f0 f8 f9 bR gA gB gC gD gE gF gG gH gS gT gU gV gW gX g4 g5 bT g6 g7 g8 g9 hA hB hC hD hO hP hQ hR hS hT b4 b5 b6 b7 b8 cJ cK bJ cL cM cN cO cP cQ cR cS cZ c0 c7 c8 dA dB dM dN bM dO dP dQ dR dS dT dU dV d1 d2 d3 d4 d5 eB eC eD eE eF eQ eR bO eS eT eU eV eW eX eY eZ e6 e7 e8 e9 fA fB fM fN bQ fO fP fQ fR fS fT fU fV f1 f2 f3 f4 f7 gI gJ bS gK
     try clear gL gM gN gO gP gQ gR gY gZ g0 g1 g2 g3 hE hF bU hG hH hI hJ hK hL hM hN hU hV hW hX hY hZ
     obtain ⟨kq, bE, rfl, HA, mK, aD, aC, aJ, HB⟩ := hcut
     cases kq with
     | zero => exact absurd HA.out (by simp [session_Judge.j0])
     | succ kj18 =>
      have H := HA.out
      clear HA
      simp only [session_Judge.j0] at H
      by_cases mL : bE = true
      ·subst mL
       have H1 : (some ((⟨#[]⟩ : ByteArray), 12)) = some (r1, r2) := by rw [if_pos rfl] at H; exact H
       clear H
       have H := H1
       clear H1
       simp only [Option.some.injEq, Prod.mk.injEq] at H
       obtain ⟨rfl, rfl⟩ := H
       go_wp2
       go_ret2
       exact ⟨by first | rfl | (simp [errW_none, errW_some] <;> rfl) | (simp [*, errW_none, errW_some] <;> rfl), uc aL.out aM.out aN.out HB.out⟩
      ·replace mL := Bool.eq_false_iff.mpr mL
       subst mL
       have H1 : (if aI = aK then (some (aW, 8)) else (if aI = (wrap64 (aK + 1)) then (session_Judge.j1 kj18 aR aX aQ aP aI aY aZ a0 a1 a2 a3 aO aT aK aR aW a6 a7) else (session_Judge.j1 kj18 false aX aQ aP aI aY aZ a0 a1 a2 a3 aO aT aK aR aW a6 a7))) = some (r1, r2) := by rw [if_neg (show ¬ (false = true) by decide)] at H; exact H
       clear H
       have H := H1
       clear H1
       by_cases l3 : aI = aK
       ·rw [if_pos l3] at H
        have l4 : (aI == aK) = true := beq_iff_eq.mpr l3
        have l5 : (aI != aK) = false := bne_eq_false_iff_eq.mpr l3
        clear l3
        simp only [Option.some.injEq, Prod.mk.injEq] at H
        obtain ⟨rfl, rfl⟩ := H
        have uM := aF.out
        have uN := aE.out
        have uO := aB.out
        have uP := aH.out
        obtain ⟨iD, iE, iF, iG, iH, iI, iJ, iK, iL, iM, h4⟩ := Cb.c11 aC.out
        obtain ⟨iN, iO, iP, iQ, iR, iS, iT, iU, iV, iW, h5⟩ := Cb.f11 aC.out
        have uQ := aG.out
        have uR := aA.out
        obtain ⟨iX, iY, iZ, i0, i1, i2⟩ := Cb.c6 aJ.out
        obtain ⟨i3, i4, i5, i6, i7, i8⟩ := Cb.f6 aJ.out
        go_wp2
        go_ret2
        exact ⟨by first | rfl | (simp [errW_none, errW_some] <;> rfl) | (simp [*, errW_none, errW_some] <;> rfl), uc aL.out aM.out aN.out HB.out⟩
       ·rw [if_neg l3] at H
        have l4 : (aI == aK) = false := beq_eq_false_iff_ne.mpr l3
        have l5 : (aI != aK) = true := bne_iff_ne.mpr l3
        have mD := ak H
        clear H
        have uS := aF.out
        have uT := aE.out
        have uU := aB.out
        have uV := aH.out
        obtain ⟨i9, jA, jB, jC, jD, jE, jF, jG, jH, jI, h6⟩ := Cb.c11 aC.out
        obtain ⟨jJ, jK, jL, jM, jN, jO, jP, jQ, jR, jS, h7⟩ := Cb.f11 aC.out
        have uW := aG.out
        have uX := aA.out
        obtain ⟨jT, jU, jV, jW, jX, jY⟩ := Cb.c6 aJ.out
        obtain ⟨jZ, j2, j3, j4, j5, j6⟩ := Cb.f6 aJ.out
        go_upto_region 7 with (fail)
        go_cut [44] (fun v44 wc => ∃ (kq : Nat) (bF : Bool), v44 = .bool bF ∧ Aside0 (session_Judge.j1 kq bF aX aQ aP aI aY aZ a0 a1 a2 a3 aO aT aK aR aW a6 a7 = some (r1, r2)) ∧ Aside0 (kq ≤ kj18) ∧ Aside0 (wc.heap[bG]? = some (.cells #[.int .i64 aS, (.slice a8 aU.length a9), (.slice bA aV.length bB), .int .i64 a4, .int .u64 a5] 26 (0, 0))) ∧ Aside0 (wc.heap[bH]? = some (.cells #[.int .i64 aX, .int .i64 aQ, .int .i64 aP, .int .i64 aI, .string aY, .int .i64 aZ, .string a0, .string a1, .string a2, .string a3, .int .i64 aO] 30 (0, 0))) ∧ Aside0 (wc.heap[bK]? = some (.cells #[.int .i64 aT, .int .i64 aK, .bool aR, .string aW, .int .i64 a6, .int .i64 a7] 42 (0, 0))) ∧ Aside0 (Below w.heap.size w wc))
        case first =>
         have H := mD.out
         clear mD
         by_cases l6 : aI = (wrap64 (aK + 1))
         ·rw [if_pos l6] at H
          have bD : (aI == (wrap64 (aK + 1))) = true := beq_iff_eq.mpr l6
          have l7 : (aI != (wrap64 (aK + 1))) = false := bne_eq_false_iff_eq.mpr l6
          clear l6
          (first | rw [bD] | (simp only [i64_w, i32_w]; rw [bD]) | skip)
          have H' := ak H
          clear H
          have uY := aF.out
          have uZ := aE.out
          have u0 := aB.out
          have u1 := aH.out
          obtain ⟨j7, j8, j9, kA, kB, kC, kD, kE, kF, kG, h8⟩ := Cb.c11 aC.out
          obtain ⟨kH, kI, kJ, kK, kL, kM, kN, kO, kP, kQ, h9⟩ := Cb.f11 aC.out
          have u2 := aG.out
          have u3 := aA.out
          obtain ⟨kR, kS, kT, kU, kV, kW⟩ := Cb.c6 aJ.out
          obtain ⟨kX, kY, kZ, k0, k1, k2⟩ := Cb.f6 aJ.out
          go_wp2
          go_meet
          case rel => exact ⟨_, (aR), es, H', ⟨by have := mK.out; first | omega | exact Nat.le_refl _⟩, ⟨pk aD.out⟩, ⟨pk aC.out⟩, ⟨pk aJ.out⟩, ⟨uc aL.out aM.out aN.out HB.out⟩⟩
         ·rw [if_neg l6] at H
          have bD : (aI == (wrap64 (aK + 1))) = false := beq_eq_false_iff_ne.mpr l6
          have l7 : (aI != (wrap64 (aK + 1))) = true := bne_iff_ne.mpr l6
          (first | rw [bD] | (simp only [i64_w, i32_w]; rw [bD]) | skip)
          have H' := ak H
          clear H
          have u4 := aF.out
          have u5 := aE.out
          have u6 := aB.out
          have u7 := aH.out
          obtain ⟨k3, k4, k5, k6, k7, k8, k9, lA, lB, lC, iA⟩ := Cb.c11 aC.out
          obtain ⟨lD, lE, lF, lG, lH, lI, lJ, lK, lL, lM, iB⟩ := Cb.f11 aC.out
          have u8 := aG.out
          have u9 := aA.out
          obtain ⟨lN, lO, lP, lQ, lR, lS⟩ := Cb.c6 aJ.out
          obtain ⟨lT, lU, lV, lW, lX, lY⟩ := Cb.f6 aJ.out
          go_wp2
          go_meet
          case rel => exact ⟨_, (false), es, H', ⟨by have := mK.out; first | omega | exact Nat.le_refl _⟩, ⟨pk aD.out⟩, ⟨pk aC.out⟩, ⟨pk aJ.out⟩, ⟨uc aL.out aM.out aN.out HB.out⟩⟩
        case rest =>
         clear mD
         try clear c1 c2 p2 c3 c4 l9 mA c5 c6 mB p6 c9 c11 c14 c15 c22 c27 c28 iC bC h3 c33 c34 c36 c38 c39 c41 mL l3 l4 l5 c45 c46 c48 c51 c52 c54 l6 bD l7 c57 c58 c60 c62 c63 p64 c65 bZ b0 b1 b2 b3 b9 cA bI cB cC cD cE cF cG cH cI cT cU cV cW cX cY dC dD bL dE dF dG dH dI dJ dK dL dW dX dY dZ d0 d6 d7 d8 d9 eA eG eH bN eI eJ eK eL eM eN eO eP e0 e1 e2 e3 e4 e5 fC fD bP fE fF fG fH fI fJ fK fL fW fX fY fZ f0 f8 f9 bR gA gB gC gD gE gF gG gH gS gT gU gV gW gX g4 g5 bT g6 g7 g8 g9 hA hB hC hD hO hP hQ hR hS hT iD iE h4 iF iG iH iI iJ iK iL iM iX iY iZ i0 i1 i2 i9 jA h6 jB jC jD jE jF jG jH jI jT jU jV jW jX jY j7 j8 h8 j9 kA kB kC kD kE kF kG kR kS kT kU kV kW k3 k4 iA k5 k6 k7 k8 k9 lA lB lC
         try clear lN lO lP lQ lR lS b4 b5 b6 b7 b8 cJ cK bJ cL cM cN cO cP cQ cR cS cZ c0 c7 c8 dA dB dM dN bM dO dP dQ dR dS dT dU dV d1 d2 d3 d4 d5 eB eC eD eE eF eQ eR bO eS eT eU eV eW eX eY eZ e6 e7 e8 e9 fA fB fM fN bQ fO fP fQ fR fS fT fU fV f1 f2 f3 f4 f7 gI gJ bS gK gL gM gN gO gP gQ gR gY gZ g0 g1 g2 g3 hE hF bU hG hH hI hJ hK hL hM hN hU hV hW hX hY hZ iN iO h5 iP iQ iR iS iT iU iV iW i3 i4 i5 i6 i7 i8 jJ jK h7 jL jM jN jO jP jQ jR jS jZ j2 j3 j4 j5 j6 kH kI h9 kJ kK kL kM kN kO kP kQ kX kY kZ k0 k1 k2 lD lE iB lF lG lH lI lJ lK lL lM lT lU lV lW lX lY p2
         obtain ⟨kq, bF, rfl, HA, v5, aD, aC, aJ, HB⟩ := hcut
         cases kq with
         | zero => exact absurd HA.out (by simp [session_Judge.j1])
         | succ kj49 =>
          have H := HA.out
          clear HA
          simp only [session_Judge.j1] at H
          by_cases oZ : bF = true
          ·subst oZ
           have H1 : (some ((⟨#[]⟩ : ByteArray), 11)) = some (r1, r2) := by rw [if_pos rfl] at H; exact H
           clear H
           have H := H1
           clear H1
           simp only [Option.some.injEq, Prod.mk.injEq] at H
           obtain ⟨rfl, rfl⟩ := H
           go_wp2
           go_ret2
           exact ⟨by first | rfl | (simp [errW_none, errW_some] <;> rfl) | (simp [*, errW_none, errW_some] <;> rfl), uc aL.out aM.out aN.out HB.out⟩
          ·replace oZ := Bool.eq_false_iff.mpr oZ
           subst oZ
           have H1 : (if aI < aK then (some ((⟨#[]⟩ : ByteArray), 15)) else (if aI = (wrap64 (aK + 1)) then (some ((⟨#[]⟩ : ByteArray), 0)) else (some ((⟨#[]⟩ : ByteArray), 15)))) = some (r1, r2) := by rw [if_neg (show ¬ (false = true) by decide)] at H; exact H
           clear H
           have H := H1
           clear H1
           by_cases mF : aI < aK
           ·rw [if_pos mF] at H
            have mM : decide (aI < aK) = true := decide_eq_true mF
            clear mF
            simp only [Option.some.injEq, Prod.mk.injEq] at H
            obtain ⟨rfl, rfl⟩ := H
            have vA := aF.out
            have vB := aE.out
            have vC := aB.out
            have vD := aH.out
            obtain ⟨o0, o1, o2, o3, o4, o5, o6, o7, o8, o9, mN⟩ := Cb.c11 aC.out
            obtain ⟨pA, pC, pD, pE, pF, pG, pH, pI, pJ, pK, mO⟩ := Cb.f11 aC.out
            have vE := aG.out
            have vF := aA.out
            obtain ⟨pL, pM, pN, pO, pP, pQ⟩ := Cb.c6 aJ.out
            obtain ⟨pS, pT, pU, pW, pX, pY⟩ := Cb.f6 aJ.out
            go_wp2
            go_ret2
            exact ⟨by first | rfl | (simp [errW_none, errW_some] <;> rfl) | (simp [*, errW_none, errW_some] <;> rfl), uc aL.out aM.out aN.out HB.out⟩
           ·rw [if_neg mF] at H
            have mM : decide (aI < aK) = false := decide_eq_false mF
            clear mF
            by_cases mE : aI = (wrap64 (aK + 1))
            ·rw [if_pos mE] at H
             have mP : (aI == (wrap64 (aK + 1))) = true := beq_iff_eq.mpr mE
             have mQ : (aI != (wrap64 (aK + 1))) = false := bne_eq_false_iff_eq.mpr mE
             clear mE
             simp only [Option.some.injEq, Prod.mk.injEq] at H
             obtain ⟨rfl, rfl⟩ := H
             have vG := aF.out
             have vH := aE.out
             have vI := aB.out
             have vJ := aH.out
             obtain ⟨pZ, p0, p1, p3, p4, p5, p7, p8, p9, qA, mR⟩ := Cb.c11 aC.out
             obtain ⟨qB, qC, qD, qE, qF, qG, qH, qI, qJ, qK, mS⟩ := Cb.f11 aC.out
             have vK := aG.out
             have vL := aA.out
             obtain ⟨qL, qM, qN, qO, qP, qQ⟩ := Cb.c6 aJ.out
             obtain ⟨qR, qS, qT, qU, qV, qW⟩ := Cb.f6 aJ.out
             go_wp2
             go_ret2
             exact ⟨by first | rfl | (simp [errW_none, errW_some] <;> rfl) | (simp [*, errW_none, errW_some] <;> rfl), uc aL.out aM.out aN.out HB.out⟩
            ·rw [if_neg mE] at H
             have mP : (aI == (wrap64 (aK + 1))) = false := beq_eq_false_iff_ne.mpr mE
             have mQ : (aI != (wrap64 (aK + 1))) = true := bne_iff_ne.mpr mE
             simp only [Option.some.injEq, Prod.mk.injEq] at H
             obtain ⟨rfl, rfl⟩ := H
             have vM := aF.out
             have vN := aE.out
             have vO := aB.out
             have vP := aH.out
             obtain ⟨qX, qY, qZ, q0, q1, q2, q3, q4, q5, q6, mT⟩ := Cb.c11 aC.out
             obtain ⟨q7, q8, q9, rA, rB, rC, rD, rE, rF, rG, mU⟩ := Cb.f11 aC.out
             have vQ := aG.out
             have vR := aA.out
             obtain ⟨rH, rI, rJ, rK, rL, rM⟩ := Cb.c6 aJ.out
             obtain ⟨rN, rO, rP, rQ, rR, rS⟩ := Cb.f6 aJ.out
             go_wp2
             go_ret2
             exact ⟨by first | rfl | (simp [errW_none, errW_some] <;> rfl) | (simp [*, errW_none, errW_some] <;> rfl), uc aL.out aM.out aN.out HB.out⟩
  ·replace c5 := Bool.eq_false_iff.mpr c5
   subst c5
   have H1 : (some ((⟨#[]⟩ : ByteArray), 7)) = some (r1, r2) := by rw [if_neg (show ¬ (false = true) by decide)] at H; exact H
   clear H
   have H := H1
   clear H1
   simp only [Option.some.injEq, Prod.mk.injEq] at H
   obtain ⟨rfl, rfl⟩ := H
   go_enter Try.func11, Try.ntmps11
   go_wp2_with (first | ((with_reducible refine gate_dst (N := 2) rfl ?_); refine bv 2 26 #[.int .i64 aS, .slice a8 aU.length a9, .slice bA aV.length bB, .int .i64 a4, .int .u64 a5] ?_; intro bG hg wE hbox hb; obtain ⟨n_, aL⟩ := Cb.bx (pB HB.out) hg hb; have h0 := aL; have aD := ak (hbox); replace HB := n_; clear n_; clear hb hbox hg) | ((with_reducible refine gate_dst (N := 3) rfl ?_); refine bv 3 30 #[.int .i64 aX, .int .i64 aQ, .int .i64 aP, .int .i64 aI, .string aY, .int .i64 aZ, .string a0, .string a1, .string a2, .string a3, .int .i64 aO] ?_; intro bH hg wF hbox hb; obtain ⟨n_, aM⟩ := Cb.bx (ua aL.out HB.out) hg hb; have h1 := aM; obtain ⟨aE, aF⟩ := Cb.nb hg aD.out; have aC := ak (hbox); replace aD := bb aD hb; replace HB := n_; clear n_; clear hb hbox hg; have vS := aE.out; have vT := aF.out; obtain ⟨rT, rU, rV, rW, rX⟩ := Cb.c5 aD.out; obtain ⟨rY, rZ, r0, r3, r4⟩ := Cb.f5 aD.out; obtain ⟨r5, r6, r7, r8, r9, sA, sB, sC, sD, sE, mV⟩ := Cb.c11 aC.out; obtain ⟨sF, sG, sH, sI, sJ, sK, sL, sM, sN, sO, mW⟩ := Cb.f11 aC.out) | ((with_reducible refine gate_callee (f := 14) rfl ?_); refine goesL_ (some 12) rfl rfl Try.func14 (by kernel_rfl) rfl #[.agg #[.int .i64 aS, .slice a8 aU.length a9, .slice bA aV.length bB, .int .i64 a4, .int .u64 a5], .int .i64 aP] rfl mp ?_; (with_reducible refine (session_Find.calls aS _ _ aU _ _ aV a4 a5 aP aT aK aR aW a6 a7 false _ ?side1 ?side2 ?side3 ?side4 A3.out).mono ?_); (case side1 => exact pc (Kd.C_below bV.out HB.out)); (case side2 => exact bW.out); (case side3 => exact pc (Kd.C_below bX.out HB.out)); (case side4 => exact bY.out); rintro e wG ⟨rfl, hb⟩; refine ⟨_, rfl, ?_⟩; replace aD := bb aD hb; replace aC := bb aC hb; replace HB := ak (below_step (ub aL.out aM.out HB.out) hb); (try clear hb); (try clear hb2); (try clear hk); (try clear hi)) | ((with_reducible refine gate_dst (N := 6) rfl ?_); refine bv 6 42 #[.int .i64 0, .int .i64 0, .bool false, .string (⟨#[]⟩ : ByteArray), .int .i64 0, .int .i64 0] ?_; intro bK hg wH hbox hb; obtain ⟨n_, aN⟩ := Cb.bx (ub aL.out aM.out HB.out) hg hb; have h2 := aN; obtain ⟨aA, aG⟩ := Cb.nb hg aD.out; obtain ⟨aB, aH⟩ := Cb.nb hg aC.out; have aJ := ak (hbox); replace aD := bb aD hb; replace aC := bb aC hb; replace HB := n_; clear n_; clear hb hbox hg; have vU := aG.out; have vV := aA.out; have vW := aH.out; have vX := aB.out; obtain ⟨sP, sQ, sR, sS, sT, sU⟩ := Cb.c6 aJ.out; obtain ⟨sV, sW, sX, sY, sZ, s0⟩ := Cb.f6 aJ.out; obtain ⟨s1, s2, s3, s4, s5, s6, s7, s8, s9, tA, mX⟩ := Cb.c11 aC.out; obtain ⟨tB, tC, tD, tE, tF, tG, tH, tI, tJ, tK, mY⟩ := Cb.f11 aC.out; obtain ⟨tL, tM, tN, tO, tP⟩ := Cb.c5 aD.out; obtain ⟨tQ, tR, tS, tT, tU⟩ := Cb.f5 aD.out))
   go_ret2
   exact ⟨by first | rfl | (simp [errW_none, errW_some] <;> rfl) | (simp [*, errW_none, errW_some] <;> rfl), uc aL.out aM.out aN.out HB.out⟩
 ·rw [if_neg c4] at H
  have l9 : (aQ == aS) = false := beq_eq_false_iff_ne.mpr c4
  have mA : (aQ != aS) = true := bne_iff_ne.mpr c4
  simp only [Option.some.injEq, Prod.mk.injEq] at H
  obtain ⟨rfl, rfl⟩ := H
  go_enter Try.func11, Try.ntmps11
  go_wp2_with (first | ((with_reducible refine gate_dst (N := 2) rfl ?_); refine bv 2 26 #[.int .i64 aS, .slice a8 aU.length a9, .slice bA aV.length bB, .int .i64 a4, .int .u64 a5] ?_; intro bG hg wI hbox hb; obtain ⟨n_, aL⟩ := Cb.bx (pB HB.out) hg hb; have h0 := aL; have aD := ak (hbox); replace HB := n_; clear n_; clear hb hbox hg) | ((with_reducible refine gate_dst (N := 3) rfl ?_); refine bv 3 30 #[.int .i64 aX, .int .i64 aQ, .int .i64 aP, .int .i64 aI, .string aY, .int .i64 aZ, .string a0, .string a1, .string a2, .string a3, .int .i64 aO] ?_; intro bH hg wJ hbox hb; obtain ⟨n_, aM⟩ := Cb.bx (ua aL.out HB.out) hg hb; have h1 := aM; obtain ⟨aE, aF⟩ := Cb.nb hg aD.out; have aC := ak (hbox); replace aD := bb aD hb; replace HB := n_; clear n_; clear hb hbox hg; have vY := aE.out; have vZ := aF.out; obtain ⟨mZ, m0, m1, m2, m3⟩ := Cb.c5 aD.out; obtain ⟨m4, m5, m6, m7, m8⟩ := Cb.f5 aD.out; obtain ⟨m9, nA, nB, nC, nD, nE, nF, nG, nH, nI, mG⟩ := Cb.c11 aC.out; obtain ⟨nJ, nK, nL, nM, nN, nO, nP, nQ, nR, nS, mH⟩ := Cb.f11 aC.out) | ((with_reducible refine gate_callee (f := 14) rfl ?_); refine goesL_ (some 12) rfl rfl Try.func14 (by kernel_rfl) rfl #[.agg #[.int .i64 aS, .slice a8 aU.length a9, .slice bA aV.length bB, .int .i64 a4, .int .u64 a5], .int .i64 aP] rfl mp ?_; (with_reducible refine (session_Find.calls aS _ _ aU _ _ aV a4 a5 aP aT aK aR aW a6 a7 l8 _ ?side1 ?side2 ?side3 ?side4 A3.out).mono ?_); (case side1 => exact pc (Kd.C_below bV.out HB.out)); (case side2 => exact bW.out); (case side3 => exact pc (Kd.C_below bX.out HB.out)); (case side4 => exact bY.out); rintro e v6 ⟨rfl, hb⟩; refine ⟨_, rfl, ?_⟩; replace aD := bb aD hb; replace aC := bb aC hb; replace HB := ak (below_step (ub aL.out aM.out HB.out) hb); (try clear hb); (try clear hb2); (try clear hk); (try clear hi)) | ((with_reducible refine gate_dst (N := 6) rfl ?_); refine bv 6 42 #[.int .i64 0, .int .i64 0, .bool false, .string (⟨#[]⟩ : ByteArray), .int .i64 0, .int .i64 0] ?_; intro bK hg v7 hbox hb; obtain ⟨n_, aN⟩ := Cb.bx (ub aL.out aM.out HB.out) hg hb; have h2 := aN; obtain ⟨aA, aG⟩ := Cb.nb hg aD.out; obtain ⟨aB, aH⟩ := Cb.nb hg aC.out; have aJ := ak (hbox); replace aD := bb aD hb; replace aC := bb aC hb; replace HB := n_; clear n_; clear hb hbox hg; have tV := aG.out; have tW := aA.out; have tX := aH.out; have tY := aB.out; obtain ⟨nT, nU, nV, nW, nX, nY⟩ := Cb.c6 aJ.out; obtain ⟨nZ, n0, n1, n2, n3, n4⟩ := Cb.f6 aJ.out; obtain ⟨n5, n6, n7, n8, n9, oA, oB, oC, oD, oE, mI⟩ := Cb.c11 aC.out; obtain ⟨oF, oG, oH, oI, oJ, oK, oL, oM, oN, oO, mJ⟩ := Cb.f11 aC.out; obtain ⟨oP, oQ, oR, oS, oT⟩ := Cb.c5 aD.out; obtain ⟨oU, oV, oW, oX, oY⟩ := Cb.f5 aD.out))
  go_ret2
  exact ⟨by first | rfl | (simp [errW_none, errW_some] <;> rfl) | (simp [*, errW_none, errW_some] <;> rfl), uc aL.out aM.out aN.out HB.out⟩

end Go.Proofs.Ytnpmjboofmdflaa.PA
