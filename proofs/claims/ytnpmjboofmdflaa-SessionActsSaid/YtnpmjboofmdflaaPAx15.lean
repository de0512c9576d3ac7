-- Made by a program of this workplace out of the translation (wip/tools in the repo). Not trusted: Lean checks it.
import Derived.Test.YtnpmjboofmdflaaPAx0
import Derived.Test.YtnpmjboofmdflaaCb
import Derived.Test.YtnpmjboofmdflaaSq
import Derived.Test.YtnpmjboofmdflaaTq
import Derived.Test.YtnpmjboofmdflaaPAx3
import Derived.Test.YtnpmjboofmdflaaPAx14
namespace Go.Proofs.Ytnpmjboofmdflaa.PA
open Go.RowKit Go.Proofs.YtnpmjboofmdflaaW.PrintWords Go.Proofs.YtnpmjboofmdflaaW.PrintLast Go.Proofs.YtnpmjboofmdflaaW.PrintMore Go.Proofs.Ytnpmjboofmdflaa
attribute [local go_sem] max2_int min2_int max_two min_two max_three min_three max_four min_four   -- for this text's walks alone
set_option linter.unusedVariables false
set_option linter.unusedSimpArgs false

/-! ### stanchionref17_at: function 55 -/
set_option maxHeartbeats 8000000 in
set_option maxRecDepth 100000 in
theorem stanchionref17_at.calls (k : Nat) (aT : Int) (aW : Option Addr) (aX : Nat) (aC : List (S42)) (aY : Option Addr) (aZ : Nat) (aM : List (S85)) (aU : Int) (aV : Int) (a1 : Int) (r : Int) (w : World) (a0 : Kd.C k42 w aW aC.length aC) (a2 : aC.length ≤ aX) (a3 : Kd.C k85 w aY aM.length aM) (a4 : aM.length ≤ aZ) (h : stanchionref17_at.f k aT aC aM aU aV a1 = some r) :
  Calls Try.prog 55 #[.agg #[.int .i64 aT, .slice aW aC.length aX, .slice aY aM.length aZ, .int .i64 aU, .int .u64 aV], .int .i64 a1] w fun e w' => e = .returned (.int .i64 r) ∧ Below w.heap.size w w' := by
 have cB := Try.underlying26
 have a5 := ak a0
 have b6 := ak a2
 clear a0 a2
 have b7 := ak a3
 have b8 := ak a4
 clear a3 a4
 have HB := ak (Below.refl w.heap.size w)
 have H : (stanchionref17_at.l0 k a1 0 aT aC aM aU aV) = some r := h
 clear h
 have H' := ak H
 clear H
 go_enter Try.func55, Try.ntmps55
 go_wp2_with (first | ((with_reducible refine gate_dst (N := 2) rfl ?_); refine bv 2 26 #[.int .i64 aT, .slice aW aC.length aX, .slice aY aM.length aZ, .int .i64 aU, .int .u64 aV] ?_; intro a7 hg w3 hbox hb; obtain ⟨n_, aN⟩ := Cb.bx (pB HB.out) hg hb; have b9 := aN; have aK := ak (hbox); replace HB := n_; clear n_; clear hb hbox hg))
 go_loopg [5] k (fun kq v5 w' => ∃ (aA : Int), v5 = .int .i64 aA ∧ Aside0 (stanchionref17_at.l0 kq a1 aA aT aC aM aU aV = some r) ∧ Aside0 (kq ≤ k) ∧ Aside0 (w'.heap[a7]? = some (.cells #[.int .i64 aT, (.slice aW aC.length aX), (.slice aY aM.length aZ), .int .i64 aU, .int .u64 aV] 26 (0, 0))) ∧ Aside0 (Below w.heap.size w w'))
 case atStart => exact ⟨(0), es, H', ⟨Nat.le_refl _⟩, ⟨pk aK.out⟩, ⟨ua aN.out HB.out⟩⟩
 case round =>
  clear H'
  try clear p2
  obtain ⟨aA, rfl, HA, cA, aK, HB⟩ := hrel
  cases gk with
  | zero => exact absurd HA.out (by simp [stanchionref17_at.l0])
  | succ k1 =>
   have H := HA.out
   clear HA
   simp only [stanchionref17_at.l0] at H
   by_cases c4 : aA < (aC.length : Int)
   ·rw [if_pos c4] at H
    have a9 : decide (aA < (aC.length : Int)) = true := decide_eq_true c4
    clear c4
    have c5 : 0 ≤ aA := Decidable.byContradiction fun q => by rw [if_neg q] at H; exact absurd H (by simp)
    rw [if_pos c5] at H
    have cC : decide (0 ≤ aA) = true := decide_eq_true c5
    clear c5
    by_cases c6 : ((rd_T42 aC aA).f0) = a1
    ·rw [if_pos c6] at H
     have bA : (((rd_T42 aC aA).f0) == a1) = true := beq_iff_eq.mpr c6
     have bB : (((rd_T42 aC aA).f0) != a1) = false := bne_eq_false_iff_eq.mpr c6
     clear c6
     obtain rfl := Option.some.inj H
     obtain ⟨bC, bD, bE, bF, bG⟩ := Cb.c5 aK.out
     obtain ⟨bH, bI, bJ, bK, bL⟩ := Cb.f5 aK.out
     have aQ : 0 ≤ (aA : Int) := od
     have aR : aA < (aC.length : Int) := od
     obtain ⟨a8, a6, aD, aE, aG, aH, aI, aJ⟩ := at_T42 a5.out aA aQ aR
     cases a6
     replace aD := (HB.out.cell (World.block_lt_of_cell? w _ aD)).trans aD
     replace aE := (HB.out.cell (World.block_lt_of_cell? w _ aE)).trans aE
     replace aG := (HB.out.cell (World.block_lt_of_cell? w _ aG)).trans aG
     replace aH := (HB.out.cell (World.block_lt_of_cell? w _ aH)).trans aH
     replace aI := (HB.out.cell (World.block_lt_of_cell? w _ aI)).trans aI
     replace aJ := (HB.out.cell (World.block_lt_of_cell? w _ aJ)).trans aJ
     replace aQ := eq_true aQ
     replace aR := eq_true aR
     go_wp2
     go_ret
     exact ⟨by first | rfl | (simp [errW_none, errW_some] <;> rfl) | (simp [*, errW_none, errW_some] <;> rfl), ua aN.out HB.out⟩
    ·rw [if_neg c6] at H
     have bA : (((rd_T42 aC aA).f0) == a1) = false := beq_eq_false_iff_ne.mpr c6
     have bB : (((rd_T42 aC aA).f0) != a1) = true := bne_iff_ne.mpr c6
     have H' := ak H
     clear H
     obtain ⟨bM, bN, bO, bP, bQ⟩ := Cb.c5 aK.out
     obtain ⟨bR, bS, bT, bU, bV⟩ := Cb.f5 aK.out
     have aQ : 0 ≤ (aA : Int) := od
     have aR : aA < (aC.length : Int) := od
     obtain ⟨a8, a6, aD, aE, aG, aH, aI, aJ⟩ := at_T42 a5.out aA aQ aR
     cases a6
     replace aD := (HB.out.cell (World.block_lt_of_cell? w _ aD)).trans aD
     replace aE := (HB.out.cell (World.block_lt_of_cell? w _ aE)).trans aE
     replace aG := (HB.out.cell (World.block_lt_of_cell? w _ aG)).trans aG
     replace aH := (HB.out.cell (World.block_lt_of_cell? w _ aH)).trans aH
     replace aI := (HB.out.cell (World.block_lt_of_cell? w _ aI)).trans aI
     replace aJ := (HB.out.cell (World.block_lt_of_cell? w _ aJ)).trans aJ
     replace aQ := eq_true aQ
     replace aR := eq_true aR
     go_wp2
     go_roundg k1
     case measure => have := cA.out; omega
     case rel => exact ⟨(wrap64 (aA + 1)), es, H', ⟨by have := cA.out; omega⟩, ⟨pk aK.out⟩, ⟨ua aN.out HB.out⟩⟩
   ·rw [if_neg c4] at H
    have a9 : decide (aA < (aC.length : Int)) = false := decide_eq_false c4
    clear c4
    obtain rfl := Option.some.inj H
    obtain ⟨bW, bX, bY, bZ, b0⟩ := Cb.c5 aK.out
    obtain ⟨b1, b2, b3, b4, b5⟩ := Cb.f5 aK.out
    go_wp2
    go_ret
    exact ⟨by first | rfl | (simp [errW_none, errW_some] <;> rfl) | (simp [*, errW_none, errW_some] <;> rfl), ua aN.out HB.out⟩

/-! ### stanchionref17_Renew: function 29 -/
set_option maxHeartbeats 8000000 in
set_option maxRecDepth 100000 in
theorem stanchionref17_Renew.calls (k : Nat) (aI : Int) (aZ : Nat → Prop) (aR : Option Addr) (aT : Nat) (aG : List (S42)) (a0 : Nat → Prop) (aU : Option Addr) (aV : Nat) (aH : List (S85)) (aM : Int) (aN : Int) (a1 : Int) (r1 : Int) (r2 : List (S42)) (r3 : List (S85)) (r4 : Int) (r5 : Int) (r6 : Int) (w : World) (bE : Kd.V k42 42 w w.heap.size (fun k_ => aZ k_) (.slice aR aG.length aT) aG) (bF : Kd.V k85 85 w w.heap.size (fun k_ => a0 k_) (.slice aU aH.length aV) aH) (h : stanchionref17_Renew.f k aI aG aH aM aN a1 = some (r1, r2, r3, r4, r5, r6)) :
  Calls Try.prog 29 #[.agg #[.int .i64 aI, .slice aR aG.length aT, .slice aU aH.length aV, .int .i64 aM, .int .u64 aN], .int .i64 a1] w fun e w' => ∃ v1_ v2_ : Value, e = .returned (.tuple #[.agg #[.int .i64 r1, v1_, v2_, .int .i64 r4, .int .u64 r5], .int .i64 r6]) ∧ Kd.V k42 42 w' w.heap.size (fun k_ => ((aZ k_ ∨ a0 k_) ∨ w.heap.size ≤ k_)) v1_ r2 ∧ Kd.V k85 85 w' w.heap.size (fun k_ => ((aZ k_ ∨ a0 k_) ∨ w.heap.size ≤ k_)) v2_ r3 ∧ Below w.heap.size w w' := by
 have dK := Try.underlying26
 have aE := ak (show Kd.V k42 42 w w.heap.size (fun k_ => ((aZ k_ ∨ a0 k_) ∨ w.heap.size ≤ k_)) (.slice aR aG.length aT) aG from Kd.V_mono bE (fun k_ hk => .inl (.inl hk)))
 have aD := ak (show Kd.V k85 85 w w.heap.size (fun k_ => ((aZ k_ ∨ a0 k_) ∨ w.heap.size ≤ k_)) (.slice aU aH.length aV) aH from Kd.V_mono bF (fun k_ hk => .inl (.inr hk)))
 have HB := ak (Below.refl w.heap.size w)
 have H : ((stanchionref17_at.f k aI aG aH aM aN a1).bind fun a3 => (if a3 < 0 then (some (aI, aG, aH, aM, aN, 7)) else ((stanchionref17_renewed.f k aI aG aH aM aN a1).bind fun bt490 => (some (bt490.1, bt490.2.1, bt490.2.2.1, bt490.2.2.2.1, bt490.2.2.2.2, 0))))) = some (r1, r2, r3, r4, r5, r6) := h
 clear h
 replace H := Option.bind_eq_some_iff.mp H
 obtain ⟨a3, dG, H⟩ := H
 try dsimp only at H
 have A3 := ak dG
 clear dG
 by_cases c4 : a3 < 0
 ·rw [if_pos c4] at H
  have cY : decide (a3 < 0) = true := decide_eq_true c4
  clear c4
  simp only [Option.some.injEq, Prod.mk.injEq] at H
  obtain ⟨rfl, rfl, rfl, rfl, rfl, rfl⟩ := H
  go_enter Try.func29, Try.ntmps29
  go_wp2_with (first | ((with_reducible refine gate_dst (N := 2) rfl ?_); refine bv 2 26 #[.int .i64 aI, .slice aR aG.length aT, .slice aU aH.length aV, .int .i64 aM, .int .u64 aN] ?_; intro aY hg w5 hbox hb; obtain ⟨n_, aK⟩ := Cb.bx (pB HB.out) hg hb; have bG := aK; have aC := ak (hbox); replace aE := vb aE aY hg hb; replace aD := vb aD aY hg hb; replace HB := n_; clear n_; clear hb hbox hg) | ((with_reducible refine gate_dst (N := 4) rfl ?_); refine bv 4 26 #[.int .i64 0, .slice none 0 0, .slice none 0 0, .int .i64 0, .int .u64 0] ?_; intro aA hg w6 hbox hb; obtain ⟨n_, aQ⟩ := Cb.bx (ua aK.out HB.out) hg hb; have bH := aQ; obtain ⟨aW, aX⟩ := Cb.nb hg aC.out; have aJ := ak (hbox); replace aE := vb aE aA hg hb; replace aD := vb aD aA hg hb; replace aC := bb aC hb; replace HB := n_; clear n_; clear hb hbox hg; have dL := aW.out; have dM := aX.out; obtain ⟨cZ, c0, c1, c2, c3⟩ := Cb.c5 aC.out; obtain ⟨c8, c9, dA, dB, dC⟩ := Cb.f5 aC.out) | ((with_reducible refine gate_callee (f := 55) rfl ?_); refine goesL_ (some 8) rfl rfl Try.func55 (by kernel_rfl) rfl #[.agg #[.int .i64 aI, .slice aR aG.length aT, .slice aU aH.length aV, .int .i64 aM, .int .u64 aN], .int .i64 a1] rfl mp ?_; (with_reducible refine (stanchionref17_at.calls k aI _ _ aG _ _ aH aM aN a1 a3 _ ?side1 ?side2 ?side3 ?side4 A3.out).mono ?_); (case side1 => exact pc (Kd.V_reads' aE.out).2.2); (case side2 => exact (Kd.V_reads' aE.out).2.1); (case side3 => exact pc (Kd.V_reads' aD.out).2.2); (case side4 => exact (Kd.V_reads' aD.out).2.1); rintro e w9 ⟨rfl, hb⟩; refine ⟨_, rfl, ?_⟩; replace aE := vw aE hb; replace aD := vw aD hb; replace aC := bb aC hb; replace aJ := bb aJ hb; replace HB := ak (below_step (ub aK.out aQ.out HB.out) hb); (try clear hb); (try clear hb2); (try clear hk); (try clear hi); obtain ⟨bJ, bK, bL, bM, bN⟩ := Cb.c5 aC.out; obtain ⟨bO, bP, bQ, bR, bS⟩ := Cb.f5 aC.out; obtain ⟨bT, bU, bV, bW, bX⟩ := Cb.c5 aJ.out; obtain ⟨bY, bZ, b0, b1, b2⟩ := Cb.f5 aJ.out))
  refine bodyPost_ret (results_ct rfl _ _ aA 26 #[.int .i64 aI, .slice aR aG.length aT, .slice aU aH.length aV, .int .i64 aM, .int .u64 aN] (0, 0) _ rfl (by exact pq (blk_put (blk_put (blk_put (blk_put (blk_put (pk aJ.out) 0 _ rfl) 1 _ rfl) 2 _ rfl) 3 _ rfl) 4 _ rfl)) Try.underlying26 rfl (by kernel_rfl)) rfl ?_
  exact ⟨_, _, by first | rfl | (simp [errW_none, errW_some] <;> rfl) | (simp [*, errW_none, errW_some] <;> rfl), qv (Kd.V_mono (vf5 aE.out fun _ hk => hk.2) (fun _ hk => hk.1.1)), qv (Kd.V_mono (vf5 aD.out fun _ hk => hk.2) (fun _ hk => hk.1.1)), ub aK.out aQ.out HB.out⟩
 ·rw [if_neg c4] at H
  have cY : decide (a3 < 0) = false := decide_eq_false c4
  clear c4
  replace H := Option.bind_eq_some_iff.mp H
  obtain ⟨⟨a2, a4, a5, a6, a9⟩, bI, H⟩ := H
  try dsimp only at H
  have dN := ak bI
  clear bI
  simp only [Option.some.injEq, Prod.mk.injEq] at H
  obtain ⟨rfl, rfl, rfl, rfl, rfl, rfl⟩ := H
  go_enter Try.func29, Try.ntmps29
  go_wp2_with (first | ((with_reducible refine gate_dst (N := 2) rfl ?_); refine bv 2 26 #[.int .i64 aI, .slice aR aG.length aT, .slice aU aH.length aV, .int .i64 aM, .int .u64 aN] ?_; intro aY hg dP hbox hb; obtain ⟨n_, aK⟩ := Cb.bx (pB HB.out) hg hb; have bG := aK; have aC := ak (hbox); replace aE := vb aE aY hg hb; replace aD := vb aD aY hg hb; replace HB := n_; clear n_; clear hb hbox hg) | ((with_reducible refine gate_dst (N := 4) rfl ?_); refine bv 4 26 #[.int .i64 0, .slice none 0 0, .slice none 0 0, .int .i64 0, .int .u64 0] ?_; intro aA hg dQ hbox hb; obtain ⟨n_, aQ⟩ := Cb.bx (ua aK.out HB.out) hg hb; have bH := aQ; obtain ⟨aW, aX⟩ := Cb.nb hg aC.out; have aJ := ak (hbox); replace aE := vb aE aA hg hb; replace aD := vb aD aA hg hb; replace aC := bb aC hb; replace HB := n_; clear n_; clear hb hbox hg; have dH := aW.out; have dI := aX.out; obtain ⟨b3, b4, b5, b6, b7⟩ := Cb.c5 aC.out; obtain ⟨b8, b9, cA, cB, cC⟩ := Cb.f5 aC.out) | ((with_reducible refine gate_callee (f := 55) rfl ?_); refine goesL_ (some 8) rfl rfl Try.func55 (by kernel_rfl) rfl #[.agg #[.int .i64 aI, .slice aR aG.length aT, .slice aU aH.length aV, .int .i64 aM, .int .u64 aN], .int .i64 a1] rfl mp ?_; (with_reducible refine (stanchionref17_at.calls k aI _ _ aG _ _ aH aM aN a1 a3 _ ?side1 ?side2 ?side3 ?side4 A3.out).mono ?_); (case side1 => exact pc (Kd.V_reads' aE.out).2.2); (case side2 => exact (Kd.V_reads' aE.out).2.1); (case side3 => exact pc (Kd.V_reads' aD.out).2.2); (case side4 => exact (Kd.V_reads' aD.out).2.1); rintro e dR ⟨rfl, hb⟩; refine ⟨_, rfl, ?_⟩; replace aE := vw aE hb; replace aD := vw aD hb; replace aC := bb aC hb; replace aJ := bb aJ hb; replace HB := ak (below_step (ub aK.out aQ.out HB.out) hb); (try clear hb); (try clear hb2); (try clear hk); (try clear hi); obtain ⟨cD, cE, cF, cG, cH⟩ := Cb.c5 aC.out; obtain ⟨cI, cJ, cK, cL, cM⟩ := Cb.f5 aC.out) | ((with_reducible refine gate_callee (f := 44) rfl ?_); refine goesL_ (some 13) rfl rfl Try.func44 (by kernel_rfl) rfl #[.agg #[.int .i64 aI, .slice aR aG.length aT, .slice aU aH.length aV, .int .i64 aM, .int .u64 aN], .int .i64 a1] rfl mp ?_; (with_reducible refine (stanchionref17_renewed.calls k aI (fun k_ => ((((aZ k_ ∨ a0 k_) ∨ w.heap.size ≤ k_) ∧ k_ ≠ aY) ∧ k_ ≠ aA)) _ _ aG _ _ aH aM aN a1 a2 a4 a5 a6 a9 _ ?side1 ?side2 ?side3 dN.out).mono ?_); (case side1 => exact aE.out); (case side2 => exact pc (Kd.V_reads' aD.out).2.2); (case side3 => exact (Kd.V_reads' aD.out).2.1); rintro e dS ⟨dO, dD, rfl, dJ, cN, hb⟩; refine ⟨_, rfl, ?_⟩; have bC := ak (Kd.V_lower (Kd.V_mono (ok' := fun k_ => ((aZ k_ ∨ a0 k_) ∨ w.heap.size ≤ k_) ∧ some k_ ≠ (dD : Value).ownBlock ∧ k_ ≠ aY ∧ k_ ≠ aA) dJ (fun k_ hk_ => ⟨Or.elim hk_.1 (fun hs_ => hs_.1.1) (fun hn_ => (.inr (Nat.le_trans (below_size (ub aK.out aQ.out HB.out)) hn_))), hk_.2, Or.elim hk_.1 (fun hs_ => hs_.1.2) (fun hn_ => (Kd.freshB (pk aC.out) k_ hn_)), Or.elim hk_.1 (fun hs_ => hs_.2) (fun hn_ => (Kd.freshB (pk aJ.out) k_ hn_))⟩)) (below_size (ub aK.out aQ.out HB.out))); have bD := ak (Kd.R_lower (Kd.R_newM (M := fun k_ => (w.heap.size ≤ k_)) (Kd.R_mono (ok' := fun k_ => True) cN (fun _ hk_ => trivial)) (below_size (ub aK.out aQ.out HB.out)) (fun k_ h_ => h_)) (below_size (ub aK.out aQ.out HB.out))); replace aE := ve aE cN hb; replace aD := ve aD cN hb; replace aC := bb aC hb; replace aJ := bb aJ hb; replace HB := ak (below_step (ub aK.out aQ.out HB.out) hb); (try clear hb); (try clear hb2); (try clear hk); (try clear hi); (try clear dJ); (try clear cN); obtain ⟨cO, cP, cQ, cR, cS⟩ := Cb.c5 aJ.out; obtain ⟨cT, cU, cV, cW, cX⟩ := Cb.f5 aJ.out; obtain ⟨a7, a8, dE⟩ := Kd.V_slice bC.out; subst dE; obtain ⟨bA, bB, dF⟩ := Kd.R_slice bD.out; subst dF))
  refine bodyPost_ret (results_ct rfl _ _ aA 26 #[.int .i64 a2, .slice a7 a4.length a8, .slice bA a5.length bB, .int .i64 a6, .int .u64 a9] (0, 0) _ rfl (by exact pq (blk_put (blk_put (blk_put (blk_put (blk_put (pk aJ.out) 0 _ rfl) 1 _ rfl) 2 _ rfl) 3 _ rfl) 4 _ rfl)) Try.underlying26 rfl (by kernel_rfl)) rfl ?_
  exact ⟨_, _, by first | rfl | (simp [errW_none, errW_some] <;> rfl) | (simp [*, errW_none, errW_some] <;> rfl), qv (Kd.V_mono (vf5 bC.out fun _ hk => hk.2.2.2) (fun _ hk => hk.1)), Kd.V_mono (Kd.R_V (qr (Kd.R_mono (rf5 (Kd.R_types bD.out aJ.out (by decide)) fun _ hk => hk.2) (fun _ hk => hk.1.1)))) (fun k_ hk => by first | exact ⟨(.inr (hk.1)), hk.2⟩ | exact (.inr (hk))), ub aK.out aQ.out HB.out⟩

/-! ### stanchionref17_less: function 56 -/
set_option maxHeartbeats 8000000 in
set_option maxRecDepth 100000 in
theorem stanchionref17_less.calls (k : Nat) (aT : Int) (bJ : Option Addr) (bG : Nat) (aC : List (S42)) (bA : Nat → Prop) (aZ : Option Addr) (a0 : Nat) (aG : List (S85)) (a2 : Int) (a3 : Int) (a1 : Int) (r1 : Int) (r2 : List (S42)) (r3 : List (S85)) (r4 : Int) (r5 : Int) (w : World) (bK : Kd.C k42 w bJ aC.length aC) (bL : aC.length ≤ bG) (bP : Kd.V k85 85 w w.heap.size (fun k_ => bA k_) (.slice aZ aG.length a0) aG) (h : stanchionref17_less.f k aT aC aG a2 a3 a1 = some (r1, r2, r3, r4, r5)) :
  Calls Try.prog 56 #[.agg #[.int .i64 aT, .slice bJ aC.length bG, .slice aZ aG.length a0, .int .i64 a2, .int .u64 a3], .int .i64 a1] w fun e w' => ∃ cQ v2_ : Value, e = .returned (.agg #[.int .i64 r1, cQ, v2_, .int .i64 r4, .int .u64 r5]) ∧ Kd.R k42 42 w' w.heap.size (fun k_ => (w.heap.size ≤ k_)) cQ r2 ∧ Kd.V k85 85 w' w.heap.size (fun k_ => (bA k_ ∨ w.heap.size ≤ k_) ∧ some k_ ≠ (cQ : Value).ownBlock) v2_ r3 ∧ Below w.heap.size w w' := by
 have dI := Try.underlying26
 have dJ := Try.underlying42
 have bH := ak bK
 have dB := ak bL
 clear bK bL
 have bB := ak (show Kd.V k85 85 w w.heap.size (fun k_ => (bA k_ ∨ w.heap.size ≤ k_)) (.slice aZ aG.length a0) aG from Kd.V_mono bP (fun k_ hk => .inl hk))
 have HB := ak (Below.refl w.heap.size w)
 have H : (stanchionref17_less.l0 k a1 ([] : List (S42)) 0 aT aC aG a2 a3) = some (r1, r2, r3, r4, r5) := h
 clear h
 have H' := ak H
 clear H
 go_enter Try.func56, Try.ntmps56
 go_wp2_with (first | ((with_reducible refine gate_dst (N := 2) rfl ?_); refine bv 2 26 #[.int .i64 aT, .slice bJ aC.length bG, .slice aZ aG.length a0, .int .i64 a2, .int .u64 a3] ?_; intro aX hg w3 hbox hb; obtain ⟨n_, aV⟩ := Cb.bx (pB HB.out) hg hb; have dC := aV; have aD := ak (hbox); replace bB := vb bB aX hg hb; replace HB := n_; clear n_; clear hb hbox hg) | ((with_reducible refine gate_dst (N := 4) rfl ?_); refine bv 4 26 #[.int .i64 0, .slice none 0 0, .slice none 0 0, .int .i64 0, .int .u64 0] ?_; intro aE hg w4 hbox hb; obtain ⟨n_, aY⟩ := Cb.bx (ua aV.out HB.out) hg hb; have dD := aY; obtain ⟨aW, aR⟩ := Cb.nb hg aD.out; have aQ := ak (hbox); replace bB := vb bB aE hg hb; replace aD := bb aD hb; replace HB := n_; clear n_; clear hb hbox hg))
 go_loopg [5, 6] k (fun kq v5 v6 w' => ∃ (aU : List (S42)) (aA : Int), v6 = .int .i64 aA ∧ Aside0 (stanchionref17_less.l0 kq a1 aU aA aT aC aG a2 a3 = some (r1, r2, r3, r4, r5)) ∧ Aside0 (kq ≤ k) ∧ Aside0 (Kd.R k42 42 w' w.heap.size (fun k_ => (w.heap.size ≤ k_)) v5 aU) ∧ Aside0 (Kd.V k85 85 w' w.heap.size (fun k_ => (bA k_ ∨ w.heap.size ≤ k_) ∧ some k_ ≠ (v5 : Value).ownBlock ∧ k_ ≠ aX ∧ k_ ≠ aE) (.slice aZ aG.length a0) aG) ∧ Aside0 (w'.heap[aX]? = some (.cells #[.int .i64 aT, (.slice bJ aC.length bG), (.slice aZ aG.length a0), .int .i64 a2, .int .u64 a3] 26 (0, 0))) ∧ Aside0 (w'.heap[aE]? = some (.cells #[.int .i64 0, (.slice none 0 0), (.slice none 0 0), .int .i64 0, .int .u64 0] 26 (0, 0))) ∧ Aside0 (Below w.heap.size w w'))
 case atStart => exact ⟨(([] : List (S42))), (0), es, H', ⟨Nat.le_refl _⟩, ⟨by first | exact Kd.R_nil _ _ _ _ _ | exact Kd.N_nil _ _ _ _ _ | exact Kd.V_nil _ _ _ _ _ | exact Kd.Q_nil _ _ _ _ _ | exact Kd.S_nil _ _ _ _ _⟩, ⟨pV (Kd.V_mono bB.out (fun _ hk => ⟨hk.1.1, ⟨(by simp [Value.ownBlock]), ⟨hk.1.2, hk.2⟩⟩⟩))⟩, ⟨pk aD.out⟩, ⟨pk aQ.out⟩, ⟨ub aV.out aY.out HB.out⟩⟩
 case round =>
  clear H'
  try clear p2
  obtain ⟨aU, aA, rfl, HA, bU, HO_5, HO_500002, aD, aQ, HB⟩ := hrel
  cases gk with
  | zero => exact absurd HA.out (by simp [stanchionref17_less.l0])
  | succ k1 =>
   have H := HA.out
   clear HA
   simp only [stanchionref17_less.l0] at H
   by_cases c5 : aA < (aC.length : Int)
   ·rw [if_pos c5] at H
    have cR : decide (aA < (aC.length : Int)) = true := decide_eq_true c5
    clear c5
    have c6 : 0 ≤ aA := Decidable.byContradiction fun q => by rw [if_neg q] at H; exact absurd H (by simp)
    rw [if_pos c6] at H
    have dK : decide (0 ≤ aA) = true := decide_eq_true c6
    clear c6
    by_cases c7 : ((rd_T42 aC aA).f0) = a1
    ·rw [if_pos c7] at H
     have cS : (((rd_T42 aC aA).f0) == a1) = true := beq_iff_eq.mpr c7
     have cT : (((rd_T42 aC aA).f0) != a1) = false := bne_eq_false_iff_eq.mpr c7
     clear c7
     have H' := ak H
     clear H
     have dL := aW.out
     have dM := aR.out
     obtain ⟨cU, cV, cW, cX, cY⟩ := Cb.c5 aD.out
     obtain ⟨cZ, c0, c1, c2, c3⟩ := Cb.f5 aD.out
     have bE : 0 ≤ (aA : Int) := od
     have bF : aA < (aC.length : Int) := od
     obtain ⟨bI, bM, aH, aI, aJ, aK, aM, aN⟩ := at_T42 bH.out aA bE bF
     cases bM
     replace aH := (HB.out.cell (World.block_lt_of_cell? w _ aH)).trans aH
     replace aI := (HB.out.cell (World.block_lt_of_cell? w _ aI)).trans aI
     replace aJ := (HB.out.cell (World.block_lt_of_cell? w _ aJ)).trans aJ
     replace aK := (HB.out.cell (World.block_lt_of_cell? w _ aK)).trans aK
     replace aM := (HB.out.cell (World.block_lt_of_cell? w _ aM)).trans aM
     replace aN := (HB.out.cell (World.block_lt_of_cell? w _ aN)).trans aN
     replace bE := eq_true bE
     replace bF := eq_true bF
     go_wp2
     go_roundg k1
     case measure => have := bU.out; omega
     case rel => exact ⟨(aU), (wrap64 (aA + 1)), es, H', ⟨by have := bU.out; omega⟩, ⟨pR HO_5.out⟩, ⟨pV HO_500002.out⟩, ⟨pk aD.out⟩, ⟨pk aQ.out⟩, ⟨ub aV.out aY.out HB.out⟩⟩
    ·rw [if_neg c7] at H
     have cS : (((rd_T42 aC aA).f0) == a1) = false := beq_eq_false_iff_ne.mpr c7
     have cT : (((rd_T42 aC aA).f0) != a1) = true := bne_iff_ne.mpr c7
     have bV : aU.length < 2513169434916 := Decidable.byContradiction fun q => by rw [if_neg q] at H; exact absurd H (by simp)
     rw [if_pos bV] at H
     have bQ := ak bV
     clear bV
     obtain ⟨y503, hy503⟩ : ∃ y_ : List (S42), y_ = (aU ++ [(⟨(rd_T42 aC aA).f0, (rd_T42 aC aA).f1, (rd_T42 aC aA).f2, (rd_T42 aC aA).f3, (rd_T42 aC aA).f4, (rd_T42 aC aA).f5⟩ : S42)]) := ⟨_, rfl⟩
     replace H : (stanchionref17_less.l0 k1 a1 y503 (wrap64 (aA + 1)) aT aC aG a2 a3) = some (r1, r2, r3, r4, r5) := by first | (rw [hy503]; with_reducible exact H) | (have c8 := (Option.bind_some _ _).symm.trans H; rw [hy503]; with_reducible exact c8) | (have c8 := (Option.bind_some _ _).symm.trans H; with_reducible exact c8) | with_reducible exact H | (rw [hy503]; exact H) | exact H
     have bR := ak hy503
     clear hy503
     have H' := ak H
     clear H
     have dE := aW.out
     have dF := aR.out
     obtain ⟨bW, bX, bY, bZ, b0⟩ := Cb.c5 aD.out
     obtain ⟨b1, b2, b3, b4, b5⟩ := Cb.f5 aD.out
     have bE : 0 ≤ (aA : Int) := od
     have bF : aA < (aC.length : Int) := od
     obtain ⟨bI, bM, aH, aI, aJ, aK, aM, aN⟩ := at_T42 bH.out aA bE bF
     cases bM
     replace aH := (HB.out.cell (World.block_lt_of_cell? w _ aH)).trans aH
     replace aI := (HB.out.cell (World.block_lt_of_cell? w _ aI)).trans aI
     replace aJ := (HB.out.cell (World.block_lt_of_cell? w _ aJ)).trans aJ
     replace aK := (HB.out.cell (World.block_lt_of_cell? w _ aK)).trans aK
     replace aM := (HB.out.cell (World.block_lt_of_cell? w _ aM)).trans aM
     replace aN := (HB.out.cell (World.block_lt_of_cell? w _ aN)).trans aN
     replace bE := eq_true bE
     replace bF := eq_true bF
     have bN : 0 ≤ (aA : Int) := od
     have bO : aA < (aC.length : Int) := od
     obtain ⟨bS, c9, a4, a5, a6, a7, a8, a9⟩ := at_T42 bH.out aA bN bO
     obtain rfl : bI = bS := (by injection c9)
     replace a4 := (HB.out.cell (World.block_lt_of_cell? w _ a4)).trans a4
     replace a5 := (HB.out.cell (World.block_lt_of_cell? w _ a5)).trans a5
     replace a6 := (HB.out.cell (World.block_lt_of_cell? w _ a6)).trans a6
     replace a7 := (HB.out.cell (World.block_lt_of_cell? w _ a7)).trans a7
     replace a8 := (HB.out.cell (World.block_lt_of_cell? w _ a8)).trans a8
     replace a9 := (HB.out.cell (World.block_lt_of_cell? w _ a9)).trans a9
     replace bN := eq_true bN
     replace bO := eq_true bO
     go_wp2_with (first | ((with_reducible refine gate_builtin (b := .append) (xs := #[.tmp 22, .tmp 28]) rfl ?_); at_builtin; refine Kd.R_append k42 (w0 := w) w.heap.size rfl (.tmp 22) (.tmp 28) 22 42 (.agg #[(.int .i64 0), (.int .i64 0), (.bool false), (.string ⟨#[]⟩), (.int .i64 0), (.int .i64 0)]) 56 rfl Try.underlying22 info42 rfl (by decide) (by omega) u5 aU (⟨(rd_T42 aC aA).f0, (rd_T42 aC aA).f1, (rd_T42 aC aA).f2, (rd_T42 aC aA).f3, (rd_T42 aC aA).f4, (rd_T42 aC aA).f5⟩ : S42) [.int .i64 ((rd_T42 aC aA).f0), .int .i64 ((rd_T42 aC aA).f1), .bool ((rd_T42 aC aA).f2), .string ((rd_T42 aC aA).f3), .int .i64 ((rd_T42 aC aA).f4), .int .i64 ((rd_T42 aC aA).f5)] (fun k_ => (w.heap.size ≤ k_)) (fun _ => False) rfl rfl ?aP (fun _ hk => hk.elim) ?aF ?aO ?aB ?aS ?aL ?_; (case aP => exact k42_mkM _ _ _ (⟨(rd_T42 aC aA).f0, (rd_T42 aC aA).f1, (rd_T42 aC aA).f2, (rd_T42 aC aA).f3, (rd_T42 aC aA).f4, (rd_T42 aC aA).f5⟩ : S42)); (case aB => exact (ub aV.out aY.out HB.out)); (case aF => exact (fun k_ hk => (Nat.le_trans (below_size (ub aV.out aY.out HB.out)) hk))); (case aO => exact (pR HO_5.out)); (case aS => exact (below_size (ub aV.out aY.out HB.out))); (case aL => have := bQ.out; omega); intro dN dO ho hb hg hat; rw [← bR.out] at ho; have n0_ := ak (Kd.V_afterv (ok := (fun k_ => (bA k_ ∨ w.heap.size ≤ k_) ∧ k_ ≠ aX ∧ k_ ≠ aE)) (pV (vm HO_500002.out)) hg hat); have n1_ := ak (blk_grown (pk aD.out) hg (Kd.R_ne HO_5.out aD.out (by decide))); have n2_ := ak (blk_grown (pk aQ.out) hg (Kd.R_ne HO_5.out aQ.out (by decide))); have n3_ := ak (hb); have n4_ := ak (ho); clear HO_500002; clear aD; clear aQ; clear HB; clear HO_5; have HO_500002 := n0_; have aD := n1_; have aQ := n2_; have HB := n3_; have bT := n4_; clear n0_ n1_ n2_ n3_ n4_; clear ho hb hg hat))
     go_roundg k1
     case measure => have := bU.out; omega
     case rel => exact ⟨(y503), (wrap64 (aA + 1)), es, H', ⟨by have := bU.out; omega⟩, ⟨pR bT.out⟩, ⟨pV (vm HO_500002.out)⟩, ⟨pk aD.out⟩, ⟨pk aQ.out⟩, ⟨ub aV.out aY.out HB.out⟩⟩
   ·rw [if_neg c5] at H
    have cR : decide (aA < (aC.length : Int)) = false := decide_eq_false c5
    clear c5
    simp only [Option.some.injEq, Prod.mk.injEq] at H
    obtain ⟨rfl, rfl, rfl, rfl, rfl⟩ := H
    have dG := aW.out
    have dH := aR.out
    obtain ⟨b6, b7, b8, b9, cA⟩ := Cb.c5 aD.out
    obtain ⟨cB, cC, cD, cE, cF⟩ := Cb.f5 aD.out
    obtain ⟨bC, bD, dA⟩ := Kd.R_slice HO_5.out
    subst dA
    obtain ⟨cG, cH, cI, cJ, cK⟩ := Cb.c5 aQ.out
    obtain ⟨cL, cM, cN, cO, cP⟩ := Cb.f5 aQ.out
    go_wp2
    refine bodyPost_ret (results_cell_row rfl _ _ aE 26 #[.int .i64 aT, .slice bC aU.length bD, .slice aZ aG.length a0, .int .i64 a2, .int .u64 a3] (0, 0) _ rfl (by exact pq (blk_put (blk_put (blk_put (blk_put (blk_put (blk_far (pk aQ.out) aR.out _) 0 _ rfl) 1 _ rfl) 2 _ rfl) 3 _ rfl) 4 _ rfl)) Try.underlying26 rfl (by kernel_rfl)) rfl ?_
    exact ⟨_, _, by first | rfl | (simp [errW_none, errW_some] <;> rfl) | (simp [*, errW_none, errW_some] <;> rfl), qr (Kd.R_mono (rf5 (rf1 (Kd.R_types (Kd.R_types HO_5.out aD.out (by decide)) aQ.out (by decide)) fun _ hk => hk.1.2) fun _ hk => hk.2) (fun _ hk => hk.1.1)), qv (vm (vf5 (vf1 (Kd.V_mono (Kd.V_mono HO_500002.out (fun k_ hk => (⟨hk, hk.2.2.1⟩ : _ ∧ k_ ≠ aX))) (fun k_ hk => (⟨hk, hk.1.2.2.2⟩ : _ ∧ k_ ≠ aE))) fun _ hk => hk.1.2) fun _ hk => hk.2)), ub aV.out aY.out HB.out⟩

/-! ### stanchionref17_Close: function 30 -/
set_option maxHeartbeats 8000000 in
set_option maxRecDepth 100000 in
theorem stanchionref17_Close.calls (k : Nat) (aN : Int) (a7 : Nat → Prop) (aW : Option Addr) (aX : Nat) (aI : List (S42)) (a8 : Nat → Prop) (aY : Option Addr) (aZ : Nat) (aJ : List (S85)) (aQ : Int) (aR : Int) (a1 : Int) (r1 : Int) (r2 : List (S42)) (r3 : List (S85)) (r4 : Int) (r5 : Int) (r6 : Int) (w : World) (bJ : Kd.V k42 42 w w.heap.size (fun k_ => a7 k_) (.slice aW aI.length aX) aI) (bK : Kd.V k85 85 w w.heap.size (fun k_ => a8 k_) (.slice aY aJ.length aZ) aJ) (h : stanchionref17_Close.f k aN aI aJ aQ aR a1 = some (r1, r2, r3, r4, r5, r6)) :
  Calls Try.prog 30 #[.agg #[.int .i64 aN, .slice aW aI.length aX, .slice aY aJ.length aZ, .int .i64 aQ, .int .u64 aR], .int .i64 a1] w fun e w' => ∃ v1_ v2_ : Value, e = .returned (.tuple #[.agg #[.int .i64 r1, v1_, v2_, .int .i64 r4, .int .u64 r5], .int .i64 r6]) ∧ Kd.V k42 42 w' w.heap.size (fun k_ => ((a7 k_ ∨ a8 k_) ∨ w.heap.size ≤ k_)) v1_ r2 ∧ Kd.V k85 85 w' w.heap.size (fun k_ => ((a7 k_ ∨ a8 k_) ∨ w.heap.size ≤ k_)) v2_ r3 ∧ Below w.heap.size w w' := by
 have eA := Try.underlying26
 have aE := ak (show Kd.V k42 42 w w.heap.size (fun k_ => ((a7 k_ ∨ a8 k_) ∨ w.heap.size ≤ k_)) (.slice aW aI.length aX) aI from Kd.V_mono bJ (fun k_ hk => .inl (.inl hk)))
 have aH := ak (show Kd.V k85 85 w w.heap.size (fun k_ => ((a7 k_ ∨ a8 k_) ∨ w.heap.size ≤ k_)) (.slice aY aJ.length aZ) aJ from Kd.V_mono bK (fun k_ hk => .inl (.inr hk)))
 have HB := ak (Below.refl w.heap.size w)
 have H : ((stanchionref17_at.f k aN aI aJ aQ aR a1).bind fun bC => (if bC < 0 then (some (aN, aI, aJ, aQ, aR, 7)) else ((stanchionref17_less.f k aN aI aJ aQ aR a1).bind fun bt509 => ((stanchionref15_Drop.f k bt509.2.2.1 a1).bind fun a3 => (some (bt509.1, bt509.2.1, a3, bt509.2.2.2.1, bt509.2.2.2.2, 0)))))) = some (r1, r2, r3, r4, r5, r6) := h
 clear h
 replace H := Option.bind_eq_some_iff.mp H
 obtain ⟨bC, d6, H⟩ := H
 try dsimp only at H
 have A3 := ak d6
 clear d6
 by_cases c4 : bC < 0
 ·rw [if_pos c4] at H
  have dR : decide (bC < 0) = true := decide_eq_true c4
  clear c4
  simp only [Option.some.injEq, Prod.mk.injEq] at H
  obtain ⟨rfl, rfl, rfl, rfl, rfl, rfl⟩ := H
  go_enter Try.func30, Try.ntmps30
  go_wp2_with (first | ((with_reducible refine gate_dst (N := 2) rfl ?_); refine bv 2 26 #[.int .i64 aN, .slice aW aI.length aX, .slice aY aJ.length aZ, .int .i64 aQ, .int .u64 aR] ?_; intro aA hg w5 hbox hb; obtain ⟨n_, aM⟩ := Cb.bx (pB HB.out) hg hb; have bL := aM; have aD := ak (hbox); replace aE := vb aE aA hg hb; replace aH := vb aH aA hg hb; replace HB := n_; clear n_; clear hb hbox hg) | ((with_reducible refine gate_dst (N := 4) rfl ?_); refine bv 4 26 #[.int .i64 0, .slice none 0 0, .slice none 0 0, .int .i64 0, .int .u64 0] ?_; intro aC hg w6 hbox hb; obtain ⟨n_, aT⟩ := Cb.bx (ua aM.out HB.out) hg hb; have bM := aT; obtain ⟨a5, aG⟩ := Cb.nb hg aD.out; have aK := ak (hbox); replace aE := vb aE aC hg hb; replace aH := vb aH aC hg hb; replace aD := bb aD hb; replace HB := n_; clear n_; clear hb hbox hg; have eB := a5.out; have eC := aG.out; obtain ⟨dS, dT, dU, dV, dW⟩ := Cb.c5 aD.out; obtain ⟨dX, dY, dZ, d0, d1⟩ := Cb.f5 aD.out) | ((with_reducible refine gate_callee (f := 55) rfl ?_); refine goesL_ (some 8) rfl rfl Try.func55 (by kernel_rfl) rfl #[.agg #[.int .i64 aN, .slice aW aI.length aX, .slice aY aJ.length aZ, .int .i64 aQ, .int .u64 aR], .int .i64 a1] rfl mp ?_; (with_reducible refine (stanchionref17_at.calls k aN _ _ aI _ _ aJ aQ aR a1 bC _ ?side1 ?side2 ?side3 ?side4 A3.out).mono ?_); (case side1 => exact pc (Kd.V_reads' aE.out).2.2); (case side2 => exact (Kd.V_reads' aE.out).2.1); (case side3 => exact pc (Kd.V_reads' aH.out).2.2); (case side4 => exact (Kd.V_reads' aH.out).2.1); rintro e w9 ⟨rfl, hb⟩; refine ⟨_, rfl, ?_⟩; replace aE := vw aE hb; replace aH := vw aH hb; replace aD := bb aD hb; replace aK := bb aK hb; replace HB := ak (below_step (ub aM.out aT.out HB.out) hb); (try clear hb); (try clear hb2); (try clear hk); (try clear hi); obtain ⟨bP, bQ, bR, bS, bT⟩ := Cb.c5 aD.out; obtain ⟨bU, bV, bW, bX, bY⟩ := Cb.f5 aD.out; obtain ⟨bZ, b0, b1, b2, b3⟩ := Cb.c5 aK.out; obtain ⟨b4, b5, b6, b7, b8⟩ := Cb.f5 aK.out))
  refine bodyPost_ret (results_ct rfl _ _ aC 26 #[.int .i64 aN, .slice aW aI.length aX, .slice aY aJ.length aZ, .int .i64 aQ, .int .u64 aR] (0, 0) _ rfl (by exact pq (blk_put (blk_put (blk_put (blk_put (blk_put (pk aK.out) 0 _ rfl) 1 _ rfl) 2 _ rfl) 3 _ rfl) 4 _ rfl)) Try.underlying26 rfl (by kernel_rfl)) rfl ?_
  exact ⟨_, _, by first | rfl | (simp [errW_none, errW_some] <;> rfl) | (simp [*, errW_none, errW_some] <;> rfl), qv (Kd.V_mono (vf5 aE.out fun _ hk => hk.2) (fun _ hk => hk.1.1)), qv (Kd.V_mono (vf5 aH.out fun _ hk => hk.2) (fun _ hk => hk.1.1)), ub aM.out aT.out HB.out⟩
 ·rw [if_neg c4] at H
  have dR : decide (bC < 0) = false := decide_eq_false c4
  clear c4
  replace H := Option.bind_eq_some_iff.mp H
  obtain ⟨⟨aU, aV, a6, a4, a9⟩, bN, H⟩ := H
  try dsimp only at H
  have eD := ak bN
  clear bN
  replace H := Option.bind_eq_some_iff.mp H
  obtain ⟨a3, bO, H⟩ := H
  try dsimp only at H
  have eE := ak bO
  clear bO
  simp only [Option.some.injEq, Prod.mk.injEq] at H
  obtain ⟨rfl, rfl, rfl, rfl, rfl, rfl⟩ := H
  go_enter Try.func30, Try.ntmps30
  go_wp2_with (first | ((with_reducible refine gate_dst (N := 2) rfl ?_); refine bv 2 26 #[.int .i64 aN, .slice aW aI.length aX, .slice aY aJ.length aZ, .int .i64 aQ, .int .u64 aR] ?_; intro aA hg eH hbox hb; obtain ⟨n_, aM⟩ := Cb.bx (pB HB.out) hg hb; have bL := aM; have aD := ak (hbox); replace aE := vb aE aA hg hb; replace aH := vb aH aA hg hb; replace HB := n_; clear n_; clear hb hbox hg) | ((with_reducible refine gate_dst (N := 4) rfl ?_); refine bv 4 26 #[.int .i64 0, .slice none 0 0, .slice none 0 0, .int .i64 0, .int .u64 0] ?_; intro aC hg eI hbox hb; obtain ⟨n_, aT⟩ := Cb.bx (ua aM.out HB.out) hg hb; have bM := aT; obtain ⟨a5, aG⟩ := Cb.nb hg aD.out; have aK := ak (hbox); replace aE := vb aE aC hg hb; replace aH := vb aH aC hg hb; replace aD := bb aD hb; replace HB := n_; clear n_; clear hb hbox hg; have d7 := a5.out; have d8 := aG.out; obtain ⟨b9, cA, cB, cC, cD⟩ := Cb.c5 aD.out; obtain ⟨cE, cF, cG, cH, cI⟩ := Cb.f5 aD.out) | ((with_reducible refine gate_callee (f := 55) rfl ?_); refine goesL_ (some 8) rfl rfl Try.func55 (by kernel_rfl) rfl #[.agg #[.int .i64 aN, .slice aW aI.length aX, .slice aY aJ.length aZ, .int .i64 aQ, .int .u64 aR], .int .i64 a1] rfl mp ?_; (with_reducible refine (stanchionref17_at.calls k aN _ _ aI _ _ aJ aQ aR a1 bC _ ?side1 ?side2 ?side3 ?side4 A3.out).mono ?_); (case side1 => exact pc (Kd.V_reads' aE.out).2.2); (case side2 => exact (Kd.V_reads' aE.out).2.1); (case side3 => exact pc (Kd.V_reads' aH.out).2.2); (case side4 => exact (Kd.V_reads' aH.out).2.1); rintro e eJ ⟨rfl, hb⟩; refine ⟨_, rfl, ?_⟩; replace aE := vw aE hb; replace aH := vw aH hb; replace aD := bb aD hb; replace aK := bb aK hb; replace HB := ak (below_step (ub aM.out aT.out HB.out) hb); (try clear hb); (try clear hb2); (try clear hk); (try clear hi); obtain ⟨cJ, cK, cL, cM, cN⟩ := Cb.c5 aD.out; obtain ⟨cO, cP, cQ, cR, cS⟩ := Cb.f5 aD.out) | ((with_reducible refine gate_callee (f := 56) rfl ?_); refine goesL_ (some 13) rfl rfl Try.func56 (by kernel_rfl) rfl #[.agg #[.int .i64 aN, .slice aW aI.length aX, .slice aY aJ.length aZ, .int .i64 aQ, .int .u64 aR], .int .i64 a1] rfl mp ?_; (with_reducible refine (stanchionref17_less.calls k aN _ _ aI (fun k_ => ((((a7 k_ ∨ a8 k_) ∨ w.heap.size ≤ k_) ∧ k_ ≠ aA) ∧ k_ ≠ aC)) _ _ aJ aQ aR a1 aU aV a6 a4 a9 _ ?side1 ?side2 ?side3 eD.out).mono ?_); (case side1 => exact pc (Kd.V_reads' aE.out).2.2); (case side2 => exact (Kd.V_reads' aE.out).2.1); (case side3 => exact aH.out); rintro e eK ⟨d2, eF, rfl, bH, d9, hb⟩; refine ⟨_, rfl, ?_⟩; have bG := ak (Kd.R_lower (Kd.R_newM (M := fun k_ => (w.heap.size ≤ k_)) (Kd.R_mono (ok' := fun k_ => True) bH (fun _ hk_ => trivial)) (below_size (ub aM.out aT.out HB.out)) (fun k_ h_ => h_)) (below_size (ub aM.out aT.out HB.out))); have bD := ak (Kd.V_lower (Kd.V_mono (ok' := fun k_ => ((a7 k_ ∨ a8 k_) ∨ w.heap.size ≤ k_) ∧ some k_ ≠ (d2 : Value).ownBlock ∧ k_ ≠ aA ∧ k_ ≠ aC) d9 (fun k_ hk_ => ⟨Or.elim hk_.1 (fun hs_ => hs_.1.1) (fun hn_ => (.inr (Nat.le_trans (below_size (ub aM.out aT.out HB.out)) hn_))), hk_.2, Or.elim hk_.1 (fun hs_ => hs_.1.2) (fun hn_ => (Kd.freshB (pk aD.out) k_ hn_)), Or.elim hk_.1 (fun hs_ => hs_.2) (fun hn_ => (Kd.freshB (pk aK.out) k_ hn_))⟩)) (below_size (ub aM.out aT.out HB.out))); replace aE := ve aE bH hb; replace aH := ve aH bH hb; replace aD := bb aD hb; replace aK := bb aK hb; replace HB := ak (below_step (ub aM.out aT.out HB.out) hb); (try clear hb); (try clear hb2); (try clear hk); (try clear hi); (try clear bH); (try clear d9); obtain ⟨cT, cU, cV, cW, cX⟩ := Cb.c5 aD.out; obtain ⟨cY, cZ, c0, c1, c2⟩ := Cb.f5 aD.out; obtain ⟨a0, a2, d3⟩ := Kd.R_slice bG.out; subst d3; obtain ⟨bB, bA, d4⟩ := Kd.V_slice bD.out; subst d4) | ((with_reducible refine gate_callee (f := 57) rfl ?_); refine goesL_ (some 17) rfl rfl Try.func57 (by kernel_rfl) rfl #[.slice bB a6.length bA, .int .i64 a1] rfl mp ?_; (with_reducible refine (stanchionref15_Drop.calls k _ _ a6 a1 a3 _ ?side1 ?side2 eE.out).mono ?_); (case side1 => refine (Kd.V_reads' (e := 85) (base := w.heap.size) (ok := fun k_ => (((a7 k_ ∨ a8 k_) ∨ w.heap.size ≤ k_) ∧ (some k_ ≠ (.slice a0 aV.length a2 : Value).ownBlock ∧ (k_ ≠ aA ∧ k_ ≠ aC)))) (n := a6.length) (c := bA) ?_).2.2; exact (qv ((vf5 bD.out fun _ hk => hk.2.2.1)))); (case side2 => exact (Kd.V_reads' bD.out).2.1); rintro e eL ⟨eG, rfl, bH, hb⟩; refine ⟨_, rfl, ?_⟩; have bI := ak (Kd.R_lower (Kd.R_newM (M := fun k_ => (w.heap.size ≤ k_)) bH (below_size (ub aM.out aT.out HB.out)) (fun k_ h_ => h_)) (below_size (ub aM.out aT.out HB.out))); replace aE := ak (Kd.V_elder' (qv ((vf5 aE.out fun _ hk => hk.1.1.2))) (Kd.R_base bH) hb); replace aH := ak (Kd.V_elder' (qv ((vf5 aH.out fun _ hk => hk.1.1.2))) (Kd.R_base bH) hb); replace bG := rx bG aD hb; replace bD := ak (Kd.V_elder' (qv ((vf5 bD.out fun _ hk => hk.2.2.1))) (Kd.R_base bH) hb); replace aD := ak (blk_below (g := aA) (o := .cells #[.int .i64 aU, .slice a0 aV.length a2, .slice bB a6.length bA, .int .i64 a4, .int .u64 a9] 26 (0, 0)) (by exact pq (blk_put (blk_put (blk_put (blk_put (blk_put (pk aD.out) 0 _ rfl) 1 _ rfl) 2 _ rfl) 3 _ rfl) 4 _ rfl)) hb); replace aK := fb aK aG hb; replace HB := ak (below_step (ub aM.out aT.out HB.out) hb); (try clear hb); (try clear hb2); (try clear hk); (try clear hi); (try clear bH); obtain ⟨bE, bF, d5⟩ := Kd.R_slice bI.out; subst d5; obtain ⟨c3, c8, c9, dA, dB⟩ := Cb.c5 aD.out; obtain ⟨dC, dD, dE, dF, dG⟩ := Cb.f5 aD.out; obtain ⟨dH, dI, dJ, dK, dL⟩ := Cb.c5 aK.out; obtain ⟨dM, dN, dO, dP, dQ⟩ := Cb.f5 aK.out))
  refine bodyPost_ret (results_ct rfl _ _ aC 26 #[.int .i64 aU, .slice a0 aV.length a2, .slice bE a3.length bF, .int .i64 a4, .int .u64 a9] (0, 0) _ rfl (by exact pq (blk_put (blk_put (blk_put (blk_put (blk_put (blk_far (pk aK.out) aG.out _) 0 _ rfl) 1 _ rfl) 2 _ rfl) 3 _ rfl) 4 _ rfl)) Try.underlying26 rfl (by kernel_rfl)) rfl ?_
  exact ⟨_, _, by first | rfl | (simp [errW_none, errW_some] <;> rfl) | (simp [*, errW_none, errW_some] <;> rfl), Kd.V_mono (Kd.R_V (qr (Kd.R_mono (rf5 (rf1 (Kd.R_types (Kd.R_types bG.out aD.out (by decide)) aK.out (by decide)) fun _ hk => hk.1.2) fun _ hk => hk.2) (fun _ hk => hk.1.1.1)))) (fun k_ hk => by first | exact ⟨(.inr (hk.1)), hk.2⟩ | exact (.inr (hk))), Kd.V_mono (Kd.R_V (qr (Kd.R_mono (rf5 (rf1 (Kd.R_types (Kd.R_types bI.out aD.out (by decide)) aK.out (by decide)) fun _ hk => hk.1.2) fun _ hk => hk.2) (fun _ hk => hk.1.1.1)))) (fun k_ hk => by first | exact ⟨(.inr (hk.1)), hk.2⟩ | exact (.inr (hk))), ub aM.out aT.out HB.out⟩

/-! ### stanchionref17_Find: function 32 -/
set_option maxHeartbeats 8000000 in
set_option maxRecDepth 100000 in
theorem stanchionref17_Find.calls (k : Nat) (aM : Int) (aY : Option Addr) (aZ : Nat) (aC : List (S42)) (a0 : Option Addr) (a2 : Nat) (aJ : List (S85)) (aN : Int) (aQ : Int) (a1 : Int) (r1 : Int) (r2 : Int) (r3 : Bool) (r4 : ByteArray) (r5 : Int) (r6 : Int) (r7 : Bool) (w : World) (a5 : Kd.C k42 w aY aC.length aC) (a6 : aC.length ≤ aZ) (a7 : Kd.C k85 w a0 aJ.length aJ) (a8 : aJ.length ≤ a2) (h : stanchionref17_Find.f k aM aC aJ aN aQ a1 = some (r1, r2, r3, r4, r5, r6, r7)) :
  Calls Try.prog 32 #[.agg #[.int .i64 aM, .slice aY aC.length aZ, .slice a0 aJ.length a2, .int .i64 aN, .int .u64 aQ], .int .i64 a1] w fun e w' => e = .returned (.tuple #[.agg #[.int .i64 r1, .int .i64 r2, .bool r3, .string r4, .int .i64 r5, .int .i64 r6], .bool r7]) ∧ Below w.heap.size w w' := by
 have dD := Try.underlying26
 have dE := Try.underlying42
 have a3 := ak a5
 have a9 := ak a6
 clear a5 a6
 have bA := ak a7
 have bB := ak a8
 clear a7 a8
 have HB := ak (Below.refl w.heap.size w)
 have H : ((stanchionref17_at.f k aM aC aJ aN aQ a1).bind fun aA => (if aA < 0 then (some (0, 0, false, (⟨#[]⟩ : ByteArray), 0, 0, false)) else (if 0 ≤ aA then (if aA < (aC.length : Int) then (some ((rd_T42 aC aA).f0, (rd_T42 aC aA).f1, (rd_T42 aC aA).f2, (rd_T42 aC aA).f3, (rd_T42 aC aA).f4, (rd_T42 aC aA).f5, true)) else (none)) else (none)))) = some (r1, r2, r3, r4, r5, r6, r7) := h
 clear h
 replace H := Option.bind_eq_some_iff.mp H
 obtain ⟨aA, c3, H⟩ := H
 try dsimp only at H
 have A3 := ak c3
 clear c3
 by_cases c4 : aA < 0
 ·rw [if_pos c4] at H
  have cR : decide (aA < 0) = true := decide_eq_true c4
  clear c4
  simp only [Option.some.injEq, Prod.mk.injEq] at H
  obtain ⟨rfl, rfl, rfl, rfl, rfl, rfl, rfl⟩ := H
  go_enter Try.func32, Try.ntmps32
  go_wp2_with (first | ((with_reducible refine gate_dst (N := 2) rfl ?_); refine bv 2 26 #[.int .i64 aM, .slice aY aC.length aZ, .slice a0 aJ.length a2, .int .i64 aN, .int .u64 aQ] ?_; intro bE hg w5 hbox hb; obtain ⟨n_, aG⟩ := Cb.bx (pB HB.out) hg hb; have bF := aG; have aD := ak (hbox); replace HB := n_; clear n_; clear hb hbox hg) | ((with_reducible refine gate_dst (N := 4) rfl ?_); refine bv 4 42 #[.int .i64 0, .int .i64 0, .bool false, .string (⟨#[]⟩ : ByteArray), .int .i64 0, .int .i64 0] ?_; intro a4 hg w6 hbox hb; obtain ⟨n_, aK⟩ := Cb.bx (ua aG.out HB.out) hg hb; have bG := aK; obtain ⟨aH, aI⟩ := Cb.nb hg aD.out; have aE := ak (hbox); replace aD := bb aD hb; replace HB := n_; clear n_; clear hb hbox hg; have dF := aH.out; have dG := aI.out; obtain ⟨cS, cT, cU, cV, cW⟩ := Cb.c5 aD.out; obtain ⟨cX, cY, cZ, c0, c1⟩ := Cb.f5 aD.out) | ((with_reducible refine gate_callee (f := 55) rfl ?_); refine goesL_ (some 9) rfl rfl Try.func55 (by kernel_rfl) rfl #[.agg #[.int .i64 aM, .slice aY aC.length aZ, .slice a0 aJ.length a2, .int .i64 aN, .int .u64 aQ], .int .i64 a1] rfl mp ?_; (with_reducible refine (stanchionref17_at.calls k aM _ _ aC _ _ aJ aN aQ a1 aA _ ?side1 ?side2 ?side3 ?side4 A3.out).mono ?_); (case side1 => exact pc (Kd.C_below a3.out HB.out)); (case side2 => exact a9.out); (case side3 => exact pc (Kd.C_below bA.out HB.out)); (case side4 => exact bB.out); rintro e w9 ⟨rfl, hb⟩; refine ⟨_, rfl, ?_⟩; replace aD := bb aD hb; replace aE := bb aE hb; replace HB := ak (below_step (ub aG.out aK.out HB.out) hb); (try clear hb); (try clear hb2); (try clear hk); (try clear hi); obtain ⟨bH, bI, bJ, bK, bL, bM⟩ := Cb.c6 aE.out; obtain ⟨bN, bO, bP, bQ, bR, bS⟩ := Cb.f6 aE.out))
  refine bodyPost_ret (results_ct rfl _ _ a4 42 #[.int .i64 0, .int .i64 0, .bool false, .string (⟨#[]⟩ : ByteArray), .int .i64 0, .int .i64 0] (0, 0) _ rfl (by exact pq (blk_put (blk_put (blk_put (blk_put (blk_put (blk_put (pk aE.out) 0 _ rfl) 1 _ rfl) 2 _ rfl) 3 _ rfl) 4 _ rfl) 5 _ rfl)) Try.underlying42 rfl (by kernel_rfl)) rfl ?_
  exact ⟨by first | rfl | (simp [errW_none, errW_some] <;> rfl) | (simp [*, errW_none, errW_some] <;> rfl), ub aG.out aK.out HB.out⟩
 ·rw [if_neg c4] at H
  have cR : decide (aA < 0) = false := decide_eq_false c4
  clear c4
  have bT : 0 ≤ aA := Decidable.byContradiction fun q => by rw [if_neg q] at H; exact absurd H (by simp)
  rw [if_pos bT] at H
  have c8 : decide (0 ≤ aA) = true := decide_eq_true bT
  clear bT
  have bU : aA < (aC.length : Int) := Decidable.byContradiction fun q => by rw [if_neg q] at H; exact absurd H (by simp)
  rw [if_pos bU] at H
  have c9 : decide (aA < (aC.length : Int)) = true := decide_eq_true bU
  clear bU
  simp only [Option.some.injEq, Prod.mk.injEq] at H
  obtain ⟨rfl, rfl, rfl, rfl, rfl, rfl, rfl⟩ := H
  go_enter Try.func32, Try.ntmps32
  go_wp2_with (first | ((with_reducible refine gate_dst (N := 2) rfl ?_); refine bv 2 26 #[.int .i64 aM, .slice aY aC.length aZ, .slice a0 aJ.length a2, .int .i64 aN, .int .u64 aQ] ?_; intro bE hg dH hbox hb; obtain ⟨n_, aG⟩ := Cb.bx (pB HB.out) hg hb; have bF := aG; have aD := ak (hbox); replace HB := n_; clear n_; clear hb hbox hg) | ((with_reducible refine gate_dst (N := 4) rfl ?_); refine bv 4 42 #[.int .i64 0, .int .i64 0, .bool false, .string (⟨#[]⟩ : ByteArray), .int .i64 0, .int .i64 0] ?_; intro a4 hg dI hbox hb; obtain ⟨n_, aK⟩ := Cb.bx (ua aG.out HB.out) hg hb; have bG := aK; obtain ⟨aH, aI⟩ := Cb.nb hg aD.out; have aE := ak (hbox); replace aD := bb aD hb; replace HB := n_; clear n_; clear hb hbox hg; have dA := aH.out; have dB := aI.out; obtain ⟨bV, bW, bX, bY, bZ⟩ := Cb.c5 aD.out; obtain ⟨b0, b1, b2, b3, b4⟩ := Cb.f5 aD.out) | ((with_reducible refine gate_callee (f := 55) rfl ?_); refine goesL_ (some 9) rfl rfl Try.func55 (by kernel_rfl) rfl #[.agg #[.int .i64 aM, .slice aY aC.length aZ, .slice a0 aJ.length a2, .int .i64 aN, .int .u64 aQ], .int .i64 a1] rfl mp ?_; (with_reducible refine (stanchionref17_at.calls k aM _ _ aC _ _ aJ aN aQ a1 aA _ ?side1 ?side2 ?side3 ?side4 A3.out).mono ?_); (case side1 => exact pc (Kd.C_below a3.out HB.out)); (case side2 => exact a9.out); (case side3 => exact pc (Kd.C_below bA.out HB.out)); (case side4 => exact bB.out); rintro e dJ ⟨rfl, hb⟩; refine ⟨_, rfl, ?_⟩; replace aD := bb aD hb; replace aE := bb aE hb; replace HB := ak (below_step (ub aG.out aK.out HB.out) hb); (try clear hb); (try clear hb2); (try clear hk); (try clear hi); obtain ⟨b5, b6, b7, b8, b9⟩ := Cb.c5 aD.out; obtain ⟨cA, cB, cC, cD, cE⟩ := Cb.f5 aD.out; have bC : 0 ≤ (aA : Int) := od; have bD : aA < (aC.length : Int) := od; obtain ⟨dC, c2, aR, aT, aU, aV, aW, aX⟩ := at_T42 a3.out aA bC bD; cases c2; replace aR := (HB.out.cell (World.block_lt_of_cell? w _ aR)).trans aR; replace aT := (HB.out.cell (World.block_lt_of_cell? w _ aT)).trans aT; replace aU := (HB.out.cell (World.block_lt_of_cell? w _ aU)).trans aU; replace aV := (HB.out.cell (World.block_lt_of_cell? w _ aV)).trans aV; replace aW := (HB.out.cell (World.block_lt_of_cell? w _ aW)).trans aW; replace aX := (HB.out.cell (World.block_lt_of_cell? w _ aX)).trans aX; replace bC := eq_true bC; replace bD := eq_true bD; obtain ⟨cF, cG, cH, cI, cJ, cK⟩ := Cb.c6 aE.out; obtain ⟨cL, cM, cN, cO, cP, cQ⟩ := Cb.f6 aE.out))
  refine bodyPost_ret (results_ct rfl _ _ a4 42 #[.int .i64 ((rd_T42 aC aA).f0), .int .i64 ((rd_T42 aC aA).f1), .bool ((rd_T42 aC aA).f2), .string ((rd_T42 aC aA).f3), .int .i64 ((rd_T42 aC aA).f4), .int .i64 ((rd_T42 aC aA).f5)] (0, 0) _ rfl (by exact pq (blk_put (blk_put (blk_put (blk_put (blk_put (blk_put (pk aE.out) 0 _ rfl) 1 _ rfl) 2 _ rfl) 3 _ rfl) 4 _ rfl) 5 _ rfl)) Try.underlying42 rfl (by kernel_rfl)) rfl ?_
  exact ⟨by first | rfl | (simp [errW_none, errW_some] <;> rfl) | (simp [*, errW_none, errW_some] <;> rfl), ub aG.out aK.out HB.out⟩

end Go.Proofs.Ytnpmjboofmdflaa.PA
