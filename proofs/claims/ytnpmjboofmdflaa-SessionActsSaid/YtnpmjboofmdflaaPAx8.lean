-- Made by a program of this workplace out of the translation (wip/tools in the repo). Not trusted: Lean checks it.
import Derived.Test.YtnpmjboofmdflaaPAx0
import Derived.Test.YtnpmjboofmdflaaCb
import Derived.Test.YtnpmjboofmdflaaSq
import Derived.Test.YtnpmjboofmdflaaTq
import Derived.Test.YtnpmjboofmdflaaPAx3
import Derived.Test.YtnpmjboofmdflaaPAx4
import Derived.Test.YtnpmjboofmdflaaPAx6
import Derived.Test.YtnpmjboofmdflaaPAx7
namespace Go.Proofs.Ytnpmjboofmdflaa.PA
open Go.RowKit Go.Proofs.YtnpmjboofmdflaaW.PrintWords Go.Proofs.YtnpmjboofmdflaaW.PrintLast Go.Proofs.YtnpmjboofmdflaaW.PrintMore Go.Proofs.Ytnpmjboofmdflaa
attribute [local go_sem] max2_int min2_int max_two min_two max_three min_three max_four min_four   -- for this text's walks alone
set_option linter.unusedVariables false
set_option linter.unusedSimpArgs false

/-! ### session_renewed: function 40 -/
def session_renewed.T1 : Bool × List (List Nat × List Nat) := (true, [([], []), ([0], [0]), ([], []), ([1, 2], [1, 2]), ([], []), ([4], [4]), ([], []), ([6], [6]), ([7], [7]), ([8], [8]), ([5, 9], [5, 9]), ([], []), ([10, 11], [10, 11]), ([3, 12, 3], [3, 12]), ([0, 1, 2, 3, 4, 5, 6, 7, 8, 9, 10, 11, 12, 13], []), ([14, 13, 13, 0, 1, 2, 3, 4, 5, 6, 7, 8, 9, 10, 11, 12, 13], [13, 14])])
def session_renewed.B1 : List Nat := [0, 1, 0, 7, 0, 16, 0, 64, 192, 448, 1008, 0, 4080, 8191, 16383, 32767]
theorem session_renewed.tab1 : rtab .any (opsOf Try.f40 1) = session_renewed.T1 := by kernel_rfl
theorem session_renewed.bits1 : waitsOk session_renewed.T1.2 session_renewed.B1 = true := by kernel_rfl
set_option maxHeartbeats 8000000 in
set_option maxRecDepth 100000 in
theorem session_renewed.calls (k : Nat) (aJ : Int) (a6 : Nat → Prop) (aT : Option Addr) (aU : Nat) (aG : List (S42)) (a4 : Option Addr) (a5 : Nat) (aV : List (S85)) (aR : Int) (aC : Int) (a1 : Int) (r1 : Int) (r2 : List (S42)) (r3 : List (S85)) (r4 : Int) (r5 : Int) (w : World) (bB : Kd.V k42 42 w w.heap.size (fun k_ => a6 k_) (.slice aT aG.length aU) aG) (a7 : Kd.C k85 w a4 aV.length aV) (a8 : aV.length ≤ a5) (h : session_renewed.f k aJ aG aV aR aC a1 = some (r1, r2, r3, r4, r5)) :
  Calls Try.prog 40 #[.agg #[.int .i64 aJ, .slice aT aG.length aU, .slice a4 aV.length a5, .int .i64 aR, .int .u64 aC], .int .i64 a1] w fun e w' => ∃ v1_ b2 : Value, e = .returned (.agg #[.int .i64 r1, v1_, b2, .int .i64 r4, .int .u64 r5]) ∧ Kd.V k42 42 w' w.heap.size (fun k_ => (a6 k_ ∨ w.heap.size ≤ k_) ∧ some k_ ≠ (b2 : Value).ownBlock) v1_ r2 ∧ Kd.R k85 85 w' w.heap.size (fun k_ => (w.heap.size ≤ k_)) b2 r3 ∧ Below w.heap.size w w' := by
 have cH := Try.underlying26
 have cI := Try.underlying85
 have aE := ak (show Kd.V k42 42 w w.heap.size (fun k_ => (a6 k_ ∨ w.heap.size ≤ k_)) (.slice aT aG.length aU) aG from Kd.V_mono bB (fun k_ hk => .inl hk))
 have bC := ak a7
 have bD := ak a8
 clear a7 a8
 have HB := ak (Below.refl w.heap.size w)
 have H : ((alarm_Drop.f k aV a1).bind fun aY => ((alarm_Put.f k aY (IntKind.u64.wrap (aC + (mn 20 (Go.bits .xor .u64 18446744073709551615 aC)))) a1).bind fun aK => (some (aJ, aG, aK, aR, aC)))) = some (r1, r2, r3, r4, r5) := h
 clear h
 replace H := Option.bind_eq_some_iff.mp H
 obtain ⟨aY, b7, H⟩ := H
 try dsimp only at H
 have A3 := ak b7
 clear b7
 obtain ⟨ji4, hji4⟩ : ∃ j_ : Int, (mn 20 (Go.bits .xor .u64 18446744073709551615 aC)) = j_ := ⟨_, rfl⟩
 replace H : ((alarm_Put.f k aY (IntKind.u64.wrap (aC + (ji4))) a1).bind fun aK => (some (aJ, aG, aK, aR, aC))) = some (r1, r2, r3, r4, r5) := by first | (rw [hji4] at H; exact H) | (simp only [hji4] at H ⊢; exact H)
 (try rw [hji4] at A3)
 (try (have b8 : ji4 ≤ 20 := by (rw [← hji4]; unfold mn; (repeat' split) <;> omega)))
 (try (have b9 : ji4 ≤ 64 := by omega))
 have cA : (if (Go.bits .xor .u64 18446744073709551615 aC) < 20 then (Go.bits .xor .u64 18446744073709551615 aC) else 20) = ji4 := hji4
 replace H := Option.bind_eq_some_iff.mp H
 obtain ⟨aK, cB, H⟩ := H
 try dsimp only at H
 have A5 := ak cB
 clear cB
 simp only [Option.some.injEq, Prod.mk.injEq] at H
 obtain ⟨rfl, rfl, rfl, rfl, rfl⟩ := H
 have hxu_ : (if IntKind.u64.signed = true then (-1 : Int) else IntKind.u64.max) = 18446744073709551615 := rfl
 go_enter Try.func40, Try.ntmps40
 try go_wp2_with (first | ((with_reducible refine gate_dst (N := 2) rfl ?_); refine bv 2 26 #[.int .i64 aJ, .slice aT aG.length aU, .slice a4 aV.length a5, .int .i64 aR, .int .u64 aC] ?_; intro aI hg w6 hbox hb; obtain ⟨n_, aM⟩ := Cb.bx (pB HB.out) hg hb; have cC := aM; have aA := ak (hbox); replace aE := vb aE aI hg hb; replace HB := n_; clear n_; clear hb hbox hg) | ((with_reducible refine gate_dst (N := 4) rfl ?_); refine bv 4 26 #[.int .i64 0, .slice none 0 0, .slice none 0 0, .int .i64 0, .int .u64 0] ?_; intro aD hg w7 hbox hb; obtain ⟨n_, aQ⟩ := Cb.bx (ua aM.out HB.out) hg hb; have cD := aQ; obtain ⟨aW, aN⟩ := Cb.nb hg aA.out; have aH := ak (hbox); replace aE := vb aE aD hg hb; replace aA := bb aA hb; replace HB := n_; clear n_; clear hb hbox hg))
 replace aE := ak (Kd.V_drew aE.out)
 replace aA := ak (blk_drew aA.out)
 replace aH := ak (blk_drew aH.out)
 replace HB := ak (below_drew1 HB.out)
 refine start_ (n := 16) (S := fun w' => w'.cell? ⟨aI, 0, none⟩ = some (.int .i64 aJ) ∧ w'.cell? ⟨aI, 1, none⟩ = some (.slice aT aG.length aU) ∧ w'.cell? ⟨aI, 2, none⟩ = some (.slice a4 aV.length a5) ∧ w'.cell? ⟨aI, 3, none⟩ = some (.int .i64 aR) ∧ w'.cell? ⟨aI, 4, none⟩ = some (.int .u64 aC)) (ds := [15]) #[false, false, false, false, false, false, false, false, false, false, false, false, false, false, false, false] (by kernel_rfl) rfl rfl ⟨(blk_cell aA.out 0).trans rfl, (blk_cell aA.out 1).trans rfl, (blk_cell aA.out 2).trans rfl, (blk_cell aA.out 3).trans rfl, (blk_cell aA.out 4).trans rfl⟩ (fun hHeld => ?_); refine with_tabW session_renewed.tab1 session_renewed.bits1 (fun HT_ HW_ => ?_)
 generalize w7.drew = w8 at aE aA aH HB hHeld ⊢
 refine qa 0 5 (tb 16 1) (any_of HT_.out (by kernel_rfl)) ?_
 refine qa 2 7 (tb 16 5) (any_of HT_.out (by kernel_rfl)) ?_
 refine qa 4 9 (tb 16 21) (any_of HT_.out (by kernel_rfl)) ?_
 refine qa 6 11 (tb 16 85) (any_of HT_.out (by kernel_rfl)) ?_
 refine qa 11 16 (tb 16 2133) (any_of HT_.out (by kernel_rfl)) ?_
 refine ke 1 6 (tb 16 2135) (take_ofW HT_.out HW_.out (by kernel_rfl)) hHeld ?_
 refine ke 5 10 (tb 16 2167) (take_ofW HT_.out HW_.out (by kernel_rfl)) hHeld ?_
 refine ke 7 12 (tb 16 2295) (take_ofW HT_.out HW_.out (by kernel_rfl)) hHeld ?_
 refine qa 8 13 (tb 16 2551) (any_of HT_.out (by kernel_rfl)) ?_
 refine qa 9 14 (tb 16 3063) (any_of HT_.out (by kernel_rfl)) ?_
 refine qa 10 15 (tb 16 4087) (any_of HT_.out (by kernel_rfl)) ?_
 refine qa 12 17 (tb 16 8183) (any_of HT_.out (by kernel_rfl)) ?_
 refine one_ (i := 3) (N := some 8) (tb 16 8191) rfl rfl (one_of HT_.out (by kernel_rfl)) (by decide) (fun K hK => ?_)
 refine goes_ Try.func52 (by kernel_rfl) rfl #[.slice a4 aV.length a5, .int .i64 a1] (by rfl) rfl rfl mp ?_
 with_reducible refine (alarm_Drop.calls k _ _ aV a1 aY _ ?side1 ?side2 A3.out).mono ?_
 (case side1 => exact pc (Kd.C_below bC.out HB.out))
 (case side2 => exact bD.out)
 rintro e w9 ⟨cJ, rfl, a9, hb⟩
 refine ⟨_, rfl, ?_⟩
 have aX := ak (Kd.R_lower (Kd.R_newM (M := fun k_ => (w.heap.size ≤ k_)) a9 (below_size (ub aM.out aQ.out HB.out)) (fun k_ h_ => h_)) (below_size (ub aM.out aQ.out HB.out)))
 replace aE := ve aE a9 hb
 replace aA := bb aA hb
 replace aH := bb aH hb
 replace HB := ak (below_step (ub aM.out aQ.out HB.out) hb)
 (try clear hb)
 (try clear hb2)
 (try clear hk)
 (try clear hi)
 (try clear a9)
 obtain ⟨b3, b4, bE⟩ := Kd.R_slice aX.out
 (first | subst bE | (injection bE with f1_ f2_ f3_; have b5 := f1_.symm; have b6 := f3_.symm; clear f1_ f2_ f3_; subst b5; subst b6))
 refine hK.out _ _ ⟨(blk_cell aA.out 0).trans rfl, (blk_cell aA.out 1).trans rfl, (blk_cell aA.out 2).trans rfl, (blk_cell aA.out 3).trans rfl, (blk_cell aA.out 4).trans rfl⟩ (fun hHeld => ?_)
 clear hK K
 refine norm_ (a' := ?_) ?_ ?_
 rotate_left
 ·show Act.put _ (some 8) _ = _
  simp only [Act.put, List.setIfInBounds_toArray, List.set_cons_zero, List.set_cons_succ, i64_w, i32_w]
  rfl
 refine one_ (i := 13) (N := some 18) (tb 16 16383) rfl rfl (one_of HT_.out (by kernel_rfl)) (by decide) (fun K hK => ?_)
 refine goes_ Try.func61 (by kernel_rfl) rfl #[.slice b3 aY.length b4, .agg #[.int .u64 (IntKind.u64.wrap (aC + (ji4))), .int .i64 a1]] (by rfl) rfl rfl (by (try simp only [List.map_toArray, List.map_cons, List.map_nil]); first | done | (simp only [hji4]; rfl) | rfl | (simp only [List.length_drop, List.length_take]; rfl) | (simp (disch := omega) only [IntWalk.u64_in]; first | done | rfl)) ?_
 with_reducible refine (alarm_Put.calls k _ _ aY (IntKind.u64.wrap (aC + (ji4))) a1 aK _ ?side1 ?side2 A5.out).mono ?_
 (case side1 => exact pc (Kd.R_reads' aX.out).2.2)
 (case side2 => exact (Kd.R_reads' aX.out).2.1)
 rintro e cK ⟨cL, rfl, a9, hb⟩
 refine ⟨_, rfl, ?_⟩
 have bA := ak (Kd.R_lower (Kd.R_new' (Kd.R_newM (M := fun k_ => (w.heap.size ≤ k_)) a9 (below_size (ub aM.out aQ.out HB.out)) (fun k_ h_ => h_)) (Kd.R_lt (pR aX.out))) (below_size (ub aM.out aQ.out HB.out)))
 replace aE := ve aE a9 hb
 replace aX := ak (Kd.R_elder' (pR aX.out) (Kd.R_base a9) hb)
 replace aA := bb aA hb
 replace aH := bb aH hb
 replace HB := ak (below_step (ub aM.out aQ.out HB.out) hb)
 (try clear hb)
 (try clear hb2)
 (try clear hk)
 (try clear hi)
 (try clear a9)
 obtain ⟨aZ, a3, bF⟩ := Kd.R_slice bA.out
 (first | subst bF | (injection bF with f1_ f2_ f3_; have b5 := f1_.symm; have b6 := f3_.symm; clear f1_ f2_ f3_; subst b5; subst b6))
 refine hK.out _ _ ⟨(blk_cell aA.out 0).trans rfl, (blk_cell aA.out 1).trans rfl, (blk_cell aA.out 2).trans rfl, (blk_cell aA.out 3).trans rfl, (blk_cell aA.out 4).trans rfl⟩ (fun hHeld => ?_)
 clear hK K
 refine norm_ (a' := ?_) ?_ ?_
 rotate_left
 ·show Act.put _ (some 18) _ = _
  simp only [Act.put, List.setIfInBounds_toArray, List.set_cons_zero, List.set_cons_succ, i64_w, i32_w]
  rfl
 refine qa 14 19 (tb 16 32767) (any_of HT_.out (by kernel_rfl)) ?_
 refine last_ (i := 15) (N := none) (tb 16 65535) rfl rfl (one_of HT_.out (by kernel_rfl)) (by decide) (fun K hK => ?_)
 have cM : cK.cell? ⟨aI, 2, none⟩ = some (.slice a4 aV.length a5) := (blk_cell aA.out 2).trans rfl
 have cE := blk_frozen aA.out 2
 have bG := aN.out
 have bH := aW.out
 refine skip_ (w1 := ?_) (by rfl) rfl ?_ ?_
 rotate_left
 ·go_simp
  rfl
 refine hK.out _ _ ?_
 clear hK K
 refine done_ (done_of HT_.out (by kernel_rfl)) ?_
 have cF := aW.out
 have cG := aN.out
 obtain ⟨bI, bJ, bK, bL, bM⟩ := Cb.c5 aA.out
 obtain ⟨bN, bO, bP, bQ, bR⟩ := Cb.f5 aA.out
 obtain ⟨bS, bT, bU, bV, bW⟩ := Cb.c5 aH.out
 obtain ⟨bX, bY, bZ, b0, b1⟩ := Cb.f5 aH.out
 try go_wp2
 refine bodyPost_ret (results_cell_row rfl _ _ aD 26 #[.int .i64 aJ, .slice aT aG.length aU, .slice aZ aK.length a3, .int .i64 aR, .int .u64 aC] (0, 0) _ rfl (by exact pq (blk_put (blk_put (blk_put (blk_put (blk_put (blk_far (pk aH.out) aN.out _) 0 _ rfl) 1 _ rfl) 2 _ rfl) 3 _ rfl) 4 _ rfl)) Try.underlying26 rfl (by kernel_rfl)) rfl ?_
 exact ⟨_, _, by first | rfl | (simp [errW_none, errW_some] <;> rfl) | (simp only [← hji4]; first | rfl | (simp [errW_none, errW_some] <;> rfl)) | (simp [*, errW_none, errW_some] <;> rfl), qv (vm (vf5 (vf1 (Kd.V_mono (Kd.V_mono aE.out (fun k_ hk => (⟨hk, hk.1.1.1.2⟩ : _ ∧ k_ ≠ aI))) (fun k_ hk => (⟨hk, hk.1.1.1.2⟩ : _ ∧ k_ ≠ aD))) fun _ hk => hk.1.2) fun _ hk => hk.2)), qr (Kd.R_mono (rf5 (rf1 (Kd.R_types (Kd.R_types bA.out aA.out (by decide)) aH.out (by decide)) fun _ hk => hk.1.2) fun _ hk => hk.2) (fun _ hk => hk.1.1.1.1)), ub aM.out aQ.out HB.out⟩

/-! ### session_Take: function 12 -/
set_option maxHeartbeats 8000000 in
set_option maxRecDepth 100000 in
theorem session_Take.calls (k : Nat) (aY : Int) (aZ : Nat → Prop) (bC : Option Addr) (bD : Nat) (aQ : List (S42)) (a3 : Nat → Prop) (bE : Option Addr) (bF : Nat) (aR : List (S85)) (a4 : Int) (a5 : Int) (a1 : Int) (a2 : Int) (r1 : Int) (r2 : List (S42)) (r3 : List (S85)) (r4 : Int) (r5 : Int) (r6 : Int) (w : World) (dR : Kd.V k42 42 w w.heap.size (fun k_ => aZ k_) (.slice bC aQ.length bD) aQ) (dS : Kd.V k85 85 w w.heap.size (fun k_ => a3 k_) (.slice bE aR.length bF) aR) (h : session_Take.f k aY aQ aR a4 a5 a1 a2 = some (r1, r2, r3, r4, r5, r6)) :
  Calls Try.prog 12 #[.agg #[.int .i64 aY, .slice bC aQ.length bD, .slice bE aR.length bF, .int .i64 a4, .int .u64 a5], .int .i64 a1, .int .i64 a2] w fun e w' => ∃ v1_ v2_ : Value, e = .returned (.tuple #[.agg #[.int .i64 r1, v1_, v2_, .int .i64 r4, .int .u64 r5], .int .i64 r6]) ∧ Kd.V k42 42 w' w.heap.size (fun k_ => ((aZ k_ ∨ a3 k_) ∨ w.heap.size ≤ k_)) v1_ r2 ∧ Kd.V k85 85 w' w.heap.size (fun k_ => ((aZ k_ ∨ a3 k_) ∨ w.heap.size ≤ k_)) v2_ r3 ∧ Below w.heap.size w w' := by
 have iG := Try.underlying26
 have iH := Try.underlying42
 have bH := ak (show Kd.V k42 42 w w.heap.size (fun k_ => ((aZ k_ ∨ a3 k_) ∨ w.heap.size ≤ k_)) (.slice bC aQ.length bD) aQ from Kd.V_mono dR (fun k_ hk => .inl (.inl hk)))
 have bI := ak (show Kd.V k85 85 w w.heap.size (fun k_ => ((aZ k_ ∨ a3 k_) ∨ w.heap.size ≤ k_)) (.slice bE aR.length bF) aR from Kd.V_mono dS (fun k_ hk => .inl (.inr hk)))
 have HB := ak (Below.refl w.heap.size w)
 have H : ((session_Find.f aY aQ aR a4 a5 a1).bind fun bt198 => (if bt198.2.2.2.2.2.2 = true then (session_Take.j0 k a1 (decide (bt198.2.1 ≥ 1073741824)) aY aQ aR a4 a5 a2) else (session_Take.j0 k a1 false aY aQ aR a4 a5 a2))) = some (r1, r2, r3, r4, r5, r6) := h
 clear h
 replace H := Option.bind_eq_some_iff.mp H
 obtain ⟨⟨bG, bB, bL, bR, bT, bW, dP⟩, gX, H⟩ := H
 try dsimp only at H
 have A4 := ak gX
 clear gX
 have gN := ak H
 clear H
 go_enter Try.func12, Try.ntmps12
 go_upto_region 2 with (first | ((with_reducible refine gate_dst (N := 3) rfl ?_); refine bv 3 26 #[.int .i64 aY, .slice bC aQ.length bD, .slice bE aR.length bF, .int .i64 a4, .int .u64 a5] ?_; intro aA hg w6 hbox hb; obtain ⟨n_, aT⟩ := Cb.bx (pB HB.out) hg hb; have gY := aT; have aE := ak (hbox); replace bH := vb bH aA hg hb; replace bI := vb bI aA hg hb; replace HB := n_; clear n_; clear hb hbox hg) | ((with_reducible refine gate_dst (N := 5) rfl ?_); refine bv 5 3 #[.int .i64 a2] ?_; intro aN hg w7 hbox hb; obtain ⟨n_, aV⟩ := Cb.bx (ua aT.out HB.out) hg hb; have gZ := aV; obtain ⟨bO, aX⟩ := Cb.nb hg aE.out; have aJ := ak (hbox); replace bH := vb bH aN hg hb; replace bI := vb bI aN hg hb; replace aE := bb aE hb; replace HB := n_; clear n_; clear hb hbox hg) | ((with_reducible refine gate_dst (N := 6) rfl ?_); refine bv 6 26 #[.int .i64 0, .slice none 0 0, .slice none 0 0, .int .i64 0, .int .u64 0] ?_; intro aC hg w8 hbox hb; obtain ⟨n_, aW⟩ := Cb.bx (ub aT.out aV.out HB.out) hg hb; have g0 := aW; obtain ⟨bP, aK⟩ := Cb.nb hg aE.out; obtain ⟨bU, bV⟩ := Cb.nb hg aJ.out; have aM := ak (hbox); replace bH := vb bH aC hg hb; replace bI := vb bI aC hg hb; replace aE := bb aE hb; replace aJ := bb aJ hb; replace HB := n_; clear n_; clear hb hbox hg; have iI := bO.out; have iJ := aX.out; have g1 := bP.out; have g2 := aK.out; obtain ⟨cH, cI, cJ, cK, cL⟩ := Cb.c5 aE.out; obtain ⟨cM, cN, cO, cP, cQ⟩ := Cb.f5 aE.out) | ((with_reducible refine gate_callee (f := 14) rfl ?_); refine goesL_ (some 14) rfl rfl Try.func14 (by kernel_rfl) rfl #[.agg #[.int .i64 aY, .slice bC aQ.length bD, .slice bE aR.length bF, .int .i64 a4, .int .u64 a5], .int .i64 a1] rfl mp ?_; (with_reducible refine (session_Find.calls aY _ _ aQ _ _ aR a4 a5 a1 bG bB bL bR bT bW dP _ ?side1 ?side2 ?side3 ?side4 A4.out).mono ?_); (case side1 => exact pc (Kd.V_reads' bH.out).2.2); (case side2 => exact (Kd.V_reads' bH.out).2.1); (case side3 => exact pc (Kd.V_reads' bI.out).2.2); (case side4 => exact (Kd.V_reads' bI.out).2.1); rintro e iN ⟨rfl, hb⟩; refine ⟨_, rfl, ?_⟩; replace bH := vw bH hb; replace bI := vw bI hb; replace aE := bb aE hb; replace aJ := bb aJ hb; replace aM := bb aM hb; replace HB := ak (below_step (uc aT.out aV.out aW.out HB.out) hb); (try clear hb); (try clear hb2); (try clear hk); (try clear hi)) | ((with_reducible refine gate_dst (N := 8) rfl ?_); refine bv 8 42 #[.int .i64 0, .int .i64 0, .bool false, .string (⟨#[]⟩ : ByteArray), .int .i64 0, .int .i64 0] ?_; intro aD hg iO hbox hb; obtain ⟨n_, a6⟩ := Cb.bx (uc aT.out aV.out aW.out HB.out) hg hb; have g3 := a6; obtain ⟨aG, aU⟩ := Cb.nb hg aE.out; obtain ⟨aI, bQ⟩ := Cb.nb hg aJ.out; obtain ⟨aH, bJ⟩ := Cb.nb hg aM.out; have a7 := ak (hbox); replace bH := vb bH aD hg hb; replace bI := vb bI aD hg hb; replace aE := bb aE hb; replace aJ := bb aJ hb; replace aM := bb aM hb; replace HB := n_; clear n_; clear hb hbox hg; have g4 := aU.out; have g5 := aG.out; have g6 := bQ.out; have g7 := aI.out; have g8 := bJ.out; have g9 := aH.out; obtain ⟨cR, cS, cT, cU, cV, cW⟩ := Cb.c6 a7.out; obtain ⟨cX, cY, cZ, c0, c4, c7⟩ := Cb.f6 a7.out))
 (try simp only [Act.put, List.setIfInBounds_toArray, List.set_cons_zero, List.set_cons_succ])
 go_cut [22] (fun v22 wc => ∃ (kq : Nat) (b9 : Bool), v22 = .bool b9 ∧ Aside0 (session_Take.j0 kq a1 b9 aY aQ aR a4 a5 a2 = some (r1, r2, r3, r4, r5, r6)) ∧ Aside0 (kq ≤ k) ∧ Aside0 (Kd.V k42 42 wc w.heap.size (fun k_ => ((aZ k_ ∨ a3 k_) ∨ w.heap.size ≤ k_) ∧ k_ ≠ aA ∧ k_ ≠ aN ∧ k_ ≠ aC ∧ k_ ≠ aD) (.slice bC aQ.length bD) aQ) ∧ Aside0 (Kd.V k85 85 wc w.heap.size (fun k_ => ((aZ k_ ∨ a3 k_) ∨ w.heap.size ≤ k_) ∧ k_ ≠ aA ∧ k_ ≠ aN ∧ k_ ≠ aC ∧ k_ ≠ aD) (.slice bE aR.length bF) aR) ∧ Aside0 (wc.heap[aA]? = some (.cells #[.int .i64 aY, (.slice bC aQ.length bD), (.slice bE aR.length bF), .int .i64 a4, .int .u64 a5] 26 (0, 0))) ∧ Aside0 (wc.heap[aN]? = some (.cells #[.int .i64 a2] 3 (0, 0))) ∧ Aside0 (wc.heap[aC]? = some (.cells #[.int .i64 0, (.slice none 0 0), (.slice none 0 0), .int .i64 0, .int .u64 0] 26 (0, 0))) ∧ Aside0 (wc.heap[aD]? = some (.cells #[.int .i64 bG, .int .i64 bB, .bool bL, .string bR, .int .i64 bT, .int .i64 bW] 42 (0, 0))) ∧ Aside0 (Below w.heap.size w wc))
 case first =>
  have H := gN.out
  clear gN
  by_cases dT : dP = true
  ·subst dT
   have H1 : (session_Take.j0 k a1 (decide (bB ≥ 1073741824)) aY aQ aR a4 a5 a2) = some (r1, r2, r3, r4, r5, r6) := by rw [if_pos rfl] at H; exact H
   clear H
   have H := H1
   clear H1
   have H' := ak H
   clear H
   have hA := aU.out
   have hB := aG.out
   have hC := bQ.out
   have hD := aI.out
   have hE := bJ.out
   have hF := aH.out
   obtain ⟨c8, dA, dB, dC, dD, dE⟩ := Cb.c6 a7.out
   obtain ⟨dF, dG, dH, dI, dJ, dK⟩ := Cb.f6 a7.out
   go_wp2
   go_meet
   case rel => exact ⟨_, (decide (bB ≥ 1073741824)), es, H', ⟨by first | omega | exact Nat.le_refl _⟩, ⟨qv (vm (vf6 bH.out fun _ hk => hk.2))⟩, ⟨qv (vm (vf6 bI.out fun _ hk => hk.2))⟩, ⟨by exact pq (blk_far (blk_far (blk_far (blk_far (blk_far (blk_far (pk aE.out) aG.out _) aG.out _) aG.out _) aG.out _) aG.out _) aG.out _)⟩, ⟨by exact pq (blk_far (blk_far (blk_far (blk_far (blk_far (blk_far (pk aJ.out) aI.out _) aI.out _) aI.out _) aI.out _) aI.out _) aI.out _)⟩, ⟨by exact pq (blk_far (blk_far (blk_far (blk_far (blk_far (blk_far (pk aM.out) aH.out _) aH.out _) aH.out _) aH.out _) aH.out _) aH.out _)⟩, ⟨by exact pq (blk_put (blk_put (blk_put (blk_put (blk_put (blk_put (pk a7.out) 0 _ rfl) 1 _ rfl) 2 _ rfl) 3 _ rfl) 4 _ rfl) 5 _ rfl)⟩, ⟨ud aT.out aV.out aW.out a6.out HB.out⟩⟩
  ·replace dT := Bool.eq_false_iff.mpr dT
   subst dT
   have H1 : (session_Take.j0 k a1 false aY aQ aR a4 a5 a2) = some (r1, r2, r3, r4, r5, r6) := by rw [if_neg (show ¬ (false = true) by decide)] at H; exact H
   clear H
   have H := H1
   clear H1
   have H' := ak H
   clear H
   go_wp2
   go_meet
   case rel => exact ⟨_, (false), es, H', ⟨by first | omega | exact Nat.le_refl _⟩, ⟨qv (vm (vf6 bH.out fun _ hk => hk.2))⟩, ⟨qv (vm (vf6 bI.out fun _ hk => hk.2))⟩, ⟨by exact pq (blk_far (blk_far (blk_far (blk_far (blk_far (blk_far (pk aE.out) aG.out _) aG.out _) aG.out _) aG.out _) aG.out _) aG.out _)⟩, ⟨by exact pq (blk_far (blk_far (blk_far (blk_far (blk_far (blk_far (pk aJ.out) aI.out _) aI.out _) aI.out _) aI.out _) aI.out _) aI.out _)⟩, ⟨by exact pq (blk_far (blk_far (blk_far (blk_far (blk_far (blk_far (pk aM.out) aH.out _) aH.out _) aH.out _) aH.out _) aH.out _) aH.out _)⟩, ⟨by exact pq (blk_put (blk_put (blk_put (blk_put (blk_put (blk_put (pk a7.out) 0 _ rfl) 1 _ rfl) 2 _ rfl) 3 _ rfl) 4 _ rfl) 5 _ rfl)⟩, ⟨ud aT.out aV.out aW.out a6.out HB.out⟩⟩
 case rest =>
  clear gN
  try clear c1 c2 p2 c9 c10 c12 c14 c15 c16 dT c19 c20 c21 cH cI cJ cK cL cR cS cT cU cV cW c8 dA dB dC dD dE cM cN cO cP cQ cX cY cZ c0 c4 c7 dF dG dH dI dJ dK
  obtain ⟨kq, b9, rfl, HA, iP, HO_196001, HO_196002, aE, aJ, aM, a7, HB⟩ := hcut
  cases kq with
  | zero => exact absurd HA.out (by simp [session_Take.j0])
  | succ kj4 =>
   have H := HA.out
   clear HA
   simp only [session_Take.j0] at H
   by_cases dY : b9 = true
   ·subst dY
    have H1 : (some (aY, aQ, aR, a4, a5, 4)) = some (r1, r2, r3, r4, r5, r6) := by rw [if_pos rfl] at H; exact H
    clear H
    have H := H1
    clear H1
    simp only [Option.some.injEq, Prod.mk.injEq] at H
    obtain ⟨rfl, rfl, rfl, rfl, rfl, rfl⟩ := H
    have hG := bO.out
    have hH := aX.out
    have hI := bP.out
    have hJ := aK.out
    have hL := aG.out
    have hM := aU.out
    obtain ⟨dZ, d0, d1, d2, d3⟩ := Cb.c5 aE.out
    obtain ⟨d4, d5, d6, d7, d8⟩ := Cb.f5 aE.out
    have hN := bV.out
    have hO := bU.out
    have hP := aH.out
    have hQ := bJ.out
    obtain ⟨d9, eA, eB, eC, eD⟩ := Cb.c5 aM.out
    obtain ⟨eE, eF, eG, eH, eI⟩ := Cb.f5 aM.out
    go_wp2
    refine bodyPost_ret (results_ct rfl _ _ aC 26 #[.int .i64 aY, .slice bC aQ.length bD, .slice bE aR.length bF, .int .i64 a4, .int .u64 a5] (0, 0) _ rfl (by exact pq (blk_put (blk_put (blk_put (blk_put (blk_put (pk aM.out) 0 _ rfl) 1 _ rfl) 2 _ rfl) 3 _ rfl) 4 _ rfl)) Try.underlying26 rfl (by kernel_rfl)) rfl ?_
    exact ⟨_, _, by first | rfl | (simp [errW_none, errW_some] <;> rfl) | (simp [*, errW_none, errW_some] <;> rfl), qv (Kd.V_mono (vf5 HO_196001.out fun _ hk => hk.2.2.2.1) (fun _ hk => hk.1)), qv (Kd.V_mono (vf5 HO_196002.out fun _ hk => hk.2.2.2.1) (fun _ hk => hk.1)), ud aT.out aV.out aW.out a6.out HB.out⟩
   ·replace dY := Bool.eq_false_iff.mpr dY
    subst dY
    have H1 : ((session_with_Take.f aY aQ aR a4 a5 a1 a2).bind fun bt206 => (if bt206.2.2.2.2.2 = 0 then ((session_renewed.f kj4 bt206.1 bt206.2.1 bt206.2.2.1 bt206.2.2.2.1 bt206.2.2.2.2.1 a1).bind fun bt216 => (some (bt216.1, bt216.2.1, bt216.2.2.1, bt216.2.2.2.1, bt216.2.2.2.2, 0))) else (some (bt206.1, bt206.2.1, bt206.2.2.1, bt206.2.2.2.1, bt206.2.2.2.2.1, bt206.2.2.2.2.2)))) = some (r1, r2, r3, r4, r5, r6) := by rw [if_neg (show ¬ (false = true) by decide)] at H; exact H
    clear H
    have H := H1
    clear H1
    replace H := Option.bind_eq_some_iff.mp H
    obtain ⟨⟨a8, a9, bA, bK, bM, b1⟩, dU, H⟩ := H
    try dsimp only at H
    have hR := ak dU
    clear dU
    by_cases dQ : b1 = 0
    ·rw [if_pos dQ] at H
     have dV : (b1 == 0) = true := beq_iff_eq.mpr dQ
     have dW : (b1 != 0) = false := bne_eq_false_iff_eq.mpr dQ
     clear dQ
     replace H := Option.bind_eq_some_iff.mp H
     obtain ⟨⟨b2, b3, b6, cA, cE⟩, dX, H⟩ := H
     try dsimp only at H
     have iK := ak dX
     clear dX
     simp only [Option.some.injEq, Prod.mk.injEq] at H
     obtain ⟨rfl, rfl, rfl, rfl, rfl, rfl⟩ := H
     have hS := bO.out
     have hT := aX.out
     have hU := bP.out
     have hV := aK.out
     have hW := aG.out
     have hX := aU.out
     obtain ⟨eJ, eK, eL, eM, eN⟩ := Cb.c5 aE.out
     obtain ⟨eO, eP, eQ, eR, eS⟩ := Cb.f5 aE.out
     have hY := bU.out
     have hZ := bV.out
     have h0 := aI.out
     have h1 := bQ.out
     have eT : wc.cell? ⟨aN, 0, none⟩ = some (.int .i64 a2) := (blk_cell aJ.out 0).trans rfl
     have eU := blk_frozen aJ.out 0
     go_wp2_with (first | ((with_reducible refine gate_callee (f := 38) rfl ?_); refine goesL_ (some 28) rfl rfl Try.func38 (by kernel_rfl) rfl #[.agg #[.int .i64 aY, .slice bC aQ.length bD, .slice bE aR.length bF, .int .i64 a4, .int .u64 a5], .int .i64 a1, .func (.func 39) #[] #[.pointer (some ⟨aN, 0, none⟩)]] rfl mp ?_; (with_reducible refine (session_with_Take.calls aY (fun k_ => (((aZ k_ ∨ a3 k_) ∨ w.heap.size ≤ k_) ∧ (k_ ≠ aA ∧ (k_ ≠ aN ∧ (k_ ≠ aC ∧ k_ ≠ aD))))) _ _ aQ (fun k_ => (((aZ k_ ∨ a3 k_) ∨ w.heap.size ≤ k_) ∧ (k_ ≠ aA ∧ (k_ ≠ aN ∧ (k_ ≠ aC ∧ k_ ≠ aD))))) _ _ aR a4 a5 a1 a2 a8 a9 bA bK bM b1 _ ?sideB ?side1 ?side2 hR.out).mono ?_); (case sideB => first | (go_simp; done) | (go_simp; rfl) | exact (blk_cell aJ.out 0).trans rfl | exact aJ.out | (exact pk aJ.out)); (case side1 => exact HO_196001.out); (case side2 => exact HO_196002.out); rintro e iL ⟨gO, gP, rfl, dM, cD, hb⟩; refine ⟨_, rfl, ?_⟩; have bS := ak (Kd.V_lower (Kd.V_mono (ok' := fun k_ => ((aZ k_ ∨ a3 k_) ∨ w.heap.size ≤ k_) ∧ k_ ≠ aA ∧ k_ ≠ aN ∧ k_ ≠ aC ∧ k_ ≠ aD) dM (fun k_ hk_ => ⟨Or.elim hk_ (fun hs_ => Or.elim hs_ (fun hs_ => hs_.1) (fun hs_ => hs_.1)) (fun hn_ => (.inr (Nat.le_trans (below_size (ud aT.out aV.out aW.out a6.out HB.out)) hn_))), Or.elim hk_ (fun hs_ => Or.elim hs_ (fun hs_ => hs_.2.1) (fun hs_ => hs_.2.1)) (fun hn_ => (Kd.freshB (pk aE.out) k_ hn_)), Or.elim hk_ (fun hs_ => Or.elim hs_ (fun hs_ => hs_.2.2.1) (fun hs_ => hs_.2.2.1)) (fun hn_ => (Kd.freshB (pk aJ.out) k_ hn_)), Or.elim hk_ (fun hs_ => Or.elim hs_ (fun hs_ => hs_.2.2.2.1) (fun hs_ => hs_.2.2.2.1)) (fun hn_ => (Kd.freshB (pk aM.out) k_ hn_)), Or.elim hk_ (fun hs_ => Or.elim hs_ (fun hs_ => hs_.2.2.2.2) (fun hs_ => hs_.2.2.2.2)) (fun hn_ => (Kd.freshB (pk a7.out) k_ hn_))⟩)) (below_size (ud aT.out aV.out aW.out a6.out HB.out))); have bN := ak (Kd.V_lower (Kd.V_mono (ok' := fun k_ => ((aZ k_ ∨ a3 k_) ∨ w.heap.size ≤ k_) ∧ k_ ≠ aA ∧ k_ ≠ aN ∧ k_ ≠ aC ∧ k_ ≠ aD) cD (fun k_ hk_ => ⟨Or.elim hk_ (fun hs_ => Or.elim hs_ (fun hs_ => hs_.1) (fun hs_ => hs_.1)) (fun hn_ => (.inr (Nat.le_trans (below_size (ud aT.out aV.out aW.out a6.out HB.out)) hn_))), Or.elim hk_ (fun hs_ => Or.elim hs_ (fun hs_ => hs_.2.1) (fun hs_ => hs_.2.1)) (fun hn_ => (Kd.freshB (pk aE.out) k_ hn_)), Or.elim hk_ (fun hs_ => Or.elim hs_ (fun hs_ => hs_.2.2.1) (fun hs_ => hs_.2.2.1)) (fun hn_ => (Kd.freshB (pk aJ.out) k_ hn_)), Or.elim hk_ (fun hs_ => Or.elim hs_ (fun hs_ => hs_.2.2.2.1) (fun hs_ => hs_.2.2.2.1)) (fun hn_ => (Kd.freshB (pk aM.out) k_ hn_)), Or.elim hk_ (fun hs_ => Or.elim hs_ (fun hs_ => hs_.2.2.2.2) (fun hs_ => hs_.2.2.2.2)) (fun hn_ => (Kd.freshB (pk a7.out) k_ hn_))⟩)) (below_size (ud aT.out aV.out aW.out a6.out HB.out))); replace HO_196001 := vw HO_196001 hb; replace HO_196002 := vw HO_196002 hb; replace aE := bb aE hb; replace aJ := bb aJ hb; replace aM := bb aM hb; replace a7 := bb a7 hb; replace HB := ak (below_step (ud aT.out aV.out aW.out a6.out HB.out) hb); (try clear hb); (try clear hb2); (try clear hk); (try clear hi); (try clear dM); (try clear cD); obtain ⟨eV, eW, eX, eY, eZ⟩ := Cb.c5 aE.out; obtain ⟨e0, e1, e2, e3, e4⟩ := Cb.f5 aE.out; obtain ⟨bX, bY, gQ⟩ := Kd.V_slice bS.out; subst gQ; obtain ⟨bZ, b0, gR⟩ := Kd.V_slice bN.out; subst gR) | ((with_reducible refine gate_store (t := 26) (p := 3) rfl ?_); refine store_event (t := 26) (p := 3) (v := ?vo_w45) (w1 := (((((iL.setCell ⟨aA, 0, none⟩ (.int .i64 a8)).setCell ⟨aA, 1, none⟩ (.slice bX a9.length bY)).setCell ⟨aA, 2, none⟩ (.slice bZ bA.length b0)).setCell ⟨aA, 3, none⟩ (.int .i64 bK)).setCell ⟨aA, 4, none⟩ (.int .u64 bM))) ?hg ?ho ?hn ?hr ?_; (case ho => rfl); (case hg => rfl); (case hn => rfl); (case hr => first | (go_simp; done) | (go_simp; rfl)); intro dL hw; have n0_ : Aside0 (Kd.V k42 42 dL w.heap.size (fun k_ => ((aZ k_ ∨ a3 k_) ∨ w.heap.size ≤ k_) ∧ k_ ≠ aA ∧ k_ ≠ aN ∧ k_ ≠ aC ∧ k_ ≠ aD) (.slice bC aQ.length bD) aQ) := ⟨(by rw [hw]; exact (by exact vm (vf5 (Kd.V_mono HO_196001.out (fun k_ hk => (⟨hk, hk.2.1⟩ : _ ∧ k_ ≠ aA))) fun _ hk => hk.2)))⟩; have n1_ : Aside0 (Kd.V k85 85 dL w.heap.size (fun k_ => ((aZ k_ ∨ a3 k_) ∨ w.heap.size ≤ k_) ∧ k_ ≠ aA ∧ k_ ≠ aN ∧ k_ ≠ aC ∧ k_ ≠ aD) (.slice bE aR.length bF) aR) := ⟨(by rw [hw]; exact (by exact vm (vf5 (Kd.V_mono HO_196002.out (fun k_ hk => (⟨hk, hk.2.1⟩ : _ ∧ k_ ≠ aA))) fun _ hk => hk.2)))⟩; have n2_ : Aside0 (Kd.V k42 42 dL w.heap.size (fun k_ => ((aZ k_ ∨ a3 k_) ∨ w.heap.size ≤ k_) ∧ k_ ≠ aA ∧ k_ ≠ aN ∧ k_ ≠ aC ∧ k_ ≠ aD) (.slice bX a9.length bY) a9) := ⟨(by rw [hw]; exact (by exact vm (vf5 (Kd.V_mono bS.out (fun k_ hk => (⟨hk, hk.2.1⟩ : _ ∧ k_ ≠ aA))) fun _ hk => hk.2)))⟩; have n3_ : Aside0 (Kd.V k85 85 dL w.heap.size (fun k_ => ((aZ k_ ∨ a3 k_) ∨ w.heap.size ≤ k_) ∧ k_ ≠ aA ∧ k_ ≠ aN ∧ k_ ≠ aC ∧ k_ ≠ aD) (.slice bZ bA.length b0) bA) := ⟨(by rw [hw]; exact (by exact vm (vf5 (Kd.V_mono bN.out (fun k_ hk => (⟨hk, hk.2.1⟩ : _ ∧ k_ ≠ aA))) fun _ hk => hk.2)))⟩; have n4_ : Aside0 (dL.heap[aA]? = some (.cells #[.int .i64 a8, .slice bX a9.length bY, .slice bZ bA.length b0, .int .i64 bK, .int .u64 bM] 26 (0, 0))) := ⟨(by rw [hw]; exact (by exact blk_put (blk_put (blk_put (blk_put (blk_put aE.out 0 _ rfl) 1 _ rfl) 2 _ rfl) 3 _ rfl) 4 _ rfl))⟩; have n5_ : Aside0 (dL.heap[aN]? = some (.cells #[.int .i64 a2] 3 (0, 0))) := ⟨(by rw [hw]; exact (by exact blk_far (blk_far (blk_far (blk_far (blk_far aJ.out aX.out _) aX.out _) aX.out _) aX.out _) aX.out _))⟩; have n6_ : Aside0 (dL.heap[aC]? = some (.cells #[.int .i64 0, .slice none 0 0, .slice none 0 0, .int .i64 0, .int .u64 0] 26 (0, 0))) := ⟨(by rw [hw]; exact (by exact blk_far (blk_far (blk_far (blk_far (blk_far aM.out aK.out _) aK.out _) aK.out _) aK.out _) aK.out _))⟩; have n7_ : Aside0 (dL.heap[aD]? = some (.cells #[.int .i64 bG, .int .i64 bB, .bool bL, .string bR, .int .i64 bT, .int .i64 bW] 42 (0, 0))) := ⟨(by rw [hw]; exact (by exact blk_far (blk_far (blk_far (blk_far (blk_far a7.out aU.out _) aU.out _) aU.out _) aU.out _) aU.out _))⟩; have n8_ : Aside0 (Below w.heap.size w dL) := ⟨(by rw [hw]; exact (by repeat (first | exact HB.out | refine bs ?_ aT.out)))⟩; clear hw; clear HO_196001; clear HO_196002; clear bS; clear bN; clear aE; clear aJ; clear aM; clear a7; clear HB; have HO_196001 := n0_; have HO_196002 := n1_; have bS := n2_; have bN := n3_; have aE := n4_; have aJ := n5_; have aM := n6_; have a7 := n7_; have HB := n8_; clear n0_ n1_ n2_ n3_ n4_ n5_ n6_ n7_ n8_; obtain ⟨e5, e6, e7, e8, e9⟩ := Cb.c5 aE.out; obtain ⟨fA, fB, fC, fD, fE⟩ := Cb.f5 aE.out) | ((with_reducible refine gate_callee (f := 40) rfl ?_); refine goesL_ (some 37) rfl rfl Try.func40 (by kernel_rfl) rfl #[.agg #[.int .i64 a8, .slice bX a9.length bY, .slice bZ bA.length b0, .int .i64 bK, .int .u64 bM], .int .i64 a1] rfl mp ?_; (with_reducible refine (session_renewed.calls kj4 a8 (fun k_ => (((aZ k_ ∨ a3 k_) ∨ w.heap.size ≤ k_) ∧ (k_ ≠ aA ∧ (k_ ≠ aN ∧ (k_ ≠ aC ∧ k_ ≠ aD))))) _ _ a9 _ _ bA bK bM a1 b2 b3 b6 cA cE _ ?side1 ?side2 ?side3 iK.out).mono ?_); (case side1 => exact bS.out); (case side2 => exact pc (Kd.V_reads' bN.out).2.2); (case side3 => exact (Kd.V_reads' bN.out).2.1); rintro e iQ ⟨iM, gS, rfl, dM, cD, hb⟩; refine ⟨_, rfl, ?_⟩; have dN := ak (Kd.V_lower (Kd.V_mono (ok' := fun k_ => ((aZ k_ ∨ a3 k_) ∨ w.heap.size ≤ k_) ∧ some k_ ≠ (gS : Value).ownBlock ∧ k_ ≠ aA ∧ k_ ≠ aN ∧ k_ ≠ aC ∧ k_ ≠ aD) dM (fun k_ hk_ => ⟨Or.elim hk_.1 (fun hs_ => hs_.1) (fun hn_ => (.inr (Nat.le_trans (below_size (ud aT.out aV.out aW.out a6.out HB.out)) hn_))), hk_.2, Or.elim hk_.1 (fun hs_ => hs_.2.1) (fun hn_ => (Kd.freshB (pk aE.out) k_ hn_)), Or.elim hk_.1 (fun hs_ => hs_.2.2.1) (fun hn_ => (Kd.freshB (pk aJ.out) k_ hn_)), Or.elim hk_.1 (fun hs_ => hs_.2.2.2.1) (fun hn_ => (Kd.freshB (pk aM.out) k_ hn_)), Or.elim hk_.1 (fun hs_ => hs_.2.2.2.2) (fun hn_ => (Kd.freshB (pk a7.out) k_ hn_))⟩)) (below_size (ud aT.out aV.out aW.out a6.out HB.out))); have dO := ak (Kd.R_lower (Kd.R_newM (M := fun k_ => (w.heap.size ≤ k_)) (Kd.R_mono (ok' := fun k_ => True) cD (fun _ hk_ => trivial)) (below_size (ud aT.out aV.out aW.out a6.out HB.out)) (fun k_ h_ => h_)) (below_size (ud aT.out aV.out aW.out a6.out HB.out))); replace HO_196001 := ve HO_196001 cD hb; replace HO_196002 := ve HO_196002 cD hb; replace bS := ve bS cD hb; replace bN := ve bN cD hb; replace aE := bb aE hb; replace aJ := bb aJ hb; replace aM := bb aM hb; replace a7 := bb a7 hb; replace HB := ak (below_step (ud aT.out aV.out aW.out a6.out HB.out) hb); (try clear hb); (try clear hb2); (try clear hk); (try clear hi); (try clear dM); (try clear cD); have h2 := aH.out; have h3 := bJ.out; obtain ⟨fF, fG, fH, fI, fJ⟩ := Cb.c5 aM.out; obtain ⟨fK, fL, fM, fN, fO⟩ := Cb.f5 aM.out; obtain ⟨cB, cC, gT⟩ := Kd.V_slice dN.out; subst gT; obtain ⟨cF, cG, gU⟩ := Kd.R_slice dO.out; subst gU))
     refine bodyPost_ret (results_ct rfl _ _ aC 26 #[.int .i64 b2, .slice cB b3.length cC, .slice cF b6.length cG, .int .i64 cA, .int .u64 cE] (0, 0) _ rfl (by exact pq (blk_put (blk_put (blk_put (blk_put (blk_put (pk aM.out) 0 _ rfl) 1 _ rfl) 2 _ rfl) 3 _ rfl) 4 _ rfl)) Try.underlying26 rfl (by kernel_rfl)) rfl ?_
     exact ⟨_, _, by first | rfl | (simp [errW_none, errW_some] <;> rfl) | (simp [*, errW_none, errW_some] <;> rfl), qv (Kd.V_mono (vf5 dN.out fun _ hk => hk.2.2.2.2.1) (fun _ hk => hk.1)), Kd.V_mono (Kd.R_V (qr (Kd.R_mono (rf5 (Kd.R_types dO.out aM.out (by decide)) fun _ hk => hk.2) (fun _ hk => hk.1.1)))) (fun k_ hk => by first | exact ⟨(.inr (hk.1)), hk.2⟩ | exact (.inr (hk))), ud aT.out aV.out aW.out a6.out HB.out⟩
    ·rw [if_neg dQ] at H
     have dV : (b1 == 0) = false := beq_eq_false_iff_ne.mpr dQ
     have dW : (b1 != 0) = true := bne_iff_ne.mpr dQ
     simp only [Option.some.injEq, Prod.mk.injEq] at H
     obtain ⟨rfl, rfl, rfl, rfl, rfl, rfl⟩ := H
     have h4 := bO.out
     have h5 := aX.out
     have h6 := bP.out
     have h7 := aK.out
     have h8 := aG.out
     have h9 := aU.out
     obtain ⟨fP, fQ, fR, fS, fT⟩ := Cb.c5 aE.out
     obtain ⟨fU, fV, fW, fX, fY⟩ := Cb.f5 aE.out
     have iA := bU.out
     have iB := bV.out
     have iC := aI.out
     have iD := bQ.out
     have fZ : wc.cell? ⟨aN, 0, none⟩ = some (.int .i64 a2) := (blk_cell aJ.out 0).trans rfl
     have f0 := blk_frozen aJ.out 0
     go_wp2_with (first | ((with_reducible refine gate_callee (f := 38) rfl ?_); refine goesL_ (some 28) rfl rfl Try.func38 (by kernel_rfl) rfl #[.agg #[.int .i64 aY, .slice bC aQ.length bD, .slice bE aR.length bF, .int .i64 a4, .int .u64 a5], .int .i64 a1, .func (.func 39) #[] #[.pointer (some ⟨aN, 0, none⟩)]] rfl mp ?_; (with_reducible refine (session_with_Take.calls aY (fun k_ => (((aZ k_ ∨ a3 k_) ∨ w.heap.size ≤ k_) ∧ (k_ ≠ aA ∧ (k_ ≠ aN ∧ (k_ ≠ aC ∧ k_ ≠ aD))))) _ _ aQ (fun k_ => (((aZ k_ ∨ a3 k_) ∨ w.heap.size ≤ k_) ∧ (k_ ≠ aA ∧ (k_ ≠ aN ∧ (k_ ≠ aC ∧ k_ ≠ aD))))) _ _ aR a4 a5 a1 a2 a8 a9 bA bK bM b1 _ ?sideB ?side1 ?side2 hR.out).mono ?_); (case sideB => first | (go_simp; done) | (go_simp; rfl) | exact (blk_cell aJ.out 0).trans rfl | exact aJ.out | (exact pk aJ.out)); (case side1 => exact HO_196001.out); (case side2 => exact HO_196002.out); rintro e iR ⟨gO, gP, rfl, dM, cD, hb⟩; refine ⟨_, rfl, ?_⟩; have bS := ak (Kd.V_lower (Kd.V_mono (ok' := fun k_ => ((aZ k_ ∨ a3 k_) ∨ w.heap.size ≤ k_) ∧ k_ ≠ aA ∧ k_ ≠ aN ∧ k_ ≠ aC ∧ k_ ≠ aD) dM (fun k_ hk_ => ⟨Or.elim hk_ (fun hs_ => Or.elim hs_ (fun hs_ => hs_.1) (fun hs_ => hs_.1)) (fun hn_ => (.inr (Nat.le_trans (below_size (ud aT.out aV.out aW.out a6.out HB.out)) hn_))), Or.elim hk_ (fun hs_ => Or.elim hs_ (fun hs_ => hs_.2.1) (fun hs_ => hs_.2.1)) (fun hn_ => (Kd.freshB (pk aE.out) k_ hn_)), Or.elim hk_ (fun hs_ => Or.elim hs_ (fun hs_ => hs_.2.2.1) (fun hs_ => hs_.2.2.1)) (fun hn_ => (Kd.freshB (pk aJ.out) k_ hn_)), Or.elim hk_ (fun hs_ => Or.elim hs_ (fun hs_ => hs_.2.2.2.1) (fun hs_ => hs_.2.2.2.1)) (fun hn_ => (Kd.freshB (pk aM.out) k_ hn_)), Or.elim hk_ (fun hs_ => Or.elim hs_ (fun hs_ => hs_.2.2.2.2) (fun hs_ => hs_.2.2.2.2)) (fun hn_ => (Kd.freshB (pk a7.out) k_ hn_))⟩)) (below_size (ud aT.out aV.out aW.out a6.out HB.out))); have bN := ak (Kd.V_lower (Kd.V_mono (ok' := fun k_ => ((aZ k_ ∨ a3 k_) ∨ w.heap.size ≤ k_) ∧ k_ ≠ aA ∧ k_ ≠ aN ∧ k_ ≠ aC ∧ k_ ≠ aD) cD (fun k_ hk_ => ⟨Or.elim hk_ (fun hs_ => Or.elim hs_ (fun hs_ => hs_.1) (fun hs_ => hs_.1)) (fun hn_ => (.inr (Nat.le_trans (below_size (ud aT.out aV.out aW.out a6.out HB.out)) hn_))), Or.elim hk_ (fun hs_ => Or.elim hs_ (fun hs_ => hs_.2.1) (fun hs_ => hs_.2.1)) (fun hn_ => (Kd.freshB (pk aE.out) k_ hn_)), Or.elim hk_ (fun hs_ => Or.elim hs_ (fun hs_ => hs_.2.2.1) (fun hs_ => hs_.2.2.1)) (fun hn_ => (Kd.freshB (pk aJ.out) k_ hn_)), Or.elim hk_ (fun hs_ => Or.elim hs_ (fun hs_ => hs_.2.2.2.1) (fun hs_ => hs_.2.2.2.1)) (fun hn_ => (Kd.freshB (pk aM.out) k_ hn_)), Or.elim hk_ (fun hs_ => Or.elim hs_ (fun hs_ => hs_.2.2.2.2) (fun hs_ => hs_.2.2.2.2)) (fun hn_ => (Kd.freshB (pk a7.out) k_ hn_))⟩)) (below_size (ud aT.out aV.out aW.out a6.out HB.out))); replace HO_196001 := vw HO_196001 hb; replace HO_196002 := vw HO_196002 hb; replace aE := bb aE hb; replace aJ := bb aJ hb; replace aM := bb aM hb; replace a7 := bb a7 hb; replace HB := ak (below_step (ud aT.out aV.out aW.out a6.out HB.out) hb); (try clear hb); (try clear hb2); (try clear hk); (try clear hi); (try clear dM); (try clear cD); obtain ⟨f1, f2, f3, f4, f7⟩ := Cb.c5 aE.out; obtain ⟨f8, f9, gA, gB, gC⟩ := Cb.f5 aE.out; obtain ⟨b4, b5, gV⟩ := Kd.V_slice bS.out; subst gV; obtain ⟨b7, b8, gW⟩ := Kd.V_slice bN.out; subst gW; have iE := aH.out; have iF := bJ.out; obtain ⟨gD, gE, gF, gG, gH⟩ := Cb.c5 aM.out; obtain ⟨gI, gJ, gK, gL, gM⟩ := Cb.f5 aM.out))
     refine bodyPost_ret (results_ct rfl _ _ aC 26 #[.int .i64 a8, .slice b4 a9.length b5, .slice b7 bA.length b8, .int .i64 bK, .int .u64 bM] (0, 0) _ rfl (by exact pq (blk_put (blk_put (blk_put (blk_put (blk_put (blk_far (blk_far (blk_far (blk_far (blk_far (pk aM.out) aK.out _) aK.out _) aK.out _) aK.out _) aK.out _) 0 _ rfl) 1 _ rfl) 2 _ rfl) 3 _ rfl) 4 _ rfl)) Try.underlying26 rfl (by kernel_rfl)) rfl ?_
     exact ⟨_, _, by first | rfl | (simp [errW_none, errW_some] <;> rfl) | (simp [*, errW_none, errW_some] <;> rfl), qv (Kd.V_mono (vf5 (vf5 (Kd.V_mono (Kd.V_mono bS.out (fun k_ hk => (⟨hk, hk.2.1⟩ : _ ∧ k_ ≠ aA))) (fun k_ hk => (⟨hk, hk.1.2.2.2.1⟩ : _ ∧ k_ ≠ aC))) fun _ hk => hk.1.2) fun _ hk => hk.2) (fun _ hk => hk.1.1.1)), qv (Kd.V_mono (vf5 (vf5 (Kd.V_mono (Kd.V_mono bN.out (fun k_ hk => (⟨hk, hk.2.1⟩ : _ ∧ k_ ≠ aA))) (fun k_ hk => (⟨hk, hk.1.2.2.2.1⟩ : _ ∧ k_ ≠ aC))) fun _ hk => hk.1.2) fun _ hk => hk.2) (fun _ hk => hk.1.1.1)), ud aT.out aV.out aW.out a6.out HB.out⟩

-- NOT PRINTED: function 41 (session_Answer_1)

/-! ### session_Answer: function 13 -/
set_option maxHeartbeats 8000000 in
set_option maxRecDepth 100000 in
theorem session_Answer.calls (aW : Int) (aG : Nat → Prop) (a3 : Option Addr) (a4 : Nat) (aQ : List (S42)) (aH : Nat → Prop) (a5 : Option Addr) (a6 : Nat) (aR : List (S85)) (aX : Int) (aY : Int) (a1 : Int) (a2 : ByteArray) (r1 : Int) (r2 : List (S42)) (r3 : List (S85)) (r4 : Int) (r5 : Int) (r6 : Int) (w : World) (bM : Kd.V k42 42 w w.heap.size (fun k_ => aG k_) (.slice a3 aQ.length a4) aQ) (bN : Kd.V k85 85 w w.heap.size (fun k_ => aH k_) (.slice a5 aR.length a6) aR) (h : session_Answer.f aW aQ aR aX aY a1 a2 = some (r1, r2, r3, r4, r5, r6)) :
  Calls Try.prog 13 #[.agg #[.int .i64 aW, .slice a3 aQ.length a4, .slice a5 aR.length a6, .int .i64 aX, .int .u64 aY], .int .i64 a1, .string a2] w fun e w' => ∃ v1_ v2_ : Value, e = .returned (.tuple #[.agg #[.int .i64 r1, v1_, v2_, .int .i64 r4, .int .u64 r5], .int .i64 r6]) ∧ Kd.V k42 42 w' w.heap.size (fun k_ => ((aG k_ ∨ aH k_) ∨ w.heap.size ≤ k_)) v1_ r2 ∧ Kd.V k85 85 w' w.heap.size (fun k_ => ((aG k_ ∨ aH k_) ∨ w.heap.size ≤ k_)) v2_ r3 ∧ Below w.heap.size w w' := by
 have cL := Try.underlying26
 have aI := ak (show Kd.V k42 42 w w.heap.size (fun k_ => ((aG k_ ∨ aH k_) ∨ w.heap.size ≤ k_)) (.slice a3 aQ.length a4) aQ from Kd.V_mono bM (fun k_ hk => .inl (.inl hk)))
 have aJ := ak (show Kd.V k85 85 w w.heap.size (fun k_ => ((aG k_ ∨ aH k_) ∨ w.heap.size ≤ k_)) (.slice a5 aR.length a6) aR from Kd.V_mono bN (fun k_ hk => .inl (.inr hk)))
 have HB := ak (Below.refl w.heap.size w)
 have H : ((session_with_Answer.f aW aQ aR aX aY a1 a2).bind fun bt228 => (some (bt228.1, bt228.2.1, bt228.2.2.1, bt228.2.2.2.1, bt228.2.2.2.2.1, bt228.2.2.2.2.2))) = some (r1, r2, r3, r4, r5, r6) := h
 clear h
 replace H := Option.bind_eq_some_iff.mp H
 obtain ⟨⟨aV, aZ, a7, a8, bH, bO⟩, cD, H⟩ := H
 try dsimp only at H
 have A4 := ak cD
 clear cD
 simp only [Option.some.injEq, Prod.mk.injEq] at H
 obtain ⟨rfl, rfl, rfl, rfl, rfl, rfl⟩ := H
 go_enter Try.func13, Try.ntmps13
 go_wp2_with (first | ((with_reducible refine gate_dst (N := 3) rfl ?_); refine bv 3 26 #[.int .i64 aW, .slice a3 aQ.length a4, .slice a5 aR.length a6, .int .i64 aX, .int .u64 aY] ?_; intro aM hg w5 hbox hb; obtain ⟨n_, aK⟩ := Cb.bx (pB HB.out) hg hb; have cE := aK; have aC := ak (hbox); replace aI := vb aI aM hg hb; replace aJ := vb aJ aM hg hb; replace HB := n_; clear n_; clear hb hbox hg) | ((with_reducible refine gate_dst (N := 5) rfl ?_); refine bv 5 9 #[.string a2] ?_; intro aE hg w6 hbox hb; obtain ⟨n_, aN⟩ := Cb.bx (ua aK.out HB.out) hg hb; have cF := aN; obtain ⟨a9, bA⟩ := Cb.nb hg aC.out; have aD := ak (hbox); replace aI := vb aI aE hg hb; replace aJ := vb aJ aE hg hb; replace aC := bb aC hb; replace HB := n_; clear n_; clear hb hbox hg) | ((with_reducible refine gate_dst (N := 6) rfl ?_); refine bv 6 26 #[.int .i64 0, .slice none 0 0, .slice none 0 0, .int .i64 0, .int .u64 0] ?_; intro aA hg w7 hbox hb; obtain ⟨n_, aT⟩ := Cb.bx (ub aK.out aN.out HB.out) hg hb; have cG := aT; obtain ⟨bB, bC⟩ := Cb.nb hg aC.out; obtain ⟨bD, bE⟩ := Cb.nb hg aD.out; have aU := ak (hbox); replace aI := vb aI aA hg hb; replace aJ := vb aJ aA hg hb; replace aC := bb aC hb; replace aD := bb aD hb; replace HB := n_; clear n_; clear hb hbox hg; have cM := a9.out; have cN := bA.out; have cO := bB.out; have cP := bC.out; obtain ⟨bP, bQ, bR, bS, bT⟩ := Cb.c5 aC.out; obtain ⟨bU, bV, bW, bX, bY⟩ := Cb.f5 aC.out; have cH := bD.out; have cI := bE.out; have bZ : w7.cell? ⟨aE, 0, none⟩ = some (.string a2) := (blk_cell aD.out 0).trans rfl; have b0 := blk_frozen aD.out 0) | ((with_reducible refine gate_callee (f := 38) rfl ?_); refine goesL_ (some 11) rfl rfl Try.func38 (by kernel_rfl) rfl #[.agg #[.int .i64 aW, .slice a3 aQ.length a4, .slice a5 aR.length a6, .int .i64 aX, .int .u64 aY], .int .i64 a1, .func (.func 41) #[] #[.pointer (some ⟨aE, 0, none⟩)]] rfl mp ?_; (with_reducible refine (session_with_Answer.calls aW (fun k_ => (((((aG k_ ∨ aH k_) ∨ w.heap.size ≤ k_) ∧ k_ ≠ aM) ∧ k_ ≠ aE) ∧ k_ ≠ aA)) _ _ aQ (fun k_ => (((((aG k_ ∨ aH k_) ∨ w.heap.size ≤ k_) ∧ k_ ≠ aM) ∧ k_ ≠ aE) ∧ k_ ≠ aA)) _ _ aR aX aY a1 a2 aV aZ a7 a8 bH bO _ ?sideB ?side1 ?side2 A4.out).mono ?_); (case sideB => first | (go_simp; done) | (go_simp; rfl) | exact (blk_cell aD.out 0).trans rfl | exact aD.out | (exact pk aD.out)); (case side1 => exact aI.out); (case side2 => exact aJ.out); rintro e cS ⟨cQ, cR, rfl, cJ, cK, hb⟩; refine ⟨_, rfl, ?_⟩; have bK := ak (Kd.V_lower (Kd.V_mono (ok' := fun k_ => ((aG k_ ∨ aH k_) ∨ w.heap.size ≤ k_) ∧ k_ ≠ aM ∧ k_ ≠ aE ∧ k_ ≠ aA) cJ (fun k_ hk_ => ⟨Or.elim hk_ (fun hs_ => Or.elim hs_ (fun hs_ => hs_.1.1.1) (fun hs_ => hs_.1.1.1)) (fun hn_ => (.inr (Nat.le_trans (below_size (uc aK.out aN.out aT.out HB.out)) hn_))), Or.elim hk_ (fun hs_ => Or.elim hs_ (fun hs_ => hs_.1.1.2) (fun hs_ => hs_.1.1.2)) (fun hn_ => (Kd.freshB (pk aC.out) k_ hn_)), Or.elim hk_ (fun hs_ => Or.elim hs_ (fun hs_ => hs_.1.2) (fun hs_ => hs_.1.2)) (fun hn_ => (Kd.freshB (pk aD.out) k_ hn_)), Or.elim hk_ (fun hs_ => Or.elim hs_ (fun hs_ => hs_.2) (fun hs_ => hs_.2)) (fun hn_ => (Kd.freshB (pk aU.out) k_ hn_))⟩)) (below_size (uc aK.out aN.out aT.out HB.out))); have bL := ak (Kd.V_lower (Kd.V_mono (ok' := fun k_ => ((aG k_ ∨ aH k_) ∨ w.heap.size ≤ k_) ∧ k_ ≠ aM ∧ k_ ≠ aE ∧ k_ ≠ aA) cK (fun k_ hk_ => ⟨Or.elim hk_ (fun hs_ => Or.elim hs_ (fun hs_ => hs_.1.1.1) (fun hs_ => hs_.1.1.1)) (fun hn_ => (.inr (Nat.le_trans (below_size (uc aK.out aN.out aT.out HB.out)) hn_))), Or.elim hk_ (fun hs_ => Or.elim hs_ (fun hs_ => hs_.1.1.2) (fun hs_ => hs_.1.1.2)) (fun hn_ => (Kd.freshB (pk aC.out) k_ hn_)), Or.elim hk_ (fun hs_ => Or.elim hs_ (fun hs_ => hs_.1.2) (fun hs_ => hs_.1.2)) (fun hn_ => (Kd.freshB (pk aD.out) k_ hn_)), Or.elim hk_ (fun hs_ => Or.elim hs_ (fun hs_ => hs_.2) (fun hs_ => hs_.2)) (fun hn_ => (Kd.freshB (pk aU.out) k_ hn_))⟩)) (below_size (uc aK.out aN.out aT.out HB.out))); replace aI := vw aI hb; replace aJ := vw aJ hb; replace aC := bb aC hb; replace aD := bb aD hb; replace aU := bb aU hb; replace HB := ak (below_step (uc aK.out aN.out aT.out HB.out) hb); (try clear hb); (try clear hb2); (try clear hk); (try clear hi); (try clear cJ); (try clear cK); obtain ⟨b1, b2, b3, b4, b5⟩ := Cb.c5 aU.out; obtain ⟨b6, b7, b8, b9, cA⟩ := Cb.f5 aU.out; obtain ⟨bF, bG, cB⟩ := Kd.V_slice bK.out; subst cB; obtain ⟨bI, bJ, cC⟩ := Kd.V_slice bL.out; subst cC))
 refine bodyPost_ret (results_ct rfl _ _ aA 26 #[.int .i64 aV, .slice bF aZ.length bG, .slice bI a7.length bJ, .int .i64 a8, .int .u64 bH] (0, 0) _ rfl (by exact pq (blk_put (blk_put (blk_put (blk_put (blk_put (pk aU.out) 0 _ rfl) 1 _ rfl) 2 _ rfl) 3 _ rfl) 4 _ rfl)) Try.underlying26 rfl (by kernel_rfl)) rfl ?_
 exact ⟨_, _, by first | rfl | (simp [errW_none, errW_some] <;> rfl) | (simp [*, errW_none, errW_some] <;> rfl), qv (Kd.V_mono (vf5 bK.out fun _ hk => hk.2.2.2) (fun _ hk => hk.1)), qv (Kd.V_mono (vf5 bL.out fun _ hk => hk.2.2.2) (fun _ hk => hk.1)), uc aK.out aN.out aT.out HB.out⟩

/-! ### session_Open: function 22 -/
set_option maxHeartbeats 8000000 in
set_option maxRecDepth 100000 in
theorem session_Open.calls (k : Nat) (aN : Int) (a3 : Nat → Prop) (aW : Option Addr) (aX : Nat) (aJ : List (S42)) (a4 : Nat → Prop) (aT : Option Addr) (aU : Nat) (aM : List (S85)) (aD : Int) (aV : Int) (a1 : Int) (r1 : Int) (r2 : List (S42)) (r3 : List (S85)) (r4 : Int) (r5 : Int) (r6 : Int) (r7 : Int) (w : World) (bP : Kd.V k42 42 w w.heap.size (fun k_ => a3 k_) (.slice aW aJ.length aX) aJ) (bQ : Kd.V k85 85 w w.heap.size (fun k_ => a4 k_) (.slice aT aM.length aU) aM) (h : session_Open.f k aN aJ aM aD aV a1 = some (r1, r2, r3, r4, r5, r6, r7)) :
  Calls Try.prog 22 #[.agg #[.int .i64 aN, .slice aW aJ.length aX, .slice aT aM.length aU, .int .i64 aD, .int .u64 aV], .int .i64 a1] w fun e w' => ∃ v1_ v2_ : Value, e = .returned (.tuple #[.agg #[.int .i64 r1, v1_, v2_, .int .i64 r4, .int .u64 r5], .int .i64 r6, .int .i64 r7]) ∧ Kd.V k42 42 w' w.heap.size (fun k_ => ((a3 k_ ∨ a4 k_) ∨ w.heap.size ≤ k_)) v1_ r2 ∧ Kd.V k85 85 w' w.heap.size (fun k_ => ((a3 k_ ∨ a4 k_) ∨ w.heap.size ≤ k_)) v2_ r3 ∧ Below w.heap.size w w' := by
 have eY := Try.underlying26
 have eZ := Try.underlying42
 have aH := ak (show Kd.V k42 42 w w.heap.size (fun k_ => ((a3 k_ ∨ a4 k_) ∨ w.heap.size ≤ k_)) (.slice aW aJ.length aX) aJ from Kd.V_mono bP (fun k_ hk => .inl (.inl hk)))
 have aI := ak (show Kd.V k85 85 w w.heap.size (fun k_ => ((a3 k_ ∨ a4 k_) ∨ w.heap.size ≤ k_)) (.slice aT aM.length aU) aM from Kd.V_mono bQ (fun k_ hk => .inl (.inr hk)))
 have HB := ak (Below.refl w.heap.size w)
 have H : (if (aJ.length : Int) ≥ 6 then (some (aN, aJ, aM, aD, aV, 0, 11)) else (if aD > 1073741824 then (some (aN, aJ, aM, aD, aV, 0, 4)) else ((api_Session_48.f aJ).bind fun a7 => (if a7.length < 2513169434916 then ((session_renewed.f k aN (a7 ++ [(⟨aD, 0, false, (⟨#[]⟩ : ByteArray), 0, a1⟩ : S42)]) aM (wrap64 (aD + 1)) aV aD).bind fun bt246 => (some (bt246.1, bt246.2.1, bt246.2.2.1, bt246.2.2.2.1, bt246.2.2.2.2, aD, 0))) else (none))))) = some (r1, r2, r3, r4, r5, r6, r7) := h
 clear h
 by_cases c3 : (aJ.length : Int) ≥ 6
 ·rw [if_pos c3] at H
  have d1 : decide (6 ≤ (aJ.length : Int)) = true := decide_eq_true c3
  have d2 : decide (6 ≤ aJ.length) = true := decide_eq_true (by omega)
  clear c3
  simp only [Option.some.injEq, Prod.mk.injEq] at H
  obtain ⟨rfl, rfl, rfl, rfl, rfl, rfl, rfl⟩ := H
  go_enter Try.func22, Try.ntmps22
  go_wp2_with (first | ((with_reducible refine gate_dst (N := 2) rfl ?_); refine bv 2 26 #[.int .i64 aN, .slice aW aJ.length aX, .slice aT aM.length aU, .int .i64 aD, .int .u64 aV] ?_; intro aE hg w4 hbox hb; obtain ⟨n_, aK⟩ := Cb.bx (pB HB.out) hg hb; have bI := aK; have aC := ak (hbox); replace aH := vb aH aE hg hb; replace aI := vb aI aE hg hb; replace HB := n_; clear n_; clear hb hbox hg) | ((with_reducible refine gate_dst (N := 4) rfl ?_); refine bv 4 26 #[.int .i64 0, .slice none 0 0, .slice none 0 0, .int .i64 0, .int .u64 0] ?_; intro aA hg w5 hbox hb; obtain ⟨n_, aQ⟩ := Cb.bx (ua aK.out HB.out) hg hb; have bJ := aQ; obtain ⟨aY, aR⟩ := Cb.nb hg aC.out; have aG := ak (hbox); replace aH := vb aH aA hg hb; replace aI := vb aI aA hg hb; replace aC := bb aC hb; replace HB := n_; clear n_; clear hb hbox hg; have e0 := aY.out; have e1 := aR.out; obtain ⟨d3, d4, d5, d6, d7⟩ := Cb.c5 aC.out; obtain ⟨d8, d9, eA, eB, eC⟩ := Cb.f5 aC.out; obtain ⟨eD, eE, eF, eG, eH⟩ := Cb.c5 aG.out; obtain ⟨eI, eJ, eK, eL, eM⟩ := Cb.f5 aG.out))
  refine bodyPost_ret (results_ctt rfl _ _ aA 26 #[.int .i64 aN, .slice aW aJ.length aX, .slice aT aM.length aU, .int .i64 aD, .int .u64 aV] (0, 0) _ rfl (by exact pq (blk_put (blk_put (blk_put (blk_put (blk_put (pk aG.out) 0 _ rfl) 1 _ rfl) 2 _ rfl) 3 _ rfl) 4 _ rfl)) Try.underlying26 rfl (by kernel_rfl)) rfl ?_
  exact ⟨_, _, by first | rfl | (simp [errW_none, errW_some] <;> rfl) | (simp [*, errW_none, errW_some] <;> rfl), qv (Kd.V_mono (vf5 aH.out fun _ hk => hk.2) (fun _ hk => hk.1.1)), qv (Kd.V_mono (vf5 aI.out fun _ hk => hk.2) (fun _ hk => hk.1.1)), ub aK.out aQ.out HB.out⟩
 ·rw [if_neg c3] at H
  have d1 : decide (6 ≤ (aJ.length : Int)) = false := decide_eq_false c3
  have d2 : decide (6 ≤ aJ.length) = false := decide_eq_false (by omega)
  clear c3
  by_cases c9 : aD > 1073741824
  ·rw [if_pos c9] at H
   have eN : decide (1073741824 < aD) = true := decide_eq_true c9
   clear c9
   simp only [Option.some.injEq, Prod.mk.injEq] at H
   obtain ⟨rfl, rfl, rfl, rfl, rfl, rfl, rfl⟩ := H
   go_enter Try.func22, Try.ntmps22
   go_wp2_with (first | ((with_reducible refine gate_dst (N := 2) rfl ?_); refine bv 2 26 #[.int .i64 aN, .slice aW aJ.length aX, .slice aT aM.length aU, .int .i64 aD, .int .u64 aV] ?_; intro aE hg e7 hbox hb; obtain ⟨n_, aK⟩ := Cb.bx (pB HB.out) hg hb; have bI := aK; have aC := ak (hbox); replace aH := vb aH aE hg hb; replace aI := vb aI aE hg hb; replace HB := n_; clear n_; clear hb hbox hg) | ((with_reducible refine gate_dst (N := 4) rfl ?_); refine bv 4 26 #[.int .i64 0, .slice none 0 0, .slice none 0 0, .int .i64 0, .int .u64 0] ?_; intro aA hg e8 hbox hb; obtain ⟨n_, aQ⟩ := Cb.bx (ua aK.out HB.out) hg hb; have bJ := aQ; obtain ⟨aY, aR⟩ := Cb.nb hg aC.out; have aG := ak (hbox); replace aH := vb aH aA hg hb; replace aI := vb aI aA hg hb; replace aC := bb aC hb; replace HB := n_; clear n_; clear hb hbox hg; have eU := aY.out; have eV := aR.out; obtain ⟨bV, bW, bX, bY, bZ⟩ := Cb.c5 aC.out; obtain ⟨b0, b1, b2, b3, b4⟩ := Cb.f5 aC.out; obtain ⟨b5, b6, b7, b8, b9⟩ := Cb.c5 aG.out; obtain ⟨cA, cB, cC, cD, cE⟩ := Cb.f5 aG.out))
   refine bodyPost_ret (results_ctt rfl _ _ aA 26 #[.int .i64 aN, .slice aW aJ.length aX, .slice aT aM.length aU, .int .i64 aD, .int .u64 aV] (0, 0) _ rfl (by exact pq (blk_put (blk_put (blk_put (blk_put (blk_put (pk aG.out) 0 _ rfl) 1 _ rfl) 2 _ rfl) 3 _ rfl) 4 _ rfl)) Try.underlying26 rfl (by kernel_rfl)) rfl ?_
   exact ⟨_, _, by first | rfl | (simp [errW_none, errW_some] <;> rfl) | (simp [*, errW_none, errW_some] <;> rfl), qv (Kd.V_mono (vf5 aH.out fun _ hk => hk.2) (fun _ hk => hk.1.1)), qv (Kd.V_mono (vf5 aI.out fun _ hk => hk.2) (fun _ hk => hk.1.1)), ub aK.out aQ.out HB.out⟩
  ·rw [if_neg c9] at H
   have eN : decide (1073741824 < aD) = false := decide_eq_false c9
   clear c9
   replace H := Option.bind_eq_some_iff.mp H
   obtain ⟨a7, bR, H⟩ := H
   try dsimp only at H
   have e2 := ak bR
   clear bR
   have cF : a7.length < 2513169434916 := Decidable.byContradiction fun q => by rw [if_neg q] at H; exact absurd H (by simp)
   rw [if_pos cF] at H
   have bS := ak cF
   clear cF
   obtain ⟨y243, hy243⟩ : ∃ y_ : List (S42), y_ = (a7 ++ [(⟨aD, 0, false, (⟨#[]⟩ : ByteArray), 0, a1⟩ : S42)]) := ⟨_, rfl⟩
   replace H : ((session_renewed.f k aN y243 aM (wrap64 (aD + 1)) aV aD).bind fun bt246 => (some (bt246.1, bt246.2.1, bt246.2.2.1, bt246.2.2.2.1, bt246.2.2.2.2, aD, 0))) = some (r1, r2, r3, r4, r5, r6, r7) := by first | (rw [hy243]; with_reducible exact H) | (have eO := (Option.bind_some _ _).symm.trans H; rw [hy243]; with_reducible exact eO) | (have eO := (Option.bind_some _ _).symm.trans H; with_reducible exact eO) | with_reducible exact H | (rw [hy243]; exact H) | exact H
   have bT := ak hy243
   clear hy243
   replace H := Option.bind_eq_some_iff.mp H
   obtain ⟨⟨a8, a9, bA, bC, bF⟩, bU, H⟩ := H
   try dsimp only at H
   have e3 := ak bU
   clear bU
   simp only [Option.some.injEq, Prod.mk.injEq] at H
   obtain ⟨rfl, rfl, rfl, rfl, rfl, rfl, rfl⟩ := H
   go_enter Try.func22, Try.ntmps22
   go_wp2_with (first | ((with_reducible refine gate_dst (N := 2) rfl ?_); refine bv 2 26 #[.int .i64 aN, .slice aW aJ.length aX, .slice aT aM.length aU, .int .i64 aD, .int .u64 aV] ?_; intro aE hg e9 hbox hb; obtain ⟨n_, aK⟩ := Cb.bx (pB HB.out) hg hb; have bI := aK; have aC := ak (hbox); replace aH := vb aH aE hg hb; replace aI := vb aI aE hg hb; replace HB := n_; clear n_; clear hb hbox hg) | ((with_reducible refine gate_dst (N := 4) rfl ?_); refine bv 4 26 #[.int .i64 0, .slice none 0 0, .slice none 0 0, .int .i64 0, .int .u64 0] ?_; intro aA hg fA hbox hb; obtain ⟨n_, aQ⟩ := Cb.bx (ua aK.out HB.out) hg hb; have bJ := aQ; obtain ⟨aY, aR⟩ := Cb.nb hg aC.out; have aG := ak (hbox); replace aH := vb aH aA hg hb; replace aI := vb aI aA hg hb; replace aC := bb aC hb; replace HB := n_; clear n_; clear hb hbox hg; have eW := aY.out; have eX := aR.out; obtain ⟨cG, cH, cI, cJ, cK⟩ := Cb.c5 aC.out; obtain ⟨cL, cM, cN, cO, cP⟩ := Cb.f5 aC.out) | ((with_reducible refine gate_callee (f := 48) rfl ?_); refine goesL_ (some 23) rfl rfl Try.func48 (by kernel_rfl) rfl #[.slice aW aJ.length aX] rfl mp ?_; (with_reducible refine (api_Session_48.calls _ _ aJ a7 _ ?side1 ?side2 e2.out).mono ?_); (case side1 => exact pc (Kd.V_reads' aH.out).2.2); (case side2 => exact (Kd.V_reads' aH.out).2.1); rintro e fB ⟨eP, rfl, bM, hb⟩; refine ⟨_, rfl, ?_⟩; have bB := ak (Kd.R_lower (Kd.R_newM (M := fun k_ => (w.heap.size ≤ k_)) bM (below_size (ub aK.out aQ.out HB.out)) (fun k_ h_ => h_)) (below_size (ub aK.out aQ.out HB.out))); replace aH := ve aH bM hb; replace aI := ve aI bM hb; replace aC := bb aC hb; replace aG := bb aG hb; replace HB := ak (below_step (ub aK.out aQ.out HB.out) hb); (try clear hb); (try clear hb2); (try clear hk); (try clear hi); (try clear bM)) | ((with_reducible refine gate_builtin (b := .append) (xs := #[.tmp 23, .tmp 27]) rfl ?_); at_builtin; refine Kd.R_append k42 (w0 := w) w.heap.size rfl (.tmp 23) (.tmp 27) 22 42 (.agg #[(.int .i64 0), (.int .i64 0), (.bool false), (.string ⟨#[]⟩), (.int .i64 0), (.int .i64 0)]) 56 rfl Try.underlying22 info42 rfl (by decide) (by omega) eP a7 (⟨aD, 0, false, (⟨#[]⟩ : ByteArray), 0, a1⟩ : S42) [.int .i64 aD, .int .i64 0, .bool false, .string (⟨#[]⟩ : ByteArray), .int .i64 0, .int .i64 a1] (fun k_ => (w.heap.size ≤ k_)) (fun _ => False) rfl rfl ?aP (fun _ hk => hk.elim) ?aF ?aO ?aB ?aS ?aL ?_; (case aP => exact k42_mkM _ _ _ (⟨aD, 0, false, (⟨#[]⟩ : ByteArray), 0, a1⟩ : S42)); (case aB => exact (ub aK.out aQ.out HB.out)); (case aF => exact (fun k_ hk => (Nat.le_trans (below_size (ub aK.out aQ.out HB.out)) hk))); (case aO => exact (pR (Kd.R_mono bB.out (fun _ hk => hk.1)))); (case aS => exact (below_size (ub aK.out aQ.out HB.out))); (case aL => have := bS.out; omega); intro e4 e5 ho hb hg hat; rw [← bT.out] at ho; have n0_ := ak (Kd.V_afterv (ok := (fun k_ => ((a3 k_ ∨ a4 k_) ∨ w.heap.size ≤ k_) ∧ k_ ≠ aE ∧ k_ ≠ aA)) (pV (vm aH.out)) hg hat); have n1_ := ak (Kd.V_afterv (ok := (fun k_ => ((a3 k_ ∨ a4 k_) ∨ w.heap.size ≤ k_) ∧ k_ ≠ aE ∧ k_ ≠ aA)) (pV (vm aI.out)) hg hat); have n2_ := ak (blk_grown (pk aC.out) hg (Kd.R_ne bB.out aC.out (by decide))); have n3_ := ak (blk_grown (pk aG.out) hg (Kd.R_ne bB.out aG.out (by decide))); have n4_ := ak (hb); have n5_ := ak (ho); clear aH; clear aI; clear aC; clear aG; clear HB; clear bB; have aH := n0_; have aI := n1_; have aC := n2_; have aG := n3_; have HB := n4_; have aZ := n5_; clear n0_ n1_ n2_ n3_ n4_ n5_; clear ho hb hg hat; obtain ⟨a5, a6, eQ⟩ := Kd.R_slice aZ.out; subst eQ; obtain ⟨cQ, cR, cS, cT, cU⟩ := Cb.c5 aC.out; obtain ⟨cV, cW, cX, cY, cZ⟩ := Cb.f5 aC.out) | ((with_reducible refine gate_store (t := 22) (p := 29) rfl ?_); refine store_event (t := 22) (p := 29) (v := ?vo_w26) (w1 := (e5.setCell ⟨aE, 1, none⟩ (.slice a5 y243.length a6))) ?hg ?ho ?hn ?hr ?_; (case ho => rfl); (case hg => rfl); (case hn => rfl); (case hr => first | (go_simp; done) | (go_simp; rfl)); intro bN hw; have n0_ : Aside0 (Kd.V k42 42 bN w.heap.size (fun k_ => ((a3 k_ ∨ a4 k_) ∨ w.heap.size ≤ k_) ∧ some k_ ≠ (.slice a5 y243.length a6 : Value).ownBlock ∧ k_ ≠ aE ∧ k_ ≠ aA) (.slice aW aJ.length aX) aJ) := ⟨(by rw [hw]; exact (by exact vm (vf1 (Kd.V_mono aH.out (fun k_ hk => (⟨hk, hk.1.2.1⟩ : _ ∧ k_ ≠ aE))) fun _ hk => hk.2)))⟩; have n1_ : Aside0 (Kd.V k85 85 bN w.heap.size (fun k_ => ((a3 k_ ∨ a4 k_) ∨ w.heap.size ≤ k_) ∧ some k_ ≠ (.slice a5 y243.length a6 : Value).ownBlock ∧ k_ ≠ aE ∧ k_ ≠ aA) (.slice aT aM.length aU) aM) := ⟨(by rw [hw]; exact (by exact vm (vf1 (Kd.V_mono aI.out (fun k_ hk => (⟨hk, hk.1.2.1⟩ : _ ∧ k_ ≠ aE))) fun _ hk => hk.2)))⟩; have n2_ : Aside0 (Kd.R k42 42 bN w.heap.size (fun k_ => (w.heap.size ≤ k_)) (.slice a5 y243.length a6) y243) := ⟨(by rw [hw]; exact (by exact Kd.R_mono (rf1 (Kd.R_types aZ.out aC.out (by decide)) fun _ hk => hk.2) (fun _ hk => hk.1)))⟩; have n3_ : Aside0 (bN.heap[aE]? = some (.cells #[.int .i64 aN, .slice a5 y243.length a6, .slice aT aM.length aU, .int .i64 aD, .int .u64 aV] 26 (0, 0))) := ⟨(by rw [hw]; exact (by exact blk_put aC.out 1 _ rfl))⟩; have n4_ : Aside0 (bN.heap[aA]? = some (.cells #[.int .i64 0, .slice none 0 0, .slice none 0 0, .int .i64 0, .int .u64 0] 26 (0, 0))) := ⟨(by rw [hw]; exact (by exact blk_far aG.out aR.out _))⟩; have n5_ : Aside0 (Below w.heap.size w bN) := ⟨(by rw [hw]; exact (by repeat (first | exact HB.out | refine bs ?_ aK.out)))⟩; clear hw; clear aH; clear aI; clear aZ; clear aC; clear aG; clear HB; have aH := n0_; have aI := n1_; have aZ := n2_; have aC := n3_; have aG := n4_; have HB := n5_; clear n0_ n1_ n2_ n3_ n4_ n5_; obtain ⟨c0, c4, c7, c8, dA⟩ := Cb.c5 aC.out; obtain ⟨dB, dC, dD, dE, dF⟩ := Cb.f5 aC.out) | ((with_reducible refine gate_store (t := 3) (p := 33) rfl ?_); refine store_event (t := 3) (p := 33) (v := ?vo_w28) (w1 := (bN.setCell ⟨aE, 3, none⟩ (.int .i64 (wrap64 (aD + 1))))) ?hg ?ho ?hn ?hr ?_; (case ho => rfl); (case hg => rfl); (case hn => rfl); (case hr => first | (go_simp; done) | (go_simp; rfl)); intro bO hw; have n0_ : Aside0 (Kd.V k42 42 bO w.heap.size (fun k_ => ((a3 k_ ∨ a4 k_) ∨ w.heap.size ≤ k_) ∧ some k_ ≠ (.slice a5 y243.length a6 : Value).ownBlock ∧ k_ ≠ aE ∧ k_ ≠ aA) (.slice aW aJ.length aX) aJ) := ⟨(by rw [hw]; exact (by exact vm (vf1 (Kd.V_mono aH.out (fun k_ hk => (⟨hk, hk.2.2.1⟩ : _ ∧ k_ ≠ aE))) fun _ hk => hk.2)))⟩; have n1_ : Aside0 (Kd.V k85 85 bO w.heap.size (fun k_ => ((a3 k_ ∨ a4 k_) ∨ w.heap.size ≤ k_) ∧ some k_ ≠ (.slice a5 y243.length a6 : Value).ownBlock ∧ k_ ≠ aE ∧ k_ ≠ aA) (.slice aT aM.length aU) aM) := ⟨(by rw [hw]; exact (by exact vm (vf1 (Kd.V_mono aI.out (fun k_ hk => (⟨hk, hk.2.2.1⟩ : _ ∧ k_ ≠ aE))) fun _ hk => hk.2)))⟩; have n2_ : Aside0 (Kd.R k42 42 bO w.heap.size (fun k_ => (w.heap.size ≤ k_)) (.slice a5 y243.length a6) y243) := ⟨(by rw [hw]; exact (by exact Kd.R_mono (rf1 (Kd.R_types aZ.out aC.out (by decide)) fun _ hk => hk.2) (fun _ hk => hk.1)))⟩; have n3_ : Aside0 (bO.heap[aE]? = some (.cells #[.int .i64 aN, .slice a5 y243.length a6, .slice aT aM.length aU, .int .i64 (wrap64 (aD + 1)), .int .u64 aV] 26 (0, 0))) := ⟨(by rw [hw]; exact (by exact blk_put aC.out 3 _ rfl))⟩; have n4_ : Aside0 (bO.heap[aA]? = some (.cells #[.int .i64 0, .slice none 0 0, .slice none 0 0, .int .i64 0, .int .u64 0] 26 (0, 0))) := ⟨(by rw [hw]; exact (by exact blk_far aG.out aR.out _))⟩; have n5_ : Aside0 (Below w.heap.size w bO) := ⟨(by rw [hw]; exact (by repeat (first | exact HB.out | refine bs ?_ aK.out)))⟩; clear hw; clear aH; clear aI; clear aZ; clear aC; clear aG; clear HB; have aH := n0_; have aI := n1_; have aZ := n2_; have aC := n3_; have aG := n4_; have HB := n5_; clear n0_ n1_ n2_ n3_ n4_ n5_; obtain ⟨dG, dH, dI, dJ, dK⟩ := Cb.c5 aC.out; obtain ⟨dL, dM, dN, dO, dP⟩ := Cb.f5 aC.out) | ((with_reducible refine gate_callee (f := 40) rfl ?_); refine goesL_ (some 36) rfl rfl Try.func40 (by kernel_rfl) rfl #[.agg #[.int .i64 aN, .slice a5 y243.length a6, .slice aT aM.length aU, .int .i64 (wrap64 (aD + 1)), .int .u64 aV], .int .i64 aD] rfl mp ?_; (with_reducible refine (session_renewed.calls k aN (fun k_ => some k_ = (.slice a5 y243.length a6 : Value).ownBlock) _ _ y243 _ _ aM (wrap64 (aD + 1)) aV aD a8 a9 bA bC bF _ ?side1 ?side2 ?side3 e3.out).mono ?_); (case side1 => exact Kd.R_V (Kd.R_tight rfl (Kd.R_types (Kd.R_types (aZ.out) aC.out (by decide)) aG.out (by decide)))); (case side2 => exact pc (Kd.V_reads' aI.out).2.2); (case side3 => exact (Kd.V_reads' aI.out).2.1); rintro e fC ⟨e6, eR, rfl, bM, dQ, hb⟩; refine ⟨_, rfl, ?_⟩; have bK := ak (Kd.V_lower (Kd.V_mono (ok' := fun k_ => ((a3 k_ ∨ a4 k_) ∨ w.heap.size ≤ k_) ∧ some k_ ≠ (eR : Value).ownBlock ∧ k_ ≠ aE ∧ k_ ≠ aA) bM (fun k_ hk_ => ⟨Or.elim hk_.1 (fun hs_ => (.inr (((Kd.R_types (Kd.R_types (aZ.out) aC.out (by decide)) aG.out (by decide)).1 k_ hs_.symm).1.1))) (fun hn_ => (.inr (Nat.le_trans (below_size (ub aK.out aQ.out HB.out)) hn_))), hk_.2, Or.elim hk_.1 (fun hs_ => ((Kd.R_types (Kd.R_types (aZ.out) aC.out (by decide)) aG.out (by decide)).1 k_ hs_.symm).1.2) (fun hn_ => (Kd.freshB (pk aC.out) k_ hn_)), Or.elim hk_.1 (fun hs_ => ((Kd.R_types (Kd.R_types (aZ.out) aC.out (by decide)) aG.out (by decide)).1 k_ hs_.symm).2) (fun hn_ => (Kd.freshB (pk aG.out) k_ hn_))⟩)) (below_size (ub aK.out aQ.out HB.out))); have bL := ak (Kd.R_lower (Kd.R_newM (M := fun k_ => (w.heap.size ≤ k_)) (Kd.R_mono (ok' := fun k_ => True) dQ (fun _ hk_ => trivial)) (below_size (ub aK.out aQ.out HB.out)) (fun k_ h_ => h_)) (below_size (ub aK.out aQ.out HB.out))); replace aH := ve aH dQ hb; replace aI := ve aI dQ hb; replace aZ := rb aZ hb; replace aC := bb aC hb; replace aG := bb aG hb; replace HB := ak (below_step (ub aK.out aQ.out HB.out) hb); (try clear hb); (try clear hb2); (try clear hk); (try clear hi); (try clear bM); (try clear dQ); obtain ⟨dR, dS, dT, dU, dV⟩ := Cb.c5 aG.out; obtain ⟨dW, dX, dY, dZ, d0⟩ := Cb.f5 aG.out; obtain ⟨bD, bE, eS⟩ := Kd.V_slice bK.out; subst eS; obtain ⟨bG, bH, eT⟩ := Kd.R_slice bL.out; subst eT))
   refine bodyPost_ret (results_ctt rfl _ _ aA 26 #[.int .i64 a8, .slice bD a9.length bE, .slice bG bA.length bH, .int .i64 bC, .int .u64 bF] (0, 0) _ rfl (by exact pq (blk_put (blk_put (blk_put (blk_put (blk_put (pk aG.out) 0 _ rfl) 1 _ rfl) 2 _ rfl) 3 _ rfl) 4 _ rfl)) Try.underlying26 rfl (by kernel_rfl)) rfl ?_
   exact ⟨_, _, by first | rfl | (simp [errW_none, errW_some] <;> rfl) | (simp [*, errW_none, errW_some] <;> rfl), qv (Kd.V_mono (vf5 bK.out fun _ hk => hk.2.2.2) (fun _ hk => hk.1)), Kd.V_mono (Kd.R_V (qr (Kd.R_mono (rf5 (Kd.R_types bL.out aG.out (by decide)) fun _ hk => hk.2) (fun _ hk => hk.1.1)))) (fun k_ hk => by first | exact ⟨(.inr (hk.1)), hk.2⟩ | exact (.inr (hk))), ub aK.out aQ.out HB.out⟩

/-! ### session_New: function 36 -/
set_option maxHeartbeats 8000000 in
set_option maxRecDepth 100000 in
theorem session_New.calls (a0 : Int) (r1 : Int) (r2 : List (S42)) (r3 : List (S85)) (r4 : Int) (r5 : Int) (w : World) (h : session_New.f a0 = some (r1, r2, r3, r4, r5)) :
  Calls Try.prog 36 #[.int .i64 a0] w fun e w' => ∃ v1_ v2_ : Value, e = .returned (.agg #[.int .i64 r1, v1_, v2_, .int .i64 r4, .int .u64 r5]) ∧ Kd.R k42 42 w' w.heap.size (fun _ => True) v1_ r2 ∧ Kd.R k85 85 w' w.heap.size (fun _ => True) v2_ r3 ∧ Below w.heap.size w w' := by
 have hu26 := Try.underlying26
 have HB := ak (Below.refl w.heap.size w)
 have H : (some (a0, ([] : List (S42)), ([] : List (S85)), 1, 0)) = some (r1, r2, r3, r4, r5) := h
 clear h
 simp only [Option.some.injEq, Prod.mk.injEq] at H
 obtain ⟨rfl, rfl, rfl, rfl, rfl⟩ := H
 go_enter Try.func36, Try.ntmps36
 go_wp2_with (first | ((with_reducible refine gate_dst (N := 2) rfl ?_); refine bv 2 26 #[.int .i64 0, .slice none 0 0, .slice none 0 0, .int .i64 0, .int .u64 0] ?_; intro gb255 hg w2 hbox hb; obtain ⟨n_, GE255⟩ := Cb.bx (pB HB.out) hg hb; have GW255 := GE255; have BK255 := ak (hbox); replace HB := n_; clear n_; clear hb hbox hg; obtain ⟨hcz3_0, hcz3_1, hcz3_2, hcz3_3, hcz3_4⟩ := Cb.c5 BK255.out; obtain ⟨hfz3_0, hfz3_1, hfz3_2, hfz3_3, hfz3_4⟩ := Cb.f5 BK255.out))
 refine bodyPost_ret (results_cell_row rfl _ _ gb255 26 #[.int .i64 a0, .slice none 0 0, .slice none 0 0, .int .i64 1, .int .u64 0] (0, 0) _ rfl (by exact pq (blk_put (blk_put (blk_put (blk_put (blk_put (pk BK255.out) 0 _ rfl) 1 _ rfl) 2 _ rfl) 3 _ rfl) 4 _ rfl)) Try.underlying26 rfl (by kernel_rfl)) rfl ?_
 exact ⟨_, _, by first | rfl | (simp [errW_none, errW_some] <;> rfl) | (simp [*, errW_none, errW_some] <;> rfl), by first | exact Kd.R_nil _ _ _ _ _ | exact Kd.N_nil _ _ _ _ _ | exact Kd.V_nil _ _ _ _ _ | exact Kd.Q_nil _ _ _ _ _ | exact Kd.S_nil _ _ _ _ _, by first | exact Kd.R_nil _ _ _ _ _ | exact Kd.N_nil _ _ _ _ _ | exact Kd.V_nil _ _ _ _ _ | exact Kd.Q_nil _ _ _ _ _ | exact Kd.S_nil _ _ _ _ _, ua GE255.out HB.out⟩

end Go.Proofs.Ytnpmjboofmdflaa.PA
