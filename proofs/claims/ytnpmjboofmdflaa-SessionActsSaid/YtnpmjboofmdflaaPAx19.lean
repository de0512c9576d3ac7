-- Made by a program of this workplace out of the translation (wip/tools in the repo). Not trusted: Lean checks it.
import Derived.Test.YtnpmjboofmdflaaPAx0
import Derived.Test.YtnpmjboofmdflaaCb
import Derived.Test.YtnpmjboofmdflaaSq
import Derived.Test.YtnpmjboofmdflaaTq
import Derived.Test.YtnpmjboofmdflaaPAx3
import Derived.Test.YtnpmjboofmdflaaPAx4
namespace Go.Proofs.Ytnpmjboofmdflaa.PA
open Go.RowKit Go.Proofs.YtnpmjboofmdflaaW.PrintWords Go.Proofs.YtnpmjboofmdflaaW.PrintLast Go.Proofs.YtnpmjboofmdflaaW.PrintMore Go.Proofs.Ytnpmjboofmdflaa
attribute [local go_sem] max2_int min2_int max_two min_two max_three min_three max_four min_four   -- for this text's walks alone
set_option linter.unusedVariables false
set_option linter.unusedSimpArgs false

/-! ### session_Of: function 33 -/
theorem enters60 : ∀ args w, (callFunc 60 args).run Try.prog w = .ok (.enter 60 args) w := enters_of Try.func60 (by kernel_rfl) rfl
set_option maxHeartbeats 8000000 in
theorem session_Of_ix_1.calls (x : S42) (a1 : Int) (B : Nat) (W : World) (hc : W.cell? ⟨B, 0, none⟩ = some (.int .i64 a1)) :
  Calls Try.prog 60 #[.agg #[.int .i64 x.f0, .int .i64 x.f1, .bool x.f2, .string x.f3, .int .i64 x.f4, .int .i64 x.f5], .pointer (some ⟨B, 0, none⟩)] W fun e w' => e = .returned (.bool ((!(a1 == 0)) && (x.f4 == a1))) ∧ Below W.heap.size W w' := by
 have hu42 := Try.underlying42
 have hB := World.block_lt_of_cell? W _ hc
 by_cases h0 : a1 = 0
 ·subst h0
  go_enter Try.func60, Try.ntmps60
  go_wp2
  go_ret
  exact ⟨by simp, (Below.refl _ _).alloc (Nat.le_refl _) _⟩
 ·have h1 : (a1 == 0) = false := beq_eq_false_iff_ne.2 h0
  have h2 : (a1 != 0) = true := bne_iff_ne.2 h0
  go_enter Try.func60, Try.ntmps60
  go_wp2
  go_ret
  exact ⟨by simp [h1], (Below.refl _ _).alloc (Nat.le_refl _) _⟩
set_option maxHeartbeats 8000000 in
theorem session_Of_ix.calls {B : Nat} (A0 : Option Addr) (c0 : Nat) (l0 : List (S42)) (a1 : Int) (r : Int) (w : World) (hB : w.cell? ⟨B, 0, none⟩ = some (.int .i64 a1)) (hr0 : Kd.C k42 w A0 l0.length l0) (hc0 : l0.length ≤ c0) (h : session_Of_ix.f l0 a1 = some r) :
  Calls Try.prog 59 #[.slice A0 l0.length c0, .func (.func 60) #[] #[.pointer (some ⟨B, 0, none⟩)]] w fun e w' => e = .returned (.int .i64 r) ∧ Below w.heap.size w w' := by
 obtain rfl := Option.some.inj h
 exact api_Session_59.calls (fun x => (!(a1 == 0)) && (x.f4 == a1)) 60 #[.pointer (some ⟨B, 0, none⟩)] enters60 A0 c0 l0 w hr0 (fun W x hb => session_Of_ix_1.calls x a1 B W ((hb.cell (World.block_lt_of_cell? w _ hB)).trans hB))
def session_Of.T1 : Bool × List (List Nat × List Nat) := (true, [([], []), ([0], [0]), ([], []), ([2], [2]), ([], []), ([3, 4], [3, 4]), ([1, 5, 5], [1, 5]), ([6], [6]), ([6], [6]), ([7, 6, 0, 1, 2, 3, 4, 5, 6, 7, 8], [7]), ([8, 9, 0, 1, 2, 3, 4, 5, 6, 7, 8, 9], [8])])
def session_Of.B1 : List Nat := [0, 1, 0, 4, 0, 28, 63, 127, 127, 511, 1023]
theorem session_Of.tab1 : rtab .any (opsOf Try.f33 1) = session_Of.T1 := by kernel_rfl
theorem session_Of.bits1 : waitsOk session_Of.T1.2 session_Of.B1 = true := by kernel_rfl
set_option maxHeartbeats 8000000 in
set_option maxRecDepth 100000 in
theorem session_Of.calls (aV : Int) (aQ : Option Addr) (aR : Nat) (aI : List (S42)) (aW : Option Addr) (aX : Nat) (aN : List (S85)) (aY : Int) (aZ : Int) (a1 : Int) (r1 : Int) (r2 : Int) (r3 : Bool) (r4 : ByteArray) (r5 : Int) (r6 : Int) (r7 : Bool) (w : World) (a3 : Kd.C k42 w aQ aI.length aI) (a4 : aI.length ≤ aR) (a5 : Kd.C k85 w aW aN.length aN) (a6 : aN.length ≤ aX) (h : session_Of.f aV aI aN aY aZ a1 = some (r1, r2, r3, r4, r5, r6, r7)) :
  Calls Try.prog 33 #[.agg #[.int .i64 aV, .slice aQ aI.length aR, .slice aW aN.length aX, .int .i64 aY, .int .u64 aZ], .int .i64 a1] w fun e w' => e = .returned (.tuple #[.agg #[.int .i64 r1, .int .i64 r2, .bool r3, .string r4, .int .i64 r5, .int .i64 r6], .bool r7]) ∧ Below w.heap.size w w' := by
 have cG := Try.underlying26
 have cH := Try.underlying42
 have a7 := ak a3
 have a8 := ak a4
 clear a3 a4
 have b3 := ak a5
 have b4 := ak a6
 clear a5 a6
 have HB := ak (Below.refl w.heap.size w)
 have H : ((session_Of_ix.f aI a1).bind fun aS => ((api_Session_42.f aI aS).bind fun bt598 => (some (bt598.1, bt598.2.1, bt598.2.2.1, bt598.2.2.2.1, bt598.2.2.2.2.1, bt598.2.2.2.2.2.1, bt598.2.2.2.2.2.2)))) = some (r1, r2, r3, r4, r5, r6, r7) := h
 clear h
 replace H := Option.bind_eq_some_iff.mp H
 obtain ⟨aS, b5, H⟩ := H
 try dsimp only at H
 have A3 := ak b5
 clear b5
 replace H := Option.bind_eq_some_iff.mp H
 obtain ⟨⟨aK, aO, aT, aU, a2, bA, bE⟩, b6, H⟩ := H
 try dsimp only at H
 have A4 := ak b6
 clear b6
 simp only [Option.some.injEq, Prod.mk.injEq] at H
 obtain ⟨rfl, rfl, rfl, rfl, rfl, rfl, rfl⟩ := H
 go_enter Try.func33, Try.ntmps33
 try go_wp2_with (first | ((with_reducible refine gate_dst (N := 2) rfl ?_); refine bv 2 26 #[.int .i64 aV, .slice aQ aI.length aR, .slice aW aN.length aX, .int .i64 aY, .int .u64 aZ] ?_; intro aL hg w5 hbox hb; obtain ⟨n_, aJ⟩ := Cb.bx (pB HB.out) hg hb; have b7 := aJ; have aD := ak (hbox); replace HB := n_; clear n_; clear hb hbox hg) | ((with_reducible refine gate_dst (N := 3) rfl ?_); refine bv 3 3 #[.int .i64 a1] ?_; intro a9 hg w6 hbox hb; obtain ⟨n_, aM⟩ := Cb.bx (ua aJ.out HB.out) hg hb; have b8 := aM; obtain ⟨bB, bC⟩ := Cb.nb hg aD.out; have aF := ak (hbox); replace aD := bb aD hb; replace HB := n_; clear n_; clear hb hbox hg) | ((with_reducible refine gate_dst (N := 4) rfl ?_); refine bv 4 42 #[.int .i64 0, .int .i64 0, .bool false, .string (⟨#[]⟩ : ByteArray), .int .i64 0, .int .i64 0] ?_; intro aB hg w7 hbox hb; obtain ⟨n_, aP⟩ := Cb.bx (ub aJ.out aM.out HB.out) hg hb; have b9 := aP; obtain ⟨aA, aG⟩ := Cb.nb hg aD.out; obtain ⟨aC, aH⟩ := Cb.nb hg aF.out; have aE := ak (hbox); replace aD := bb aD hb; replace aF := bb aF hb; replace HB := n_; clear n_; clear hb hbox hg))
 replace aD := ak (blk_drew aD.out)
 replace aF := ak (blk_drew aF.out)
 replace aE := ak (blk_drew aE.out)
 replace HB := ak (below_drew1 HB.out)
 refine start_ (n := 11) (S := fun w' => w'.cell? ⟨aL, 0, none⟩ = some (.int .i64 aV) ∧ w'.cell? ⟨aL, 1, none⟩ = some (.slice aQ aI.length aR) ∧ w'.cell? ⟨aL, 2, none⟩ = some (.slice aW aN.length aX) ∧ w'.cell? ⟨aL, 3, none⟩ = some (.int .i64 aY) ∧ w'.cell? ⟨aL, 4, none⟩ = some (.int .u64 aZ) ∧ w'.cell? ⟨a9, 0, none⟩ = some (.int .i64 a1)) (ds := []) #[false, false, false, false, false, false, false, false, false, false, false] (by kernel_rfl) rfl rfl ⟨(blk_cell aD.out 0).trans rfl, (blk_cell aD.out 1).trans rfl, (blk_cell aD.out 2).trans rfl, (blk_cell aD.out 3).trans rfl, (blk_cell aD.out 4).trans rfl, (blk_cell aF.out 0).trans rfl⟩ (fun hHeld => ?_); refine with_tabW session_Of.tab1 session_Of.bits1 (fun HT_ HW_ => ?_)
 generalize w7.drew = w8 at aD aF aE HB hHeld ⊢
 refine qa 0 6 (tb 11 1) (any_of HT_.out (by kernel_rfl)) ?_
 refine qa 2 8 (tb 11 5) (any_of HT_.out (by kernel_rfl)) ?_
 refine qa 4 10 (tb 11 21) (any_of HT_.out (by kernel_rfl)) ?_
 refine kf 1 7 (tb 11 23) (take_ofW HT_.out HW_.out (by kernel_rfl)) hHeld ?_
 refine kf 3 9 (tb 11 31) (take_ofW HT_.out HW_.out (by kernel_rfl)) hHeld ?_
 refine one_ (i := 5) (N := some 11) (tb 11 63) rfl rfl (one_of HT_.out (by kernel_rfl)) (by decide) (fun K hK => ?_)
 refine goes_ Try.func59 (by kernel_rfl) rfl #[.slice aQ aI.length aR, .func (.func 60) #[] #[.pointer (some ⟨a9, 0, none⟩)]] (by rfl) rfl rfl mp ?_
 with_reducible refine (session_Of_ix.calls _ _ aI a1 aS _ ?sideB ?side1 ?side2 A3.out).mono ?_
 (case sideB => first | (go_simp; done) | (go_simp; rfl) | exact (blk_cell aF.out 0).trans rfl | exact aF.out | (exact pk aF.out))
 (case side1 => exact pc (Kd.C_below a7.out HB.out))
 (case side2 => exact a8.out)
 rintro e w9 ⟨rfl, hb⟩
 refine ⟨_, rfl, ?_⟩
 replace aD := bb aD hb
 replace aF := bb aF hb
 replace aE := bb aE hb
 replace HB := ak (below_step (uc aJ.out aM.out aP.out HB.out) hb)
 (try clear hb)
 (try clear hb2)
 (try clear hk)
 (try clear hi)
 refine hK.out _ _ ⟨(blk_cell aD.out 0).trans rfl, (blk_cell aD.out 1).trans rfl, (blk_cell aD.out 2).trans rfl, (blk_cell aD.out 3).trans rfl, (blk_cell aD.out 4).trans rfl, (blk_cell aF.out 0).trans rfl⟩ (fun hHeld => ?_)
 clear hK K
 refine norm_ (a' := ?_) ?_ ?_
 rotate_left
 ·show Act.put _ (some 11) _ = _
  simp only [Act.put, List.setIfInBounds_toArray, List.set_cons_zero, List.set_cons_succ, i64_w, i32_w]
  rfl
 refine one_ (i := 6) (N := some 12) (tb 11 127) rfl rfl (one_of HT_.out (by kernel_rfl)) (by decide) (fun K hK => ?_)
 refine goes_ Try.func42 (by kernel_rfl) rfl #[.slice aQ aI.length aR, .int .i64 aS] (by rfl) rfl rfl mp ?_
 with_reducible refine (api_Session_42.calls _ _ aI aS aK aO aT aU a2 bA bE _ ?side1 ?side2 A4.out).mono ?_
 (case side1 => exact pc (Kd.C_below a7.out HB.out))
 (case side2 => exact a8.out)
 rintro e bD ⟨rfl, hb⟩
 refine ⟨_, rfl, ?_⟩
 replace aD := bb aD hb
 replace aF := bb aF hb
 replace aE := bb aE hb
 replace HB := ak (below_step (uc aJ.out aM.out aP.out HB.out) hb)
 (try clear hb)
 (try clear hb2)
 (try clear hk)
 (try clear hi)
 refine hK.out _ _ ⟨(blk_cell aD.out 0).trans rfl, (blk_cell aD.out 1).trans rfl, (blk_cell aD.out 2).trans rfl, (blk_cell aD.out 3).trans rfl, (blk_cell aD.out 4).trans rfl, (blk_cell aF.out 0).trans rfl⟩ (fun hHeld => ?_)
 clear hK K
 refine norm_ (a' := ?_) ?_ ?_
 rotate_left
 ·show Act.put _ (some 12) _ = _
  simp only [Act.put, List.setIfInBounds_toArray, List.set_cons_zero, List.set_cons_succ, i64_w, i32_w]
  rfl
 refine qa 7 13 (tb 11 255) (any_of HT_.out (by kernel_rfl)) ?_
 refine qa 8 14 (tb 11 511) (any_of HT_.out (by kernel_rfl)) ?_
 refine one_ (i := 9) (N := none) (tb 11 1023) rfl rfl (one_of HT_.out (by kernel_rfl)) (by decide) (fun K hK => ?_)
 have cI : bD.cell? ⟨aB, 0, none⟩ = some (.int .i64 0) := (blk_cell aE.out 0).trans rfl
 have cA := blk_frozen aE.out 0
 have bF := aA.out
 have bG := aC.out
 have bH := aG.out
 have bI := aH.out
 have cJ : bD.cell? ⟨aB, 1, none⟩ = some (.int .i64 0) := (blk_cell aE.out 1).trans rfl
 have cB := blk_frozen aE.out 1
 have bJ := aA.out
 have bK := aC.out
 have bL := aG.out
 have bM := aH.out
 have cK : bD.cell? ⟨aB, 2, none⟩ = some (.bool false) := (blk_cell aE.out 2).trans rfl
 have cC := blk_frozen aE.out 2
 have bN := aA.out
 have bO := aC.out
 have bP := aG.out
 have bQ := aH.out
 have cL : bD.cell? ⟨aB, 3, none⟩ = some (.string (⟨#[]⟩ : ByteArray)) := (blk_cell aE.out 3).trans rfl
 have cD := blk_frozen aE.out 3
 have bR := aA.out
 have bS := aC.out
 have bT := aG.out
 have bU := aH.out
 have cM : bD.cell? ⟨aB, 4, none⟩ = some (.int .i64 0) := (blk_cell aE.out 4).trans rfl
 have cE := blk_frozen aE.out 4
 have bV := aA.out
 have bW := aC.out
 have bX := aG.out
 have bY := aH.out
 have cN : bD.cell? ⟨aB, 5, none⟩ = some (.int .i64 0) := (blk_cell aE.out 5).trans rfl
 have cF := blk_frozen aE.out 5
 have bZ := aA.out
 have b0 := aC.out
 have b1 := aG.out
 have b2 := aH.out
 refine skip_ (w1 := ?_) (by rfl) rfl ?_ ?_
 rotate_left
 ·go_simp
  rfl
 refine hK.out _ _ ⟨((cell_far (p := ⟨aB, _, none⟩) aA.out _).trans (((cell_far (p := ⟨aB, _, none⟩) aA.out _).trans (((cell_far (p := ⟨aB, _, none⟩) aA.out _).trans (((cell_far (p := ⟨aB, _, none⟩) aA.out _).trans (((cell_far (p := ⟨aB, _, none⟩) aA.out _).trans (((cell_far (p := ⟨aB, _, none⟩) aA.out _).trans (hHeld.1)))))))))))), ((cell_far (p := ⟨aB, _, none⟩) aA.out _).trans (((cell_far (p := ⟨aB, _, none⟩) aA.out _).trans (((cell_far (p := ⟨aB, _, none⟩) aA.out _).trans (((cell_far (p := ⟨aB, _, none⟩) aA.out _).trans (((cell_far (p := ⟨aB, _, none⟩) aA.out _).trans (((cell_far (p := ⟨aB, _, none⟩) aA.out _).trans (hHeld.2.1)))))))))))), ((cell_far (p := ⟨aB, _, none⟩) aA.out _).trans (((cell_far (p := ⟨aB, _, none⟩) aA.out _).trans (((cell_far (p := ⟨aB, _, none⟩) aA.out _).trans (((cell_far (p := ⟨aB, _, none⟩) aA.out _).trans (((cell_far (p := ⟨aB, _, none⟩) aA.out _).trans (((cell_far (p := ⟨aB, _, none⟩) aA.out _).trans (hHeld.2.2.1)))))))))))), ((cell_far (p := ⟨aB, _, none⟩) aA.out _).trans (((cell_far (p := ⟨aB, _, none⟩) aA.out _).trans (((cell_far (p := ⟨aB, _, none⟩) aA.out _).trans (((cell_far (p := ⟨aB, _, none⟩) aA.out _).trans (((cell_far (p := ⟨aB, _, none⟩) aA.out _).trans (((cell_far (p := ⟨aB, _, none⟩) aA.out _).trans (hHeld.2.2.2.1)))))))))))), ((cell_far (p := ⟨aB, _, none⟩) aA.out _).trans (((cell_far (p := ⟨aB, _, none⟩) aA.out _).trans (((cell_far (p := ⟨aB, _, none⟩) aA.out _).trans (((cell_far (p := ⟨aB, _, none⟩) aA.out _).trans (((cell_far (p := ⟨aB, _, none⟩) aA.out _).trans (((cell_far (p := ⟨aB, _, none⟩) aA.out _).trans (hHeld.2.2.2.2.1)))))))))))), ((cell_far (p := ⟨aB, _, none⟩) aC.out _).trans (((cell_far (p := ⟨aB, _, none⟩) aC.out _).trans (((cell_far (p := ⟨aB, _, none⟩) aC.out _).trans (((cell_far (p := ⟨aB, _, none⟩) aC.out _).trans (((cell_far (p := ⟨aB, _, none⟩) aC.out _).trans (((cell_far (p := ⟨aB, _, none⟩) aC.out _).trans (hHeld.2.2.2.2.2))))))))))))⟩ (fun hHeld => ?_)
 clear hK K
 refine qa 10 5 (tb 11 2047) (any_of HT_.out (by kernel_rfl)) ?_
 refine done_ (done_of HT_.out (by kernel_rfl)) ?_
 try go_wp2
 refine bodyPost_ret (results_ct rfl _ _ aB 42 #[.int .i64 aK, .int .i64 aO, .bool aT, .string aU, .int .i64 a2, .int .i64 bA] (0, 0) _ rfl (by exact pq (blk_put (blk_put (blk_put (blk_put (blk_put (blk_put (pk aE.out) 0 _ rfl) 1 _ rfl) 2 _ rfl) 3 _ rfl) 4 _ rfl) 5 _ rfl)) Try.underlying42 rfl (by kernel_rfl)) rfl ?_
 exact ⟨by first | rfl | (simp [errW_none, errW_some] <;> rfl) | (simp [*, errW_none, errW_some] <;> rfl), uc aJ.out aM.out aP.out HB.out⟩

/-! ### stanchionref17_Of: function 34 -/
set_option maxHeartbeats 8000000 in
set_option maxRecDepth 100000 in
theorem stanchionref17_Of.calls (k : Nat) (aV : Int) (bB : Option Addr) (bC : Nat) (aC : List (S42)) (bD : Option Addr) (bE : Nat) (aT : List (S85)) (aW : Int) (aX : Int) (a1 : Int) (r1 : Int) (r2 : Int) (r3 : Bool) (r4 : ByteArray) (r5 : Int) (r6 : Int) (r7 : Bool) (w : World) (bQ : Kd.C k42 w bB aC.length aC) (bR : aC.length ≤ bC) (bS : Kd.C k85 w bD aT.length aT) (bT : aT.length ≤ bE) (h : stanchionref17_Of.f k aV aC aT aW aX a1 = some (r1, r2, r3, r4, r5, r6, r7)) :
  Calls Try.prog 34 #[.agg #[.int .i64 aV, .slice bB aC.length bC, .slice bD aT.length bE, .int .i64 aW, .int .u64 aX], .int .i64 a1] w fun e w' => e = .returned (.tuple #[.agg #[.int .i64 r1, .int .i64 r2, .bool r3, .string r4, .int .i64 r5, .int .i64 r6], .bool r7]) ∧ Below w.heap.size w w' := by
 have eB := Try.underlying26
 have eC := Try.underlying42
 have bF := ak bQ
 have dX := ak bR
 clear bQ bR
 have dY := ak bS
 have dZ := ak bT
 clear bS bT
 have HB := ak (Below.refl w.heap.size w)
 have H : (stanchionref17_Of.l0 k a1 0 aV aC aT aW aX) = some (r1, r2, r3, r4, r5, r6, r7) := h
 clear h
 have H' := ak H
 clear H
 go_enter Try.func34, Try.ntmps34
 go_wp2_with (first | ((with_reducible refine gate_dst (N := 2) rfl ?_); refine bv 2 26 #[.int .i64 aV, .slice bB aC.length bC, .slice bD aT.length bE, .int .i64 aW, .int .u64 aX] ?_; intro bU hg w3 hbox hb; obtain ⟨n_, aS⟩ := Cb.bx (pB HB.out) hg hb; have d0 := aS; have aH := ak (hbox); replace HB := n_; clear n_; clear hb hbox hg) | ((with_reducible refine gate_dst (N := 4) rfl ?_); refine bv 4 42 #[.int .i64 0, .int .i64 0, .bool false, .string (⟨#[]⟩ : ByteArray), .int .i64 0, .int .i64 0] ?_; intro a8 hg w4 hbox hb; obtain ⟨n_, aU⟩ := Cb.bx (ua aS.out HB.out) hg hb; have d1 := aU; obtain ⟨aJ, aK⟩ := Cb.nb hg aH.out; have aR := ak (hbox); replace aH := bb aH hb; replace HB := n_; clear n_; clear hb hbox hg))
 go_loopg [6] k (fun kq v6 w' => ∃ (aB : Int) (aI : Int) (aG : Int) (aF : Bool) (aE : ByteArray) (aD : Int) (aA : Int), v6 = .int .i64 aB ∧ Aside0 (stanchionref17_Of.l0 kq a1 aB aV aC aT aW aX = some (r1, r2, r3, r4, r5, r6, r7)) ∧ Aside0 (kq ≤ k) ∧ Aside0 (w'.heap[bU]? = some (.cells #[.int .i64 aV, (.slice bB aC.length bC), (.slice bD aT.length bE), .int .i64 aW, .int .u64 aX] 26 (0, 0))) ∧ Aside0 (w'.heap[a8]? = some (.cells #[.int .i64 aI, .int .i64 aG, .bool aF, .string aE, .int .i64 aD, .int .i64 aA] 42 (0, 0))) ∧ Aside0 (Below w.heap.size w w'))
 case atStart => exact ⟨(0), (0), (0), (false), ((⟨#[]⟩ : ByteArray)), (0), (0), es, H', ⟨Nat.le_refl _⟩, ⟨pk aH.out⟩, ⟨pk aR.out⟩, ⟨ub aS.out aU.out HB.out⟩⟩
 case round =>
  clear H'
  try clear p2 c3
  obtain ⟨aB, aI, aG, aF, aE, aD, aA, rfl, HA, cD, aH, aR, HB⟩ := hrel
  cases gk with
  | zero => exact absurd HA.out (by simp [stanchionref17_Of.l0])
  | succ k1 =>
   have H := HA.out
   clear HA
   simp only [stanchionref17_Of.l0] at H
   have dV := ak H
   clear H
   go_upto_region 2 with (fail)
   go_cut [15] (fun v15 wc => ∃ (kq : Nat) (a9 : Bool), v15 = .bool a9 ∧ Aside0 (stanchionref17_Of.j1 kq a1 aB a9 aV aC aT aW aX = some (r1, r2, r3, r4, r5, r6, r7)) ∧ Aside0 (kq ≤ k1) ∧ Aside0 (wc.heap[bU]? = some (.cells #[.int .i64 aV, (.slice bB aC.length bC), (.slice bD aT.length bE), .int .i64 aW, .int .u64 aX] 26 (0, 0))) ∧ Aside0 (wc.heap[a8]? = some (.cells #[.int .i64 aI, .int .i64 aG, .bool aF, .string aE, .int .i64 aD, .int .i64 aA] 42 (0, 0))) ∧ Aside0 (Below w.heap.size w wc))
   case first =>
    have H := dV.out
    clear dV
    by_cases c6 : aB < (aC.length : Int)
    ·rw [if_pos c6] at H
     have bA : decide (aB < (aC.length : Int)) = true := decide_eq_true c6
     clear c6
     (first | rw [bA] | (simp only [i64_w, i32_w]; rw [bA]) | skip)
     have H' := ak H
     clear H
     have eD := aJ.out
     have eE := aK.out
     obtain ⟨bW, bX, bY, bZ, b0⟩ := Cb.c5 aH.out
     obtain ⟨b1, b2, b3, b4, b5⟩ := Cb.f5 aH.out
     go_wp2
     go_meet
     case rel => exact ⟨_, ((a1 != 0)), es, H', ⟨by have := cD.out; first | omega | exact Nat.le_refl _⟩, ⟨pk aH.out⟩, ⟨pk aR.out⟩, ⟨ub aS.out aU.out HB.out⟩⟩
    ·rw [if_neg c6] at H
     have bA : decide (aB < (aC.length : Int)) = false := decide_eq_false c6
     clear c6
     (first | rw [bA] | (simp only [i64_w, i32_w]; rw [bA]) | skip)
     have H' := ak H
     clear H
     have eF := aJ.out
     have eG := aK.out
     obtain ⟨bG, bH, bI, bJ, bK⟩ := Cb.c5 aH.out
     obtain ⟨bL, bM, bN, bO, bP⟩ := Cb.f5 aH.out
     go_wp2
     go_meet
     case rel => exact ⟨_, (false), es, H', ⟨by have := cD.out; first | omega | exact Nat.le_refl _⟩, ⟨pk aH.out⟩, ⟨pk aR.out⟩, ⟨ub aS.out aU.out HB.out⟩⟩
   case rest =>
    clear dV
    try clear p2 c3 c6 bA c7 c9 bG bH bI bJ bK bW bX bY bZ b0 bL bM bN bO bP b1 b2 b3 b4 b5 p2
    obtain ⟨kq, a9, rfl, HA, d2, aH, aR, HB⟩ := hcut
    cases kq with
    | zero => exact absurd HA.out (by simp [stanchionref17_Of.j1])
    | succ kj4 =>
     have H := HA.out
     clear HA
     simp only [stanchionref17_Of.j1] at H
     by_cases cE : a9 = true
     ·subst cE
      have H1 : (if 0 ≤ aB then (if aB < (aC.length : Int) then (if ((rd_T42 aC aB).f4) = a1 then (some ((rd_T42 aC aB).f0, (rd_T42 aC aB).f1, (rd_T42 aC aB).f2, (rd_T42 aC aB).f3, (rd_T42 aC aB).f4, (rd_T42 aC aB).f5, true)) else (stanchionref17_Of.l0 kj4 a1 (wrap64 (aB + 1)) aV aC aT aW aX)) else (none)) else (none)) = some (r1, r2, r3, r4, r5, r6, r7) := by rw [if_pos rfl] at H; exact H
      clear H
      have H := H1
      clear H1
      have cF : 0 ≤ aB := Decidable.byContradiction fun q => by rw [if_neg q] at H; exact absurd H (by simp)
      rw [if_pos cF] at H
      have d3 : decide (0 ≤ aB) = true := decide_eq_true cF
      clear cF
      have cG : aB < (aC.length : Int) := Decidable.byContradiction fun q => by rw [if_neg q] at H; exact absurd H (by simp)
      rw [if_pos cG] at H
      have d4 : decide (aB < (aC.length : Int)) = true := decide_eq_true cG
      clear cG
      by_cases b6 : ((rd_T42 aC aB).f4) = a1
      ·rw [if_pos b6] at H
       have cA : (((rd_T42 aC aB).f4) == a1) = true := beq_iff_eq.mpr b6
       have cB : (((rd_T42 aC aB).f4) != a1) = false := bne_eq_false_iff_eq.mpr b6
       clear b6
       simp only [Option.some.injEq, Prod.mk.injEq] at H
       obtain ⟨rfl, rfl, rfl, rfl, rfl, rfl, rfl⟩ := H
       have d5 := aJ.out
       have d6 := aK.out
       obtain ⟨cH, cI, cJ, cK, cL⟩ := Cb.c5 aH.out
       obtain ⟨cM, cN, cO, cP, cQ⟩ := Cb.f5 aH.out
       have a6 : 0 ≤ (aB : Int) := od
       have a7 : aB < (aC.length : Int) := od
       obtain ⟨bV, b7, aL, aM, aN, aO, aP, aQ⟩ := at_T42 bF.out aB a6 a7
       cases b7
       replace aL := (HB.out.cell (World.block_lt_of_cell? w _ aL)).trans aL
       replace aM := (HB.out.cell (World.block_lt_of_cell? w _ aM)).trans aM
       replace aN := (HB.out.cell (World.block_lt_of_cell? w _ aN)).trans aN
       replace aO := (HB.out.cell (World.block_lt_of_cell? w _ aO)).trans aO
       replace aP := (HB.out.cell (World.block_lt_of_cell? w _ aP)).trans aP
       replace aQ := (HB.out.cell (World.block_lt_of_cell? w _ aQ)).trans aQ
       replace a6 := eq_true a6
       replace a7 := eq_true a7
       have b8 : 0 ≤ (aB : Int) := od
       have b9 : aB < (aC.length : Int) := od
       obtain ⟨cC, dW, aY, aZ, a2, a3, a4, a5⟩ := at_T42 bF.out aB b8 b9
       obtain rfl : bV = cC := (by injection dW)
       replace aY := (HB.out.cell (World.block_lt_of_cell? w _ aY)).trans aY
       replace aZ := (HB.out.cell (World.block_lt_of_cell? w _ aZ)).trans aZ
       replace a2 := (HB.out.cell (World.block_lt_of_cell? w _ a2)).trans a2
       replace a3 := (HB.out.cell (World.block_lt_of_cell? w _ a3)).trans a3
       replace a4 := (HB.out.cell (World.block_lt_of_cell? w _ a4)).trans a4
       replace a5 := (HB.out.cell (World.block_lt_of_cell? w _ a5)).trans a5
       replace b8 := eq_true b8
       replace b9 := eq_true b9
       obtain ⟨cR, cS, cT, cU, cV, cW⟩ := Cb.c6 aR.out
       obtain ⟨cX, cY, cZ, c1, c2, c4⟩ := Cb.f6 aR.out
       go_wp2
       refine bodyPost_ret (results_ct rfl _ _ a8 42 #[.int .i64 ((rd_T42 aC aB).f0), .int .i64 ((rd_T42 aC aB).f1), .bool ((rd_T42 aC aB).f2), .string ((rd_T42 aC aB).f3), .int .i64 ((rd_T42 aC aB).f4), .int .i64 ((rd_T42 aC aB).f5)] (0, 0) _ rfl (by exact pq (blk_put (blk_put (blk_put (blk_put (blk_put (blk_put (pk aR.out) 0 _ rfl) 1 _ rfl) 2 _ rfl) 3 _ rfl) 4 _ rfl) 5 _ rfl)) Try.underlying42 rfl (by kernel_rfl)) rfl ?_
       exact ⟨by first | rfl | (simp [errW_none, errW_some] <;> rfl) | (simp [*, errW_none, errW_some] <;> rfl), ub aS.out aU.out HB.out⟩
      ·rw [if_neg b6] at H
       have cA : (((rd_T42 aC aB).f4) == a1) = false := beq_eq_false_iff_ne.mpr b6
       have cB : (((rd_T42 aC aB).f4) != a1) = true := bne_iff_ne.mpr b6
       have H' := ak H
       clear H
       have d7 := aJ.out
       have d8 := aK.out
       obtain ⟨c8, dA, dB, dC, dD⟩ := Cb.c5 aH.out
       obtain ⟨dE, dF, dG, dH, dI⟩ := Cb.f5 aH.out
       have a6 : 0 ≤ (aB : Int) := od
       have a7 : aB < (aC.length : Int) := od
       obtain ⟨bV, b7, aL, aM, aN, aO, aP, aQ⟩ := at_T42 bF.out aB a6 a7
       cases b7
       replace aL := (HB.out.cell (World.block_lt_of_cell? w _ aL)).trans aL
       replace aM := (HB.out.cell (World.block_lt_of_cell? w _ aM)).trans aM
       replace aN := (HB.out.cell (World.block_lt_of_cell? w _ aN)).trans aN
       replace aO := (HB.out.cell (World.block_lt_of_cell? w _ aO)).trans aO
       replace aP := (HB.out.cell (World.block_lt_of_cell? w _ aP)).trans aP
       replace aQ := (HB.out.cell (World.block_lt_of_cell? w _ aQ)).trans aQ
       replace a6 := eq_true a6
       replace a7 := eq_true a7
       go_wp2
       go_roundg kj4
       case measure => have := cD.out; have := d2.out; omega
       case rel => exact ⟨(wrap64 (aB + 1)), (aI), (aG), (aF), (aE), (aD), (aA), es, H', ⟨by have := cD.out; have := d2.out; omega⟩, ⟨pk aH.out⟩, ⟨pk aR.out⟩, ⟨ub aS.out aU.out HB.out⟩⟩
     ·replace cE := Bool.eq_false_iff.mpr cE
      subst cE
      have H1 : (some (0, 0, false, (⟨#[]⟩ : ByteArray), 0, 0, false)) = some (r1, r2, r3, r4, r5, r6, r7) := by rw [if_neg (show ¬ (false = true) by decide)] at H; exact H
      clear H
      have H := H1
      clear H1
      simp only [Option.some.injEq, Prod.mk.injEq] at H
      obtain ⟨rfl, rfl, rfl, rfl, rfl, rfl, rfl⟩ := H
      have d9 := aK.out
      have eA := aJ.out
      obtain ⟨dJ, dK, dL, dM, dN, dO⟩ := Cb.c6 aR.out
      obtain ⟨dP, dQ, dR, dS, dT, dU⟩ := Cb.f6 aR.out
      go_wp2
      refine bodyPost_ret (results_ct rfl _ _ a8 42 #[.int .i64 0, .int .i64 0, .bool false, .string (⟨#[]⟩ : ByteArray), .int .i64 0, .int .i64 0] (0, 0) _ rfl (by exact pq (blk_put (blk_put (blk_put (blk_put (blk_put (blk_put (pk aR.out) 0 _ rfl) 1 _ rfl) 2 _ rfl) 3 _ rfl) 4 _ rfl) 5 _ rfl)) Try.underlying42 rfl (by kernel_rfl)) rfl ?_
      exact ⟨by first | rfl | (simp [errW_none, errW_some] <;> rfl) | (simp [*, errW_none, errW_some] <;> rfl), ub aS.out aU.out HB.out⟩

/-! ### stanchionref17_New: function 37 -/
set_option maxHeartbeats 8000000 in
set_option maxRecDepth 100000 in
theorem stanchionref17_New.calls (a0 : Int) (r1 : Int) (r2 : List (S42)) (r3 : List (S85)) (r4 : Int) (r5 : Int) (w : World) (h : stanchionref17_New.f a0 = some (r1, r2, r3, r4, r5)) :
  Calls Try.prog 37 #[.int .i64 a0] w fun e w' => ∃ v1_ v2_ : Value, e = .returned (.agg #[.int .i64 r1, v1_, v2_, .int .i64 r4, .int .u64 r5]) ∧ Kd.R k42 42 w' w.heap.size (fun _ => True) v1_ r2 ∧ Kd.R k85 85 w' w.heap.size (fun _ => True) v2_ r3 ∧ Below w.heap.size w w' := by
 have hu26 := Try.underlying26
 have HB := ak (Below.refl w.heap.size w)
 have H : (some (a0, ([] : List (S42)), ([] : List (S85)), 1, 0)) = some (r1, r2, r3, r4, r5) := h
 clear h
 simp only [Option.some.injEq, Prod.mk.injEq] at H
 obtain ⟨rfl, rfl, rfl, rfl, rfl⟩ := H
 go_enter Try.func37, Try.ntmps37
 go_wp2_with (first | ((with_reducible refine gate_dst (N := 2) rfl ?_); refine bv 2 26 #[.int .i64 0, .slice none 0 0, .slice none 0 0, .int .i64 0, .int .u64 0] ?_; intro gb609 hg w2 hbox hb; obtain ⟨n_, GE609⟩ := Cb.bx (pB HB.out) hg hb; have GW609 := GE609; have BK609 := ak (hbox); replace HB := n_; clear n_; clear hb hbox hg; obtain ⟨hcz3_0, hcz3_1, hcz3_2, hcz3_3, hcz3_4⟩ := Cb.c5 BK609.out; obtain ⟨hfz3_0, hfz3_1, hfz3_2, hfz3_3, hfz3_4⟩ := Cb.f5 BK609.out))
 refine bodyPost_ret (results_cell_row rfl _ _ gb609 26 #[.int .i64 a0, .slice none 0 0, .slice none 0 0, .int .i64 1, .int .u64 0] (0, 0) _ rfl (by exact pq (blk_put (blk_put (blk_put (blk_put (blk_put (pk BK609.out) 0 _ rfl) 1 _ rfl) 2 _ rfl) 3 _ rfl) 4 _ rfl)) Try.underlying26 rfl (by kernel_rfl)) rfl ?_
 exact ⟨_, _, by first | rfl | (simp [errW_none, errW_some] <;> rfl) | (simp [*, errW_none, errW_some] <;> rfl), by first | exact Kd.R_nil _ _ _ _ _ | exact Kd.N_nil _ _ _ _ _ | exact Kd.V_nil _ _ _ _ _ | exact Kd.Q_nil _ _ _ _ _ | exact Kd.S_nil _ _ _ _ _, by first | exact Kd.R_nil _ _ _ _ _ | exact Kd.N_nil _ _ _ _ _ | exact Kd.V_nil _ _ _ _ _ | exact Kd.Q_nil _ _ _ _ _ | exact Kd.S_nil _ _ _ _ _, ua GE609.out HB.out⟩

end Go.Proofs.Ytnpmjboofmdflaa.PA
