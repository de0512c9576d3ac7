-- Made by a program of this workplace out of the translation (wip/tools in the repo). Not trusted: Lean checks it.
import Derived.Test.YtnpmjboofmdflaaPAx0
import Derived.Test.YtnpmjboofmdflaaCb
import Derived.Test.YtnpmjboofmdflaaSq
import Derived.Test.YtnpmjboofmdflaaTq
import Derived.Test.YtnpmjboofmdflaaPAx3
import Derived.Test.YtnpmjboofmdflaaPAx4
import Derived.Test.YtnpmjboofmdflaaPAx15
import Derived.Test.YtnpmjboofmdflaaPAx17
namespace Go.Proofs.Ytnpmjboofmdflaa.PA
open Go.RowKit Go.Proofs.YtnpmjboofmdflaaW.PrintWords Go.Proofs.YtnpmjboofmdflaaW.PrintLast Go.Proofs.YtnpmjboofmdflaaW.PrintMore Go.Proofs.Ytnpmjboofmdflaa
attribute [local go_sem] max2_int min2_int max_two min_two max_three min_three max_four min_four   -- for this text's walks alone
set_option linter.unusedVariables false
set_option linter.unusedSimpArgs false

/-! ### stanchionref17_Tick: function 31 -/
def stanchionref17_Tick.T9 : Bool × List (List Nat × List Nat) := (true, [([], []), ([], []), ([], []), ([1, 2], [1, 2]), ([3], [3]), ([0, 4], [0, 4]), ([5], [5]), ([6], [6]), ([6], [6]), ([], []), ([9, 7, 5, 0, 1, 2, 3, 4, 5, 6, 7, 9], [7, 9]), ([8, 10, 0, 1, 2, 3, 4, 5, 6, 7, 8, 9, 10], [8])])
def stanchionref17_Tick.B9 : List Nat := [0, 0, 0, 6, 14, 31, 63, 127, 127, 0, 767, 2047]
theorem stanchionref17_Tick.tab9 : rtab .any (opsOf Try.f31 9) = stanchionref17_Tick.T9 := by kernel_rfl
theorem stanchionref17_Tick.bits9 : waitsOk stanchionref17_Tick.T9.2 stanchionref17_Tick.B9 = true := by kernel_rfl
set_option maxHeartbeats 8000000 in
set_option maxRecDepth 100000 in
theorem stanchionref17_Tick.calls (k : Nat) (bN : Int) (a5 : Nat → Prop) (bR : Option Addr) (bS : Nat) (bC : List (S42)) (a6 : Nat → Prop) (bT : Option Addr) (bU : Nat) (bD : List (S85)) (bO : Int) (bV : Int) (a1 : Int) (r1 : Int) (r2 : List (S42)) (r3 : List (S85)) (r4 : Int) (r5 : Int) (r6 : List (S42)) (w : World) (eC : Kd.V k42 42 w w.heap.size (fun k_ => a5 k_) (.slice bR bC.length bS) bC) (eD : Kd.V k85 85 w w.heap.size (fun k_ => a6 k_) (.slice bT bD.length bU) bD) (h : stanchionref17_Tick.f k bN bC bD bO bV a1 = some (r1, r2, r3, r4, r5, r6)) :
  Calls Try.prog 31 #[.agg #[.int .i64 bN, .slice bR bC.length bS, .slice bT bD.length bU, .int .i64 bO, .int .u64 bV], .int .u64 a1] w fun e w' => ∃ v1_ v2_ e1 : Value, e = .returned (.tuple #[.agg #[.int .i64 r1, v1_, v2_, .int .i64 r4, .int .u64 r5], e1]) ∧ Kd.V k42 42 w' w.heap.size (fun k_ => ((a5 k_ ∨ a6 k_) ∨ w.heap.size ≤ k_) ∧ some k_ ≠ (e1 : Value).ownBlock) v1_ r2 ∧ Kd.V k85 85 w' w.heap.size (fun k_ => ((a5 k_ ∨ a6 k_) ∨ w.heap.size ≤ k_) ∧ some k_ ≠ (e1 : Value).ownBlock) v2_ r3 ∧ Kd.R k42 42 w' w.heap.size (fun k_ => (w.heap.size ≤ k_)) e1 r6 ∧ Below w.heap.size w w' := by
 have jB := Try.underlying26
 have jC := Try.underlying42
 have b2 := ak (show Kd.V k42 42 w w.heap.size (fun k_ => ((a5 k_ ∨ a6 k_) ∨ w.heap.size ≤ k_)) (.slice bR bC.length bS) bC from Kd.V_mono eC (fun k_ hk => .inl (.inl hk)))
 have b3 := ak (show Kd.V k85 85 w w.heap.size (fun k_ => ((a5 k_ ∨ a6 k_) ∨ w.heap.size ≤ k_)) (.slice bT bD.length bU) bD from Kd.V_mono eD (fun k_ hk => .inl (.inr hk)))
 have HB := ak (Below.refl w.heap.size w)
 have H : (if a1 > bV then (stanchionref17_Tick.j0 k bN bC bD bO a1) else (stanchionref17_Tick.j0 k bN bC bD bO bV)) = some (r1, r2, r3, r4, r5, r6) := h
 clear h
 have h3 := ak H
 clear H
 go_enter Try.func31, Try.ntmps31
 go_upto_if 15 with (first | ((with_reducible refine gate_dst (N := 2) rfl ?_); refine bv 2 26 #[.int .i64 bN, .slice bR bC.length bS, .slice bT bD.length bU, .int .i64 bO, .int .u64 bV] ?_; intro aI hg w4 hbox hb; obtain ⟨n_, aY⟩ := Cb.bx (pB HB.out) hg hb; have iJ := aY; have aD := ak (hbox); replace b2 := vb b2 aI hg hb; replace b3 := vb b3 aI hg hb; replace HB := n_; clear n_; clear hb hbox hg) | ((with_reducible refine gate_dst (N := 4) rfl ?_); refine bv 4 26 #[.int .i64 0, .slice none 0 0, .slice none 0 0, .int .i64 0, .int .u64 0] ?_; intro aT hg w5 hbox hb; obtain ⟨n_, aZ⟩ := Cb.bx (ua aY.out HB.out) hg hb; have iK := aZ; obtain ⟨a8, aV⟩ := Cb.nb hg aD.out; have aR := ak (hbox); replace b2 := vb b2 aT hg hb; replace b3 := vb b3 aT hg hb; replace aD := bb aD hb; replace HB := n_; clear n_; clear hb hbox hg; have jD := a8.out; have jE := aV.out; obtain ⟨cW, cX, cY, cZ, c0⟩ := Cb.c5 aD.out; obtain ⟨c2, c4, c7, dA, dB⟩ := Cb.f5 aD.out))
 (try simp only [Act.put, List.setIfInBounds_toArray, List.set_cons_zero, List.set_cons_succ])
 go_cut [] (fun wc => ∃ (kq : Nat) (aE : Int), Aside0 (stanchionref17_Tick.j0 kq bN bC bD bO aE = some (r1, r2, r3, r4, r5, r6)) ∧ Aside0 (kq ≤ k) ∧ Aside0 (Kd.V k42 42 wc w.heap.size (fun k_ => ((a5 k_ ∨ a6 k_) ∨ w.heap.size ≤ k_) ∧ k_ ≠ aI ∧ k_ ≠ aT) (.slice bR bC.length bS) bC) ∧ Aside0 (Kd.V k85 85 wc w.heap.size (fun k_ => ((a5 k_ ∨ a6 k_) ∨ w.heap.size ≤ k_) ∧ k_ ≠ aI ∧ k_ ≠ aT) (.slice bT bD.length bU) bD) ∧ Aside0 (wc.heap[aI]? = some (.cells #[.int .i64 bN, (.slice bR bC.length bS), (.slice bT bD.length bU), .int .i64 bO, .int .u64 aE] 26 (0, 0))) ∧ Aside0 (wc.heap[aT]? = some (.cells #[.int .i64 0, (.slice none 0 0), (.slice none 0 0), .int .i64 0, .int .u64 0] 26 (0, 0))) ∧ Aside0 (Below w.heap.size w wc))
 case first =>
  have H := h3.out
  clear h3
  by_cases c8 : a1 > bV
  ·rw [if_pos c8] at H
   have b9 : decide (bV < a1) = true := decide_eq_true c8
   clear c8
   (first | rw [b9] | (simp only [i64_w, i32_w]; rw [b9]) | skip)
   have H' := ak H
   clear H
   have jF := a8.out
   have jG := aV.out
   obtain ⟨cI, cJ, cK, cL, cM⟩ := Cb.c5 aD.out
   obtain ⟨cN, cO, cP, cQ, cR⟩ := Cb.f5 aD.out
   go_wp2
   go_meet
   case rel => exact ⟨_, (a1), H', ⟨by first | omega | exact Nat.le_refl _⟩, ⟨qv (vm (vf1 b2.out fun _ hk => hk.1.2))⟩, ⟨qv (vm (vf1 b3.out fun _ hk => hk.1.2))⟩, ⟨by exact pq (blk_put (pk aD.out) 4 _ rfl)⟩, ⟨by exact pq (blk_far (pk aR.out) aV.out _)⟩, ⟨ub aY.out aZ.out HB.out⟩⟩
  ·rw [if_neg c8] at H
   have b9 : decide (bV < a1) = false := decide_eq_false c8
   clear c8
   (first | rw [b9] | (simp only [i64_w, i32_w]; rw [b9]) | skip)
   have H' := ak H
   clear H
   go_wp2
   go_meet
   case rel => exact ⟨_, (bV), H', ⟨by first | omega | exact Nat.le_refl _⟩, ⟨pV (vm b2.out)⟩, ⟨pV (vm b3.out)⟩, ⟨pk aD.out⟩, ⟨pk aR.out⟩, ⟨ub aY.out aZ.out HB.out⟩⟩
 case rest =>
  clear h3
  try clear p2 c3 c6 c8 b9 c9 cI cJ cK cL cM cW cX cY cZ c0 cN cO cP cQ cR c2 c4 c7 dA dB
  obtain ⟨kq, aE, HA, e2, HO_565001, HO_565002, aD, aR, HB⟩ := hcut
  cases kq with
  | zero => exact absurd HA.out (by simp [stanchionref17_Tick.j0])
  | succ kj2 =>
   have H := HA.out
   clear HA
   simp only [stanchionref17_Tick.j0] at H
   replace H := Option.bind_eq_some_iff.mp H
   obtain ⟨⟨cA, aW⟩, eE, H⟩ := H
   try dsimp only at H
   have jH := ak eE
   clear eE
   have H' := ak H
   clear H
   have iL := a8.out
   have iM := aV.out
   obtain ⟨dG, dH, dI, dJ, dK⟩ := Cb.c5 aD.out
   obtain ⟨dL, dM, dN, dO, dP⟩ := Cb.f5 aD.out
   go_wp2_with (first | ((with_reducible refine gate_callee (f := 58) rfl ?_); refine goesL_ (some 23) rfl rfl Try.func58 (by kernel_rfl) rfl #[.slice bT bD.length bU, .int .u64 aE] rfl mp ?_; (with_reducible refine (stanchionref15_Due.calls kj2 (fun k_ => (((a5 k_ ∨ a6 k_) ∨ w.heap.size ≤ k_) ∧ (k_ ≠ aI ∧ k_ ≠ aT))) _ _ bD aE cA aW _ ?side1 jH.out).mono ?_); (case side1 => exact HO_565002.out); rintro e kC ⟨jI, dQ, rfl, d3, d7, hb⟩; refine ⟨_, rfl, ?_⟩; have d4 := ak (Kd.V_lower (Kd.V_mono (ok' := fun k_ => ((a5 k_ ∨ a6 k_) ∨ w.heap.size ≤ k_) ∧ some k_ ≠ (dQ : Value).ownBlock ∧ k_ ≠ aI ∧ k_ ≠ aT) d3 (fun k_ hk_ => ⟨Or.elim hk_.1 (fun hs_ => hs_.1) (fun hn_ => (.inr (Nat.le_trans (below_size (ub aY.out aZ.out HB.out)) hn_))), hk_.2, Or.elim hk_.1 (fun hs_ => hs_.2.1) (fun hn_ => (Kd.freshB (pk aD.out) k_ hn_)), Or.elim hk_.1 (fun hs_ => hs_.2.2) (fun hn_ => (Kd.freshB (pk aR.out) k_ hn_))⟩)) (below_size (ub aY.out aZ.out HB.out))); have eF := ak (Kd.R_lower (Kd.R_newM (M := fun k_ => (w.heap.size ≤ k_)) (Kd.R_mono (ok' := fun k_ => True) d7 (fun _ hk_ => trivial)) (below_size (ub aY.out aZ.out HB.out)) (fun k_ h_ => h_)) (below_size (ub aY.out aZ.out HB.out))); replace HO_565001 := ve HO_565001 d7 hb; replace HO_565002 := ve HO_565002 d7 hb; replace aD := bb aD hb; replace aR := bb aR hb; replace HB := ak (below_step (ub aY.out aZ.out HB.out) hb); (try clear hb); (try clear hb2); (try clear hk); (try clear hi); (try clear d3); (try clear d7); obtain ⟨dR, dS, h4⟩ := Kd.V_slice d4.out; subst h4; obtain ⟨dT, dU, dV, dW, dX⟩ := Cb.c5 aD.out; obtain ⟨dY, dZ, d0, d1, d2⟩ := Cb.f5 aD.out))
   go_loopg [8, 9] kj2 (fun kq v8 v9 w' => ∃ (bE : List (S42)) (aX : Int) (aK : Int) (aG : List (S42)) (aH : List (S85)) (aM : Int) (aE : Int) (u565001 : Value) (u565002 : Value), v9 = .int .i64 aX ∧ Aside0 (stanchionref17_Tick.l0 kq aW bE aX aK aG aH aM aE = some (r1, r2, r3, r4, r5, r6)) ∧ Aside0 (kq ≤ kj2) ∧ Aside0 (Kd.R (Kd.int .i64) 3 w' w.heap.size (fun k_ => (w.heap.size ≤ k_)) dQ aW) ∧ Aside0 (Kd.R k42 42 w' w.heap.size (fun k_ => (w.heap.size ≤ k_)) v8 bE) ∧ Aside0 (Kd.V k42 42 w' w.heap.size (fun k_ => ((a5 k_ ∨ a6 k_) ∨ w.heap.size ≤ k_) ∧ some k_ ≠ (dQ : Value).ownBlock ∧ some k_ ≠ (v8 : Value).ownBlock ∧ k_ ≠ aI ∧ k_ ≠ aT) u565001 aG) ∧ Aside0 (Kd.V k85 85 w' w.heap.size (fun k_ => ((a5 k_ ∨ a6 k_) ∨ w.heap.size ≤ k_) ∧ some k_ ≠ (dQ : Value).ownBlock ∧ some k_ ≠ (v8 : Value).ownBlock ∧ k_ ≠ aI ∧ k_ ≠ aT) u565002 aH) ∧ Aside0 (w'.heap[aI]? = some (.cells #[.int .i64 aK, u565001, u565002, .int .i64 aM, .int .u64 aE] 26 (0, 0))) ∧ Aside0 (w'.heap[aT]? = some (.cells #[.int .i64 0, (.slice none 0 0), (.slice none 0 0), .int .i64 0, .int .u64 0] 26 (0, 0))) ∧ Aside0 (Below w.heap.size w w'))
   case atStart => exact ⟨(([] : List (S42))), (0), (bN), (bC), (cA), (bO), (aE), (.slice bR bC.length bS), (.slice dR cA.length dS), es, H', ⟨Nat.le_refl _⟩, ⟨qr (Kd.R_mono (rf1 (Kd.R_types eF.out aD.out (by decide)) fun _ hk => hk.2) (fun _ hk => hk.1.1))⟩, ⟨by first | exact Kd.R_nil _ _ _ _ _ | exact Kd.N_nil _ _ _ _ _ | exact Kd.V_nil _ _ _ _ _ | exact Kd.Q_nil _ _ _ _ _ | exact Kd.S_nil _ _ _ _ _⟩, ⟨qv (Kd.V_mono (vf1 HO_565001.out fun _ hk => hk.1.2.1) (fun _ hk => ⟨hk.1.1, ⟨hk.2, ⟨(by simp [Value.ownBlock]), ⟨hk.1.2.1, hk.1.2.2⟩⟩⟩⟩))⟩, ⟨qv (Kd.V_mono (vf1 d4.out fun _ hk => hk.2.2.1) (fun _ hk => ⟨hk.1, ⟨hk.2.1, ⟨(by simp [Value.ownBlock]), ⟨hk.2.2.1, hk.2.2.2⟩⟩⟩⟩))⟩, ⟨by exact pq (blk_put (pk aD.out) 2 _ rfl)⟩, ⟨by exact pq (blk_far (pk aR.out) aV.out _)⟩, ⟨ub aY.out aZ.out HB.out⟩⟩
   case round =>
    clear H'
    try clear c1 p2 c3 c5 c6 c8 b9 c9 c12 cI cJ cK cL cM dG dH dI dJ dK dT dU dV dW dX cW cX cY cZ c0 cN cO cP cQ cR dL dM dN dO dP dY dZ d0 d1 d2 c2 c4 c7 dA dB p2
    obtain ⟨bE, aX, aK, aG, aH, aM, aE, u565001, u565002, rfl, HA, e3, HO_7, HO_8, HO_565001, HO_565002, aD, aR, HB⟩ := hrel
    cases gk with
    | zero => exact absurd HA.out (by simp [stanchionref17_Tick.l0])
    | succ k2 =>
     have H := HA.out
     clear HA
     simp only [stanchionref17_Tick.l0] at H
     by_cases eB : aX < (aW.length : Int)
     ·rw [if_pos eB] at H
      have eG : decide (aX < (aW.length : Int)) = true := decide_eq_true eB
      clear eB
      have e4 : 0 ≤ aX := Decidable.byContradiction fun q => by rw [if_neg q] at H; exact absurd H (by simp)
      rw [if_pos e4] at H
      have iN : decide (0 ≤ aX) = true := decide_eq_true e4
      clear e4
      replace H := Option.bind_eq_some_iff.mp H
      obtain ⟨⟨a2, a4, a7, a9, bA, bB, eH⟩, eI, H⟩ := H
      try dsimp only at H
      have e5 := ak eI
      clear eI
      by_cases e6 : eH = true
      ·subst e6
       have H1 : (if bE.length < 2513169434916 then ((stanchionref17_less.f k2 aK aG aH aM aE (rd aW aX)).bind fun bt585 => (stanchionref17_Tick.l0 k2 aW (bE ++ [(⟨a2, a4, a7, a9, bA, bB⟩ : S42)]) (wrap64 (aX + 1)) bt585.1 bt585.2.1 bt585.2.2.1 bt585.2.2.2.1 bt585.2.2.2.2)) else (none)) = some (r1, r2, r3, r4, r5, r6) := by rw [if_pos rfl] at H; exact H
       clear H
       have H := H1
       clear H1
       have e7 : bE.length < 2513169434916 := Decidable.byContradiction fun q => by rw [if_neg q] at H; exact absurd H (by simp)
       rw [if_pos e7] at H
       have eJ := ak e7
       clear e7
       obtain ⟨y581, hy581⟩ : ∃ y_ : List (S42), y_ = (bE ++ [(⟨a2, a4, a7, a9, bA, bB⟩ : S42)]) := ⟨_, rfl⟩
       replace H : ((stanchionref17_less.f k2 aK aG aH aM aE (rd aW aX)).bind fun bt585 => (stanchionref17_Tick.l0 k2 aW y581 (wrap64 (aX + 1)) bt585.1 bt585.2.1 bt585.2.2.1 bt585.2.2.2.1 bt585.2.2.2.2)) = some (r1, r2, r3, r4, r5, r6) := by first | (rw [hy581]; with_reducible exact H) | (have h5 := (Option.bind_some _ _).symm.trans H; rw [hy581]; with_reducible exact h5) | (have h5 := (Option.bind_some _ _).symm.trans H; with_reducible exact h5) | with_reducible exact H | (rw [hy581]; exact H) | exact H
       have eK := ak hy581
       clear hy581
       replace H := Option.bind_eq_some_iff.mp H
       obtain ⟨⟨bP, bQ, bW, b6, cB⟩, eL, H⟩ := H
       try dsimp only at H
       have jJ := ak eL
       clear eL
       have H' := ak H
       clear H
       obtain ⟨jK, bX, h6⟩ := Kd.R_slice HO_7.out
       subst h6
       obtain ⟨bI, bJ, h7⟩ := Kd.V_slice HO_565001.out
       subst h7
       obtain ⟨bF, bG, h8⟩ := Kd.V_slice HO_565002.out
       subst h8
       try go_wp2
       replace HO_7 := ak (Kd.R_drew HO_7.out)
       replace HO_8 := ak (Kd.R_drew HO_8.out)
       replace HO_565001 := ak (Kd.V_drew HO_565001.out)
       replace HO_565002 := ak (Kd.V_drew HO_565002.out)
       replace aD := ak (blk_drew aD.out)
       replace aR := ak (blk_drew aR.out)
       replace HB := ak (below_drew1 HB.out)
       have cC : 0 ≤ (aX : Int) := od
       have cD : aX < (aW.length : Int) := od
       obtain ⟨a3, d8, bK⟩ := Kd.at_int (Kd.R_reads' HO_7.out).2.2 aX cC cD
       cases d8
       replace cC := eq_true cC
       replace cD := eq_true cD
       refine start_ (n := 12) (S := fun w' => w'.cell? ⟨aI, 0, none⟩ = some (.int .i64 aK) ∧ w'.cell? ⟨aI, 1, none⟩ = some (.slice bI aG.length bJ) ∧ w'.cell? ⟨aI, 2, none⟩ = some (.slice bF aH.length bG) ∧ w'.cell? ⟨aI, 3, none⟩ = some (.int .i64 aM) ∧ w'.cell? ⟨aI, 4, none⟩ = some (.int .u64 aE) ∧ w'.cell? (a3.add (aX).toNat) = some (.int .i64 (rd aW aX))) (ds := []) #[false, false, false, false, false, false, false, false, false, false, false, false] (by kernel_rfl) rfl rfl ⟨(blk_cell aD.out 0).trans rfl, (blk_cell aD.out 1).trans rfl, (blk_cell aD.out 2).trans rfl, (blk_cell aD.out 3).trans rfl, (blk_cell aD.out 4).trans rfl, bK⟩ (fun hHeld => ?_); refine with_tabW stanchionref17_Tick.tab9 stanchionref17_Tick.bits9 (fun HT_ HW_ => ?_)
       generalize wr.drew = w26 at HO_7 HO_8 HO_565001 HO_565002 aD aR HB bK hHeld ⊢
       refine qa 1 36 (tb 12 2) (any_of HT_.out (by kernel_rfl)) ?_
       refine qa 2 37 (tb 12 6) (any_of HT_.out (by kernel_rfl)) ?_
       refine qa 3 38 (tb 12 14) (any_of HT_.out (by kernel_rfl)) ?_
       refine kf 0 35 (tb 12 15) (take_ofW HT_.out HW_.out (by kernel_rfl)) hHeld ?_
       refine kf 4 39 (tb 12 31) (take_ofW HT_.out HW_.out (by kernel_rfl)) hHeld ?_
       refine join_ (σ := Nat) 2 (tb 12 1023) (fun s_ => [(40, .tuple #[.agg #[.int .i64 a2, .int .i64 a4, .bool a7, .string a9, .int .i64 bA, .int .i64 bB], .bool true]), (10, .pointer (some ⟨s_, 0, none⟩)), (34, .tuple #[.agg #[.int .i64 a2, .int .i64 a4, .bool a7, .string a9, .int .i64 bA, .int .i64 bB], .bool true]), (41, .agg #[.int .i64 a2, .int .i64 a4, .bool a7, .string a9, .int .i64 bA, .int .i64 bB]), (42, .bool true)]) (fun s_ w' => (w'.cell? ⟨aI, 0, none⟩ = some (.int .i64 aK) ∧ w'.cell? ⟨aI, 1, none⟩ = some (.slice bI aG.length bJ) ∧ w'.cell? ⟨aI, 2, none⟩ = some (.slice bF aH.length bG) ∧ w'.cell? ⟨aI, 3, none⟩ = some (.int .i64 aM) ∧ w'.cell? ⟨aI, 4, none⟩ = some (.int .u64 aE) ∧ w'.cell? (a3.add (aX).toNat) = some (.int .i64 (rd aW aX))) ∧ (Kd.V k42 42 w' w.heap.size (fun k_ => ((a5 k_ ∨ a6 k_) ∨ w.heap.size ≤ k_) ∧ some k_ ≠ (.slice (some a3) aW.length bX : Value).ownBlock ∧ some k_ ≠ (u8 : Value).ownBlock ∧ k_ ≠ aI ∧ k_ ≠ aT ∧ k_ ≠ s_) (.slice bI aG.length bJ) aG) ∧ (Kd.V k85 85 w' w.heap.size (fun k_ => ((a5 k_ ∨ a6 k_) ∨ w.heap.size ≤ k_) ∧ some k_ ≠ (.slice (some a3) aW.length bX : Value).ownBlock ∧ some k_ ≠ (u8 : Value).ownBlock ∧ k_ ≠ aI ∧ k_ ≠ aT ∧ k_ ≠ s_) (.slice bF aH.length bG) aH) ∧ (Kd.R (Kd.int .i64) 3 w' w.heap.size (fun k_ => (w.heap.size ≤ k_)) (.slice (some a3) aW.length bX) aW) ∧ (Kd.R k42 42 w' w.heap.size (fun k_ => (w.heap.size ≤ k_) ∧ k_ ≠ s_) u8 bE) ∧ (w'.heap[aI]? = some (.cells #[.int .i64 aK, .slice bI aG.length bJ, .slice bF aH.length bG, .int .i64 aM, .int .u64 aE] 26 (0, 0))) ∧ (w'.heap[aT]? = some (.cells #[.int .i64 0, .slice none 0 0, .slice none 0 0, .int .i64 0, .int .u64 0] 26 (0, 0))) ∧ (w'.heap[s_]? = some (.cells #[.int .i64 0, .int .i64 0, .bool false, .string (⟨#[]⟩ : ByteArray), .int .i64 0, .int .i64 0] 42 (0, 0))) ∧ (w.heap.size ≤ s_) ∧ (w.heap.size ≤ s_) ∧ (aI ≠ s_) ∧ (s_ ≠ aI) ∧ (aT ≠ s_) ∧ (s_ ≠ aT) ∧ (Below w.heap.size w w')) ?_ ?_
       rotate_left
       ·intro hCont
        refine two_ (i := 5) (j := 9) (Ni := some 40) (Nj := some 10) (tb 12 63) (tb 12 543) rfl rfl rfl rfl (two_of HT_.out (by kernel_rfl)) (by decide) (by decide) (fun K hK => ?_) (fun K hK => ?_)
        ·skip
         refine goes_ Try.func32 (by kernel_rfl) rfl #[.agg #[.int .i64 aK, .slice bI aG.length bJ, .slice bF aH.length bG, .int .i64 aM, .int .u64 aE], .int .i64 (rd aW aX)] (by rfl) rfl rfl mp ?_
         with_reducible refine (stanchionref17_Find.calls k2 aK _ _ aG _ _ aH aM aE (rd aW aX) a2 a4 a7 a9 bA bB true _ ?side1 ?side2 ?side3 ?side4 e5.out).mono ?_
         (case side1 => exact pc (Kd.V_reads' HO_565001.out).2.2)
         (case side2 => exact (Kd.V_reads' HO_565001.out).2.1)
         (case side3 => exact pc (Kd.V_reads' HO_565002.out).2.2)
         (case side4 => exact (Kd.V_reads' HO_565002.out).2.1)
         rintro e jL ⟨rfl, hb⟩
         have bH := (hb.cell (World.block_lt_of_cell? _ _ (hHeld.2.2.2.2.2))).trans (hHeld.2.2.2.2.2)
         refine ⟨_, rfl, ?_⟩
         replace HO_7 := rb HO_7 hb
         replace HO_8 := rb HO_8 hb
         replace HO_565001 := vw HO_565001 hb
         replace HO_565002 := vw HO_565002 hb
         replace aD := bb aD hb
         replace aR := bb aR hb
         replace HB := ak (below_step (ub aY.out aZ.out HB.out) hb)
         (try clear hb)
         (try clear hb2)
         (try clear hk)
         (try clear hi)
         refine hK.out _ _ ⟨(blk_cell aD.out 0).trans rfl, (blk_cell aD.out 1).trans rfl, (blk_cell aD.out 2).trans rfl, (blk_cell aD.out 3).trans rfl, (blk_cell aD.out 4).trans rfl, bH⟩ (fun hHeld => ?_)
         clear hK K
         refine norm_ (a' := ?_) ?_ ?_
         rotate_left
         ·show Act.put _ (some 40) _ = _
          simp only [Act.put, List.setIfInBounds_toArray, List.set_cons_zero, List.set_cons_succ, i64_w, i32_w]
          rfl
         refine qa 6 34 (tb 12 127) (any_of HT_.out (by kernel_rfl)) ?_
         refine qa 7 41 (tb 12 255) (any_of HT_.out (by kernel_rfl)) ?_
         refine qa 8 42 (tb 12 511) (any_of HT_.out (by kernel_rfl)) ?_
         refine one_ (i := 9) (N := some 10) (tb 12 1023) rfl rfl (one_of HT_.out (by kernel_rfl)) (by decide) (fun K hK => ?_)
         refine box_step ?hg (N := 10) ?hd (cs := #[.int .i64 0, .int .i64 0, .bool false, .string (⟨#[]⟩ : ByteArray), .int .i64 0, .int .i64 0]) (t := 42) ?hr ?_; (case hd => rfl); (case hg => rfl); (case hr => first | (go_simp; done) | (go_simp; rfl))
         intro aC hg jM hbox hb
         have bH := (hb.cell (World.block_lt_of_cell? _ _ (hHeld.2.2.2.2.2))).trans (hHeld.2.2.2.2.2)
         obtain ⟨n_, a0⟩ := Cb.bx (ub aY.out aZ.out HB.out) hg hb
         have bL := a0
         obtain ⟨aA, aQ⟩ := Cb.nb hg aD.out
         obtain ⟨aN, aU⟩ := Cb.nb hg aR.out
         have aJ := ak (hbox)
         replace HO_7 := rb HO_7 hb
         replace HO_8 := ak (Kd.R_below (Kd.R_elderB (pR HO_8.out) aC (Nat.le_of_eq hg.symm)) hb)
         replace HO_565001 := vb HO_565001 aC hg hb
         replace HO_565002 := vb HO_565002 aC hg hb
         replace aD := bb aD hb
         replace aR := bb aR hb
         replace HB := n_
         clear n_
         clear hb hbox hg
         refine hK.out _ _ ⟨(blk_cell aD.out 0).trans rfl, (blk_cell aD.out 1).trans rfl, (blk_cell aD.out 2).trans rfl, (blk_cell aD.out 3).trans rfl, (blk_cell aD.out 4).trans rfl, bH⟩ (fun hHeld => ?_)
         clear hK K
         refine norm_ (a' := ?_) ?_ ?_
         rotate_left
         ·show Act.put _ (some 10) _ = _
          simp only [Act.put, List.setIfInBounds_toArray, List.set_cons_zero, List.set_cons_succ, i64_w, i32_w]
          rfl
         exact norm_ (by simp only [putAll, Act.put, List.setIfInBounds_toArray, List.set_cons_zero, List.set_cons_succ]) (hCont (aC) _ ⟨hHeld, (pV (vm HO_565001.out)), (pV (vm HO_565002.out)), (pR HO_7.out), (pR HO_8.out), (pk aD.out), (pk aR.out), (pk aJ.out), bL.out, a0.out, aA.out, aQ.out, aN.out, aU.out, (uc aY.out aZ.out a0.out HB.out)⟩)
        ·skip
         refine box_step ?hg (N := 10) ?hd (cs := #[.int .i64 0, .int .i64 0, .bool false, .string (⟨#[]⟩ : ByteArray), .int .i64 0, .int .i64 0]) (t := 42) ?hr ?_; (case hd => rfl); (case hg => rfl); (case hr => first | (go_simp; done) | (go_simp; rfl))
         intro aC hg jL hbox hb
         have bH := (hb.cell (World.block_lt_of_cell? _ _ (hHeld.2.2.2.2.2))).trans (hHeld.2.2.2.2.2)
         obtain ⟨n_, a0⟩ := Cb.bx (ub aY.out aZ.out HB.out) hg hb
         have bL := a0
         obtain ⟨aA, aQ⟩ := Cb.nb hg aD.out
         obtain ⟨aN, aU⟩ := Cb.nb hg aR.out
         have aJ := ak (hbox)
         replace HO_7 := rb HO_7 hb
         replace HO_8 := ak (Kd.R_below (Kd.R_elderB (pR HO_8.out) aC (Nat.le_of_eq hg.symm)) hb)
         replace HO_565001 := vb HO_565001 aC hg hb
         replace HO_565002 := vb HO_565002 aC hg hb
         replace aD := bb aD hb
         replace aR := bb aR hb
         replace HB := n_
         clear n_
         clear hb hbox hg
         refine hK.out _ _ ⟨(blk_cell aD.out 0).trans rfl, (blk_cell aD.out 1).trans rfl, (blk_cell aD.out 2).trans rfl, (blk_cell aD.out 3).trans rfl, (blk_cell aD.out 4).trans rfl, bH⟩ (fun hHeld => ?_)
         clear hK K
         refine norm_ (a' := ?_) ?_ ?_
         rotate_left
         ·show Act.put _ (some 10) _ = _
          simp only [Act.put, List.setIfInBounds_toArray, List.set_cons_zero, List.set_cons_succ, i64_w, i32_w]
          rfl
         refine one_ (i := 5) (N := some 40) (tb 12 575) rfl rfl (one_of HT_.out (by kernel_rfl)) (by decide) (fun K hK => ?_)
         refine goes_ Try.func32 (by kernel_rfl) rfl #[.agg #[.int .i64 aK, .slice bI aG.length bJ, .slice bF aH.length bG, .int .i64 aM, .int .u64 aE], .int .i64 (rd aW aX)] (by rfl) rfl rfl mp ?_
         with_reducible refine (stanchionref17_Find.calls k2 aK _ _ aG _ _ aH aM aE (rd aW aX) a2 a4 a7 a9 bA bB true _ ?side1 ?side2 ?side3 ?side4 e5.out).mono ?_
         (case side1 => exact pc (Kd.V_reads' HO_565001.out).2.2)
         (case side2 => exact (Kd.V_reads' HO_565001.out).2.1)
         (case side3 => exact pc (Kd.V_reads' HO_565002.out).2.2)
         (case side4 => exact (Kd.V_reads' HO_565002.out).2.1)
         rintro e jM ⟨rfl, hb⟩
         have bH := (hb.cell (World.block_lt_of_cell? _ _ (hHeld.2.2.2.2.2))).trans (hHeld.2.2.2.2.2)
         refine ⟨_, rfl, ?_⟩
         replace HO_7 := rb HO_7 hb
         replace HO_8 := rb HO_8 hb
         replace HO_565001 := vw HO_565001 hb
         replace HO_565002 := vw HO_565002 hb
         replace aD := bb aD hb
         replace aR := bb aR hb
         replace aJ := bb aJ hb
         replace HB := ak (below_step (uc aY.out aZ.out a0.out HB.out) hb)
         (try clear hb)
         (try clear hb2)
         (try clear hk)
         (try clear hi)
         refine hK.out _ _ ⟨(blk_cell aD.out 0).trans rfl, (blk_cell aD.out 1).trans rfl, (blk_cell aD.out 2).trans rfl, (blk_cell aD.out 3).trans rfl, (blk_cell aD.out 4).trans rfl, bH⟩ (fun hHeld => ?_)
         clear hK K
         refine norm_ (a' := ?_) ?_ ?_
         rotate_left
         ·show Act.put _ (some 40) _ = _
          simp only [Act.put, List.setIfInBounds_toArray, List.set_cons_zero, List.set_cons_succ, i64_w, i32_w]
          rfl
         refine qa 6 34 (tb 12 639) (any_of HT_.out (by kernel_rfl)) ?_
         refine qa 7 41 (tb 12 767) (any_of HT_.out (by kernel_rfl)) ?_
         refine qa 8 42 (tb 12 1023) (any_of HT_.out (by kernel_rfl)) ?_
         exact norm_ (by simp only [putAll, Act.put, List.setIfInBounds_toArray, List.set_cons_zero, List.set_cons_succ]) (hCont (aC) _ ⟨hHeld, (pV (vm HO_565001.out)), (pV (vm HO_565002.out)), (pR HO_7.out), (pR HO_8.out), (pk aD.out), (pk aR.out), (pk aJ.out), bL.out, a0.out, aA.out, aQ.out, aN.out, aU.out, (uc aY.out aZ.out a0.out HB.out)⟩)
       rintro aC b4 ⟨hS_, eM, eN, eO, eP, eQ, eR, eS, eT, eU, eV, dC, dD, dE, dF⟩
       have n0_ : Aside0 (Kd.V k42 42 b4 w.heap.size (fun k_ => ((a5 k_ ∨ a6 k_) ∨ w.heap.size ≤ k_) ∧ some k_ ≠ (.slice (some a3) aW.length bX : Value).ownBlock ∧ some k_ ≠ (u8 : Value).ownBlock ∧ k_ ≠ aI ∧ k_ ≠ aT ∧ k_ ≠ aC) (.slice bI aG.length bJ) aG) := ⟨eM⟩
       have n1_ : Aside0 (Kd.V k85 85 b4 w.heap.size (fun k_ => ((a5 k_ ∨ a6 k_) ∨ w.heap.size ≤ k_) ∧ some k_ ≠ (.slice (some a3) aW.length bX : Value).ownBlock ∧ some k_ ≠ (u8 : Value).ownBlock ∧ k_ ≠ aI ∧ k_ ≠ aT ∧ k_ ≠ aC) (.slice bF aH.length bG) aH) := ⟨eN⟩
       have n2_ : Aside0 (Kd.R (Kd.int .i64) 3 b4 w.heap.size (fun k_ => (w.heap.size ≤ k_)) (.slice (some a3) aW.length bX) aW) := ⟨eO⟩
       have n3_ : Aside0 (Kd.R k42 42 b4 w.heap.size (fun k_ => (w.heap.size ≤ k_) ∧ k_ ≠ aC) u8 bE) := ⟨eP⟩
       have n4_ : Aside0 (b4.heap[aI]? = some (.cells #[.int .i64 aK, .slice bI aG.length bJ, .slice bF aH.length bG, .int .i64 aM, .int .u64 aE] 26 (0, 0))) := ⟨eQ⟩
       have n5_ : Aside0 (b4.heap[aT]? = some (.cells #[.int .i64 0, .slice none 0 0, .slice none 0 0, .int .i64 0, .int .u64 0] 26 (0, 0))) := ⟨eR⟩
       have n6_ : Aside0 (b4.heap[aC]? = some (.cells #[.int .i64 0, .int .i64 0, .bool false, .string (⟨#[]⟩ : ByteArray), .int .i64 0, .int .i64 0] 42 (0, 0))) := ⟨eS⟩
       have n7_ : Aside0 (w.heap.size ≤ aC) := ⟨eT⟩
       have n8_ : Aside0 (w.heap.size ≤ aC) := ⟨eU⟩
       have n9_ : Aside0 (aI ≠ aC) := ⟨eV⟩
       have n10_ : Aside0 (aC ≠ aI) := ⟨dC⟩
       have n11_ : Aside0 (aT ≠ aC) := ⟨dD⟩
       have n12_ : Aside0 (aC ≠ aT) := ⟨dE⟩
       have n13_ : Aside0 (Below w.heap.size w b4) := ⟨dF⟩
       clear HO_7
       clear HO_8
       clear HO_565001
       clear HO_565002
       clear aD
       clear aR
       clear HB
       clear eM eN eO eP eQ eR eS eT eU eV dC dD dE dF
       have HO_565001 := n0_
       have HO_565002 := n1_
       have HO_7 := n2_
       have HO_8 := n3_
       have aD := n4_
       have aR := n5_
       have aJ := n6_
       have bL := n7_
       have a0 := n8_
       have aA := n9_
       have aQ := n10_
       have aN := n11_
       have aU := n12_
       have HB := n13_
       clear n0_ n1_ n2_ n3_ n4_ n5_ n6_ n7_ n8_ n9_ n10_ n11_ n12_ n13_
       have hHeld : b4.cell? ⟨aI, 0, none⟩ = some (.int .i64 aK) ∧ b4.cell? ⟨aI, 1, none⟩ = some (.slice bI aG.length bJ) ∧ b4.cell? ⟨aI, 2, none⟩ = some (.slice bF aH.length bG) ∧ b4.cell? ⟨aI, 3, none⟩ = some (.int .i64 aM) ∧ b4.cell? ⟨aI, 4, none⟩ = some (.int .u64 aE) ∧ b4.cell? (a3.add (aX).toNat) = some (.int .i64 (rd aW aX)) := hS_
       refine norm_ (a' := ?_) ?_ ?_
       rotate_left
       ·simp only [putAll, Act.put, List.setIfInBounds_toArray, List.set_cons_zero, List.set_cons_succ]
        rfl
       refine one_ (i := 10) (N := none) (tb 12 2047) rfl rfl (one_of HT_.out (by kernel_rfl)) (by decide) (fun K hK => ?_)
       have jN : b4.cell? ⟨aC, 0, none⟩ = some (.int .i64 0) := (blk_cell aJ.out 0).trans rfl
       have iO := blk_frozen aJ.out 0
       have e8 := aA.out
       have e9 := aN.out
       have fA := aQ.out
       have fB := aU.out
       have jO : b4.cell? ⟨aC, 1, none⟩ = some (.int .i64 0) := (blk_cell aJ.out 1).trans rfl
       have iP := blk_frozen aJ.out 1
       have fC := aA.out
       have fD := aN.out
       have fE := aQ.out
       have fF := aU.out
       have jP : b4.cell? ⟨aC, 2, none⟩ = some (.bool false) := (blk_cell aJ.out 2).trans rfl
       have iQ := blk_frozen aJ.out 2
       have fG := aA.out
       have fH := aN.out
       have fI := aQ.out
       have fJ := aU.out
       have jQ : b4.cell? ⟨aC, 3, none⟩ = some (.string (⟨#[]⟩ : ByteArray)) := (blk_cell aJ.out 3).trans rfl
       have iR := blk_frozen aJ.out 3
       have fK := aA.out
       have fL := aN.out
       have fM := aQ.out
       have fN := aU.out
       have jR : b4.cell? ⟨aC, 4, none⟩ = some (.int .i64 0) := (blk_cell aJ.out 4).trans rfl
       have iS := blk_frozen aJ.out 4
       have fO := aA.out
       have fP := aN.out
       have fQ := aQ.out
       have fR := aU.out
       have jS : b4.cell? ⟨aC, 5, none⟩ = some (.int .i64 0) := (blk_cell aJ.out 5).trans rfl
       have iT := blk_frozen aJ.out 5
       have fS := aA.out
       have fT := aN.out
       have fU := aQ.out
       have fV := aU.out
       refine skip_ (w1 := ?_) (by rfl) rfl ?_ ?_
       rotate_left
       ·go_simp
        rfl
       refine hK.out _ _ ⟨((cell_far (p := ⟨aC, _, none⟩) aA.out _).trans (((cell_far (p := ⟨aC, _, none⟩) aA.out _).trans (((cell_far (p := ⟨aC, _, none⟩) aA.out _).trans (((cell_far (p := ⟨aC, _, none⟩) aA.out _).trans (((cell_far (p := ⟨aC, _, none⟩) aA.out _).trans (((cell_far (p := ⟨aC, _, none⟩) aA.out _).trans (hHeld.1)))))))))))), ((cell_far (p := ⟨aC, _, none⟩) aA.out _).trans (((cell_far (p := ⟨aC, _, none⟩) aA.out _).trans (((cell_far (p := ⟨aC, _, none⟩) aA.out _).trans (((cell_far (p := ⟨aC, _, none⟩) aA.out _).trans (((cell_far (p := ⟨aC, _, none⟩) aA.out _).trans (((cell_far (p := ⟨aC, _, none⟩) aA.out _).trans (hHeld.2.1)))))))))))), ((cell_far (p := ⟨aC, _, none⟩) aA.out _).trans (((cell_far (p := ⟨aC, _, none⟩) aA.out _).trans (((cell_far (p := ⟨aC, _, none⟩) aA.out _).trans (((cell_far (p := ⟨aC, _, none⟩) aA.out _).trans (((cell_far (p := ⟨aC, _, none⟩) aA.out _).trans (((cell_far (p := ⟨aC, _, none⟩) aA.out _).trans (hHeld.2.2.1)))))))))))), ((cell_far (p := ⟨aC, _, none⟩) aA.out _).trans (((cell_far (p := ⟨aC, _, none⟩) aA.out _).trans (((cell_far (p := ⟨aC, _, none⟩) aA.out _).trans (((cell_far (p := ⟨aC, _, none⟩) aA.out _).trans (((cell_far (p := ⟨aC, _, none⟩) aA.out _).trans (((cell_far (p := ⟨aC, _, none⟩) aA.out _).trans (hHeld.2.2.2.1)))))))))))), ((cell_far (p := ⟨aC, _, none⟩) aA.out _).trans (((cell_far (p := ⟨aC, _, none⟩) aA.out _).trans (((cell_far (p := ⟨aC, _, none⟩) aA.out _).trans (((cell_far (p := ⟨aC, _, none⟩) aA.out _).trans (((cell_far (p := ⟨aC, _, none⟩) aA.out _).trans (((cell_far (p := ⟨aC, _, none⟩) aA.out _).trans (hHeld.2.2.2.2.1)))))))))))), ((cell_far (p := ⟨aC, _, none⟩) (by first | exact Kd.own_blk (Kd.R_ne HO_7.out aJ.out (by decide)) | (rw [add_block]; exact Kd.own_blk (Kd.R_ne HO_7.out aJ.out (by decide))) | (show (Addr.add _ _).block ≠ _; rw [add_block]; exact Kd.own_blk (Kd.R_ne HO_7.out aJ.out (by decide))) | (dsimp only; exact Kd.own_blk (Kd.R_ne HO_7.out aJ.out (by decide)))) _).trans (((cell_far (p := ⟨aC, _, none⟩) (by first | exact Kd.own_blk (Kd.R_ne HO_7.out aJ.out (by decide)) | (rw [add_block]; exact Kd.own_blk (Kd.R_ne HO_7.out aJ.out (by decide))) | (show (Addr.add _ _).block ≠ _; rw [add_block]; exact Kd.own_blk (Kd.R_ne HO_7.out aJ.out (by decide))) | (dsimp only; exact Kd.own_blk (Kd.R_ne HO_7.out aJ.out (by decide)))) _).trans (((cell_far (p := ⟨aC, _, none⟩) (by first | exact Kd.own_blk (Kd.R_ne HO_7.out aJ.out (by decide)) | (rw [add_block]; exact Kd.own_blk (Kd.R_ne HO_7.out aJ.out (by decide))) | (show (Addr.add _ _).block ≠ _; rw [add_block]; exact Kd.own_blk (Kd.R_ne HO_7.out aJ.out (by decide))) | (dsimp only; exact Kd.own_blk (Kd.R_ne HO_7.out aJ.out (by decide)))) _).trans (((cell_far (p := ⟨aC, _, none⟩) (by first | exact Kd.own_blk (Kd.R_ne HO_7.out aJ.out (by decide)) | (rw [add_block]; exact Kd.own_blk (Kd.R_ne HO_7.out aJ.out (by decide))) | (show (Addr.add _ _).block ≠ _; rw [add_block]; exact Kd.own_blk (Kd.R_ne HO_7.out aJ.out (by decide))) | (dsimp only; exact Kd.own_blk (Kd.R_ne HO_7.out aJ.out (by decide)))) _).trans (((cell_far (p := ⟨aC, _, none⟩) (by first | exact Kd.own_blk (Kd.R_ne HO_7.out aJ.out (by decide)) | (rw [add_block]; exact Kd.own_blk (Kd.R_ne HO_7.out aJ.out (by decide))) | (show (Addr.add _ _).block ≠ _; rw [add_block]; exact Kd.own_blk (Kd.R_ne HO_7.out aJ.out (by decide))) | (dsimp only; exact Kd.own_blk (Kd.R_ne HO_7.out aJ.out (by decide)))) _).trans (((cell_far (p := ⟨aC, _, none⟩) (by first | exact Kd.own_blk (Kd.R_ne HO_7.out aJ.out (by decide)) | (rw [add_block]; exact Kd.own_blk (Kd.R_ne HO_7.out aJ.out (by decide))) | (show (Addr.add _ _).block ≠ _; rw [add_block]; exact Kd.own_blk (Kd.R_ne HO_7.out aJ.out (by decide))) | (dsimp only; exact Kd.own_blk (Kd.R_ne HO_7.out aJ.out (by decide)))) _).trans (hHeld.2.2.2.2.2))))))))))))⟩ (fun hHeld => ?_)
       clear hK K
       refine qa 11 11 (tb 12 4095) (any_of HT_.out (by kernel_rfl)) ?_
       refine done_ (done_of HT_.out (by kernel_rfl)) ?_
       have iU := aQ.out
       have iV := aA.out
       have iW := aU.out
       have iX := aN.out
       obtain ⟨fW, fX, fY, fZ, f0, f1⟩ := Cb.c6 aJ.out
       obtain ⟨f2, f3, f4, f7, f8, f9⟩ := Cb.f6 aJ.out
       try go_wp2_with (first | ((with_reducible refine gate_builtin (b := .append) (xs := #[.tmp 44, .tmp 46]) rfl ?_); at_builtin; refine Kd.R_append k42 (w0 := w) w.heap.size rfl (.tmp 44) (.tmp 46) 22 42 (.agg #[(.int .i64 0), (.int .i64 0), (.bool false), (.string ⟨#[]⟩), (.int .i64 0), (.int .i64 0)]) 56 rfl Try.underlying22 info42 rfl (by decide) (by omega) u8 bE (⟨a2, a4, a7, a9, bA, bB⟩ : S42) [.int .i64 a2, .int .i64 a4, .bool a7, .string a9, .int .i64 bA, .int .i64 bB] (fun k_ => (w.heap.size ≤ k_) ∧ k_ ≠ aC) (fun _ => False) rfl (by first | (go_simp; done) | (go_simp; rfl)) ?aP (fun _ hk => hk.elim) ?aF ?aO ?aB ?aS ?aL ?_; (case aP => exact k42_mkM _ _ _ (⟨a2, a4, a7, a9, bA, bB⟩ : S42)); (case aB => exact (uc aY.out aZ.out a0.out HB.out)); (case aF => exact (fun k_ hk => ⟨(Nat.le_trans (below_size (uc aY.out aZ.out a0.out HB.out)) hk), Kd.freshB (g := aC) (o := .cells #[.int .i64 a2, .int .i64 a4, .bool a7, .string a9, .int .i64 bA, .int .i64 bB] 42 (0, 0)) (by exact pq (blk_put (blk_put (blk_put (blk_put (blk_put (blk_put (pk aJ.out) 0 _ rfl) 1 _ rfl) 2 _ rfl) 3 _ rfl) 4 _ rfl) 5 _ rfl)) k_ hk⟩)); (case aO => exact (qr (rm (rf6 (Kd.R_mono HO_8.out (fun k_ hk => (⟨hk, hk.2⟩ : _ ∧ k_ ≠ aC))) fun _ hk => hk.2)))); (case aS => exact (below_size (uc aY.out aZ.out a0.out HB.out))); (case aL => have := eJ.out; omega); intro eW jT ho hb hg hat; rw [← eK.out] at ho; have n0_ := ak (Kd.R_over' (qr ((Kd.R_mono (rf6 (Kd.R_types HO_7.out aJ.out (by decide)) fun _ hk => hk.2) (fun _ h_ => h_.1)))) (Kd.R_typed (qr ((Kd.R_mono (rf6 (Kd.R_mono HO_8.out (fun k_ hk => (⟨hk, hk.2⟩ : _ ∧ k_ ≠ aC))) fun _ hk => hk.2) (fun _ h_ => h_.1))))) (by decide) hg); have n1_ := ak (Kd.V_afterv (ok := (fun k_ => ((a5 k_ ∨ a6 k_) ∨ w.heap.size ≤ k_) ∧ some k_ ≠ (.slice (some a3) aW.length bX : Value).ownBlock ∧ k_ ≠ aI ∧ k_ ≠ aT ∧ k_ ≠ aC)) (qv (vm (vf6 HO_565001.out fun _ hk => hk.2.2.2.2.2))) hg hat); have n2_ := ak (Kd.V_afterv (ok := (fun k_ => ((a5 k_ ∨ a6 k_) ∨ w.heap.size ≤ k_) ∧ some k_ ≠ (.slice (some a3) aW.length bX : Value).ownBlock ∧ k_ ≠ aI ∧ k_ ≠ aT ∧ k_ ≠ aC)) (qv (vm (vf6 HO_565002.out fun _ hk => hk.2.2.2.2.2))) hg hat); have n3_ := ak (blk_grown (g := aI) (o := .cells #[.int .i64 aK, .slice bI aG.length bJ, .slice bF aH.length bG, .int .i64 aM, .int .u64 aE] 26 (0, 0)) (by exact pq (blk_far (blk_far (blk_far (blk_far (blk_far (blk_far (pk aD.out) aA.out _) aA.out _) aA.out _) aA.out _) aA.out _) aA.out _)) hg (Kd.R_ne HO_8.out aD.out (by decide))); have n4_ := ak (blk_grown (g := aT) (o := .cells #[.int .i64 0, .slice none 0 0, .slice none 0 0, .int .i64 0, .int .u64 0] 26 (0, 0)) (by exact pq (blk_far (blk_far (blk_far (blk_far (blk_far (blk_far (pk aR.out) aN.out _) aN.out _) aN.out _) aN.out _) aN.out _) aN.out _)) hg (Kd.R_ne HO_8.out aR.out (by decide))); have n5_ := ak (blk_grown (g := aC) (o := .cells #[.int .i64 a2, .int .i64 a4, .bool a7, .string a9, .int .i64 bA, .int .i64 bB] 42 (0, 0)) (by exact pq (blk_put (blk_put (blk_put (blk_put (blk_put (blk_put (pk aJ.out) 0 _ rfl) 1 _ rfl) 2 _ rfl) 3 _ rfl) 4 _ rfl) 5 _ rfl)) hg (Kd.R_away HO_8.out (fun _ hk => hk.2))); have n6_ := ak (hb); have n7_ := ak (ho); clear HO_7; clear HO_565001; clear HO_565002; clear aD; clear aR; clear aJ; clear HB; clear HO_8; have HO_7 := n0_; have HO_565001 := n1_; have HO_565002 := n2_; have aD := n3_; have aR := n4_; have aJ := n5_; have HB := n6_; have bM := n7_; clear n0_ n1_ n2_ n3_ n4_ n5_ n6_ n7_; clear ho hb hg hat))
       replace HO_7 := ak (Kd.R_drew HO_7.out)
       replace HO_565001 := ak (Kd.V_drew HO_565001.out)
       replace HO_565002 := ak (Kd.V_drew HO_565002.out)
       replace bM := ak (Kd.R_drew bM.out)
       replace aD := ak (blk_drew aD.out)
       replace aR := ak (blk_drew aR.out)
       replace aJ := ak (blk_drew aJ.out)
       replace HB := ak (below_drew1 HB.out)
       have d9 : 0 ≤ (aX : Int) := od
       have eA : aX < (aW.length : Int) := od
       obtain ⟨eX, h9, cS⟩ := Kd.at_int (Kd.R_reads' HO_7.out).2.2 aX d9 eA
       obtain rfl : a3 = eX := (by injection h9)
       replace d9 := eq_true d9
       replace eA := eq_true eA
       refine start_ (n := 7) (S := fun w' => w'.cell? ⟨aI, 0, none⟩ = some (.int .i64 aK) ∧ w'.cell? ⟨aI, 1, none⟩ = some (.slice bI aG.length bJ) ∧ w'.cell? ⟨aI, 2, none⟩ = some (.slice bF aH.length bG) ∧ w'.cell? ⟨aI, 3, none⟩ = some (.int .i64 aM) ∧ w'.cell? ⟨aI, 4, none⟩ = some (.int .u64 aE) ∧ w'.cell? (a3.add (aX).toNat) = some (.int .i64 (rd aW aX))) (ds := [6]) #[false, false, false, false, false, false, false] (by kernel_rfl) rfl rfl ⟨(blk_cell aD.out 0).trans rfl, (blk_cell aD.out 1).trans rfl, (blk_cell aD.out 2).trans rfl, (blk_cell aD.out 3).trans rfl, (blk_cell aD.out 4).trans rfl, cS⟩ (fun hHeld => ?_)
       generalize jT.drew = w40 at HO_7 HO_565001 HO_565002 bM aD aR aJ HB cS hHeld ⊢
       refine qa 1 49 (tb 7 2) (by kernel_rfl) ?_
       refine qa 2 50 (tb 7 6) (by kernel_rfl) ?_
       refine qa 3 51 (tb 7 14) (by kernel_rfl) ?_
       refine kf 0 48 (tb 7 15) (by kernel_rfl) hHeld ?_
       refine kf 4 52 (tb 7 31) (by kernel_rfl) hHeld ?_
       refine one_ (i := 5) (N := some 53) (tb 7 63) rfl rfl (by kernel_rfl) (by decide) (fun K hK => ?_)
       refine goes_ Try.func56 (by kernel_rfl) rfl #[.agg #[.int .i64 aK, .slice bI aG.length bJ, .slice bF aH.length bG, .int .i64 aM, .int .u64 aE], .int .i64 (rd aW aX)] (by rfl) rfl rfl mp ?_
       with_reducible refine (stanchionref17_less.calls k2 aK _ _ aG (fun k_ => ((((a5 k_ ∨ a6 k_) ∨ w.heap.size ≤ k_) ∧ (some k_ ≠ (.slice (some a3) aW.length bX : Value).ownBlock ∧ (k_ ≠ aI ∧ (k_ ≠ aT ∧ k_ ≠ aC)))) ∧ some k_ ≠ (eW : Value).ownBlock)) _ _ aH aM aE (rd aW aX) bP bQ bW b6 cB _ ?side1 ?side2 ?side3 jJ.out).mono ?_
       (case side1 => exact pc (Kd.V_reads' HO_565001.out).2.2)
       (case side2 => exact (Kd.V_reads' HO_565001.out).2.1)
       (case side3 => exact HO_565002.out)
       rintro e eY ⟨iA, jU, rfl, d3, d7, hb⟩
       have bH := (hb.cell (World.block_lt_of_cell? _ _ (hHeld.2.2.2.2.2))).trans (hHeld.2.2.2.2.2)
       refine ⟨_, rfl, ?_⟩
       have d5 := ak (Kd.R_lower (Kd.R_newB (Kd.R_new' (Kd.R_newM (M := fun k_ => (w.heap.size ≤ k_)) (Kd.R_mono (ok' := fun k_ => True) d3 (fun _ hk_ => trivial)) (below_size (uc aY.out aZ.out a0.out HB.out)) (fun k_ h_ => h_)) (Kd.R_lt (pR bM.out))) (pk aJ.out)) (below_size (uc aY.out aZ.out a0.out HB.out)))
       have d6 := ak (Kd.V_lower (Kd.V_mono (ok' := fun k_ => ((a5 k_ ∨ a6 k_) ∨ w.heap.size ≤ k_) ∧ some k_ ≠ (iA : Value).ownBlock ∧ some k_ ≠ (.slice (some a3) aW.length bX : Value).ownBlock ∧ some k_ ≠ (eW : Value).ownBlock ∧ k_ ≠ aI ∧ k_ ≠ aT ∧ k_ ≠ aC) d7 (fun k_ hk_ => ⟨Or.elim hk_.1 (fun hs_ => hs_.1.1) (fun hn_ => (.inr (Nat.le_trans (below_size (uc aY.out aZ.out a0.out HB.out)) hn_))), hk_.2, Or.elim hk_.1 (fun hs_ => hs_.1.2.1) (fun hn_ => (Kd.fresh' (Kd.R_lt (pR HO_7.out)) k_ hn_)), Or.elim hk_.1 (fun hs_ => hs_.2) (fun hn_ => (Kd.fresh' (Kd.R_lt (pR bM.out)) k_ hn_)), Or.elim hk_.1 (fun hs_ => hs_.1.2.2.1) (fun hn_ => (Kd.freshB (pk aD.out) k_ hn_)), Or.elim hk_.1 (fun hs_ => hs_.1.2.2.2.1) (fun hn_ => (Kd.freshB (pk aR.out) k_ hn_)), Or.elim hk_.1 (fun hs_ => hs_.1.2.2.2.2) (fun hn_ => (Kd.freshB (pk aJ.out) k_ hn_))⟩)) (below_size (uc aY.out aZ.out a0.out HB.out)))
       replace HO_7 := rb HO_7 hb
       replace HO_565001 := ve HO_565001 d3 hb
       replace HO_565002 := ve HO_565002 d3 hb
       replace bM := ak (Kd.R_elder' (pR bM.out) (Kd.R_base d3) hb)
       replace aD := bb aD hb
       replace aR := bb aR hb
       replace aJ := bb aJ hb
       replace HB := ak (below_step (uc aY.out aZ.out a0.out HB.out) hb)
       (try clear hb)
       (try clear hb2)
       (try clear hk)
       (try clear hi)
       (try clear d3)
       (try clear d7)
       obtain ⟨b7, b8, eZ⟩ := Kd.R_slice d5.out
       (first | subst eZ | (injection eZ with f1_ f2_ f3_; have iB := f1_.symm; have iC := f3_.symm; clear f1_ f2_ f3_; subst iB; subst iC))
       obtain ⟨cE, cF, e0⟩ := Kd.V_slice d6.out
       (first | subst e0 | (injection e0 with f1_ f2_ f3_; have iB := f1_.symm; have iC := f3_.symm; clear f1_ f2_ f3_; subst iB; subst iC))
       refine hK.out _ _ ⟨(blk_cell aD.out 0).trans rfl, (blk_cell aD.out 1).trans rfl, (blk_cell aD.out 2).trans rfl, (blk_cell aD.out 3).trans rfl, (blk_cell aD.out 4).trans rfl, bH⟩ (fun hHeld => ?_)
       clear hK K
       refine norm_ (a' := ?_) ?_ ?_
       rotate_left
       ·show Act.put _ (some 53) _ = _
        simp only [Act.put, List.setIfInBounds_toArray, List.set_cons_zero, List.set_cons_succ, i64_w, i32_w]
        rfl
       refine last_ (i := 6) (N := none) (tb 7 127) rfl rfl (by kernel_rfl) (by decide) (fun K hK => ?_)
       have jV : eY.cell? ⟨aI, 0, none⟩ = some (.int .i64 aK) := (blk_cell aD.out 0).trans rfl
       have iY := blk_frozen aD.out 0
       have gA := aV.out
       have gB := aQ.out
       have gC := a8.out
       have gD := aA.out
       have jW : eY.cell? ⟨aI, 1, none⟩ = some (.slice bI aG.length bJ) := (blk_cell aD.out 1).trans rfl
       have iZ := blk_frozen aD.out 1
       have gE := aV.out
       have gF := aQ.out
       have gG := a8.out
       have gH := aA.out
       have jX : eY.cell? ⟨aI, 2, none⟩ = some (.slice bF aH.length bG) := (blk_cell aD.out 2).trans rfl
       have i0 := blk_frozen aD.out 2
       have gI := aV.out
       have gJ := aQ.out
       have gK := a8.out
       have gL := aA.out
       have jY : eY.cell? ⟨aI, 3, none⟩ = some (.int .i64 aM) := (blk_cell aD.out 3).trans rfl
       have i1 := blk_frozen aD.out 3
       have gM := aV.out
       have gN := aQ.out
       have gO := a8.out
       have gP := aA.out
       have jZ : eY.cell? ⟨aI, 4, none⟩ = some (.int .u64 aE) := (blk_cell aD.out 4).trans rfl
       have i2 := blk_frozen aD.out 4
       have gQ := aV.out
       have gR := aQ.out
       have gS := a8.out
       have gT := aA.out
       refine skip_ (w1 := ?_) (by rfl) rfl ?_ ?_
       rotate_left
       ·go_simp
        rfl
       refine hK.out _ _ ?_
       clear hK K
       refine done_ (by kernel_rfl) ?_
       try go_wp2
       go_roundg k2
       case measure => have := e2.out; have := e3.out; omega
       case rel => exact ⟨(y581), (wrap64 (aX + 1)), (bP), (bQ), (bW), (b6), (cB), (.slice b7 bQ.length b8), (.slice cE bW.length cF), es, H', ⟨by have := e2.out; have := e3.out; omega⟩, ⟨qr (Kd.R_mono (rf5 (Kd.R_types HO_7.out aD.out (by decide)) fun _ hk => hk.2) (fun _ hk => hk.1))⟩, ⟨qr (Kd.R_mono (rf5 (Kd.R_types bM.out aD.out (by decide)) fun _ hk => hk.2) (fun _ hk => hk.1.1.1))⟩, ⟨Kd.V_mono (Kd.R_V (qr (Kd.R_mono (rf5 (Kd.R_types (Kd.R_types (Kd.R_types (Kd.R_apart' d5.out (Kd.R_typed HO_7.out) (by decide)) aD.out (by decide)) aR.out (by decide)) aD.out (by decide)) fun _ hk => hk.2) (fun _ hk => And.intro (hk.1.1.1.1.1.1.1) (And.intro (hk.1.1.1.2) (And.intro (hk.1.1.1.1.1.2) (And.intro (hk.1.1.2) (hk.1.2)))))))) (fun k_ hk => by first | exact ⟨(.inr (hk.1)), hk.2⟩ | exact (.inr (hk)))⟩, ⟨qv (vm (vf5 d6.out fun _ hk => hk.2.2.2.2.1))⟩, ⟨by exact pq (blk_put (blk_put (blk_put (blk_put (blk_put (pk aD.out) 0 _ rfl) 1 _ rfl) 2 _ rfl) 3 _ rfl) 4 _ rfl)⟩, ⟨by exact pq (blk_far (blk_far (blk_far (blk_far (blk_far (pk aR.out) aV.out _) aV.out _) aV.out _) aV.out _) aV.out _)⟩, ⟨uc aY.out aZ.out a0.out HB.out⟩⟩
      ·replace e6 := Bool.eq_false_iff.mpr e6
       subst e6
       have H1 : (stanchionref17_Tick.l0 k2 aW bE (wrap64 (aX + 1)) aK aG aH aM aE) = some (r1, r2, r3, r4, r5, r6) := by rw [if_neg (show ¬ (false = true) by decide)] at H; exact H
       clear H
       have H := H1
       clear H1
       have H' := ak H
       clear H
       obtain ⟨j1, cT, iD⟩ := Kd.R_slice HO_7.out
       subst iD
       obtain ⟨bY, bZ, iE⟩ := Kd.V_slice HO_565001.out
       subst iE
       obtain ⟨b0, b1, iF⟩ := Kd.V_slice HO_565002.out
       subst iF
       try go_wp2
       replace HO_7 := ak (Kd.R_drew HO_7.out)
       replace HO_8 := ak (Kd.R_drew HO_8.out)
       replace HO_565001 := ak (Kd.V_drew HO_565001.out)
       replace HO_565002 := ak (Kd.V_drew HO_565002.out)
       replace aD := ak (blk_drew aD.out)
       replace aR := ak (blk_drew aR.out)
       replace HB := ak (below_drew1 HB.out)
       have cC : 0 ≤ (aX : Int) := od
       have cD : aX < (aW.length : Int) := od
       obtain ⟨a3, d8, bK⟩ := Kd.at_int (Kd.R_reads' HO_7.out).2.2 aX cC cD
       cases d8
       replace cC := eq_true cC
       replace cD := eq_true cD
       refine start_ (n := 12) (S := fun w' => w'.cell? ⟨aI, 0, none⟩ = some (.int .i64 aK) ∧ w'.cell? ⟨aI, 1, none⟩ = some (.slice bY aG.length bZ) ∧ w'.cell? ⟨aI, 2, none⟩ = some (.slice b0 aH.length b1) ∧ w'.cell? ⟨aI, 3, none⟩ = some (.int .i64 aM) ∧ w'.cell? ⟨aI, 4, none⟩ = some (.int .u64 aE) ∧ w'.cell? (a3.add (aX).toNat) = some (.int .i64 (rd aW aX))) (ds := []) #[false, false, false, false, false, false, false, false, false, false, false, false] (by kernel_rfl) rfl rfl ⟨(blk_cell aD.out 0).trans rfl, (blk_cell aD.out 1).trans rfl, (blk_cell aD.out 2).trans rfl, (blk_cell aD.out 3).trans rfl, (blk_cell aD.out 4).trans rfl, bK⟩ (fun hHeld => ?_); refine with_tabW stanchionref17_Tick.tab9 stanchionref17_Tick.bits9 (fun HT_ HW_ => ?_)
       generalize wr.drew = w52 at HO_7 HO_8 HO_565001 HO_565002 aD aR HB bK hHeld ⊢
       refine qa 1 36 (tb 12 2) (any_of HT_.out (by kernel_rfl)) ?_
       refine qa 2 37 (tb 12 6) (any_of HT_.out (by kernel_rfl)) ?_
       refine qa 3 38 (tb 12 14) (any_of HT_.out (by kernel_rfl)) ?_
       refine kf 0 35 (tb 12 15) (take_ofW HT_.out HW_.out (by kernel_rfl)) hHeld ?_
       refine kf 4 39 (tb 12 31) (take_ofW HT_.out HW_.out (by kernel_rfl)) hHeld ?_
       refine join_ (σ := Nat) 2 (tb 12 1023) (fun s_ => [(40, .tuple #[.agg #[.int .i64 a2, .int .i64 a4, .bool a7, .string a9, .int .i64 bA, .int .i64 bB], .bool false]), (10, .pointer (some ⟨s_, 0, none⟩)), (34, .tuple #[.agg #[.int .i64 a2, .int .i64 a4, .bool a7, .string a9, .int .i64 bA, .int .i64 bB], .bool false]), (41, .agg #[.int .i64 a2, .int .i64 a4, .bool a7, .string a9, .int .i64 bA, .int .i64 bB]), (42, .bool false)]) (fun s_ w' => (w'.cell? ⟨aI, 0, none⟩ = some (.int .i64 aK) ∧ w'.cell? ⟨aI, 1, none⟩ = some (.slice bY aG.length bZ) ∧ w'.cell? ⟨aI, 2, none⟩ = some (.slice b0 aH.length b1) ∧ w'.cell? ⟨aI, 3, none⟩ = some (.int .i64 aM) ∧ w'.cell? ⟨aI, 4, none⟩ = some (.int .u64 aE) ∧ w'.cell? (a3.add (aX).toNat) = some (.int .i64 (rd aW aX))) ∧ (Kd.V k42 42 w' w.heap.size (fun k_ => ((a5 k_ ∨ a6 k_) ∨ w.heap.size ≤ k_) ∧ some k_ ≠ (.slice (some a3) aW.length cT : Value).ownBlock ∧ some k_ ≠ (u8 : Value).ownBlock ∧ k_ ≠ aI ∧ k_ ≠ aT ∧ k_ ≠ s_) (.slice bY aG.length bZ) aG) ∧ (Kd.V k85 85 w' w.heap.size (fun k_ => ((a5 k_ ∨ a6 k_) ∨ w.heap.size ≤ k_) ∧ some k_ ≠ (.slice (some a3) aW.length cT : Value).ownBlock ∧ some k_ ≠ (u8 : Value).ownBlock ∧ k_ ≠ aI ∧ k_ ≠ aT ∧ k_ ≠ s_) (.slice b0 aH.length b1) aH) ∧ (Kd.R (Kd.int .i64) 3 w' w.heap.size (fun k_ => (w.heap.size ≤ k_)) (.slice (some a3) aW.length cT) aW) ∧ (Kd.R k42 42 w' w.heap.size (fun k_ => (w.heap.size ≤ k_) ∧ k_ ≠ s_) u8 bE) ∧ (w'.heap[aI]? = some (.cells #[.int .i64 aK, .slice bY aG.length bZ, .slice b0 aH.length b1, .int .i64 aM, .int .u64 aE] 26 (0, 0))) ∧ (w'.heap[aT]? = some (.cells #[.int .i64 0, .slice none 0 0, .slice none 0 0, .int .i64 0, .int .u64 0] 26 (0, 0))) ∧ (w'.heap[s_]? = some (.cells #[.int .i64 0, .int .i64 0, .bool false, .string (⟨#[]⟩ : ByteArray), .int .i64 0, .int .i64 0] 42 (0, 0))) ∧ (w.heap.size ≤ s_) ∧ (w.heap.size ≤ s_) ∧ (aI ≠ s_) ∧ (s_ ≠ aI) ∧ (aT ≠ s_) ∧ (s_ ≠ aT) ∧ (Below w.heap.size w w')) ?_ ?_
       rotate_left
       ·intro hCont
        refine two_ (i := 5) (j := 9) (Ni := some 40) (Nj := some 10) (tb 12 63) (tb 12 543) rfl rfl rfl rfl (two_of HT_.out (by kernel_rfl)) (by decide) (by decide) (fun K hK => ?_) (fun K hK => ?_)
        ·skip
         refine goes_ Try.func32 (by kernel_rfl) rfl #[.agg #[.int .i64 aK, .slice bY aG.length bZ, .slice b0 aH.length b1, .int .i64 aM, .int .u64 aE], .int .i64 (rd aW aX)] (by rfl) rfl rfl mp ?_
         with_reducible refine (stanchionref17_Find.calls k2 aK _ _ aG _ _ aH aM aE (rd aW aX) a2 a4 a7 a9 bA bB false _ ?side1 ?side2 ?side3 ?side4 e5.out).mono ?_
         (case side1 => exact pc (Kd.V_reads' HO_565001.out).2.2)
         (case side2 => exact (Kd.V_reads' HO_565001.out).2.1)
         (case side3 => exact pc (Kd.V_reads' HO_565002.out).2.2)
         (case side4 => exact (Kd.V_reads' HO_565002.out).2.1)
         rintro e j2 ⟨rfl, hb⟩
         have bH := (hb.cell (World.block_lt_of_cell? _ _ (hHeld.2.2.2.2.2))).trans (hHeld.2.2.2.2.2)
         refine ⟨_, rfl, ?_⟩
         replace HO_7 := rb HO_7 hb
         replace HO_8 := rb HO_8 hb
         replace HO_565001 := vw HO_565001 hb
         replace HO_565002 := vw HO_565002 hb
         replace aD := bb aD hb
         replace aR := bb aR hb
         replace HB := ak (below_step (ub aY.out aZ.out HB.out) hb)
         (try clear hb)
         (try clear hb2)
         (try clear hk)
         (try clear hi)
         refine hK.out _ _ ⟨(blk_cell aD.out 0).trans rfl, (blk_cell aD.out 1).trans rfl, (blk_cell aD.out 2).trans rfl, (blk_cell aD.out 3).trans rfl, (blk_cell aD.out 4).trans rfl, bH⟩ (fun hHeld => ?_)
         clear hK K
         refine norm_ (a' := ?_) ?_ ?_
         rotate_left
         ·show Act.put _ (some 40) _ = _
          simp only [Act.put, List.setIfInBounds_toArray, List.set_cons_zero, List.set_cons_succ, i64_w, i32_w]
          rfl
         refine qa 6 34 (tb 12 127) (any_of HT_.out (by kernel_rfl)) ?_
         refine qa 7 41 (tb 12 255) (any_of HT_.out (by kernel_rfl)) ?_
         refine qa 8 42 (tb 12 511) (any_of HT_.out (by kernel_rfl)) ?_
         refine one_ (i := 9) (N := some 10) (tb 12 1023) rfl rfl (one_of HT_.out (by kernel_rfl)) (by decide) (fun K hK => ?_)
         refine box_step ?hg (N := 10) ?hd (cs := #[.int .i64 0, .int .i64 0, .bool false, .string (⟨#[]⟩ : ByteArray), .int .i64 0, .int .i64 0]) (t := 42) ?hr ?_; (case hd => rfl); (case hg => rfl); (case hr => first | (go_simp; done) | (go_simp; rfl))
         intro aC hg j3 hbox hb
         have bH := (hb.cell (World.block_lt_of_cell? _ _ (hHeld.2.2.2.2.2))).trans (hHeld.2.2.2.2.2)
         obtain ⟨n_, a0⟩ := Cb.bx (ub aY.out aZ.out HB.out) hg hb
         have bL := a0
         obtain ⟨aA, aQ⟩ := Cb.nb hg aD.out
         obtain ⟨aN, aU⟩ := Cb.nb hg aR.out
         have aJ := ak (hbox)
         replace HO_7 := rb HO_7 hb
         replace HO_8 := ak (Kd.R_below (Kd.R_elderB (pR HO_8.out) aC (Nat.le_of_eq hg.symm)) hb)
         replace HO_565001 := vb HO_565001 aC hg hb
         replace HO_565002 := vb HO_565002 aC hg hb
         replace aD := bb aD hb
         replace aR := bb aR hb
         replace HB := n_
         clear n_
         clear hb hbox hg
         refine hK.out _ _ ⟨(blk_cell aD.out 0).trans rfl, (blk_cell aD.out 1).trans rfl, (blk_cell aD.out 2).trans rfl, (blk_cell aD.out 3).trans rfl, (blk_cell aD.out 4).trans rfl, bH⟩ (fun hHeld => ?_)
         clear hK K
         refine norm_ (a' := ?_) ?_ ?_
         rotate_left
         ·show Act.put _ (some 10) _ = _
          simp only [Act.put, List.setIfInBounds_toArray, List.set_cons_zero, List.set_cons_succ, i64_w, i32_w]
          rfl
         exact norm_ (by simp only [putAll, Act.put, List.setIfInBounds_toArray, List.set_cons_zero, List.set_cons_succ]) (hCont (aC) _ ⟨hHeld, (pV (vm HO_565001.out)), (pV (vm HO_565002.out)), (pR HO_7.out), (pR HO_8.out), (pk aD.out), (pk aR.out), (pk aJ.out), bL.out, a0.out, aA.out, aQ.out, aN.out, aU.out, (uc aY.out aZ.out a0.out HB.out)⟩)
        ·skip
         refine box_step ?hg (N := 10) ?hd (cs := #[.int .i64 0, .int .i64 0, .bool false, .string (⟨#[]⟩ : ByteArray), .int .i64 0, .int .i64 0]) (t := 42) ?hr ?_; (case hd => rfl); (case hg => rfl); (case hr => first | (go_simp; done) | (go_simp; rfl))
         intro aC hg j2 hbox hb
         have bH := (hb.cell (World.block_lt_of_cell? _ _ (hHeld.2.2.2.2.2))).trans (hHeld.2.2.2.2.2)
         obtain ⟨n_, a0⟩ := Cb.bx (ub aY.out aZ.out HB.out) hg hb
         have bL := a0
         obtain ⟨aA, aQ⟩ := Cb.nb hg aD.out
         obtain ⟨aN, aU⟩ := Cb.nb hg aR.out
         have aJ := ak (hbox)
         replace HO_7 := rb HO_7 hb
         replace HO_8 := ak (Kd.R_below (Kd.R_elderB (pR HO_8.out) aC (Nat.le_of_eq hg.symm)) hb)
         replace HO_565001 := vb HO_565001 aC hg hb
         replace HO_565002 := vb HO_565002 aC hg hb
         replace aD := bb aD hb
         replace aR := bb aR hb
         replace HB := n_
         clear n_
         clear hb hbox hg
         refine hK.out _ _ ⟨(blk_cell aD.out 0).trans rfl, (blk_cell aD.out 1).trans rfl, (blk_cell aD.out 2).trans rfl, (blk_cell aD.out 3).trans rfl, (blk_cell aD.out 4).trans rfl, bH⟩ (fun hHeld => ?_)
         clear hK K
         refine norm_ (a' := ?_) ?_ ?_
         rotate_left
         ·show Act.put _ (some 10) _ = _
          simp only [Act.put, List.setIfInBounds_toArray, List.set_cons_zero, List.set_cons_succ, i64_w, i32_w]
          rfl
         refine one_ (i := 5) (N := some 40) (tb 12 575) rfl rfl (one_of HT_.out (by kernel_rfl)) (by decide) (fun K hK => ?_)
         refine goes_ Try.func32 (by kernel_rfl) rfl #[.agg #[.int .i64 aK, .slice bY aG.length bZ, .slice b0 aH.length b1, .int .i64 aM, .int .u64 aE], .int .i64 (rd aW aX)] (by rfl) rfl rfl mp ?_
         with_reducible refine (stanchionref17_Find.calls k2 aK _ _ aG _ _ aH aM aE (rd aW aX) a2 a4 a7 a9 bA bB false _ ?side1 ?side2 ?side3 ?side4 e5.out).mono ?_
         (case side1 => exact pc (Kd.V_reads' HO_565001.out).2.2)
         (case side2 => exact (Kd.V_reads' HO_565001.out).2.1)
         (case side3 => exact pc (Kd.V_reads' HO_565002.out).2.2)
         (case side4 => exact (Kd.V_reads' HO_565002.out).2.1)
         rintro e j3 ⟨rfl, hb⟩
         have bH := (hb.cell (World.block_lt_of_cell? _ _ (hHeld.2.2.2.2.2))).trans (hHeld.2.2.2.2.2)
         refine ⟨_, rfl, ?_⟩
         replace HO_7 := rb HO_7 hb
         replace HO_8 := rb HO_8 hb
         replace HO_565001 := vw HO_565001 hb
         replace HO_565002 := vw HO_565002 hb
         replace aD := bb aD hb
         replace aR := bb aR hb
         replace aJ := bb aJ hb
         replace HB := ak (below_step (uc aY.out aZ.out a0.out HB.out) hb)
         (try clear hb)
         (try clear hb2)
         (try clear hk)
         (try clear hi)
         refine hK.out _ _ ⟨(blk_cell aD.out 0).trans rfl, (blk_cell aD.out 1).trans rfl, (blk_cell aD.out 2).trans rfl, (blk_cell aD.out 3).trans rfl, (blk_cell aD.out 4).trans rfl, bH⟩ (fun hHeld => ?_)
         clear hK K
         refine norm_ (a' := ?_) ?_ ?_
         rotate_left
         ·show Act.put _ (some 40) _ = _
          simp only [Act.put, List.setIfInBounds_toArray, List.set_cons_zero, List.set_cons_succ, i64_w, i32_w]
          rfl
         refine qa 6 34 (tb 12 639) (any_of HT_.out (by kernel_rfl)) ?_
         refine qa 7 41 (tb 12 767) (any_of HT_.out (by kernel_rfl)) ?_
         refine qa 8 42 (tb 12 1023) (any_of HT_.out (by kernel_rfl)) ?_
         exact norm_ (by simp only [putAll, Act.put, List.setIfInBounds_toArray, List.set_cons_zero, List.set_cons_succ]) (hCont (aC) _ ⟨hHeld, (pV (vm HO_565001.out)), (pV (vm HO_565002.out)), (pR HO_7.out), (pR HO_8.out), (pk aD.out), (pk aR.out), (pk aJ.out), bL.out, a0.out, aA.out, aQ.out, aN.out, aU.out, (uc aY.out aZ.out a0.out HB.out)⟩)
       rintro aC b5 ⟨hS_, eM, eN, eO, eP, eQ, eR, eS, eT, eU, eV, dC, dD, dE, dF⟩
       have n0_ : Aside0 (Kd.V k42 42 b5 w.heap.size (fun k_ => ((a5 k_ ∨ a6 k_) ∨ w.heap.size ≤ k_) ∧ some k_ ≠ (.slice (some a3) aW.length cT : Value).ownBlock ∧ some k_ ≠ (u8 : Value).ownBlock ∧ k_ ≠ aI ∧ k_ ≠ aT ∧ k_ ≠ aC) (.slice bY aG.length bZ) aG) := ⟨eM⟩
       have n1_ : Aside0 (Kd.V k85 85 b5 w.heap.size (fun k_ => ((a5 k_ ∨ a6 k_) ∨ w.heap.size ≤ k_) ∧ some k_ ≠ (.slice (some a3) aW.length cT : Value).ownBlock ∧ some k_ ≠ (u8 : Value).ownBlock ∧ k_ ≠ aI ∧ k_ ≠ aT ∧ k_ ≠ aC) (.slice b0 aH.length b1) aH) := ⟨eN⟩
       have n2_ : Aside0 (Kd.R (Kd.int .i64) 3 b5 w.heap.size (fun k_ => (w.heap.size ≤ k_)) (.slice (some a3) aW.length cT) aW) := ⟨eO⟩
       have n3_ : Aside0 (Kd.R k42 42 b5 w.heap.size (fun k_ => (w.heap.size ≤ k_) ∧ k_ ≠ aC) u8 bE) := ⟨eP⟩
       have n4_ : Aside0 (b5.heap[aI]? = some (.cells #[.int .i64 aK, .slice bY aG.length bZ, .slice b0 aH.length b1, .int .i64 aM, .int .u64 aE] 26 (0, 0))) := ⟨eQ⟩
       have n5_ : Aside0 (b5.heap[aT]? = some (.cells #[.int .i64 0, .slice none 0 0, .slice none 0 0, .int .i64 0, .int .u64 0] 26 (0, 0))) := ⟨eR⟩
       have n6_ : Aside0 (b5.heap[aC]? = some (.cells #[.int .i64 0, .int .i64 0, .bool false, .string (⟨#[]⟩ : ByteArray), .int .i64 0, .int .i64 0] 42 (0, 0))) := ⟨eS⟩
       have n7_ : Aside0 (w.heap.size ≤ aC) := ⟨eT⟩
       have n8_ : Aside0 (w.heap.size ≤ aC) := ⟨eU⟩
       have n9_ : Aside0 (aI ≠ aC) := ⟨eV⟩
       have n10_ : Aside0 (aC ≠ aI) := ⟨dC⟩
       have n11_ : Aside0 (aT ≠ aC) := ⟨dD⟩
       have n12_ : Aside0 (aC ≠ aT) := ⟨dE⟩
       have n13_ : Aside0 (Below w.heap.size w b5) := ⟨dF⟩
       clear HO_7
       clear HO_8
       clear HO_565001
       clear HO_565002
       clear aD
       clear aR
       clear HB
       clear eM eN eO eP eQ eR eS eT eU eV dC dD dE dF
       have HO_565001 := n0_
       have HO_565002 := n1_
       have HO_7 := n2_
       have HO_8 := n3_
       have aD := n4_
       have aR := n5_
       have aJ := n6_
       have bL := n7_
       have a0 := n8_
       have aA := n9_
       have aQ := n10_
       have aN := n11_
       have aU := n12_
       have HB := n13_
       clear n0_ n1_ n2_ n3_ n4_ n5_ n6_ n7_ n8_ n9_ n10_ n11_ n12_ n13_
       have hHeld : b5.cell? ⟨aI, 0, none⟩ = some (.int .i64 aK) ∧ b5.cell? ⟨aI, 1, none⟩ = some (.slice bY aG.length bZ) ∧ b5.cell? ⟨aI, 2, none⟩ = some (.slice b0 aH.length b1) ∧ b5.cell? ⟨aI, 3, none⟩ = some (.int .i64 aM) ∧ b5.cell? ⟨aI, 4, none⟩ = some (.int .u64 aE) ∧ b5.cell? (a3.add (aX).toNat) = some (.int .i64 (rd aW aX)) := hS_
       refine norm_ (a' := ?_) ?_ ?_
       rotate_left
       ·simp only [putAll, Act.put, List.setIfInBounds_toArray, List.set_cons_zero, List.set_cons_succ]
        rfl
       refine one_ (i := 10) (N := none) (tb 12 2047) rfl rfl (one_of HT_.out (by kernel_rfl)) (by decide) (fun K hK => ?_)
       have j4 : b5.cell? ⟨aC, 0, none⟩ = some (.int .i64 0) := (blk_cell aJ.out 0).trans rfl
       have i3 := blk_frozen aJ.out 0
       have gU := aA.out
       have gV := aN.out
       have gW := aQ.out
       have gX := aU.out
       have j5 : b5.cell? ⟨aC, 1, none⟩ = some (.int .i64 0) := (blk_cell aJ.out 1).trans rfl
       have i4 := blk_frozen aJ.out 1
       have gY := aA.out
       have gZ := aN.out
       have g0 := aQ.out
       have g1 := aU.out
       have j6 : b5.cell? ⟨aC, 2, none⟩ = some (.bool false) := (blk_cell aJ.out 2).trans rfl
       have i5 := blk_frozen aJ.out 2
       have g2 := aA.out
       have g3 := aN.out
       have g4 := aQ.out
       have g5 := aU.out
       have j7 : b5.cell? ⟨aC, 3, none⟩ = some (.string (⟨#[]⟩ : ByteArray)) := (blk_cell aJ.out 3).trans rfl
       have i6 := blk_frozen aJ.out 3
       have g6 := aA.out
       have g7 := aN.out
       have g8 := aQ.out
       have g9 := aU.out
       have j8 : b5.cell? ⟨aC, 4, none⟩ = some (.int .i64 0) := (blk_cell aJ.out 4).trans rfl
       have i7 := blk_frozen aJ.out 4
       have hA := aA.out
       have hB := aN.out
       have hC := aQ.out
       have hD := aU.out
       have j9 : b5.cell? ⟨aC, 5, none⟩ = some (.int .i64 0) := (blk_cell aJ.out 5).trans rfl
       have i8 := blk_frozen aJ.out 5
       have hE := aA.out
       have hF := aN.out
       have hG := aQ.out
       have hH := aU.out
       refine skip_ (w1 := ?_) (by rfl) rfl ?_ ?_
       rotate_left
       ·go_simp
        rfl
       refine hK.out _ _ ⟨((cell_far (p := ⟨aC, _, none⟩) aA.out _).trans (((cell_far (p := ⟨aC, _, none⟩) aA.out _).trans (((cell_far (p := ⟨aC, _, none⟩) aA.out _).trans (((cell_far (p := ⟨aC, _, none⟩) aA.out _).trans (((cell_far (p := ⟨aC, _, none⟩) aA.out _).trans (((cell_far (p := ⟨aC, _, none⟩) aA.out _).trans (hHeld.1)))))))))))), ((cell_far (p := ⟨aC, _, none⟩) aA.out _).trans (((cell_far (p := ⟨aC, _, none⟩) aA.out _).trans (((cell_far (p := ⟨aC, _, none⟩) aA.out _).trans (((cell_far (p := ⟨aC, _, none⟩) aA.out _).trans (((cell_far (p := ⟨aC, _, none⟩) aA.out _).trans (((cell_far (p := ⟨aC, _, none⟩) aA.out _).trans (hHeld.2.1)))))))))))), ((cell_far (p := ⟨aC, _, none⟩) aA.out _).trans (((cell_far (p := ⟨aC, _, none⟩) aA.out _).trans (((cell_far (p := ⟨aC, _, none⟩) aA.out _).trans (((cell_far (p := ⟨aC, _, none⟩) aA.out _).trans (((cell_far (p := ⟨aC, _, none⟩) aA.out _).trans (((cell_far (p := ⟨aC, _, none⟩) aA.out _).trans (hHeld.2.2.1)))))))))))), ((cell_far (p := ⟨aC, _, none⟩) aA.out _).trans (((cell_far (p := ⟨aC, _, none⟩) aA.out _).trans (((cell_far (p := ⟨aC, _, none⟩) aA.out _).trans (((cell_far (p := ⟨aC, _, none⟩) aA.out _).trans (((cell_far (p := ⟨aC, _, none⟩) aA.out _).trans (((cell_far (p := ⟨aC, _, none⟩) aA.out _).trans (hHeld.2.2.2.1)))))))))))), ((cell_far (p := ⟨aC, _, none⟩) aA.out _).trans (((cell_far (p := ⟨aC, _, none⟩) aA.out _).trans (((cell_far (p := ⟨aC, _, none⟩) aA.out _).trans (((cell_far (p := ⟨aC, _, none⟩) aA.out _).trans (((cell_far (p := ⟨aC, _, none⟩) aA.out _).trans (((cell_far (p := ⟨aC, _, none⟩) aA.out _).trans (hHeld.2.2.2.2.1)))))))))))), ((cell_far (p := ⟨aC, _, none⟩) (by first | exact Kd.own_blk (Kd.R_ne HO_7.out aJ.out (by decide)) | (rw [add_block]; exact Kd.own_blk (Kd.R_ne HO_7.out aJ.out (by decide))) | (show (Addr.add _ _).block ≠ _; rw [add_block]; exact Kd.own_blk (Kd.R_ne HO_7.out aJ.out (by decide))) | (dsimp only; exact Kd.own_blk (Kd.R_ne HO_7.out aJ.out (by decide)))) _).trans (((cell_far (p := ⟨aC, _, none⟩) (by first | exact Kd.own_blk (Kd.R_ne HO_7.out aJ.out (by decide)) | (rw [add_block]; exact Kd.own_blk (Kd.R_ne HO_7.out aJ.out (by decide))) | (show (Addr.add _ _).block ≠ _; rw [add_block]; exact Kd.own_blk (Kd.R_ne HO_7.out aJ.out (by decide))) | (dsimp only; exact Kd.own_blk (Kd.R_ne HO_7.out aJ.out (by decide)))) _).trans (((cell_far (p := ⟨aC, _, none⟩) (by first | exact Kd.own_blk (Kd.R_ne HO_7.out aJ.out (by decide)) | (rw [add_block]; exact Kd.own_blk (Kd.R_ne HO_7.out aJ.out (by decide))) | (show (Addr.add _ _).block ≠ _; rw [add_block]; exact Kd.own_blk (Kd.R_ne HO_7.out aJ.out (by decide))) | (dsimp only; exact Kd.own_blk (Kd.R_ne HO_7.out aJ.out (by decide)))) _).trans (((cell_far (p := ⟨aC, _, none⟩) (by first | exact Kd.own_blk (Kd.R_ne HO_7.out aJ.out (by decide)) | (rw [add_block]; exact Kd.own_blk (Kd.R_ne HO_7.out aJ.out (by decide))) | (show (Addr.add _ _).block ≠ _; rw [add_block]; exact Kd.own_blk (Kd.R_ne HO_7.out aJ.out (by decide))) | (dsimp only; exact Kd.own_blk (Kd.R_ne HO_7.out aJ.out (by decide)))) _).trans (((cell_far (p := ⟨aC, _, none⟩) (by first | exact Kd.own_blk (Kd.R_ne HO_7.out aJ.out (by decide)) | (rw [add_block]; exact Kd.own_blk (Kd.R_ne HO_7.out aJ.out (by decide))) | (show (Addr.add _ _).block ≠ _; rw [add_block]; exact Kd.own_blk (Kd.R_ne HO_7.out aJ.out (by decide))) | (dsimp only; exact Kd.own_blk (Kd.R_ne HO_7.out aJ.out (by decide)))) _).trans (((cell_far (p := ⟨aC, _, none⟩) (by first | exact Kd.own_blk (Kd.R_ne HO_7.out aJ.out (by decide)) | (rw [add_block]; exact Kd.own_blk (Kd.R_ne HO_7.out aJ.out (by decide))) | (show (Addr.add _ _).block ≠ _; rw [add_block]; exact Kd.own_blk (Kd.R_ne HO_7.out aJ.out (by decide))) | (dsimp only; exact Kd.own_blk (Kd.R_ne HO_7.out aJ.out (by decide)))) _).trans (hHeld.2.2.2.2.2))))))))))))⟩ (fun hHeld => ?_)
       clear hK K
       refine qa 11 11 (tb 12 4095) (any_of HT_.out (by kernel_rfl)) ?_
       refine done_ (done_of HT_.out (by kernel_rfl)) ?_
       try go_wp2
       go_roundg k2
       case measure => have := e2.out; have := e3.out; omega
       case rel => exact ⟨(bE), (wrap64 (aX + 1)), (aK), (aG), (aH), (aM), (aE), (.slice bY aG.length bZ), (.slice b0 aH.length b1), es, H', ⟨by have := e2.out; have := e3.out; omega⟩, ⟨qr (Kd.R_mono (rf6 (Kd.R_types HO_7.out aJ.out (by decide)) fun _ hk => hk.2) (fun _ hk => hk.1))⟩, ⟨qr (Kd.R_mono (rf6 (Kd.R_mono HO_8.out (fun k_ hk => (⟨hk, hk.2⟩ : _ ∧ k_ ≠ aC))) fun _ hk => hk.2) (fun _ hk => hk.1.1))⟩, ⟨qv (vm (vf6 HO_565001.out fun _ hk => hk.2.2.2.2.2))⟩, ⟨qv (vm (vf6 HO_565002.out fun _ hk => hk.2.2.2.2.2))⟩, ⟨by exact pq (blk_far (blk_far (blk_far (blk_far (blk_far (blk_far (pk aD.out) aA.out _) aA.out _) aA.out _) aA.out _) aA.out _) aA.out _)⟩, ⟨by exact pq (blk_far (blk_far (blk_far (blk_far (blk_far (blk_far (pk aR.out) aN.out _) aN.out _) aN.out _) aN.out _) aN.out _) aN.out _)⟩, ⟨uc aY.out aZ.out a0.out HB.out⟩⟩
     ·rw [if_neg eB] at H
      have eG : decide (aX < (aW.length : Int)) = false := decide_eq_false eB
      clear eB
      simp only [Option.some.injEq, Prod.mk.injEq] at H
      obtain ⟨rfl, rfl, rfl, rfl, rfl, rfl⟩ := H
      obtain ⟨kA, kB, iG⟩ := Kd.R_slice HO_7.out
      subst iG
      have i9 := a8.out
      have jA := aV.out
      obtain ⟨hI, hJ, hL, hM, hN⟩ := Cb.c5 aD.out
      obtain ⟨hO, hP, hQ, hR, hS⟩ := Cb.f5 aD.out
      obtain ⟨hT, hU, hV, hW, hX⟩ := Cb.c5 aR.out
      obtain ⟨hY, hZ, h0, h1, h2⟩ := Cb.f5 aR.out
      obtain ⟨cG, cH, iH⟩ := Kd.V_slice HO_565001.out
      subst iH
      obtain ⟨cU, cV, iI⟩ := Kd.V_slice HO_565002.out
      subst iI
      go_wp2
      refine bodyPost_ret (results_ct rfl _ _ aT 26 #[.int .i64 aK, .slice cG aG.length cH, .slice cU aH.length cV, .int .i64 aM, .int .u64 aE] (0, 0) _ rfl (by exact pq (blk_put (blk_put (blk_put (blk_put (blk_put (pk aR.out) 0 _ rfl) 1 _ rfl) 2 _ rfl) 3 _ rfl) 4 _ rfl)) Try.underlying26 rfl (by kernel_rfl)) rfl ?_
      exact ⟨_, _, _, by first | rfl | (simp [errW_none, errW_some] <;> rfl) | (simp [*, errW_none, errW_some] <;> rfl), qv (vm (vf5 HO_565001.out fun _ hk => hk.2.2.2.2)), qv (vm (vf5 HO_565002.out fun _ hk => hk.2.2.2.2)), qr (Kd.R_mono (rf5 (Kd.R_types HO_8.out aR.out (by decide)) fun _ hk => hk.2) (fun _ hk => hk.1)), ub aY.out aZ.out HB.out⟩

end Go.Proofs.Ytnpmjboofmdflaa.PA
