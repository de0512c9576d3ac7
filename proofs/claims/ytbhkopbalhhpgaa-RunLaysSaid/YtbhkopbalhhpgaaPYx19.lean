-- Made by a program of this workplace out of the translation (wip/tools in the repo). Not trusted: Lean checks it.
import Derived.Test.YtbhkopbalhhpgaaPYx0
import Derived.Test.YtbhkopbalhhpgaaCb
import Derived.Test.YtbhkopbalhhpgaaSq
import Derived.Test.YtbhkopbalhhpgaaSt
import Derived.Test.YtbhkopbalhhpgaaPYx1
import Derived.Test.YtbhkopbalhhpgaaPYx3
import Derived.Test.YtbhkopbalhhpgaaPYx4
import Derived.Test.YtbhkopbalhhpgaaPYx5
import Derived.Test.YtbhkopbalhhpgaaPYx8
import Derived.Test.YtbhkopbalhhpgaaPYx12
import Derived.Test.YtbhkopbalhhpgaaPYx16
import Derived.Test.YtbhkopbalhhpgaaPYx18
namespace Go.Proofs.Ytbhkopbalhhpgaa.PY
open Go.RowKit Go.Proofs.YtbhkopbalhhpgaaW.PrintWords Go.Proofs.YtbhkopbalhhpgaaW.PrintLast Go.Proofs.YtbhkopbalhhpgaaW.PrintMore Go.Proofs.Ytbhkopbalhhpgaa
attribute [local go_sem] max2_int min2_int max_two min_two max_three min_three max_four min_four   -- for this text's walks alone
set_option linter.unusedVariables false
set_option linter.unusedSimpArgs false

attribute [local go_sem high] eqA38
/-! ### stanchionref03_Same: function 21 -/
set_option maxHeartbeats 8000000 in
set_option maxRecDepth 100000 in
theorem stanchionref03_Same.calls (k : Nat) (aV : Option Addr) (aW : Nat) (aF : List (S38)) (aL : Int) (aM : Int) (aI : Bool) (aX : Option Addr) (aY : Nat) (aG : List (S38)) (aN : Int) (aO : Int) (aJ : Bool) (r : Bool) (w : World) (c3 : Kd.C k38 w aV aF.length aF) (c5 : aF.length ≤ aW) (dA : Kd.C k38 w aX aG.length aG) (dB : aG.length ≤ aY) (h : stanchionref03_Same.f k aF aL aM aI aG aN aO aJ = some r) :
  Calls Try.prog 21 #[.agg #[.slice aV aF.length aW, .int .i64 aL, .int .i64 aM, .bool aI], .agg #[.slice aX aG.length aY, .int .i64 aN, .int .i64 aO, .bool aJ]] w fun e w' => e = .returned (.bool r) ∧ Below w.heap.size w w' := by
 have fK := Try.underlying33
 have fL := Try.underlying38
 have dC := ak c3
 have e2 := ak c5
 clear c3 c5
 have dD := ak dA
 have e3 := ak dB
 clear dA dB
 have HB := ak (Below.refl w.heap.size w)
 have H : (if aL = aN then (if aM = aO then (if (aI != aJ) = true then (stanchionref03_Same.j0 k true aF aL aM aI aG aN aO aJ) else (stanchionref03_Same.j0 k ((aF.length : Int) != (aG.length : Int)) aF aL aM aI aG aN aO aJ)) else (stanchionref03_Same.j0 k true aF aL aM aI aG aN aO aJ)) else (stanchionref03_Same.j0 k true aF aL aM aI aG aN aO aJ)) = some r := h
 clear h
 have e1 := ak H
 clear H
 go_enter Try.func21, Try.ntmps21
 go_upto_region 1 with (first | ((with_reducible refine gate_dst (N := 2) rfl ?_); (try (refine gate_guard (by rfl) ?_; dsimp only)); refine box_event ?hg (N := 2) ?hd (cs := #[.slice aV aF.length aW, .int .i64 aL, .int .i64 aM, .bool aI]) (t := 33) ?hr ?_; (case hd => rfl); (case hg => rfl); (case hr => first | (go_simp; done) | (go_simp; rfl)); intro a6 hg w4 hbox hb; obtain ⟨n_, aH⟩ := Cb.bx (pB HB.out) hg hb; have dE := aH; have aA := ak (hbox); replace HB := n_; clear n_; clear hb hbox hg) | ((with_reducible refine gate_dst (N := 3) rfl ?_); (try (refine gate_guard (by rfl) ?_; dsimp only)); refine box_event ?hg (N := 3) ?hd (cs := #[.slice aX aG.length aY, .int .i64 aN, .int .i64 aO, .bool aJ]) (t := 33) ?hr ?_; (case hd => rfl); (case hg => rfl); (case hr => first | (go_simp; done) | (go_simp; rfl)); intro a7 hg w5 hbox hb; obtain ⟨n_, aK⟩ := Cb.bx (by repeat (first | (with_reducible first | exact HB.out | apply ba | apply bn | apply bd | refine bs ?_ aH.out) | exact HB.out)) hg hb; have dF := aK; obtain ⟨aC, aD⟩ := Cb.nb hg aA.out; have aE := ak (hbox); replace aA := ak (blk_below aA.out hb); replace HB := n_; clear n_; clear hb hbox hg))
 repeat (go_quiet (first | ((with_reducible refine gate_dst (N := 2) rfl ?_); (try (refine gate_guard (by rfl) ?_; dsimp only)); refine box_event ?hg (N := 2) ?hd (cs := #[.slice aV aF.length aW, .int .i64 aL, .int .i64 aM, .bool aI]) (t := 33) ?hr ?_; (case hd => rfl); (case hg => rfl); (case hr => first | (go_simp; done) | (go_simp; rfl)); intro a6 hg w4 hbox hb; obtain ⟨n_, aH⟩ := Cb.bx (pB HB.out) hg hb; have dE := aH; have aA := ak (hbox); replace HB := n_; clear n_; clear hb hbox hg) | ((with_reducible refine gate_dst (N := 3) rfl ?_); (try (refine gate_guard (by rfl) ?_; dsimp only)); refine box_event ?hg (N := 3) ?hd (cs := #[.slice aX aG.length aY, .int .i64 aN, .int .i64 aO, .bool aJ]) (t := 33) ?hr ?_; (case hd => rfl); (case hg => rfl); (case hr => first | (go_simp; done) | (go_simp; rfl)); intro a7 hg w5 hbox hb; obtain ⟨n_, aK⟩ := Cb.bx (by repeat (first | (with_reducible first | exact HB.out | apply ba | apply bn | apply bd | refine bs ?_ aH.out) | exact HB.out)) hg hb; have dF := aK; obtain ⟨aC, aD⟩ := Cb.nb hg aA.out; have aE := ak (hbox); replace aA := ak (blk_below aA.out hb); replace HB := n_; clear n_; clear hb hbox hg)); go_upto_region 1 with (first | ((with_reducible refine gate_dst (N := 2) rfl ?_); (try (refine gate_guard (by rfl) ?_; dsimp only)); refine box_event ?hg (N := 2) ?hd (cs := #[.slice aV aF.length aW, .int .i64 aL, .int .i64 aM, .bool aI]) (t := 33) ?hr ?_; (case hd => rfl); (case hg => rfl); (case hr => first | (go_simp; done) | (go_simp; rfl)); intro a6 hg w4 hbox hb; obtain ⟨n_, aH⟩ := Cb.bx (pB HB.out) hg hb; have dE := aH; have aA := ak (hbox); replace HB := n_; clear n_; clear hb hbox hg) | ((with_reducible refine gate_dst (N := 3) rfl ?_); (try (refine gate_guard (by rfl) ?_; dsimp only)); refine box_event ?hg (N := 3) ?hd (cs := #[.slice aX aG.length aY, .int .i64 aN, .int .i64 aO, .bool aJ]) (t := 33) ?hr ?_; (case hd => rfl); (case hg => rfl); (case hr => first | (go_simp; done) | (go_simp; rfl)); intro a7 hg w5 hbox hb; obtain ⟨n_, aK⟩ := Cb.bx (by repeat (first | (with_reducible first | exact HB.out | apply ba | apply bn | apply bd | refine bs ?_ aH.out) | exact HB.out)) hg hb; have dF := aK; obtain ⟨aC, aD⟩ := Cb.nb hg aA.out; have aE := ak (hbox); replace aA := ak (blk_below aA.out hb); replace HB := n_; clear n_; clear hb hbox hg)))
 (try simp only [Act.put, List.setIfInBounds_toArray, List.set_cons_zero, List.set_cons_succ])
 go_cut [33] (fun v33 wc => ∃ (kq : Nat) (a8 : Bool), v33 = .bool a8 ∧ Aside0 (stanchionref03_Same.j0 kq a8 aF aL aM aI aG aN aO aJ = some r) ∧ Aside0 (kq ≤ k) ∧ Aside0 (wc.heap[a6]? = some (.cells #[(.slice aV aF.length aW), .int .i64 aL, .int .i64 aM, .bool aI] 33 (0, 0))) ∧ Aside0 (wc.heap[a7]? = some (.cells #[(.slice aX aG.length aY), .int .i64 aN, .int .i64 aO, .bool aJ] 33 (0, 0))) ∧ Aside0 (Below w.heap.size w wc))
 case first =>
  have H := e1.out
  clear e1
  by_cases c6 : aL = aN
  ·rw [if_pos c6] at H
   have aZ : (aL == aN) = true := beq_iff_eq.mpr c6
   have dG : (aL != aN) = false := bne_eq_false_iff_eq.mpr c6
   clear c6
   (first | rw [aZ] | (simp only [i64_w, i32_w]; rw [aZ]) | skip)
   by_cases c7 : aM = aO
   ·rw [if_pos c7] at H
    have dH : (aM == aO) = true := beq_iff_eq.mpr c7
    have dI : (aM != aO) = false := bne_eq_false_iff_eq.mpr c7
    clear c7
    by_cases c8 : (aI != aJ) = true
    ·rw [if_pos c8] at H
     have dJ : (aI != aJ) = true := c8
     (try (have dK : decide (aI = aJ) = false := by simpa using c8))
     (try (have dL : (aI == aJ) = false := by simpa using c8))
     (try (have fM : ¬ (aI = aJ) := by simpa using c8))
     clear c8
     have H' := ak H
     clear H
     have fN := aC.out
     have fO := aD.out
     obtain ⟨a9, bA, bB, bC⟩ := Cb.c4 aA.out
     obtain ⟨bD, bE, bF, bG⟩ := Cb.f4 aA.out
     obtain ⟨bH, bI, bJ, bK⟩ := Cb.c4 aE.out
     obtain ⟨bL, bM, bN, bO⟩ := Cb.f4 aE.out
     go_wp2
     repeat (go_quiet (fail); try go_wp2)
     go_meet
     case rel => exact ⟨_, (true), (by first | rfl | (simp; done) | (simp [*]; done)), H', ⟨by first | omega | exact Nat.le_refl _⟩, ⟨pk aA.out⟩, ⟨pk aE.out⟩, ⟨by repeat (first | (with_reducible first | exact HB.out | apply ba | apply bn | apply bd | refine bs ?_ aH.out | refine bs ?_ aK.out) | exact HB.out)⟩⟩
    ·rw [if_neg c8] at H
     have dJ : (aI != aJ) = false := by simpa using c8
     (try (have dK : decide (aI = aJ) = true := by simpa using c8))
     (try (have dL : (aI == aJ) = true := by simpa using c8))
     clear c8
     have H' := ak H
     clear H
     have e4 := aC.out
     have e5 := aD.out
     obtain ⟨bP, bQ, bR, bS⟩ := Cb.c4 aA.out
     obtain ⟨bT, bU, bV, bW⟩ := Cb.f4 aA.out
     obtain ⟨bX, bY, bZ, b0⟩ := Cb.c4 aE.out
     obtain ⟨b1, b2, b3, b4⟩ := Cb.f4 aE.out
     go_wp2
     repeat (go_quiet (fail); try go_wp2)
     go_meet
     case rel => exact ⟨_, (((aF.length : Int) != (aG.length : Int))), (by first | rfl | (simp; done) | (simp [*]; done)), H', ⟨by first | omega | exact Nat.le_refl _⟩, ⟨pk aA.out⟩, ⟨pk aE.out⟩, ⟨by repeat (first | (with_reducible first | exact HB.out | apply ba | apply bn | apply bd | refine bs ?_ aH.out | refine bs ?_ aK.out) | exact HB.out)⟩⟩
   ·rw [if_neg c7] at H
    have dH : (aM == aO) = false := beq_eq_false_iff_ne.mpr c7
    have dI : (aM != aO) = true := bne_iff_ne.mpr c7
    have H' := ak H
    clear H
    have e6 := aC.out
    have e7 := aD.out
    obtain ⟨b5, b6, b7, b8⟩ := Cb.c4 aA.out
    obtain ⟨b9, cA, cB, cC⟩ := Cb.f4 aA.out
    obtain ⟨cD, cE, cF, cG⟩ := Cb.c4 aE.out
    obtain ⟨cH, cI, cJ, cK⟩ := Cb.f4 aE.out
    go_wp2
    repeat (go_quiet (fail); try go_wp2)
    go_meet
    case rel => exact ⟨_, (true), (by first | rfl | (simp; done) | (simp [*]; done)), H', ⟨by first | omega | exact Nat.le_refl _⟩, ⟨pk aA.out⟩, ⟨pk aE.out⟩, ⟨by repeat (first | (with_reducible first | exact HB.out | apply ba | apply bn | apply bd | refine bs ?_ aH.out | refine bs ?_ aK.out) | exact HB.out)⟩⟩
  ·rw [if_neg c6] at H
   have aZ : (aL == aN) = false := beq_eq_false_iff_ne.mpr c6
   have dG : (aL != aN) = true := bne_iff_ne.mpr c6
   (first | rw [aZ] | (simp only [i64_w, i32_w]; rw [aZ]) | skip)
   have H' := ak H
   clear H
   have e8 := aC.out
   have e9 := aD.out
   obtain ⟨cL, cM, cN, cO⟩ := Cb.c4 aA.out
   obtain ⟨cP, cQ, cR, cS⟩ := Cb.f4 aA.out
   obtain ⟨cT, cU, cV, cW⟩ := Cb.c4 aE.out
   obtain ⟨cX, cY, cZ, c0⟩ := Cb.f4 aE.out
   go_wp2
   repeat (go_quiet (fail); try go_wp2)
   go_meet
   case rel => exact ⟨_, (true), (by first | rfl | (simp; done) | (simp [*]; done)), H', ⟨by first | omega | exact Nat.le_refl _⟩, ⟨pk aA.out⟩, ⟨pk aE.out⟩, ⟨by repeat (first | (with_reducible first | exact HB.out | apply ba | apply bn | apply bd | refine bs ?_ aH.out | refine bs ?_ aK.out) | exact HB.out)⟩⟩
 case rest =>
  clear e1
  try clear c1 c2 p2 c6 aZ dG c7 dH dI c8 dJ dK dL c9 c12 c15 c18 a9 bA bB bC bH bI bJ bK bP bQ bR bS bX bY bZ b0 b5 b6 b7 b8 cD cE cF cG cL cM cN cO cT cU cV cW bD bE bF bG bL bM bN bO bT bU bV bW b1 b2 b3 b4 b9 cA cB cC cH cI cJ cK cP cQ cR cS cX cY cZ c0
  obtain ⟨kq, a8, rfl, HA, fA, aA, aE, HB⟩ := hcut
  cases kq with
  | zero => exact absurd HA.out (by simp [stanchionref03_Same.j0])
  | succ kj2 =>
   have H := HA.out
   clear HA
   simp only [stanchionref03_Same.j0] at H
   by_cases dQ : a8 = true
   ·subst dQ
    have H1 : (some false) = some r := by rw [if_pos rfl] at H; exact H
    clear H
    have H := H1
    clear H1
    obtain rfl := Option.some.inj H
    go_wp2
    repeat (go_quiet (fail); try go_wp2)
    go_ret
    exact ⟨by first | rfl | (simp [errW_none, errW_some] <;> rfl) | (simp [*, errW_none, errW_some] <;> rfl), by repeat (first | (with_reducible first | exact HB.out | apply ba | apply bn | apply bd | refine bs ?_ aH.out | refine bs ?_ aK.out) | exact HB.out)⟩
   ·replace dQ := Bool.eq_false_iff.mpr dQ
    subst dQ
    have H1 : (stanchionref03_Same.l0 kj2 0 aF aL aM aI aG aN aO aJ) = some r := by rw [if_neg (show ¬ (false = true) by decide)] at H; exact H
    clear H
    have H := H1
    clear H1
    have H' := ak H
    clear H
    go_wp2
    repeat (go_quiet (fail); try go_wp2)
    go_loopg [5] kj2 (fun kq v5 w' => ∃ (aB : Int), v5 = .int .i64 aB ∧ Aside0 (stanchionref03_Same.l0 kq aB aF aL aM aI aG aN aO aJ = some r) ∧ Aside0 (kq ≤ kj2) ∧ Aside0 (w'.heap[a6]? = some (.cells #[(.slice aV aF.length aW), .int .i64 aL, .int .i64 aM, .bool aI] 33 (0, 0))) ∧ Aside0 (w'.heap[a7]? = some (.cells #[(.slice aX aG.length aY), .int .i64 aN, .int .i64 aO, .bool aJ] 33 (0, 0))) ∧ Aside0 (Below w.heap.size w w'))
    case atStart => exact ⟨(0), (by first | rfl | (simp; done) | (simp [*]; done)), H', ⟨Nat.le_refl _⟩, ⟨pk aA.out⟩, ⟨pk aE.out⟩, ⟨by repeat (first | (with_reducible first | exact HB.out | apply ba | apply bn | apply bd | refine bs ?_ aH.out | refine bs ?_ aK.out) | exact HB.out)⟩⟩
    case round =>
     clear H'
     try clear c1 c2 p2 c6 aZ dG c7 dH dI c8 dJ dK dL c9 c12 c15 c18 dQ a9 bA bB bC bH bI bJ bK bP bQ bR bS bX bY bZ b0 b5 b6 b7 b8 cD cE cF cG cL cM cN cO cT cU cV cW bD bE bF bG bL bM bN bO bT bU bV bW b1 b2 b3 b4 b9 cA cB cC cH cI cJ cK cP cQ cR cS cX cY cZ c0 p2
     obtain ⟨aB, rfl, HA, fB, aA, aE, HB⟩ := hrel
     cases gk with
     | zero => exact absurd HA.out (by simp [stanchionref03_Same.l0])
     | succ k2 =>
      have H := HA.out
      clear HA
      simp only [stanchionref03_Same.l0] at H
      by_cases dO : aB < (aF.length : Int)
      ·rw [if_pos dO] at H
       have dR : decide (aB < (aF.length : Int)) = true := decide_eq_true dO
       clear dO
       have dV : 0 ≤ aB := Decidable.byContradiction fun q => by rw [if_neg q] at H; exact absurd H (by simp)
       rw [if_pos dV] at H
       have fC : decide (0 ≤ aB) = true := decide_eq_true dV
       clear dV
       have dW : aB < (aG.length : Int) := Decidable.byContradiction fun q => by rw [if_neg q] at H; exact absurd H (by simp)
       rw [if_pos dW] at H
       have fD : decide (aB < (aG.length : Int)) = true := decide_eq_true dW
       clear dW
       by_cases dP : (!((((rd_T38 aF aB).f0).toList) == (((rd_T38 aG aB).f0).toList)) || (!((((rd_T38 aF aB).f1).toList) == (((rd_T38 aG aB).f1).toList)) || (!((((rd_T38 aF aB).f2).toList) == (((rd_T38 aG aB).f2).toList))))) = true
       ·rw [if_pos dP] at H
        have dS : (!((((rd_T38 aF aB).f0).toList) == (((rd_T38 aG aB).f0).toList)) || (!((((rd_T38 aF aB).f1).toList) == (((rd_T38 aG aB).f1).toList)) || (!((((rd_T38 aF aB).f2).toList) == (((rd_T38 aG aB).f2).toList))))) = true := dP
        clear dP
        obtain rfl := Option.some.inj H
        have fE := aC.out
        have fF := aD.out
        obtain ⟨dX, dY, dZ, d0⟩ := Cb.c4 aA.out
        obtain ⟨d1, d2, d3, d4⟩ := Cb.f4 aA.out
        have a0 : 0 ≤ (aB : Int) := of_decide_eq_true (by first | (with_reducible assumption) | assumption)
        have a3 : aB < (aF.length : Int) := of_decide_eq_true (by first | (with_reducible assumption) | assumption)
        obtain ⟨dT, dM, aP, aQ, aR⟩ := at_T38 dC.out aB a0 a3
        cases dM
        replace aP := (HB.out.cell (World.block_lt_of_cell? w _ aP)).trans aP
        replace aQ := (HB.out.cell (World.block_lt_of_cell? w _ aQ)).trans aQ
        replace aR := (HB.out.cell (World.block_lt_of_cell? w _ aR)).trans aR
        replace a0 := eq_true a0
        replace a3 := eq_true a3
        obtain ⟨d5, d6, d7, d8⟩ := Cb.c4 aE.out
        obtain ⟨d9, eA, eB, eC⟩ := Cb.f4 aE.out
        have a4 : 0 ≤ (aB : Int) := of_decide_eq_true (by first | (with_reducible assumption) | assumption)
        have a5 : aB < (aG.length : Int) := of_decide_eq_true (by first | (with_reducible assumption) | assumption)
        obtain ⟨dU, dN, aS, aT, aU⟩ := at_T38 dD.out aB a4 a5
        cases dN
        replace aS := (HB.out.cell (World.block_lt_of_cell? w _ aS)).trans aS
        replace aT := (HB.out.cell (World.block_lt_of_cell? w _ aT)).trans aT
        replace aU := (HB.out.cell (World.block_lt_of_cell? w _ aU)).trans aU
        replace a4 := eq_true a4
        replace a5 := eq_true a5
        go_wp2
        repeat (go_quiet (fail); try go_wp2)
        go_ret
        exact ⟨by first | rfl | (simp [errW_none, errW_some] <;> rfl) | (simp [*, errW_none, errW_some] <;> rfl), by repeat (first | (with_reducible first | exact HB.out | apply ba | apply bn | apply bd | refine bs ?_ aH.out | refine bs ?_ aK.out) | exact HB.out)⟩
       ·rw [if_neg dP] at H
        have dS : (!((((rd_T38 aF aB).f0).toList) == (((rd_T38 aG aB).f0).toList)) || (!((((rd_T38 aF aB).f1).toList) == (((rd_T38 aG aB).f1).toList)) || (!((((rd_T38 aF aB).f2).toList) == (((rd_T38 aG aB).f2).toList))))) = false := by simpa using dP
        clear dP
        have H' := ak H
        clear H
        have fG := aC.out
        have fH := aD.out
        obtain ⟨eD, eE, eF, eG⟩ := Cb.c4 aA.out
        obtain ⟨eH, eI, eJ, eK⟩ := Cb.f4 aA.out
        have a0 : 0 ≤ (aB : Int) := of_decide_eq_true (by first | (with_reducible assumption) | assumption)
        have a3 : aB < (aF.length : Int) := of_decide_eq_true (by first | (with_reducible assumption) | assumption)
        obtain ⟨dT, dM, aP, aQ, aR⟩ := at_T38 dC.out aB a0 a3
        cases dM
        replace aP := (HB.out.cell (World.block_lt_of_cell? w _ aP)).trans aP
        replace aQ := (HB.out.cell (World.block_lt_of_cell? w _ aQ)).trans aQ
        replace aR := (HB.out.cell (World.block_lt_of_cell? w _ aR)).trans aR
        replace a0 := eq_true a0
        replace a3 := eq_true a3
        obtain ⟨eL, eM, eN, eO⟩ := Cb.c4 aE.out
        obtain ⟨eP, eQ, eR, eS⟩ := Cb.f4 aE.out
        have a4 : 0 ≤ (aB : Int) := of_decide_eq_true (by first | (with_reducible assumption) | assumption)
        have a5 : aB < (aG.length : Int) := of_decide_eq_true (by first | (with_reducible assumption) | assumption)
        obtain ⟨dU, dN, aS, aT, aU⟩ := at_T38 dD.out aB a4 a5
        cases dN
        replace aS := (HB.out.cell (World.block_lt_of_cell? w _ aS)).trans aS
        replace aT := (HB.out.cell (World.block_lt_of_cell? w _ aT)).trans aT
        replace aU := (HB.out.cell (World.block_lt_of_cell? w _ aU)).trans aU
        replace a4 := eq_true a4
        replace a5 := eq_true a5
        go_wp2
        repeat (go_quiet (fail); try go_wp2)
        go_roundg k2
        case measure => have := fA.out; have := fB.out; omega
        case rel => exact ⟨(wrap64 (aB + 1)), (by first | rfl | (simp; done) | (simp [*]; done)), H', ⟨by have := fA.out; have := fB.out; omega⟩, ⟨pk aA.out⟩, ⟨pk aE.out⟩, ⟨by repeat (first | (with_reducible first | exact HB.out | apply ba | apply bn | apply bd | refine bs ?_ aH.out | refine bs ?_ aK.out) | exact HB.out)⟩⟩
      ·rw [if_neg dO] at H
       have dR : decide (aB < (aF.length : Int)) = false := decide_eq_false dO
       clear dO
       obtain rfl := Option.some.inj H
       have fI := aC.out
       have fJ := aD.out
       obtain ⟨eT, eU, eV, eW⟩ := Cb.c4 aA.out
       obtain ⟨eX, eY, eZ, e0⟩ := Cb.f4 aA.out
       go_wp2
       repeat (go_quiet (fail); try go_wp2)
       go_ret
       exact ⟨by first | rfl | (simp [errW_none, errW_some] <;> rfl) | (simp [*, errW_none, errW_some] <;> rfl), by repeat (first | (with_reducible first | exact HB.out | apply ba | apply bn | apply bd | refine bs ?_ aH.out | refine bs ?_ aK.out) | exact HB.out)⟩

/-! ### stanchionlaw06_RunLays: function 5 -/
set_option maxHeartbeats 8000000 in
set_option maxRecDepth 100000 in
theorem stanchionlaw06_RunLays.calls (k : Nat) (aY : Option Addr) (aZ : Nat) (aC : List (S38)) (aE : Int) (aF : Int) (aG : Bool) (a1 : ByteArray) (a2 : ByteArray) (r : Bool) (w : World) (bM : Kd.C k38 w aY aC.length aC) (bN : aC.length ≤ aZ) (h : stanchionlaw06_RunLays.f k aC aE aF aG a1 a2 = some r) (hr_ : r = true) :
  Calls Try.prog 5 #[.agg #[.slice aY aC.length aZ, .int .i64 aE, .int .i64 aF, .bool aG], .string a1, .string a2] w fun e w' => e = .returned (.bool r) ∧ Below w.heap.size w w' := by
 have eH := Try.underlying33
 have bE := ak bM
 have bF := ak bN
 clear bM bN
 have HB := ak (Below.refl w.heap.size w)
 have H : ((stanchionlaw06_shown.f k).bind fun aI => ((run_Lay.f k aC aE aF aG a1 a2).bind fun bt525 => ((stanchionref06_Lay.f k aC aE aF aG a1 a2).bind fun bt533 => ((run_Load.f k aC aE aF aG a1).bind fun bt541 => ((stanchionref06_Load.f k aC aE aF aG a1).bind fun bt545 => ((stanchionref03_Same.f k bt525.1 bt525.2.1 bt525.2.2.1 bt525.2.2.2.1 bt533.1 bt533.2.1 bt533.2.2.1 bt533.2.2.2.1).bind fun aO => (if aO = true then ((stanchionref05_Same.f k bt541.1 bt545.1).bind fun aK => (if aI = true then (if aK = true then (if bt525.2.2.2.2 = bt533.2.2.2.2 then (some (bt541.2 == bt545.2)) else (some false)) else (some false)) else (some false))) else (if aI = true then (some false) else (some false))))))))) = some r := h
 clear h
 replace H := Option.bind_eq_some_iff.mp H
 obtain ⟨aI, d4, H⟩ := H
 replace H : ((run_Lay.f k aC aE aF aG a1 a2).bind fun bt525 => ((stanchionref06_Lay.f k aC aE aF aG a1 a2).bind fun bt533 => ((run_Load.f k aC aE aF aG a1).bind fun bt541 => ((stanchionref06_Load.f k aC aE aF aG a1).bind fun bt545 => ((stanchionref03_Same.f k bt525.1 bt525.2.1 bt525.2.2.1 bt525.2.2.2.1 bt533.1 bt533.2.1 bt533.2.2.1 bt533.2.2.2.1).bind fun aO => (if aO = true then ((stanchionref05_Same.f k bt541.1 bt545.1).bind fun aK => (if aI = true then (if aK = true then (if bt525.2.2.2.2 = bt533.2.2.2.2 then (some (bt541.2 == bt545.2)) else (some false)) else (some false)) else (some false))) else (if aI = true then (some false) else (some false)))))))) = some r := H
 have A4 := ak d4
 clear d4
 replace H := Option.bind_eq_some_iff.mp H
 obtain ⟨⟨a0, a3, a4, a5, aN⟩, d5, H⟩ := H
 replace H : ((stanchionref06_Lay.f k aC aE aF aG a1 a2).bind fun bt533 => ((run_Load.f k aC aE aF aG a1).bind fun bt541 => ((stanchionref06_Load.f k aC aE aF aG a1).bind fun bt545 => ((stanchionref03_Same.f k a0 a3 a4 a5 bt533.1 bt533.2.1 bt533.2.2.1 bt533.2.2.2.1).bind fun aO => (if aO = true then ((stanchionref05_Same.f k bt541.1 bt545.1).bind fun aK => (if aI = true then (if aK = true then (if aN = bt533.2.2.2.2 then (some (bt541.2 == bt545.2)) else (some false)) else (some false)) else (some false))) else (if aI = true then (some false) else (some false))))))) = some r := H
 have A5 := ak d5
 clear d5
 replace H := Option.bind_eq_some_iff.mp H
 obtain ⟨⟨a9, bA, bB, bC, aP⟩, d6, H⟩ := H
 replace H : ((run_Load.f k aC aE aF aG a1).bind fun bt541 => ((stanchionref06_Load.f k aC aE aF aG a1).bind fun bt545 => ((stanchionref03_Same.f k a0 a3 a4 a5 a9 bA bB bC).bind fun aO => (if aO = true then ((stanchionref05_Same.f k bt541.1 bt545.1).bind fun aK => (if aI = true then (if aK = true then (if aN = aP then (some (bt541.2 == bt545.2)) else (some false)) else (some false)) else (some false))) else (if aI = true then (some false) else (some false)))))) = some r := H
 have A6 := ak d6
 clear d6
 replace H := Option.bind_eq_some_iff.mp H
 obtain ⟨⟨bG, a6⟩, d7, H⟩ := H
 replace H : ((stanchionref06_Load.f k aC aE aF aG a1).bind fun bt545 => ((stanchionref03_Same.f k a0 a3 a4 a5 a9 bA bB bC).bind fun aO => (if aO = true then ((stanchionref05_Same.f k bG bt545.1).bind fun aK => (if aI = true then (if aK = true then (if aN = aP then (some (a6 == bt545.2)) else (some false)) else (some false)) else (some false))) else (if aI = true then (some false) else (some false))))) = some r := H
 have A7 := ak d7
 clear d7
 replace H := Option.bind_eq_some_iff.mp H
 obtain ⟨⟨bK, bD⟩, d8, H⟩ := H
 replace H : ((stanchionref03_Same.f k a0 a3 a4 a5 a9 bA bB bC).bind fun aO => (if aO = true then ((stanchionref05_Same.f k bG bK).bind fun aK => (if aI = true then (if aK = true then (if aN = aP then (some (a6 == bD)) else (some false)) else (some false)) else (some false))) else (if aI = true then (some false) else (some false)))) = some r := H
 have A8 := ak d8
 clear d8
 replace H := Option.bind_eq_some_iff.mp H
 obtain ⟨aO, d9, H⟩ := H
 replace H : (if aO = true then ((stanchionref05_Same.f k bG bK).bind fun aK => (if aI = true then (if aK = true then (if aN = aP then (some (a6 == bD)) else (some false)) else (some false)) else (some false))) else (if aI = true then (some false) else (some false))) = some r := H
 have A9 := ak d9
 clear d9
 by_cases bY : aO = true
 ·subst bY
  have H1 : ((stanchionref05_Same.f k bG bK).bind fun aK => (if aI = true then (if aK = true then (if aN = aP then (some (a6 == bD)) else (some false)) else (some false)) else (some false))) = some r := by rw [if_pos rfl] at H; exact H
  clear H
  have H := H1
  clear H1
  replace H := Option.bind_eq_some_iff.mp H
  obtain ⟨aK, bS, H⟩ := H
  replace H : (if aI = true then (if aK = true then (if aN = aP then (some (a6 == bD)) else (some false)) else (some false)) else (some false)) = some r := H
  have eI := ak bS
  clear bS
  by_cases bZ : aI = true
  ·subst bZ
   have H1 : (if aK = true then (if aN = aP then (some (a6 == bD)) else (some false)) else (some false)) = some r := by rw [if_pos rfl] at H; exact H
   clear H
   have H := H1
   clear H1
   by_cases b0 : aK = true
   ·subst b0
    have H1 : (if aN = aP then (some (a6 == bD)) else (some false)) = some r := by rw [if_pos rfl] at H; exact H
    clear H
    have H := H1
    clear H1
    by_cases bP : aN = aP
    ·rw [if_pos bP] at H
     have bT : (aN == aP) = true := beq_iff_eq.mpr bP
     have bU : (aN != aP) = false := bne_eq_false_iff_eq.mpr bP
     clear bP
     obtain rfl := Option.some.inj H
     go_enter Try.func5, Try.ntmps5
     go_wp2_with (first | ((with_reducible refine gate_dst (N := 3) rfl ?_); refine box_event ?hg (N := 3) ?hd (cs := #[.slice aY aC.length aZ, .int .i64 aE, .int .i64 aF, .bool aG]) (t := 33) ?hr ?_; (case hd => rfl); (case hg => rfl); (case hr => first | (go_simp; done) | (go_simp; rfl)); intro aU hg eT hbox hb; obtain ⟨n_, aH⟩ := Cb.bx (pB HB.out) hg hb; have bO := aH; have aA := ak (hbox); replace HB := n_; clear n_; clear hb hbox hg) | ((with_reducible refine gate_callee (f := 10) rfl ?_); refine goesL_ (some 17) rfl rfl Try.func10 (by kernel_rfl) rfl #[] rfl (by (try simp only [List.map_toArray, List.map_cons, List.map_nil]); first | done | rfl | (simp only [List.length_drop, List.length_take]; rfl)) ?_; (with_reducible refine (stanchionlaw06_shown.calls k  true _ A4.out).mono ?_); rintro e eU ⟨rfl, hb⟩; refine ⟨_, rfl, ?_⟩; replace aA := ak (blk_below aA.out hb); replace HB := ak (below_step (by repeat (first | (with_reducible first | exact HB.out | apply ba | apply bn | apply bd | refine bs ?_ aH.out) | exact HB.out)) hb); (try clear hb); (try clear hb2); (try clear hk); (try clear hi); obtain ⟨b1, b2, b3, b4⟩ := Cb.c4 aA.out; obtain ⟨b5, b6, b7, b8⟩ := Cb.f4 aA.out) | ((with_reducible refine gate_callee (f := 17) rfl ?_); refine goesL_ (some 22) rfl rfl Try.func17 (by kernel_rfl) rfl #[.agg #[.slice aY aC.length aZ, .int .i64 aE, .int .i64 aF, .bool aG], .string a1, .string a2] rfl (by (try simp only [List.map_toArray, List.map_cons, List.map_nil]); first | done | rfl | (simp only [List.length_drop, List.length_take]; rfl)) ?_; (with_reducible refine (run_Lay.calls k (fun k_ => k_ < w.heap.size) _ _ aC aE aF aG a1 a2 a0 a3 a4 a5 aN _ ?side1 A5.out).mono ?_); (case side1 => exact Kd.V_mk bF.out (Kd.F_below (Kd.C_F k38_heap bE.out) (by repeat (first | (with_reducible first | exact HB.out | apply ba | apply bn | apply bd | refine bs ?_ aH.out) | exact HB.out)))); rintro e eV ⟨eJ, rfl, a8, hb⟩; refine ⟨_, rfl, ?_⟩; have aD := ak (Kd.V_lower (Kd.V_mono (ok' := fun k_ => k_ ≠ aU) a8 (fun k_ hk_ => Or.elim hk_ (fun hs_ => fun e_ => Nat.not_le.2 hs_ (by rw [e_]; exact bO.out)) (fun hn_ => (Kd.freshB (g := aU) (o := .cells #[.slice aY aC.length aZ, .int .i64 aE, .int .i64 aF, .bool aG] 33 (0, 0)) (pk aA.out) k_ hn_)))) (below_size (by repeat (first | (with_reducible first | exact HB.out | apply ba | apply bn | apply bd | refine bs ?_ aH.out) | exact HB.out)))); replace aA := ak (blk_below aA.out hb); replace HB := ak (below_step (by repeat (first | (with_reducible first | exact HB.out | apply ba | apply bn | apply bd | refine bs ?_ aH.out) | exact HB.out)) hb); (try clear hb); (try clear hb2); (try clear hk); (try clear hi); (try clear a8)) | ((with_reducible refine gate_dst (N := 8) rfl ?_); refine box_event ?hg (N := 8) ?hd (cs := #[.slice none 0 0, .int .i64 0, .int .i64 0, .bool false]) (t := 33) ?hr ?_; (case hd => rfl); (case hg => rfl); (case hr => first | (go_simp; done) | (go_simp; rfl)); intro aQ hg eK hbox hb; obtain ⟨n_, aL⟩ := Cb.bx (by repeat (first | (with_reducible first | exact HB.out | apply ba | apply bn | apply bd | refine bs ?_ aH.out) | exact HB.out)) hg hb; have bV := aL; obtain ⟨aV, bH⟩ := Cb.nb hg aA.out; have aB := ak (hbox); replace aD := ak (Kd.V_below (Kd.V_elderB (pV aD.out) aQ (Nat.le_of_eq hg.symm)) hb); replace aA := ak (blk_below aA.out hb); replace HB := n_; clear n_; clear hb hbox hg; obtain ⟨bQ, bR, d0⟩ := Kd.V_slice aD.out; subst d0; have eA := bH.out; have eB := aV.out; obtain ⟨b9, cA, cB, cC⟩ := Cb.c4 aB.out; obtain ⟨cD, cE, cF, cG⟩ := Cb.f4 aB.out) | ((with_reducible refine gate_store (t := 33) (p := 8) rfl ?_); refine store_event (t := 33) (p := 8) (v := ?vo_w23) (w1 := ((((eK.setCell ⟨aQ, 0, none⟩ (.slice bQ a0.length bR)).setCell ⟨aQ, 1, none⟩ (.int .i64 a3)).setCell ⟨aQ, 2, none⟩ (.int .i64 a4)).setCell ⟨aQ, 3, none⟩ (.bool a5))) ?hg ?ho ?hn ?hr ?_; (case ho => rfl); (case hg => rfl); (case hn => rfl); (case hr => first | (go_simp; done) | (go_simp; rfl)); intro eW hw; replace aD := vf4 hw aD.out fun _ hk => hk.2; replace aA := bf4 hw aV.out aA.out; replace aB := bp4 hw aB.out; replace HB := bw4 hw HB.out aL.out; clear hw; obtain ⟨cH, cI, cJ, cK⟩ := Cb.c4 aA.out; obtain ⟨cL, cM, cN, cO⟩ := Cb.f4 aA.out) | ((with_reducible refine gate_callee (f := 18) rfl ?_); refine goesL_ (some 29) rfl rfl Try.func18 (by kernel_rfl) rfl #[.agg #[.slice aY aC.length aZ, .int .i64 aE, .int .i64 aF, .bool aG], .string a1, .string a2] rfl (by (try simp only [List.map_toArray, List.map_cons, List.map_nil]); first | done | rfl | (simp only [List.length_drop, List.length_take]; rfl)) ?_; (with_reducible refine (stanchionref06_Lay.calls k (fun k_ => k_ < w.heap.size) _ _ aC aE aF aG a1 a2 a9 bA bB bC aP _ ?side1 A6.out).mono ?_); (case side1 => exact Kd.V_mk bF.out (Kd.F_below (Kd.C_F k38_heap bE.out) (by repeat (first | (with_reducible first | exact HB.out | apply ba | apply bn | apply bd | refine bs ?_ aH.out | refine bs ?_ aL.out) | exact HB.out)))); rintro e eX ⟨eL, rfl, a8, hb⟩; refine ⟨_, rfl, ?_⟩; have aJ := ak (Kd.V_lower (Kd.V_mono (ok' := fun k_ => k_ ≠ aU ∧ k_ ≠ aQ) a8 (fun k_ hk_ => ⟨Or.elim hk_ (fun hs_ => fun e_ => Nat.not_le.2 hs_ (by rw [e_]; exact bO.out)) (fun hn_ => (Kd.freshB (g := aU) (o := .cells #[.slice aY aC.length aZ, .int .i64 aE, .int .i64 aF, .bool aG] 33 (0, 0)) (pk aA.out) k_ hn_)), Or.elim hk_ (fun hs_ => fun e_ => Nat.not_le.2 hs_ (by rw [e_]; exact bV.out)) (fun hn_ => (Kd.freshB (g := aQ) (o := .cells #[.slice bQ a0.length bR, .int .i64 a3, .int .i64 a4, .bool a5] 33 (0, 0)) (pk aB.out) k_ hn_))⟩)) (below_size (by repeat (first | (with_reducible first | exact HB.out | apply ba | apply bn | apply bd | refine bs ?_ aH.out | refine bs ?_ aL.out) | exact HB.out)))); replace aD := ak (Kd.V_below (pV aD.out) hb); replace aA := ak (blk_below aA.out hb); replace aB := ak (blk_below aB.out hb); replace HB := ak (below_step (by repeat (first | (with_reducible first | exact HB.out | apply ba | apply bn | apply bd | refine bs ?_ aH.out | refine bs ?_ aL.out) | exact HB.out)) hb); (try clear hb); (try clear hb2); (try clear hk); (try clear hi); (try clear a8)) | ((with_reducible refine gate_dst (N := 10) rfl ?_); refine box_event ?hg (N := 10) ?hd (cs := #[.slice none 0 0, .int .i64 0, .int .i64 0, .bool false]) (t := 33) ?hr ?_; (case hd => rfl); (case hg => rfl); (case hr => first | (go_simp; done) | (go_simp; rfl)); intro aR hg eM hbox hb; obtain ⟨n_, aS⟩ := Cb.bx (by repeat (first | (with_reducible first | exact HB.out | apply ba | apply bn | apply bd | refine bs ?_ aH.out | refine bs ?_ aL.out) | exact HB.out)) hg hb; have eC := aS; obtain ⟨aW, bI⟩ := Cb.nb hg aA.out; obtain ⟨aX, bJ⟩ := Cb.nb hg aB.out; have aM := ak (hbox); replace aD := ak (Kd.V_below (Kd.V_elderB (pV aD.out) aR (Nat.le_of_eq hg.symm)) hb); replace aJ := ak (Kd.V_below (Kd.V_elderB (pV aJ.out) aR (Nat.le_of_eq hg.symm)) hb); replace aA := ak (blk_below aA.out hb); replace aB := ak (blk_below aB.out hb); replace HB := n_; clear n_; clear hb hbox hg; obtain ⟨bW, bX, d1⟩ := Kd.V_slice aJ.out; subst d1; have eD := bI.out; have eE := aW.out; have eF := bJ.out; have eG := aX.out; obtain ⟨cP, cQ, cR, cS⟩ := Cb.c4 aM.out; obtain ⟨cT, cU, cV, cW⟩ := Cb.f4 aM.out) | ((with_reducible refine gate_store (t := 33) (p := 10) rfl ?_); refine store_event (t := 33) (p := 10) (v := ?vo_w31) (w1 := ((((eM.setCell ⟨aR, 0, none⟩ (.slice bW a9.length bX)).setCell ⟨aR, 1, none⟩ (.int .i64 bA)).setCell ⟨aR, 2, none⟩ (.int .i64 bB)).setCell ⟨aR, 3, none⟩ (.bool bC))) ?hg ?ho ?hn ?hr ?_; (case ho => rfl); (case hg => rfl); (case hn => rfl); (case hr => first | (go_simp; done) | (go_simp; rfl)); intro eY hw; replace aD := vg4 (ok' := fun k_ => k_ ≠ aU ∧ k_ ≠ aQ ∧ k_ ≠ aR) hw aD.out (fun _ hk => hk.2) fun _ hk => ⟨hk.1.1, ⟨hk.1.2, hk.2⟩⟩; replace aJ := vg4 (ok' := fun k_ => k_ ≠ aU ∧ k_ ≠ aQ ∧ k_ ≠ aR) hw aJ.out (fun _ hk => hk.2) fun _ hk => ⟨hk.1.1, ⟨hk.1.2, hk.2⟩⟩; replace aA := bf4 hw aW.out aA.out; replace aB := bf4 hw aX.out aB.out; replace aM := bp4 hw aM.out; replace HB := bw4 hw HB.out aS.out; clear hw; obtain ⟨cX, cY, cZ, c0⟩ := Cb.c4 aA.out; obtain ⟨c3, c5, dA, dB⟩ := Cb.f4 aA.out) | ((with_reducible refine gate_callee (f := 19) rfl ?_); refine goesL_ (some 35) rfl rfl Try.func19 (by kernel_rfl) rfl #[.agg #[.slice aY aC.length aZ, .int .i64 aE, .int .i64 aF, .bool aG], .string a1] rfl (by (try simp only [List.map_toArray, List.map_cons, List.map_nil]); first | done | rfl | (simp only [List.length_drop, List.length_take]; rfl)) ?_; (with_reducible refine (run_Load.calls k _ _ aC aE aF aG a1 bG a6 _ ?side1 ?side2 A7.out).mono ?_); (case side1 => repeat (first | exact (Kd.C_below bE.out HB.out) | (with_reducible refine Kd.C_alloc ?_ _) | (with_reducible refine Kd.C_drewN ?_ _) | (with_reducible refine Kd.C_drew ?_))); (case side2 => exact bF.out); rintro e eZ ⟨eN, rfl, a8, hb⟩; refine ⟨_, rfl, ?_⟩; have aT := ak (Kd.R_lower a8 (below_size (by repeat (first | (with_reducible first | exact HB.out | apply ba | apply bn | apply bd | refine bs ?_ aH.out | refine bs ?_ aL.out | refine bs ?_ aS.out) | exact HB.out)))); replace aD := ak (Kd.V_elder' (pV aD.out) (Kd.R_base a8) hb); replace aJ := ak (Kd.V_elder' (pV aJ.out) (Kd.R_base a8) hb); replace aA := ak (blk_below aA.out hb); replace aB := ak (blk_below aB.out hb); replace aM := ak (blk_below aM.out hb); replace HB := ak (below_step (by repeat (first | (with_reducible first | exact HB.out | apply ba | apply bn | apply bd | refine bs ?_ aH.out | refine bs ?_ aL.out | refine bs ?_ aS.out) | exact HB.out)) hb); (try clear hb); (try clear hb2); (try clear hk); (try clear hi); (try clear a8); obtain ⟨dC, dD, dE, dF⟩ := Cb.c4 aA.out; obtain ⟨dG, dH, dI, dJ⟩ := Cb.f4 aA.out) | ((with_reducible refine gate_callee (f := 20) rfl ?_); refine goesL_ (some 41) rfl rfl Try.func20 (by kernel_rfl) rfl #[.agg #[.slice aY aC.length aZ, .int .i64 aE, .int .i64 aF, .bool aG], .string a1] rfl (by (try simp only [List.map_toArray, List.map_cons, List.map_nil]); first | done | rfl | (simp only [List.length_drop, List.length_take]; rfl)) ?_; (with_reducible refine (stanchionref06_Load.calls k _ _ aC aE aF aG a1 bK bD _ ?side1 ?side2 A8.out).mono ?_); (case side1 => repeat (first | exact (Kd.C_below bE.out HB.out) | (with_reducible refine Kd.C_alloc ?_ _) | (with_reducible refine Kd.C_drewN ?_ _) | (with_reducible refine Kd.C_drew ?_))); (case side2 => exact bF.out); rintro e e0 ⟨eO, rfl, a8, hb⟩; refine ⟨_, rfl, ?_⟩; have a7 := ak (Kd.R_lower (Kd.R_new' a8 (Kd.R_lt (pR aT.out))) (below_size (by repeat (first | (with_reducible first | exact HB.out | apply ba | apply bn | apply bd | refine bs ?_ aH.out | refine bs ?_ aL.out | refine bs ?_ aS.out) | exact HB.out)))); replace aD := ak (Kd.V_elder' (pV aD.out) (Kd.R_base a8) hb); replace aJ := ak (Kd.V_elder' (pV aJ.out) (Kd.R_base a8) hb); replace aT := ak (Kd.R_elder' (pR aT.out) (Kd.R_base a8) hb); replace aA := ak (blk_below aA.out hb); replace aB := ak (blk_below aB.out hb); replace aM := ak (blk_below aM.out hb); replace HB := ak (below_step (by repeat (first | (with_reducible first | exact HB.out | apply ba | apply bn | apply bd | refine bs ?_ aH.out | refine bs ?_ aL.out | refine bs ?_ aS.out) | exact HB.out)) hb); (try clear hb); (try clear hb2); (try clear hk); (try clear hi); (try clear a8); obtain ⟨dK, dL, dM, dN⟩ := Cb.c4 aB.out; obtain ⟨dO, dP, dQ, dR⟩ := Cb.f4 aB.out; obtain ⟨dS, dT, dU, dV⟩ := Cb.c4 aM.out; obtain ⟨dW, dX, dY, dZ⟩ := Cb.f4 aM.out) | ((with_reducible refine gate_callee (f := 21) rfl ?_); refine goesL_ (some 46) rfl rfl Try.func21 (by kernel_rfl) rfl #[.agg #[.slice bQ a0.length bR, .int .i64 a3, .int .i64 a4, .bool a5], .agg #[.slice bW a9.length bX, .int .i64 bA, .int .i64 bB, .bool bC]] rfl (by (try simp only [List.map_toArray, List.map_cons, List.map_nil]); first | done | rfl | (simp only [List.length_drop, List.length_take]; rfl)) ?_; (with_reducible refine (stanchionref03_Same.calls k _ _ a0 a3 a4 a5 _ _ a9 bA bB bC true _ ?side1 ?side2 ?side3 ?side4 A9.out).mono ?_); (case side1 => repeat (first | exact (Kd.V_reads' aD.out).2.2 | (with_reducible refine Kd.C_alloc ?_ _) | (with_reducible refine Kd.C_drewN ?_ _) | (with_reducible refine Kd.C_drew ?_))); (case side2 => exact (Kd.V_reads' aD.out).2.1); (case side3 => repeat (first | exact (Kd.V_reads' aJ.out).2.2 | (with_reducible refine Kd.C_alloc ?_ _) | (with_reducible refine Kd.C_drewN ?_ _) | (with_reducible refine Kd.C_drew ?_))); (case side4 => exact (Kd.V_reads' aJ.out).2.1); rintro e e1 ⟨rfl, hb⟩; refine ⟨_, rfl, ?_⟩; replace aD := ak (Kd.V_below (pV aD.out) hb); replace aJ := ak (Kd.V_below (pV aJ.out) hb); replace aT := ak (Kd.R_below (pR aT.out) hb); replace a7 := ak (Kd.R_below (pR a7.out) hb); replace aA := ak (blk_below aA.out hb); replace aB := ak (blk_below aB.out hb); replace aM := ak (blk_below aM.out hb); replace HB := ak (below_step (by repeat (first | (with_reducible first | exact HB.out | apply ba | apply bn | apply bd | refine bs ?_ aH.out | refine bs ?_ aL.out | refine bs ?_ aS.out) | exact HB.out)) hb); (try clear hb); (try clear hb2); (try clear hk); (try clear hi); obtain ⟨eP, eQ, d2⟩ := Kd.R_slice aT.out; subst d2; obtain ⟨eR, eS, d3⟩ := Kd.R_slice a7.out; subst d3) | (go_at_call 13; (with_reducible refine (stanchionref05_Same.calls k _ _ bG _ _ bK true _ ?side1 ?side2 ?side3 ?side4 eI.out).mono ?_); (case side1 => repeat (first | exact (Kd.R_reads' aT.out).2.2 | (with_reducible refine Kd.C_alloc ?_ _) | (with_reducible refine Kd.C_drewN ?_ _) | (with_reducible refine Kd.C_drew ?_))); (case side2 => exact (Kd.R_reads' aT.out).2.1); (case side3 => repeat (first | exact (Kd.R_reads' a7.out).2.2 | (with_reducible refine Kd.C_alloc ?_ _) | (with_reducible refine Kd.C_drewN ?_ _) | (with_reducible refine Kd.C_drew ?_))); (case side4 => exact (Kd.R_reads' a7.out).2.1); rintro e w' ⟨rfl, ⟨nd, rfl⟩⟩))
     first | go_ret | ((try simp only [Exit.inBlock, Exit.then]); refine bodyPost_ret (results_tmp rfl _ _ _) ?hd_ ?hR_; (case hd_ => rfl))
     exact ⟨by first | rfl | (simp [errW_none, errW_some] <;> rfl) | (simp [*, errW_none, errW_some] <;> rfl), by repeat (first | (with_reducible first | exact HB.out | apply ba | apply bn | apply bd | refine bs ?_ aH.out | refine bs ?_ aL.out | refine bs ?_ aS.out) | exact HB.out)⟩
    ·rw [if_neg bP] at H
     have bT : (aN == aP) = false := beq_eq_false_iff_ne.mpr bP
     have bU : (aN != aP) = true := bne_iff_ne.mpr bP
     obtain rfl := Option.some.inj H
     exact absurd hr_ (by decide)
   ·replace b0 := Bool.eq_false_iff.mpr b0
    subst b0
    have H1 : (some false) = some r := by rw [if_neg (show ¬ (false = true) by decide)] at H; exact H
    clear H
    have H := H1
    clear H1
    obtain rfl := Option.some.inj H
    exact absurd hr_ (by decide)
  ·replace bZ := Bool.eq_false_iff.mpr bZ
   subst bZ
   have H1 : (some false) = some r := by rw [if_neg (show ¬ (false = true) by decide)] at H; exact H
   clear H
   have H := H1
   clear H1
   obtain rfl := Option.some.inj H
   exact absurd hr_ (by decide)
 ·replace bY := Bool.eq_false_iff.mpr bY
  subst bY
  have H1 : (if aI = true then (some false) else (some false)) = some r := by rw [if_neg (show ¬ (false = true) by decide)] at H; exact H
  clear H
  have H := H1
  clear H1
  by_cases bL : aI = true
  ·subst bL
   have H1 : (some false) = some r := by rw [if_pos rfl] at H; exact H
   clear H
   have H := H1
   clear H1
   obtain rfl := Option.some.inj H
   exact absurd hr_ (by decide)
  ·replace bL := Bool.eq_false_iff.mpr bL
   subst bL
   have H1 : (some false) = some r := by rw [if_neg (show ¬ (false = true) by decide)] at H; exact H
   clear H
   have H := H1
   clear H1
   obtain rfl := Option.some.inj H
   exact absurd hr_ (by decide)

end Go.Proofs.Ytbhkopbalhhpgaa.PY
