-- Made by a program of this workplace out of the translation (wip/tools in the repo). Not trusted: Lean checks it.
import Derived.Test.YtbhkopbalhhpgaaPYx0
import Derived.Test.YtbhkopbalhhpgaaCb
import Derived.Test.YtbhkopbalhhpgaaSq
import Derived.Test.YtbhkopbalhhpgaaSt
import Derived.Test.YtbhkopbalhhpgaaPYx2
import Derived.Test.YtbhkopbalhhpgaaPYx3
import Derived.Test.YtbhkopbalhhpgaaPYx5
import Derived.Test.YtbhkopbalhhpgaaPYx6
import Derived.Test.YtbhkopbalhhpgaaPYx7
namespace Go.Proofs.Ytbhkopbalhhpgaa.PY
open Go.RowKit Go.Proofs.YtbhkopbalhhpgaaW.PrintWords Go.Proofs.YtbhkopbalhhpgaaW.PrintLast Go.Proofs.YtbhkopbalhhpgaaW.PrintMore Go.Proofs.Ytbhkopbalhhpgaa
attribute [local go_sem] max2_int min2_int max_two min_two max_three min_three max_four min_four   -- for this text's walks alone
set_option linter.unusedVariables false
set_option linter.unusedSimpArgs false

attribute [local go_sem high] eqA62
/-! ### run_Take: function 12 -/
set_option maxHeartbeats 8000000 in
set_option maxRecDepth 100000 in
theorem run_Take.calls (k : Nat) (a0 : ByteArray) (r1 : List (S62)) (r2 : Int) (w : World) (h : run_Take.f k a0 = some (r1, r2)) :
  Calls Try.prog 12 #[.string a0] w fun e w' => ∃ v0_ : Value, e = .returned (.tuple #[v0_, .int .i64 r2]) ∧ Kd.R k62 62 w' w.heap.size (fun _ => True) v0_ r1 ∧ Below w.heap.size w w' := by
 have cV := Try.underlying62
 have HB := ak (Below.refl w.heap.size w)
 have H : ((sum_Open.f k a0 1073741824).bind fun bt129 => ((dec_TakeNum.f k bt129.1).bind fun bt132 => (if bt129.2.2 = 0 then (if bt132.2.2 = 0 then (run_Take.j0 k bt132.2.1 bt132.1 (bt129.2.1.toList != ([] : List UInt8))) else (run_Take.j0 k bt132.2.1 bt132.1 true)) else (run_Take.j0 k bt132.2.1 bt132.1 true)))) = some (r1, r2) := h
 clear h
 replace H := Option.bind_eq_some_iff.mp H
 obtain ⟨⟨aY, aZ, aN⟩, cO, H⟩ := H
 replace H : ((dec_TakeNum.f k aY).bind fun bt132 => (if aN = 0 then (if bt132.2.2 = 0 then (run_Take.j0 k bt132.2.1 bt132.1 (aZ.toList != ([] : List UInt8))) else (run_Take.j0 k bt132.2.1 bt132.1 true)) else (run_Take.j0 k bt132.2.1 bt132.1 true))) = some (r1, r2) := H
 have A2 := ak cO
 clear cO
 replace H := Option.bind_eq_some_iff.mp H
 obtain ⟨⟨aE, aT, aU⟩, cP, H⟩ := H
 replace H : (if aN = 0 then (if aU = 0 then (run_Take.j0 k aT aE (aZ.toList != ([] : List UInt8))) else (run_Take.j0 k aT aE true)) else (run_Take.j0 k aT aE true)) = some (r1, r2) := H
 have A3 := ak cP
 clear cP
 have b9 := ak H
 clear H
 go_enter Try.func12, Try.ntmps12
 go_upto_region 1 with (fail)
 refine run_Take.scope_body ?_
 go_upto_region 3 with (first | ((with_reducible refine gate_callee (f := 34) rfl ?_); refine goesL_ (some 16) rfl rfl Try.func34 (by kernel_rfl) rfl #[.string a0, .int .i64 1073741824] rfl (by (try simp only [List.map_toArray, List.map_cons, List.map_nil]); first | done | rfl | (simp only [List.length_drop, List.length_take]; rfl)) ?_; (with_reducible refine (sum_Open.calls k a0 1073741824 aY aZ aN _ A2.out).mono ?_); rintro e w5 ⟨rfl, hb⟩; refine ⟨_, rfl, ?_⟩; replace HB := ak (below_step (pB HB.out) hb); (try clear hb); (try clear hb2); (try clear hk); (try clear hi)) | ((with_reducible refine gate_callee (f := 35) rfl ?_); refine goesL_ (some 22) rfl rfl Try.func35 (by kernel_rfl) rfl #[.string aY] rfl (by (try simp only [List.map_toArray, List.map_cons, List.map_nil]); first | done | rfl | (simp only [List.length_drop, List.length_take]; rfl)) ?_; (with_reducible refine (dec_TakeNum.calls k aY aE aT aU _ A3.out).mono ?_); rintro e w' ⟨rfl, ⟨nd, rfl⟩⟩; refine ⟨_, rfl, ?_⟩))
 (try simp only [Act.put, List.setIfInBounds_toArray, List.set_cons_zero, List.set_cons_succ])
 go_cut [35] (fun v35 wc => ∃ (kq : Nat) (aW : Bool), v35 = .bool aW ∧ Aside0 (run_Take.j0 kq aT aE aW = some (r1, r2)) ∧ Aside0 (kq ≤ k) ∧ Aside0 (Below w.heap.size w wc))
 case first =>
  have H := b9.out
  clear b9
  by_cases c6 : aN = 0
  ·rw [if_pos c6] at H
   have aV : (aN == 0) = true := beq_iff_eq.mpr c6
   have a4 : (aN != 0) = false := bne_eq_false_iff_eq.mpr c6
   clear c6
   (first | rw [aV] | (simp only [i64_w, i32_w]; rw [aV]) | skip)
   by_cases c7 : aU = 0
   ·rw [if_pos c7] at H
    have a5 : (aU == 0) = true := beq_iff_eq.mpr c7
    have a6 : (aU != 0) = false := bne_eq_false_iff_eq.mpr c7
    clear c7
    have H' := ak H
    clear H
    go_wp2
    go_meet
    case rel => exact ⟨_, ((aZ.toList != ([] : List UInt8))), (by first | rfl | (simp; done) | (simp [*]; done) | (simp only [Value.bool.injEq]; generalize ByteArray.toList _ = q_; cases q_ <;> rfl) | (generalize ByteArray.toList _ = q_; cases q_ <;> rfl)), H', ⟨by first | omega | exact Nat.le_refl _⟩, ⟨pB HB.out⟩⟩
   ·rw [if_neg c7] at H
    have a5 : (aU == 0) = false := beq_eq_false_iff_ne.mpr c7
    have a6 : (aU != 0) = true := bne_iff_ne.mpr c7
    have H' := ak H
    clear H
    go_wp2
    go_meet
    case rel => exact ⟨_, (true), (by first | rfl | (simp; done) | (simp [*]; done) | (simp only [Value.bool.injEq]; generalize ByteArray.toList _ = q_; cases q_ <;> rfl) | (generalize ByteArray.toList _ = q_; cases q_ <;> rfl)), H', ⟨by first | omega | exact Nat.le_refl _⟩, ⟨pB HB.out⟩⟩
  ·rw [if_neg c6] at H
   have aV : (aN == 0) = false := beq_eq_false_iff_ne.mpr c6
   have a4 : (aN != 0) = true := bne_iff_ne.mpr c6
   (first | rw [aV] | (simp only [i64_w, i32_w]; rw [aV]) | skip)
   have H' := ak H
   clear H
   go_wp2
   go_meet
   case rel => exact ⟨_, (true), (by first | rfl | (simp; done) | (simp [*]; done) | (simp only [Value.bool.injEq]; generalize ByteArray.toList _ = q_; cases q_ <;> rfl) | (generalize ByteArray.toList _ = q_; cases q_ <;> rfl)), H', ⟨by first | omega | exact Nat.le_refl _⟩, ⟨pB HB.out⟩⟩
 case rest =>
  clear b9
  try clear c1 p2 c3 c6 aV a4 c7 a5 a6
  obtain ⟨kq, aW, rfl, HA, cQ, HB⟩ := hcut
  cases kq with
  | zero => exact absurd HA.out (by simp [run_Take.j0])
  | succ kj3 =>
   have H := HA.out
   clear HA
   simp only [run_Take.j0] at H
   by_cases c8 : aW = true
   ·subst c8
    have H1 : (some (([] : List (S62)), 3)) = some (r1, r2) := by rw [if_pos rfl] at H; exact H
    clear H
    have H := H1
    clear H1
    simp only [Option.some.injEq, Prod.mk.injEq] at H
    obtain ⟨rfl, rfl⟩ := H
    go_wp2
    go_ret2
    exact ⟨_, by first | rfl | (simp [errW_none, errW_some] <;> rfl) | (simp [*, errW_none, errW_some] <;> rfl), by first | exact Kd.R_nil _ _ _ _ _ | exact Kd.N_nil _ _ _ _ _ | exact Kd.V_nil _ _ _ _ _ | exact Kd.Q_nil _ _ _ _ _ | exact Kd.S_nil _ _ _ _ _, pB HB.out⟩
   ·replace c8 := Bool.eq_false_iff.mpr c8
    subst c8
    have H1 : (run_Take.l0 kj3 aT aE ([] : List (S62)) aE 0) = some (r1, r2) := by rw [if_neg (show ¬ (false = true) by decide)] at H; exact H
    clear H
    have H := H1
    clear H1
    have H' := ak H
    clear H
    go_wp2
    refine wp_label ?_
    go_wp2
    go_loopg [4, 9, 37] kj3 (fun kq v4 v9 v37 w' => ∃ (aD : ByteArray) (aA : List (S62)) (aH : Int), v4 = .string aD ∧ v37 = .int .u64 aH ∧ Aside0 (run_Take.l0 kq aD aE aA aE aH = some (r1, r2)) ∧ Aside0 (kq ≤ kj3) ∧ Aside0 (Kd.R k62 62 w' w.heap.size (fun _ => True) v9 aA) ∧ Aside0 (Below w.heap.size w w'))
    case atStart => exact ⟨(aT), (([] : List (S62))), (0), (by first | rfl | (simp; done) | (simp [*]; done)), (by first | rfl | (simp; done) | (simp [*]; done)), H', ⟨Nat.le_refl _⟩, ⟨by first | exact Kd.R_nil _ _ _ _ _ | exact Kd.N_nil _ _ _ _ _ | exact Kd.V_nil _ _ _ _ _ | exact Kd.Q_nil _ _ _ _ _ | exact Kd.S_nil _ _ _ _ _⟩, ⟨pB HB.out⟩⟩
    case round =>
     clear H'
     try clear c1 p2 c3 c6 aV a4 c7 a5 a6 c8 p2
     obtain ⟨aD, aA, aH, rfl, rfl, HA, cR, aC, HB⟩ := hrel
     cases gk with
     | zero => exact absurd HA.out (by simp [run_Take.l0])
     | succ k2 =>
      have H := HA.out
      clear HA
      simp only [run_Take.l0] at H
      by_cases c9 : aH < aE
      ·rw [if_pos c9] at H
       have cA : decide (aH < aE) = true := decide_eq_true c9
       clear c9
       replace H := Option.bind_eq_some_iff.mp H
       obtain ⟨⟨aI, aG, aJ⟩, bF, H⟩ := H
       replace H : (if aJ = 0 then ((dec_TakeText.f k2 aG 65536).bind fun bt139 => (if bt139.2.2 = 0 then (if aA.length < 4398046511104 then (run_Take.l0 k2 bt139.2.1 aE (aA ++ [(⟨aI, bt139.1⟩ : S62)]) aE (IntKind.u64.wrap (aH + 1))) else (none)) else (if (IntKind.u64.wrap ((aA.length : Int))) = aE then (if aD.toList = ([] : List UInt8) then ((run_may.f k2 aA).bind fun aX => (if aX = true then (some (aA, 0)) else (some (([] : List (S62)), 3)))) else (some (([] : List (S62)), 3))) else (some (([] : List (S62)), 3))))) else (if (IntKind.u64.wrap ((aA.length : Int))) = aE then (if aD.toList = ([] : List UInt8) then ((run_may.f k2 aA).bind fun a2 => (if a2 = true then (some (aA, 0)) else (some (([] : List (S62)), 3)))) else (some (([] : List (S62)), 3))) else (some (([] : List (S62)), 3)))) = some (r1, r2) := H
       have a3 := ak bF
       clear bF
       by_cases a7 : aJ = 0
       ·rw [if_pos a7] at H
        have bG : (aJ == 0) = true := beq_iff_eq.mpr a7
        have bH : (aJ != 0) = false := bne_eq_false_iff_eq.mpr a7
        clear a7
        replace H := Option.bind_eq_some_iff.mp H
        obtain ⟨⟨aM, aQ, aK⟩, bI, H⟩ := H
        replace H : (if aK = 0 then (if aA.length < 4398046511104 then (run_Take.l0 k2 aQ aE (aA ++ [(⟨aI, aM⟩ : S62)]) aE (IntKind.u64.wrap (aH + 1))) else (none)) else (if (IntKind.u64.wrap ((aA.length : Int))) = aE then (if aD.toList = ([] : List UInt8) then ((run_may.f k2 aA).bind fun aX => (if aX = true then (some (aA, 0)) else (some (([] : List (S62)), 3)))) else (some (([] : List (S62)), 3))) else (some (([] : List (S62)), 3)))) = some (r1, r2) := H
        have bJ := ak bI
        clear bI
        by_cases a8 : aK = 0
        ·rw [if_pos a8] at H
         have bK : (aK == 0) = true := beq_iff_eq.mpr a8
         have bL : (aK != 0) = false := bne_eq_false_iff_eq.mpr a8
         clear a8
         have b5 : aA.length < 4398046511104 := Decidable.byContradiction fun q => by rw [if_neg q] at H; exact absurd H (by simp)
         rw [if_pos b5] at H
         have bM := ak b5
         clear b5
         obtain ⟨y142, hy142⟩ : ∃ y_ : List (S62), y_ = (aA ++ [(⟨aI, aM⟩ : S62)]) := ⟨_, rfl⟩
         replace H : (run_Take.l0 k2 aQ aE y142 aE (IntKind.u64.wrap (aH + 1))) = some (r1, r2) := by first | (rw [hy142]; with_reducible exact H) | (have cB := (Option.bind_some _ _).symm.trans H; rw [hy142]; with_reducible exact cB) | (have cB := (Option.bind_some _ _).symm.trans H; with_reducible exact cB) | with_reducible exact H | (rw [hy142]; exact H) | exact H
         have bN := ak hy142
         clear hy142
         have H' := ak H
         clear H
         go_wp2_with (first | ((with_reducible refine gate_callee (f := 36) rfl ?_); refine goesL_ (some 41) rfl rfl Try.func36 (by kernel_rfl) rfl #[.string aD, .int .i64 65536] rfl (by (try simp only [List.map_toArray, List.map_cons, List.map_nil]); first | done | rfl | (simp only [List.length_drop, List.length_take]; rfl)) ?_; (with_reducible refine (dec_TakeText.calls k2 aD 65536 aI aG aJ _ a3.out).mono ?_); rintro e w' ⟨rfl, ⟨nd, rfl⟩⟩; refine ⟨_, rfl, ?_⟩) | ((with_reducible refine gate_callee (f := 36) rfl ?_); refine goesL_ (some 49) rfl rfl Try.func36 (by kernel_rfl) rfl #[.string aG, .int .i64 65536] rfl (by (try simp only [List.map_toArray, List.map_cons, List.map_nil]); first | done | rfl | (simp only [List.length_drop, List.length_take]; rfl)) ?_; (with_reducible refine (dec_TakeText.calls k2 aG 65536 aM aQ aK _ bJ.out).mono ?_); rintro e w' ⟨rfl, ⟨nd, rfl⟩⟩; refine ⟨_, rfl, ?_⟩) | ((with_reducible refine gate_builtin (b := .append) (xs := #[.tmp 55, .tmp 59]) rfl ?_); at_builtin; refine Kd.R_append k62 (w0 := w) w.heap.size rfl (.tmp 55) (.tmp 59) 22 62 (.agg #[(.string ⟨#[]⟩), (.string ⟨#[]⟩)]) 32 rfl Try.underlying22 info62 rfl (by decide) (by omega) u9 aA (⟨aI, aM⟩ : S62) [.string aI, .string aM] (fun _ => True) (fun _ => False) rfl rfl ?aP (fun _ hk => hk.elim) ?aF ?aO ?aB ?aS ?aL ?_; (case aP => exact k62_mkM _ _ _ (⟨aI, aM⟩ : S62)); (case aB => exact (pB HB.out)); (case aF => exact (fun _ _ => trivial)); (case aO => exact (pR aC.out)); (case aS => exact (below_size (pB HB.out))); (case aL => have := bM.out; omega); intro cW dV ho hb hg hat; rw [← bN.out] at ho; have n0_ := ak (hb); have n1_ := ak (ho); clear HB; clear aC; have HB := n0_; have bO := n1_; clear n0_ n1_; clear ho hb hg hat))
         go_roundg k2
         case measure => have := cQ.out; have := cR.out; omega
         case rel => exact ⟨(aQ), (y142), (IntKind.u64.wrap (aH + 1)), (by first | rfl | (simp; done) | (simp [*]; done)), (by first | rfl | (simp; done) | (simp [*]; done)), H', ⟨by have := cQ.out; have := cR.out; omega⟩, ⟨pR bO.out⟩, ⟨pB HB.out⟩⟩
        ·rw [if_neg a8] at H
         have bK : (aK == 0) = false := beq_eq_false_iff_ne.mpr a8
         have bL : (aK != 0) = true := bne_iff_ne.mpr a8
         by_cases a9 : (IntKind.u64.wrap ((aA.length : Int))) = aE
         ·rw [if_pos a9] at H
          have bP : ((IntKind.u64.wrap ((aA.length : Int))) == aE) = true := beq_iff_eq.mpr a9
          have bQ : ((IntKind.u64.wrap ((aA.length : Int))) != aE) = false := bne_eq_false_iff_eq.mpr a9
          clear a9
          by_cases bA : aD.toList = ([] : List UInt8)
          ·rw [if_pos bA] at H
           have bR : (aD.toList == ([] : List UInt8)) = true := beq_iff_eq.mpr bA
           have bS : (aD.toList != ([] : List UInt8)) = false := bne_eq_false_iff_eq.mpr bA
           clear bA
           replace H := Option.bind_eq_some_iff.mp H
           obtain ⟨aX, bT, H⟩ := H
           replace H : (if aX = true then (some (aA, 0)) else (some (([] : List (S62)), 3))) = some (r1, r2) := H
           have cS := ak bT
           clear bT
           by_cases b6 : aX = true
           ·subst b6
            have H1 : (some (aA, 0)) = some (r1, r2) := by rw [if_pos rfl] at H; exact H
            clear H
            have H := H1
            clear H1
            simp only [Option.some.injEq, Prod.mk.injEq] at H
            obtain ⟨rfl, rfl⟩ := H
            go_wp2_with (first | ((with_reducible refine gate_callee (f := 36) rfl ?_); refine goesL_ (some 41) rfl rfl Try.func36 (by kernel_rfl) rfl #[.string aD, .int .i64 65536] rfl (by (try simp only [List.map_toArray, List.map_cons, List.map_nil]); first | done | rfl | (simp only [List.length_drop, List.length_take]; rfl)) ?_; (with_reducible refine (dec_TakeText.calls k2 aD 65536 aI aG aJ _ a3.out).mono ?_); rintro e w' ⟨rfl, ⟨nd, rfl⟩⟩; refine ⟨_, rfl, ?_⟩) | ((with_reducible refine gate_callee (f := 36) rfl ?_); refine goesL_ (some 49) rfl rfl Try.func36 (by kernel_rfl) rfl #[.string aG, .int .i64 65536] rfl (by (try simp only [List.map_toArray, List.map_cons, List.map_nil]); first | done | rfl | (simp only [List.length_drop, List.length_take]; rfl)) ?_; (with_reducible refine (dec_TakeText.calls k2 aG 65536 aM aQ aK _ bJ.out).mono ?_); rintro e w' ⟨rfl, ⟨nd, rfl⟩⟩; refine ⟨_, rfl, ?_⟩; obtain ⟨cX, cY, cC⟩ := Kd.R_slice aC.out; subst cC) | (go_at_call 28; (with_reducible refine (run_may.calls k2 _ _ aA true _ ?side1 ?side2 cS.out).mono ?_); (case side1 => repeat (first | exact (Kd.R_reads' aC.out).2.2 | (with_reducible refine Kd.C_alloc ?_ _) | (with_reducible refine Kd.C_drewN ?_ _) | (with_reducible refine Kd.C_drew ?_))); (case side2 => exact (Kd.R_reads' aC.out).2.1); rintro e dW ⟨rfl, hb⟩; replace aC := ak (Kd.R_below (pR aC.out) hb); replace HB := ak (below_step (pB HB.out) hb); (try clear hb); (try clear hb2); (try clear hk); (try clear hi)))
            go_ret2
            exact ⟨_, by first | rfl | (simp [errW_none, errW_some] <;> rfl) | (simp [*, errW_none, errW_some] <;> rfl), pR aC.out, pB HB.out⟩
           ·replace b6 := Bool.eq_false_iff.mpr b6
            subst b6
            have H1 : (some (([] : List (S62)), 3)) = some (r1, r2) := by rw [if_neg (show ¬ (false = true) by decide)] at H; exact H
            clear H
            have H := H1
            clear H1
            simp only [Option.some.injEq, Prod.mk.injEq] at H
            obtain ⟨rfl, rfl⟩ := H
            go_wp2_with (first | ((with_reducible refine gate_callee (f := 36) rfl ?_); refine goesL_ (some 41) rfl rfl Try.func36 (by kernel_rfl) rfl #[.string aD, .int .i64 65536] rfl (by (try simp only [List.map_toArray, List.map_cons, List.map_nil]); first | done | rfl | (simp only [List.length_drop, List.length_take]; rfl)) ?_; (with_reducible refine (dec_TakeText.calls k2 aD 65536 aI aG aJ _ a3.out).mono ?_); rintro e w' ⟨rfl, ⟨nd, rfl⟩⟩; refine ⟨_, rfl, ?_⟩) | ((with_reducible refine gate_callee (f := 36) rfl ?_); refine goesL_ (some 49) rfl rfl Try.func36 (by kernel_rfl) rfl #[.string aG, .int .i64 65536] rfl (by (try simp only [List.map_toArray, List.map_cons, List.map_nil]); first | done | rfl | (simp only [List.length_drop, List.length_take]; rfl)) ?_; (with_reducible refine (dec_TakeText.calls k2 aG 65536 aM aQ aK _ bJ.out).mono ?_); rintro e w' ⟨rfl, ⟨nd, rfl⟩⟩; refine ⟨_, rfl, ?_⟩; obtain ⟨cZ, dA, cD⟩ := Kd.R_slice aC.out; subst cD) | (go_at_call 28; (with_reducible refine (run_may.calls k2 _ _ aA false _ ?side1 ?side2 cS.out).mono ?_); (case side1 => repeat (first | exact (Kd.R_reads' aC.out).2.2 | (with_reducible refine Kd.C_alloc ?_ _) | (with_reducible refine Kd.C_drewN ?_ _) | (with_reducible refine Kd.C_drew ?_))); (case side2 => exact (Kd.R_reads' aC.out).2.1); rintro e dX ⟨rfl, hb⟩; replace aC := ak (Kd.R_below (pR aC.out) hb); replace HB := ak (below_step (pB HB.out) hb); (try clear hb); (try clear hb2); (try clear hk); (try clear hi)))
            go_ret2
            exact ⟨_, by first | rfl | (simp [errW_none, errW_some] <;> rfl) | (simp [*, errW_none, errW_some] <;> rfl), by first | exact Kd.R_nil _ _ _ _ _ | exact Kd.N_nil _ _ _ _ _ | exact Kd.V_nil _ _ _ _ _ | exact Kd.Q_nil _ _ _ _ _ | exact Kd.S_nil _ _ _ _ _, pB HB.out⟩
          ·rw [if_neg bA] at H
           have bR : (aD.toList == ([] : List UInt8)) = false := beq_eq_false_iff_ne.mpr bA
           have bS : (aD.toList != ([] : List UInt8)) = true := bne_iff_ne.mpr bA
           simp only [Option.some.injEq, Prod.mk.injEq] at H
           obtain ⟨rfl, rfl⟩ := H
           go_wp2_with (first | ((with_reducible refine gate_callee (f := 36) rfl ?_); refine goesL_ (some 41) rfl rfl Try.func36 (by kernel_rfl) rfl #[.string aD, .int .i64 65536] rfl (by (try simp only [List.map_toArray, List.map_cons, List.map_nil]); first | done | rfl | (simp only [List.length_drop, List.length_take]; rfl)) ?_; (with_reducible refine (dec_TakeText.calls k2 aD 65536 aI aG aJ _ a3.out).mono ?_); rintro e w' ⟨rfl, ⟨nd, rfl⟩⟩; refine ⟨_, rfl, ?_⟩) | ((with_reducible refine gate_callee (f := 36) rfl ?_); refine goesL_ (some 49) rfl rfl Try.func36 (by kernel_rfl) rfl #[.string aG, .int .i64 65536] rfl (by (try simp only [List.map_toArray, List.map_cons, List.map_nil]); first | done | rfl | (simp only [List.length_drop, List.length_take]; rfl)) ?_; (with_reducible refine (dec_TakeText.calls k2 aG 65536 aM aQ aK _ bJ.out).mono ?_); rintro e w' ⟨rfl, ⟨nd, rfl⟩⟩; refine ⟨_, rfl, ?_⟩; obtain ⟨dB, dC, cE⟩ := Kd.R_slice aC.out; subst cE))
           go_ret2
           exact ⟨_, by first | rfl | (simp [errW_none, errW_some] <;> rfl) | (simp [*, errW_none, errW_some] <;> rfl), by first | exact Kd.R_nil _ _ _ _ _ | exact Kd.N_nil _ _ _ _ _ | exact Kd.V_nil _ _ _ _ _ | exact Kd.Q_nil _ _ _ _ _ | exact Kd.S_nil _ _ _ _ _, pB HB.out⟩
         ·rw [if_neg a9] at H
          have bP : ((IntKind.u64.wrap ((aA.length : Int))) == aE) = false := beq_eq_false_iff_ne.mpr a9
          have bQ : ((IntKind.u64.wrap ((aA.length : Int))) != aE) = true := bne_iff_ne.mpr a9
          simp only [Option.some.injEq, Prod.mk.injEq] at H
          obtain ⟨rfl, rfl⟩ := H
          go_wp2_with (first | ((with_reducible refine gate_callee (f := 36) rfl ?_); refine goesL_ (some 41) rfl rfl Try.func36 (by kernel_rfl) rfl #[.string aD, .int .i64 65536] rfl (by (try simp only [List.map_toArray, List.map_cons, List.map_nil]); first | done | rfl | (simp only [List.length_drop, List.length_take]; rfl)) ?_; (with_reducible refine (dec_TakeText.calls k2 aD 65536 aI aG aJ _ a3.out).mono ?_); rintro e w' ⟨rfl, ⟨nd, rfl⟩⟩; refine ⟨_, rfl, ?_⟩) | ((with_reducible refine gate_callee (f := 36) rfl ?_); refine goesL_ (some 49) rfl rfl Try.func36 (by kernel_rfl) rfl #[.string aG, .int .i64 65536] rfl (by (try simp only [List.map_toArray, List.map_cons, List.map_nil]); first | done | rfl | (simp only [List.length_drop, List.length_take]; rfl)) ?_; (with_reducible refine (dec_TakeText.calls k2 aG 65536 aM aQ aK _ bJ.out).mono ?_); rintro e w' ⟨rfl, ⟨nd, rfl⟩⟩; refine ⟨_, rfl, ?_⟩; obtain ⟨dD, dE, cF⟩ := Kd.R_slice aC.out; subst cF))
          go_ret2
          exact ⟨_, by first | rfl | (simp [errW_none, errW_some] <;> rfl) | (simp [*, errW_none, errW_some] <;> rfl), by first | exact Kd.R_nil _ _ _ _ _ | exact Kd.N_nil _ _ _ _ _ | exact Kd.V_nil _ _ _ _ _ | exact Kd.Q_nil _ _ _ _ _ | exact Kd.S_nil _ _ _ _ _, pB HB.out⟩
       ·rw [if_neg a7] at H
        have bG : (aJ == 0) = false := beq_eq_false_iff_ne.mpr a7
        have bH : (aJ != 0) = true := bne_iff_ne.mpr a7
        by_cases bB : (IntKind.u64.wrap ((aA.length : Int))) = aE
        ·rw [if_pos bB] at H
         have bU : ((IntKind.u64.wrap ((aA.length : Int))) == aE) = true := beq_iff_eq.mpr bB
         have bV : ((IntKind.u64.wrap ((aA.length : Int))) != aE) = false := bne_eq_false_iff_eq.mpr bB
         clear bB
         by_cases bC : aD.toList = ([] : List UInt8)
         ·rw [if_pos bC] at H
          have bW : (aD.toList == ([] : List UInt8)) = true := beq_iff_eq.mpr bC
          have bX : (aD.toList != ([] : List UInt8)) = false := bne_eq_false_iff_eq.mpr bC
          clear bC
          replace H := Option.bind_eq_some_iff.mp H
          obtain ⟨a2, bY, H⟩ := H
          replace H : (if a2 = true then (some (aA, 0)) else (some (([] : List (S62)), 3))) = some (r1, r2) := H
          have cT := ak bY
          clear bY
          by_cases b7 : a2 = true
          ·subst b7
           have H1 : (some (aA, 0)) = some (r1, r2) := by rw [if_pos rfl] at H; exact H
           clear H
           have H := H1
           clear H1
           simp only [Option.some.injEq, Prod.mk.injEq] at H
           obtain ⟨rfl, rfl⟩ := H
           go_wp2_with (first | ((with_reducible refine gate_callee (f := 36) rfl ?_); refine goesL_ (some 41) rfl rfl Try.func36 (by kernel_rfl) rfl #[.string aD, .int .i64 65536] rfl (by (try simp only [List.map_toArray, List.map_cons, List.map_nil]); first | done | rfl | (simp only [List.length_drop, List.length_take]; rfl)) ?_; (with_reducible refine (dec_TakeText.calls k2 aD 65536 aI aG aJ _ a3.out).mono ?_); rintro e w' ⟨rfl, ⟨nd, rfl⟩⟩; refine ⟨_, rfl, ?_⟩; obtain ⟨dF, dG, cG⟩ := Kd.R_slice aC.out; subst cG) | (go_at_call 28; (with_reducible refine (run_may.calls k2 _ _ aA true _ ?side1 ?side2 cT.out).mono ?_); (case side1 => repeat (first | exact (Kd.R_reads' aC.out).2.2 | (with_reducible refine Kd.C_alloc ?_ _) | (with_reducible refine Kd.C_drewN ?_ _) | (with_reducible refine Kd.C_drew ?_))); (case side2 => exact (Kd.R_reads' aC.out).2.1); rintro e dY ⟨rfl, hb⟩; replace aC := ak (Kd.R_below (pR aC.out) hb); replace HB := ak (below_step (pB HB.out) hb); (try clear hb); (try clear hb2); (try clear hk); (try clear hi)))
           go_ret2
           exact ⟨_, by first | rfl | (simp [errW_none, errW_some] <;> rfl) | (simp [*, errW_none, errW_some] <;> rfl), pR aC.out, pB HB.out⟩
          ·replace b7 := Bool.eq_false_iff.mpr b7
           subst b7
           have H1 : (some (([] : List (S62)), 3)) = some (r1, r2) := by rw [if_neg (show ¬ (false = true) by decide)] at H; exact H
           clear H
           have H := H1
           clear H1
           simp only [Option.some.injEq, Prod.mk.injEq] at H
           obtain ⟨rfl, rfl⟩ := H
           go_wp2_with (first | ((with_reducible refine gate_callee (f := 36) rfl ?_); refine goesL_ (some 41) rfl rfl Try.func36 (by kernel_rfl) rfl #[.string aD, .int .i64 65536] rfl (by (try simp only [List.map_toArray, List.map_cons, List.map_nil]); first | done | rfl | (simp only [List.length_drop, List.length_take]; rfl)) ?_; (with_reducible refine (dec_TakeText.calls k2 aD 65536 aI aG aJ _ a3.out).mono ?_); rintro e w' ⟨rfl, ⟨nd, rfl⟩⟩; refine ⟨_, rfl, ?_⟩; obtain ⟨dH, dI, cH⟩ := Kd.R_slice aC.out; subst cH) | (go_at_call 28; (with_reducible refine (run_may.calls k2 _ _ aA false _ ?side1 ?side2 cT.out).mono ?_); (case side1 => repeat (first | exact (Kd.R_reads' aC.out).2.2 | (with_reducible refine Kd.C_alloc ?_ _) | (with_reducible refine Kd.C_drewN ?_ _) | (with_reducible refine Kd.C_drew ?_))); (case side2 => exact (Kd.R_reads' aC.out).2.1); rintro e dZ ⟨rfl, hb⟩; replace aC := ak (Kd.R_below (pR aC.out) hb); replace HB := ak (below_step (pB HB.out) hb); (try clear hb); (try clear hb2); (try clear hk); (try clear hi)))
           go_ret2
           exact ⟨_, by first | rfl | (simp [errW_none, errW_some] <;> rfl) | (simp [*, errW_none, errW_some] <;> rfl), by first | exact Kd.R_nil _ _ _ _ _ | exact Kd.N_nil _ _ _ _ _ | exact Kd.V_nil _ _ _ _ _ | exact Kd.Q_nil _ _ _ _ _ | exact Kd.S_nil _ _ _ _ _, pB HB.out⟩
         ·rw [if_neg bC] at H
          have bW : (aD.toList == ([] : List UInt8)) = false := beq_eq_false_iff_ne.mpr bC
          have bX : (aD.toList != ([] : List UInt8)) = true := bne_iff_ne.mpr bC
          simp only [Option.some.injEq, Prod.mk.injEq] at H
          obtain ⟨rfl, rfl⟩ := H
          go_wp2_with (first | ((with_reducible refine gate_callee (f := 36) rfl ?_); refine goesL_ (some 41) rfl rfl Try.func36 (by kernel_rfl) rfl #[.string aD, .int .i64 65536] rfl (by (try simp only [List.map_toArray, List.map_cons, List.map_nil]); first | done | rfl | (simp only [List.length_drop, List.length_take]; rfl)) ?_; (with_reducible refine (dec_TakeText.calls k2 aD 65536 aI aG aJ _ a3.out).mono ?_); rintro e w' ⟨rfl, ⟨nd, rfl⟩⟩; refine ⟨_, rfl, ?_⟩; obtain ⟨dJ, dK, cI⟩ := Kd.R_slice aC.out; subst cI))
          go_ret2
          exact ⟨_, by first | rfl | (simp [errW_none, errW_some] <;> rfl) | (simp [*, errW_none, errW_some] <;> rfl), by first | exact Kd.R_nil _ _ _ _ _ | exact Kd.N_nil _ _ _ _ _ | exact Kd.V_nil _ _ _ _ _ | exact Kd.Q_nil _ _ _ _ _ | exact Kd.S_nil _ _ _ _ _, pB HB.out⟩
        ·rw [if_neg bB] at H
         have bU : ((IntKind.u64.wrap ((aA.length : Int))) == aE) = false := beq_eq_false_iff_ne.mpr bB
         have bV : ((IntKind.u64.wrap ((aA.length : Int))) != aE) = true := bne_iff_ne.mpr bB
         simp only [Option.some.injEq, Prod.mk.injEq] at H
         obtain ⟨rfl, rfl⟩ := H
         go_wp2_with (first | ((with_reducible refine gate_callee (f := 36) rfl ?_); refine goesL_ (some 41) rfl rfl Try.func36 (by kernel_rfl) rfl #[.string aD, .int .i64 65536] rfl (by (try simp only [List.map_toArray, List.map_cons, List.map_nil]); first | done | rfl | (simp only [List.length_drop, List.length_take]; rfl)) ?_; (with_reducible refine (dec_TakeText.calls k2 aD 65536 aI aG aJ _ a3.out).mono ?_); rintro e w' ⟨rfl, ⟨nd, rfl⟩⟩; refine ⟨_, rfl, ?_⟩; obtain ⟨dL, dM, cJ⟩ := Kd.R_slice aC.out; subst cJ))
         go_ret2
         exact ⟨_, by first | rfl | (simp [errW_none, errW_some] <;> rfl) | (simp [*, errW_none, errW_some] <;> rfl), by first | exact Kd.R_nil _ _ _ _ _ | exact Kd.N_nil _ _ _ _ _ | exact Kd.V_nil _ _ _ _ _ | exact Kd.Q_nil _ _ _ _ _ | exact Kd.S_nil _ _ _ _ _, pB HB.out⟩
      ·rw [if_neg c9] at H
       have cA : decide (aH < aE) = false := decide_eq_false c9
       clear c9
       by_cases bD : (IntKind.u64.wrap ((aA.length : Int))) = aE
       ·rw [if_pos bD] at H
        have bZ : ((IntKind.u64.wrap ((aA.length : Int))) == aE) = true := beq_iff_eq.mpr bD
        have b0 : ((IntKind.u64.wrap ((aA.length : Int))) != aE) = false := bne_eq_false_iff_eq.mpr bD
        clear bD
        by_cases bE : aD.toList = ([] : List UInt8)
        ·rw [if_pos bE] at H
         have b1 : (aD.toList == ([] : List UInt8)) = true := beq_iff_eq.mpr bE
         have b2 : (aD.toList != ([] : List UInt8)) = false := bne_eq_false_iff_eq.mpr bE
         clear bE
         replace H := Option.bind_eq_some_iff.mp H
         obtain ⟨b3, b4, H⟩ := H
         replace H : (if b3 = true then (some (aA, 0)) else (some (([] : List (S62)), 3))) = some (r1, r2) := H
         have cU := ak b4
         clear b4
         by_cases b8 : b3 = true
         ·subst b8
          have H1 : (some (aA, 0)) = some (r1, r2) := by rw [if_pos rfl] at H; exact H
          clear H
          have H := H1
          clear H1
          simp only [Option.some.injEq, Prod.mk.injEq] at H
          obtain ⟨rfl, rfl⟩ := H
          obtain ⟨dN, dO, cK⟩ := Kd.R_slice aC.out
          subst cK
          go_wp2_with (first | (go_at_call 28; (with_reducible refine (run_may.calls k2 _ _ aA true _ ?side1 ?side2 cU.out).mono ?_); (case side1 => repeat (first | exact (Kd.R_reads' aC.out).2.2 | (with_reducible refine Kd.C_alloc ?_ _) | (with_reducible refine Kd.C_drewN ?_ _) | (with_reducible refine Kd.C_drew ?_))); (case side2 => exact (Kd.R_reads' aC.out).2.1); rintro e d0 ⟨rfl, hb⟩; have n0_ := ak (Kd.R_below (pR aC.out) hb); have n1_ := ak (below_step (pB HB.out) hb); clear aC; clear HB; have aC := n0_; have HB := n1_; clear n0_ n1_; (try clear hb); (try clear hb2); (try clear hk); (try clear hi)))
          go_ret2
          exact ⟨_, by first | rfl | (simp [errW_none, errW_some] <;> rfl) | (simp [*, errW_none, errW_some] <;> rfl), pR aC.out, pB HB.out⟩
         ·replace b8 := Bool.eq_false_iff.mpr b8
          subst b8
          have H1 : (some (([] : List (S62)), 3)) = some (r1, r2) := by rw [if_neg (show ¬ (false = true) by decide)] at H; exact H
          clear H
          have H := H1
          clear H1
          simp only [Option.some.injEq, Prod.mk.injEq] at H
          obtain ⟨rfl, rfl⟩ := H
          obtain ⟨dP, dQ, cL⟩ := Kd.R_slice aC.out
          subst cL
          go_wp2_with (first | (go_at_call 28; (with_reducible refine (run_may.calls k2 _ _ aA false _ ?side1 ?side2 cU.out).mono ?_); (case side1 => repeat (first | exact (Kd.R_reads' aC.out).2.2 | (with_reducible refine Kd.C_alloc ?_ _) | (with_reducible refine Kd.C_drewN ?_ _) | (with_reducible refine Kd.C_drew ?_))); (case side2 => exact (Kd.R_reads' aC.out).2.1); rintro e d1 ⟨rfl, hb⟩; have n0_ := ak (Kd.R_below (pR aC.out) hb); have n1_ := ak (below_step (pB HB.out) hb); clear aC; clear HB; have aC := n0_; have HB := n1_; clear n0_ n1_; (try clear hb); (try clear hb2); (try clear hk); (try clear hi)))
          go_ret2
          exact ⟨_, by first | rfl | (simp [errW_none, errW_some] <;> rfl) | (simp [*, errW_none, errW_some] <;> rfl), by first | exact Kd.R_nil _ _ _ _ _ | exact Kd.N_nil _ _ _ _ _ | exact Kd.V_nil _ _ _ _ _ | exact Kd.Q_nil _ _ _ _ _ | exact Kd.S_nil _ _ _ _ _, pB HB.out⟩
        ·rw [if_neg bE] at H
         have b1 : (aD.toList == ([] : List UInt8)) = false := beq_eq_false_iff_ne.mpr bE
         have b2 : (aD.toList != ([] : List UInt8)) = true := bne_iff_ne.mpr bE
         simp only [Option.some.injEq, Prod.mk.injEq] at H
         obtain ⟨rfl, rfl⟩ := H
         obtain ⟨dR, dS, cM⟩ := Kd.R_slice aC.out
         subst cM
         go_wp2
         go_ret2
         exact ⟨_, by first | rfl | (simp [errW_none, errW_some] <;> rfl) | (simp [*, errW_none, errW_some] <;> rfl), by first | exact Kd.R_nil _ _ _ _ _ | exact Kd.N_nil _ _ _ _ _ | exact Kd.V_nil _ _ _ _ _ | exact Kd.Q_nil _ _ _ _ _ | exact Kd.S_nil _ _ _ _ _, pB HB.out⟩
       ·rw [if_neg bD] at H
        have bZ : ((IntKind.u64.wrap ((aA.length : Int))) == aE) = false := beq_eq_false_iff_ne.mpr bD
        have b0 : ((IntKind.u64.wrap ((aA.length : Int))) != aE) = true := bne_iff_ne.mpr bD
        simp only [Option.some.injEq, Prod.mk.injEq] at H
        obtain ⟨rfl, rfl⟩ := H
        obtain ⟨dT, dU, cN⟩ := Kd.R_slice aC.out
        subst cN
        go_wp2
        go_ret2
        exact ⟨_, by first | rfl | (simp [errW_none, errW_some] <;> rfl) | (simp [*, errW_none, errW_some] <;> rfl), by first | exact Kd.R_nil _ _ _ _ _ | exact Kd.N_nil _ _ _ _ _ | exact Kd.V_nil _ _ _ _ _ | exact Kd.Q_nil _ _ _ _ _ | exact Kd.S_nil _ _ _ _ _, pB HB.out⟩

/-! ### stanchionlaw06_shown: function 10 -/
set_option maxHeartbeats 8000000 in
set_option maxRecDepth 100000 in
theorem stanchionlaw06_shown_t.calls (k : Nat)  (r : Bool) (w : World) (h : stanchionlaw06_shown.f k  = some r) (hr_ : r = true) :
  Calls Try.prog 10 #[] w fun e w' => e = .returned (.bool r) ∧ Below w.heap.size w w' := by
 have bJ := Try.underlying62
 have HB := ak (Below.refl w.heap.size w)
 have H : ((run_Bytes.f k (([(⟨(⟨#[97]⟩ : ByteArray), (⟨#[49]⟩ : ByteArray)⟩ : S62)] : List (S62)))).bind fun bt150 => ((run_Take.f k bt150.1).bind fun bt152 => (if bt150.2 = 0 then (if bt152.2 = 0 then (if (bt150.1.size : Int) > 10 then (if 0 ≤ 10 then (if 10 ≤ (bt150.1.size : Int) then (if (bt150.1.extract 0 10).toList = ([56, 59, 49, 59, 49, 59, 97, 49, 59, 49] : List UInt8) then (if (bt152.1.length : Int) = 1 then (if 0 < (bt152.1.length : Int) then (some (((rd_T62 bt152.1 0).f1).toList == ([49] : List UInt8))) else (none)) else (some false)) else (some false)) else (none)) else (none)) else (some false)) else (some false)) else (some false)))) = some r := h
 clear h
 obtain ⟨y147, hy147⟩ : ∃ y_ : List (S62), y_ = (([(⟨(⟨#[97]⟩ : ByteArray), (⟨#[49]⟩ : ByteArray)⟩ : S62)] : List (S62))) := ⟨_, rfl⟩
 replace H : ((run_Bytes.f k y147).bind fun bt150 => ((run_Take.f k bt150.1).bind fun bt152 => (if bt150.2 = 0 then (if bt152.2 = 0 then (if (bt150.1.size : Int) > 10 then (if 0 ≤ 10 then (if 10 ≤ (bt150.1.size : Int) then (if (bt150.1.extract 0 10).toList = ([56, 59, 49, 59, 49, 59, 97, 49, 59, 49] : List UInt8) then (if (bt152.1.length : Int) = 1 then (if 0 < (bt152.1.length : Int) then (some (((rd_T62 bt152.1 0).f1).toList == ([49] : List UInt8))) else (none)) else (some false)) else (some false)) else (none)) else (none)) else (some false)) else (some false)) else (some false)))) = some r := by first | (rw [hy147]; with_reducible exact H) | (have aU := (Option.bind_some _ _).symm.trans H; rw [hy147]; with_reducible exact aU) | (have aU := (Option.bind_some _ _).symm.trans H; with_reducible exact aU) | with_reducible exact H | (rw [hy147]; exact H) | exact H
 have aK := ak hy147
 clear hy147
 replace H := Option.bind_eq_some_iff.mp H
 obtain ⟨⟨aA, aH⟩, bD, H⟩ := H
 replace H : ((run_Take.f k aA).bind fun bt152 => (if aH = 0 then (if bt152.2 = 0 then (if (aA.size : Int) > 10 then (if 0 ≤ 10 then (if 10 ≤ (aA.size : Int) then (if (aA.extract 0 10).toList = ([56, 59, 49, 59, 49, 59, 97, 49, 59, 49] : List UInt8) then (if (bt152.1.length : Int) = 1 then (if 0 < (bt152.1.length : Int) then (some (((rd_T62 bt152.1 0).f1).toList == ([49] : List UInt8))) else (none)) else (some false)) else (some false)) else (none)) else (none)) else (some false)) else (some false)) else (some false))) = some r := H
 have A1 := ak bD
 clear bD
 replace H := Option.bind_eq_some_iff.mp H
 obtain ⟨⟨aC, aI⟩, bE, H⟩ := H
 replace H : (if aH = 0 then (if aI = 0 then (if (aA.size : Int) > 10 then (if 0 ≤ 10 then (if 10 ≤ (aA.size : Int) then (if (aA.extract 0 10).toList = ([56, 59, 49, 59, 49, 59, 97, 49, 59, 49] : List UInt8) then (if (aC.length : Int) = 1 then (if 0 < (aC.length : Int) then (some (((rd_T62 aC 0).f1).toList == ([49] : List UInt8))) else (none)) else (some false)) else (some false)) else (none)) else (none)) else (some false)) else (some false)) else (some false)) = some r := H
 have A2 := ak bE
 clear bE
 by_cases c3 : aH = 0
 ·rw [if_pos c3] at H
  have aV : (aH == 0) = true := beq_iff_eq.mpr c3
  have aW : (aH != 0) = false := bne_eq_false_iff_eq.mpr c3
  clear c3
  by_cases c4 : aI = 0
  ·rw [if_pos c4] at H
   have aX : (aI == 0) = true := beq_iff_eq.mpr c4
   have aY : (aI != 0) = false := bne_eq_false_iff_eq.mpr c4
   clear c4
   by_cases c5 : (aA.size : Int) > 10
   ·rw [if_pos c5] at H
    have aZ : decide (10 < (aA.size : Int)) = true := decide_eq_true c5
    have a2 : decide (10 < aA.size) = true := decide_eq_true (by omega)
    clear c5
    have c6 : 0 ≤ 10 := Decidable.byContradiction fun q => by rw [if_neg q] at H; exact absurd H (by simp)
    rw [if_pos c6] at H
    have bK := eq_true c6
    have bL : decide (0 ≤ 10) = true := decide_eq_true c6
    clear c6
    have c7 : 10 ≤ (aA.size : Int) := Decidable.byContradiction fun q => by rw [if_neg q] at H; exact absurd H (by simp)
    rw [if_pos c7] at H
    have bM := eq_true c7
    have bN : decide (10 ≤ (aA.size : Int)) = true := decide_eq_true c7
    clear c7
    by_cases c8 : (aA.extract 0 10).toList = ([56, 59, 49, 59, 49, 59, 97, 49, 59, 49] : List UInt8)
    ·rw [if_pos c8] at H
     have a3 : ((aA.extract 0 10).toList == ([56, 59, 49, 59, 49, 59, 97, 49, 59, 49] : List UInt8)) = true := beq_iff_eq.mpr c8
     have a4 : ((aA.extract 0 10).toList != ([56, 59, 49, 59, 49, 59, 97, 49, 59, 49] : List UInt8)) = false := bne_eq_false_iff_eq.mpr c8
     clear c8
     by_cases c9 : (aC.length : Int) = 1
     ·rw [if_pos c9] at H
      have a5 : ((aC.length : Int) == 1) = true := beq_iff_eq.mpr c9
      have a6 : ((aC.length : Int) != 1) = false := bne_eq_false_iff_eq.mpr c9
      clear c9
      have aT : 0 < (aC.length : Int) := Decidable.byContradiction fun q => by rw [if_neg q] at H; exact absurd H (by simp)
      rw [if_pos aT] at H
      have bF : decide (0 < (aC.length : Int)) = true := decide_eq_true aT
      have bG : decide (0 < aC.length) = true := decide_eq_true (by omega)
      clear aT
      obtain rfl := Option.some.inj H
      go_enter Try.func10, Try.ntmps10
      go_wp2_with (first | ((with_reducible refine gate_dst (N := 7) rfl ?_); (try (refine gate_guard (by rfl) ?_; dsimp only)); refine Kd.R_lit k62 _ 62 ?hg (N := 7) ?hd (xs := ([(⟨(⟨#[97]⟩ : ByteArray), (⟨#[49]⟩ : ByteArray)⟩ : S62)] : List (S62))) (inner := [.string (⟨#[97]⟩ : ByteArray), .string (⟨#[49]⟩ : ByteArray)]) (ok := fun _ => True) (okp := fun _ => True) ?hr ?hp (fun _ hk => hk) trivial (Below.refl _ _) (Nat.le_refl _) (by simp) ?_; (case hd => rfl); (case hg => rfl); (case hr => first | (go_simp; done) | (go_simp; rfl)); (case hp => exact (Reps.c2 (show Kd.M k62 _ _ _ (⟨(⟨#[97]⟩ : ByteArray), (⟨#[49]⟩ : ByteArray)⟩ : S62) [.string (⟨#[97]⟩ : ByteArray), .string (⟨#[49]⟩ : ByteArray)] from (k62_mkM _ _ _ (⟨(⟨#[97]⟩ : ByteArray), (⟨#[49]⟩ : ByteArray)⟩ : S62) )) (Reps.none _ _))); intro bO bS aJ hb hg_ hnew_; clear hg_ hnew_; (first | rw [← aK.out] at aJ | (simp only [Int.reduceToNat] at aJ; rw [← aK.out] at aJ)); have aD := ak (Kd.R_lower aJ (below_size (pB HB.out))); replace HB := ak (below_step (pB HB.out) hb); clear hb aJ; obtain ⟨a7, a8, a9⟩ := Kd.R_slice aD.out; subst a9) | ((with_reducible refine gate_callee (f := 11) rfl ?_); refine goesL_ (some 8) rfl rfl Try.func11 (by kernel_rfl) rfl #[.slice a7 y147.length a8] rfl (by (try simp only [List.map_toArray, List.map_cons, List.map_nil]); first | done | rfl | (simp only [List.length_drop, List.length_take]; rfl)) ?_; (with_reducible refine (run_Bytes.calls k _ _ y147 aA aH _ ?side1 ?side2 A1.out).mono ?_); (case side1 => repeat (first | exact (Kd.R_reads' aD.out).2.2 | (with_reducible refine Kd.C_alloc ?_ _) | (with_reducible refine Kd.C_drewN ?_ _) | (with_reducible refine Kd.C_drew ?_))); (case side2 => exact (Kd.R_reads' aD.out).2.1); rintro e bT ⟨rfl, hb⟩; refine ⟨_, rfl, ?_⟩; replace aD := ak (Kd.R_below (pR aD.out) hb); replace HB := ak (below_step (pB HB.out) hb); (try clear hb); (try clear hb2); (try clear hk); (try clear hi)) | ((with_reducible refine gate_callee (f := 12) rfl ?_); refine goesL_ (some 13) rfl rfl Try.func12 (by kernel_rfl) rfl #[.string aA] rfl (by (try simp only [List.map_toArray, List.map_cons, List.map_nil]); first | done | rfl | (simp only [List.length_drop, List.length_take]; rfl)) ?_; (with_reducible refine (run_Take.calls k aA aC aI _ A2.out).mono ?_); rintro e bU ⟨bP, rfl, bA, hb⟩; refine ⟨_, rfl, ?_⟩; have aM := ak (Kd.R_lower (Kd.R_new' bA (Kd.R_lt (pR aD.out))) (below_size (pB HB.out))); replace aD := ak (Kd.R_elder' (pR aD.out) (Kd.R_base bA) hb); replace HB := ak (below_step (pB HB.out) hb); (try clear hb); (try clear hb2); (try clear hk); (try clear hi); (try clear bA); obtain ⟨bQ, bR, bB⟩ := Kd.R_slice aM.out; subst bB; have aN : 0 ≤ (0 : Int) := (by omega); have aQ : 0 < (aC.length : Int) := of_decide_eq_true (by first | (with_reducible assumption) | assumption); obtain ⟨bH, bC, aE, aG⟩ := at_T62 (Kd.R_reads' aM.out).2.2 0 aN aQ; cases bC; have bI : (0 < aC.length) = True := eq_true (by omega); (try rw [show ((0 : Int)).toNat = 0 from rfl] at aE); (try rw [show 0 * 2 = 0 from rfl] at aE); (try rw [Addr.add_zero'] at aE); (try rw [show ((0 : Int)).toNat = 0 from rfl] at aG); (try rw [show 0 * 2 = 0 from rfl] at aG); (try rw [Addr.add_zero'] at aG); replace aN := eq_true aN; replace aQ := eq_true aQ))
      first | go_ret | ((try simp only [Exit.inBlock, Exit.then]); refine bodyPost_ret (results_tmp rfl _ _ _) ?hd_ ?hR_; (case hd_ => rfl))
      exact ⟨by first | rfl | (simp [errW_none, errW_some] <;> rfl) | (simp [*, errW_none, errW_some] <;> rfl), pB HB.out⟩
     ·rw [if_neg c9] at H
      have a5 : ((aC.length : Int) == 1) = false := beq_eq_false_iff_ne.mpr c9
      have a6 : ((aC.length : Int) != 1) = true := bne_iff_ne.mpr c9
      obtain rfl := Option.some.inj H
      exact absurd hr_ (by decide)
    ·rw [if_neg c8] at H
     have a3 : ((aA.extract 0 10).toList == ([56, 59, 49, 59, 49, 59, 97, 49, 59, 49] : List UInt8)) = false := beq_eq_false_iff_ne.mpr c8
     have a4 : ((aA.extract 0 10).toList != ([56, 59, 49, 59, 49, 59, 97, 49, 59, 49] : List UInt8)) = true := bne_iff_ne.mpr c8
     obtain rfl := Option.some.inj H
     exact absurd hr_ (by decide)
   ·rw [if_neg c5] at H
    have aZ : decide (10 < (aA.size : Int)) = false := decide_eq_false c5
    have a2 : decide (10 < aA.size) = false := decide_eq_false (by omega)
    clear c5
    obtain rfl := Option.some.inj H
    exact absurd hr_ (by decide)
  ·rw [if_neg c4] at H
   have aX : (aI == 0) = false := beq_eq_false_iff_ne.mpr c4
   have aY : (aI != 0) = true := bne_iff_ne.mpr c4
   obtain rfl := Option.some.inj H
   exact absurd hr_ (by decide)
 ·rw [if_neg c3] at H
  have aV : (aH == 0) = false := beq_eq_false_iff_ne.mpr c3
  have aW : (aH != 0) = true := bne_iff_ne.mpr c3
  obtain rfl := Option.some.inj H
  exact absurd hr_ (by decide)

theorem stanchionlaw06_shown.now : stanchionlaw06_shown.f 100 = some true := by decide +kernel
theorem stanchionlaw06_shown.more : ∀ (n k : Nat) (r : Bool), stanchionlaw06_shown.f k = some r → stanchionlaw06_shown.f (k + n) = some r
 | 0, _, _, h => h
 | n + 1, k, r, h => stanchionlaw06_shown.mono (k + n) r (stanchionlaw06_shown.more n k r h)
theorem stanchionlaw06_shown.tells (k : Nat) (r : Bool) (h : stanchionlaw06_shown.f k  = some r) : r = true := by
 have h1 := stanchionlaw06_shown.more 100 k r h
 have h2 := stanchionlaw06_shown.more k 100 true stanchionlaw06_shown.now
 rw [Nat.add_comm] at h2
 exact Option.some.inj (h1.symm.trans h2)
theorem stanchionlaw06_shown.calls (k : Nat)  (r : Bool) (w : World) (h : stanchionlaw06_shown.f k  = some r) :
 Calls Try.prog 10 #[] w fun e w' => e = .returned (.bool r) ∧ Below w.heap.size w w' := stanchionlaw06_shown_t.calls k r w h (stanchionlaw06_shown.tells k r h)
/-! ### stanchionref05_Same: function 13 -/
set_option maxHeartbeats 8000000 in
set_option maxRecDepth 100000 in
theorem stanchionref05_Same.calls (k : Nat) (A0 : Option Addr) (c0 : Nat) (l0 : List (S62)) (A1 : Option Addr) (c1 : Nat) (l1 : List (S62)) (r : Bool) (w : World) (aZ : Kd.C k62 w A0 l0.length l0) (a2 : l0.length ≤ c0) (a3 : Kd.C k62 w A1 l1.length l1) (a4 : l1.length ≤ c1) (h : stanchionref05_Same.f k l0 l1 = some r) :
  Calls Try.prog 13 #[.slice A0 l0.length c0, .slice A1 l1.length c1] w fun e w' => e = .returned (.bool r) ∧ Drawn0 w w' := by
 have a8 := Try.underlying62
 have a5 := ak aZ
 have bB := ak a2
 clear aZ a2
 have a6 := ak a3
 have bC := ak a4
 clear a3 a4
 have H : (if (l0.length : Int) = (l1.length : Int) then (stanchionref05_Same.l0 k l0 l1 0) else (some false)) = some r := h
 clear h
 by_cases c3 : (l0.length : Int) = (l1.length : Int)
 ·rw [if_pos c3] at H
  have aQ : ((l0.length : Int) == (l1.length : Int)) = true := beq_iff_eq.mpr c3
  have aT : ((l0.length : Int) != (l1.length : Int)) = false := bne_eq_false_iff_eq.mpr c3
  have aU : (l0.length == l1.length) = true := by first | simpa using c3 | (simp at c3 ⊢; omega)
  clear c3
  have H' := ak H
  clear H
  go_enter Try.func13, Try.ntmps13
  go_wp2
  repeat (go_quiet (fail); try go_wp2)
  go_loopg [5] k (fun kq v5 w' => ∃ (aA : Int), v5 = .int .i64 aA ∧ Aside0 (stanchionref05_Same.l0 kq l0 l1 aA = some r) ∧ Aside0 (kq ≤ k) ∧ Drawn0 w w')
  case atStart => exact ⟨(0), (by first | rfl | (simp; done) | (simp [*]; done)), H', ⟨Nat.le_refl _⟩, by repeat (first | exact Drawn0.refl _ | apply Drawn0.step)⟩
  case round =>
   clear H'
   try clear c1 p2 c3 aQ aT aU
   obtain ⟨aA, rfl, HA, a7, ⟨m1, rfl⟩⟩ := hrel
   cases gk with
   | zero => exact absurd HA.out (by simp [stanchionref05_Same.l0])
   | succ k1 =>
    have H := HA.out
    clear HA
    simp only [stanchionref05_Same.l0] at H
    by_cases c4 : aA < (l0.length : Int)
    ·rw [if_pos c4] at H
     have aX : decide (aA < (l0.length : Int)) = true := decide_eq_true c4
     clear c4
     have c5 : 0 ≤ aA := Decidable.byContradiction fun q => by rw [if_neg q] at H; exact absurd H (by simp)
     rw [if_pos c5] at H
     have a9 : decide (0 ≤ aA) = true := decide_eq_true c5
     clear c5
     have c6 : aA < (l1.length : Int) := Decidable.byContradiction fun q => by rw [if_neg q] at H; exact absurd H (by simp)
     rw [if_pos c6] at H
     have bA : decide (aA < (l1.length : Int)) = true := decide_eq_true c6
     clear c6
     by_cases c7 : (!((((rd_T62 l0 aA).f0).toList) == (((rd_T62 l1 aA).f0).toList)) || (!((((rd_T62 l0 aA).f1).toList) == (((rd_T62 l1 aA).f1).toList)))) = true
     ·rw [if_pos c7] at H
      have aY : (!((((rd_T62 l0 aA).f0).toList) == (((rd_T62 l1 aA).f0).toList)) || (!((((rd_T62 l0 aA).f1).toList) == (((rd_T62 l1 aA).f1).toList)))) = true := c7
      clear c7
      obtain rfl := Option.some.inj H
      have aC : 0 ≤ (aA : Int) := of_decide_eq_true (by first | (with_reducible assumption) | assumption)
      have aD : aA < (l0.length : Int) := of_decide_eq_true (by first | (with_reducible assumption) | assumption)
      obtain ⟨aV, aM, aH, aI⟩ := at_T62 a5.out aA aC aD
      cases aM
      replace aC := eq_true aC
      replace aD := eq_true aD
      have aE : 0 ≤ (aA : Int) := of_decide_eq_true (by first | (with_reducible assumption) | assumption)
      have aG : aA < (l1.length : Int) := of_decide_eq_true (by first | (with_reducible assumption) | assumption)
      obtain ⟨aW, aN, aJ, aK⟩ := at_T62 a6.out aA aE aG
      cases aN
      replace aE := eq_true aE
      replace aG := eq_true aG
      go_wp2
      repeat (go_quiet (fail); try go_wp2)
      go_ret
      exact ⟨by first | rfl | (simp; done) | (simp [*]; done), by repeat (first | exact Drawn0.refl _ | apply Drawn0.step)⟩
     ·rw [if_neg c7] at H
      have aY : (!((((rd_T62 l0 aA).f0).toList) == (((rd_T62 l1 aA).f0).toList)) || (!((((rd_T62 l0 aA).f1).toList) == (((rd_T62 l1 aA).f1).toList)))) = false := by simpa using c7
      clear c7
      have H' := ak H
      clear H
      have aC : 0 ≤ (aA : Int) := of_decide_eq_true (by first | (with_reducible assumption) | assumption)
      have aD : aA < (l0.length : Int) := of_decide_eq_true (by first | (with_reducible assumption) | assumption)
      obtain ⟨aV, aM, aH, aI⟩ := at_T62 a5.out aA aC aD
      cases aM
      replace aC := eq_true aC
      replace aD := eq_true aD
      have aE : 0 ≤ (aA : Int) := of_decide_eq_true (by first | (with_reducible assumption) | assumption)
      have aG : aA < (l1.length : Int) := of_decide_eq_true (by first | (with_reducible assumption) | assumption)
      obtain ⟨aW, aN, aJ, aK⟩ := at_T62 a6.out aA aE aG
      cases aN
      replace aE := eq_true aE
      replace aG := eq_true aG
      go_wp2
      repeat (go_quiet (fail); try go_wp2)
      go_roundg k1
      case measure => have := a7.out; omega
      case rel => exact ⟨(wrap64 (aA + 1)), (by first | rfl | (simp; done) | (simp [*]; done)), H', ⟨by have := a7.out; omega⟩, by repeat (first | exact Drawn0.refl _ | apply Drawn0.step)⟩
    ·rw [if_neg c4] at H
     have aX : decide (aA < (l0.length : Int)) = false := decide_eq_false c4
     clear c4
     obtain rfl := Option.some.inj H
     go_wp2
     repeat (go_quiet (fail); try go_wp2)
     go_ret
     exact ⟨by first | rfl | (simp; done) | (simp [*]; done), by repeat (first | exact Drawn0.refl _ | apply Drawn0.step)⟩
 ·rw [if_neg c3] at H
  have aQ : ((l0.length : Int) == (l1.length : Int)) = false := beq_eq_false_iff_ne.mpr c3
  have aT : ((l0.length : Int) != (l1.length : Int)) = true := bne_iff_ne.mpr c3
  have aU : (l0.length == l1.length) = false := by first | simpa using c3 | (simp at c3 ⊢; omega)
  obtain rfl := Option.some.inj H
  go_enter Try.func13, Try.ntmps13
  go_wp2
  repeat (go_quiet (fail); try go_wp2)
  go_ret
  exact ⟨by first | rfl | (simp; done) | (simp [*]; done), by repeat (first | exact Drawn0.refl _ | apply Drawn0.step)⟩

open Go.Proofs.Ytbhkopbalhhpgaa.Cp
/-! ### api_File_89: function 89 -/
set_option maxHeartbeats 8000000 in
set_option maxRecDepth 100000 in
theorem api_File_89.calls (p : S38 → Bool) (g : Nat) (lb : Array Value) (eg : ∀ args w, (callFunc g args).run Try.prog w = .ok (.enter g args) w) (A0 : Option Addr) (c0 : Nat) (l0 : List (S38)) (w : World) (hr0 : Kd.C k38 w A0 l0.length l0)
  (hp : ∀ (W : World) (x : S38), Below w.heap.size w W → Calls Try.prog g (#[.agg #[.string x.f0, .string x.f1, .string x.f2]] ++ lb) W fun e w' => e = .returned (.bool (p x)) ∧ Below W.heap.size W w') :
  Calls Try.prog 89 #[.slice A0 l0.length c0, .func (.func g) #[] lb] w fun e w' => e = .returned (.int .i64 (ixOf p l0)) ∧ Below w.heap.size w w' := by
 have hu38 := Try.underlying38
 have HR := ak hr0
 have HP := ak hp
 have hmx := hr0.2.1
 clear hr0 hp
 go_enter Try.func89, Try.ntmps89
 go_wp2
 go_loopg [5, 8] l0.length (fun gg _ s8 wr => ∃ kk : Nat, kk ≤ l0.length ∧ l0.length - kk ≤ gg ∧ s8 = .int .i64 kk ∧ Aside0 (Below w.heap.size w wr) ∧ Aside0 (∀ j, j < kk → p (l0.getD j z38) = false))
 case atStart => exact ⟨0, Nat.zero_le _, by omega, rfl, ⟨Below.refl _ w⟩, ⟨fun j hj => absurd hj (Nat.not_lt_zero _)⟩⟩
 case round =>
  obtain ⟨kk, hkk, hg, rfl, HB, A⟩ := hrel
  by_cases hlt : kk < l0.length
  ·have hltz : (kk : Int) < (l0.length : Int) := by omega
   obtain ⟨ad, e, hx0, hx1, hx2⟩ := at_T38 (Kd.C_below HR.out HB.out) (kk : Int) (by omega) hltz
   cases e
   simp only [Int.toNat_natCast] at hx0 hx1 hx2
   have hcall := HP.out wr (l0.getD kk z38) HB.out
   have e0 : rd_T38 l0 (kk : Int) = l0.getD kk z38 := by simp [rd_T38]
   rw [e0] at hx0 hx1 hx2
   clear e0
   obtain ⟨y, hy⟩ : ∃ y, l0.getD kk z38 = y := ⟨_, rfl⟩
   rw [hy] at hx0 hx1 hx2 hcall
   have Y := ak hy
   clear hy
   obtain ⟨q, hq⟩ : ∃ q, p y = q := ⟨_, rfl⟩
   rw [hq] at hcall
   have Q := ak hq
   clear hq
   cases q with
   | true =>
    go_wp2_with (go_at_fn g; refine hcall.mono ?_; rintro e w' ⟨rfl, hb'⟩)
    go_ret
    exact ⟨by rw [ixOf_hit p l0 z38 kk hlt (by rw [Y.out]; exact Q.out) A.out]; rfl, below_step HB.out hb'⟩
   | false =>
    go_wp2_with (go_at_fn g; refine hcall.mono ?_; rintro e w' ⟨rfl, hb'⟩)
    go_roundg (l0.length - (kk + 1))
    case measure => omega
    case rel =>
     refine ⟨kk + 1, by omega, by omega, by go_num, ⟨below_step HB.out hb'⟩, ⟨fun j hj => ?_⟩⟩
     by_cases e : j = kk
     ·subst e; rw [Y.out]; exact Q.out
     ·exact A.out j (by omega)
  ·have hltz : decide ((kk : Int) < (l0.length : Int)) = false := decide_eq_false (by omega)
   have hltn : decide (kk < l0.length) = false := decide_eq_false (by omega)
   have E := ak (show kk = l0.length by omega)
   go_wp2
   go_ret
   exact ⟨by rw [ixOf_miss p l0 z38 (fun j hj => A.out j (by have := E.out; omega))]; rfl, HB.out⟩

/-! ### disk_at: function 64 -/
theorem enters90 : ∀ args w, (callFunc 90 args).run Try.prog w = .ok (.enter 90 args) w := enters_of Try.func90 (by kernel_rfl) rfl
set_option maxHeartbeats 8000000 in
theorem disk_at_ix_1.calls (x : S38) (a1 : ByteArray) (B : Nat) (W : World) (hc : W.cell? ⟨B, 0, none⟩ = some (.string a1)) :
  Calls Try.prog 90 #[.agg #[.string x.f0, .string x.f1, .string x.f2], .pointer (some ⟨B, 0, none⟩)] W fun e w' => e = .returned (.bool (x.f0.toList == a1.toList)) ∧ Below W.heap.size W w' := by
 have hu38 := Try.underlying38
 have hB := World.block_lt_of_cell? W _ hc
 go_enter Try.func90, Try.ntmps90
 go_wp2
 go_ret
 exact ⟨rfl, (Below.refl _ _).alloc (Nat.le_refl _) _⟩
set_option maxHeartbeats 8000000 in
theorem disk_at_ix.calls {B : Nat} (A0 : Option Addr) (c0 : Nat) (l0 : List (S38)) (a1 : ByteArray) (r : Int) (w : World) (hB : w.cell? ⟨B, 0, none⟩ = some (.string a1)) (hr0 : Kd.C k38 w A0 l0.length l0) (hc0 : l0.length ≤ c0) (h : disk_at_ix.f l0 a1 = some r) :
  Calls Try.prog 89 #[.slice A0 l0.length c0, .func (.func 90) #[] #[.pointer (some ⟨B, 0, none⟩)]] w fun e w' => e = .returned (.int .i64 r) ∧ Below w.heap.size w w' := by
 obtain rfl := Option.some.inj h
 exact api_File_89.calls (fun x => x.f0.toList == a1.toList) 90 #[.pointer (some ⟨B, 0, none⟩)] enters90 A0 c0 l0 w hr0 (fun W x hb => disk_at_ix_1.calls x a1 B W ((hb.cell (World.block_lt_of_cell? w _ hB)).trans hB))
set_option maxHeartbeats 8000000 in
set_option maxRecDepth 100000 in
theorem disk_at.calls (aJ : Option Addr) (aK : Nat) (aD : List (S38)) (aU : Int) (aV : Int) (aW : Bool) (a1 : ByteArray) (r : Int) (w : World) (aN : Kd.C k38 w aJ aD.length aD) (aQ : aD.length ≤ aK) (h : disk_at.f aD aU aV aW a1 = some r) :
  Calls Try.prog 64 #[.agg #[.slice aJ aD.length aK, .int .i64 aU, .int .i64 aV, .bool aW], .string a1] w fun e w' => e = .returned (.int .i64 r) ∧ Below w.heap.size w w' := by
 have bF := Try.underlying33
 have aX := ak aN
 have aY := ak aQ
 clear aN aQ
 have HB := ak (Below.refl w.heap.size w)
 have H : ((disk_at_ix.f aD a1).bind fun aM => (some aM)) = some r := h
 clear h
 replace H := Option.bind_eq_some_iff.mp H
 obtain ⟨aM, bB, H⟩ := H
 replace H : (some aM) = some r := H
 have A3 := ak bB
 clear bB
 obtain rfl := Option.some.inj H
 go_enter Try.func64, Try.ntmps64
 go_wp2_with (first | ((with_reducible refine gate_dst (N := 2) rfl ?_); refine box_event ?hg (N := 2) ?hd (cs := #[.slice aJ aD.length aK, .int .i64 aU, .int .i64 aV, .bool aW]) (t := 33) ?hr ?_; (case hd => rfl); (case hg => rfl); (case hr => first | (go_simp; done) | (go_simp; rfl)); intro bC hg w4 hbox hb; obtain ⟨n_, aE⟩ := Cb.bx (pB HB.out) hg hb; have bD := aE; have aA := ak (hbox); replace HB := n_; clear n_; clear hb hbox hg) | ((with_reducible refine gate_dst (N := 3) rfl ?_); refine box_event ?hg (N := 3) ?hd (cs := #[.string a1]) (t := 9) ?hr ?_; (case hd => rfl); (case hg => rfl); (case hr => first | (go_simp; done) | (go_simp; rfl)); intro aT hg w5 hbox hb; obtain ⟨n_, aI⟩ := Cb.bx (by repeat (first | (with_reducible first | exact HB.out | apply ba | apply bn | apply bd | refine bs ?_ aE.out) | exact HB.out)) hg hb; have bE := aI; obtain ⟨aG, aH⟩ := Cb.nb hg aA.out; have aC := ak (hbox); replace aA := ak (blk_below aA.out hb); replace HB := n_; clear n_; clear hb hbox hg; have bG := aG.out; have bH := aH.out; obtain ⟨aZ, a2, a3, a4⟩ := Cb.c4 aA.out; obtain ⟨a5, a6, a7, a8⟩ := Cb.f4 aA.out; have a9 : w5.cell? ⟨aT, 0, none⟩ = some (.string a1) := (blk_cell aC.out 0).trans rfl; have bA := blk_frozen aC.out 0) | ((with_reducible refine gate_callee (f := 89) rfl ?_); refine goesL_ (some 8) rfl rfl Try.func89 (by kernel_rfl) rfl #[.slice aJ aD.length aK, .func (.func 90) #[] #[.pointer (some ⟨aT, 0, none⟩)]] rfl (by (try simp only [List.map_toArray, List.map_cons, List.map_nil]); first | done | rfl | (simp only [List.length_drop, List.length_take]; rfl)) ?_; (with_reducible refine (disk_at_ix.calls _ _ aD a1 aM _ ?sideB ?side1 ?side2 A3.out).mono ?_); (case sideB => first | (go_simp; done) | (go_simp; rfl) | exact (blk_cell aC.out 0).trans rfl | exact aC.out | (exact pk aC.out)); (case side1 => repeat (first | exact (Kd.C_below aX.out HB.out) | (with_reducible refine Kd.C_alloc ?_ _) | (with_reducible refine Kd.C_drewN ?_ _) | (with_reducible refine Kd.C_drew ?_))); (case side2 => exact aY.out); rintro e w9 ⟨rfl, hb⟩; refine ⟨_, rfl, ?_⟩; replace aA := ak (blk_below aA.out hb); replace aC := ak (blk_below aC.out hb); replace HB := ak (below_step (by repeat (first | (with_reducible first | exact HB.out | apply ba | apply bn | apply bd | refine bs ?_ aE.out | refine bs ?_ aI.out) | exact HB.out)) hb); (try clear hb); (try clear hb2); (try clear hk); (try clear hi)))
 go_ret
 exact ⟨by first | rfl | (simp [errW_none, errW_some] <;> rfl) | (simp [*, errW_none, errW_some] <;> rfl), by repeat (first | (with_reducible first | exact HB.out | apply ba | apply bn | apply bd | refine bs ?_ aE.out | refine bs ?_ aI.out) | exact HB.out)⟩

/-! ### disk_Find: function 38 -/
set_option maxHeartbeats 8000000 in
set_option maxRecDepth 100000 in
theorem disk_Find.calls (aW : Option Addr) (aX : Nat) (aD : List (S38)) (aM : Int) (aN : Int) (aQ : Bool) (a1 : ByteArray) (r1 : ByteArray) (r2 : ByteArray) (r3 : ByteArray) (r4 : Bool) (w : World) (aZ : Kd.C k38 w aW aD.length aD) (a2 : aD.length ≤ aX) (h : disk_Find.f aD aM aN aQ a1 = some (r1, r2, r3, r4)) :
  Calls Try.prog 38 #[.agg #[.slice aW aD.length aX, .int .i64 aM, .int .i64 aN, .bool aQ], .string a1] w fun e w' => e = .returned (.tuple #[.agg #[.string r1, .string r2, .string r3], .bool r4]) ∧ Below w.heap.size w w' := by
 have cJ := Try.underlying33
 have cK := Try.underlying38
 have aY := ak aZ
 have a3 := ak a2
 clear aZ a2
 have HB := ak (Below.refl w.heap.size w)
 have H : ((disk_at.f aD aM aN aQ a1).bind fun aC => (if aC < 0 then (some ((⟨#[]⟩ : ByteArray), (⟨#[]⟩ : ByteArray), (⟨#[]⟩ : ByteArray), false)) else (if 0 ≤ aC then (if aC < (aD.length : Int) then (some ((rd_T38 aD aC).f0, (rd_T38 aD aC).f1, (rd_T38 aD aC).f2, true)) else (none)) else (none)))) = some (r1, r2, r3, r4) := h
 clear h
 replace H := Option.bind_eq_some_iff.mp H
 obtain ⟨aC, cD, H⟩ := H
 replace H : (if aC < 0 then (some ((⟨#[]⟩ : ByteArray), (⟨#[]⟩ : ByteArray), (⟨#[]⟩ : ByteArray), false)) else (if 0 ≤ aC then (if aC < (aD.length : Int) then (some ((rd_T38 aD aC).f0, (rd_T38 aD aC).f1, (rd_T38 aD aC).f2, true)) else (none)) else (none))) = some (r1, r2, r3, r4) := H
 have A3 := ak cD
 clear cD
 by_cases c4 : aC < 0
 ·rw [if_pos c4] at H
  have b3 : decide (aC < 0) = true := decide_eq_true c4
  clear c4
  simp only [Option.some.injEq, Prod.mk.injEq] at H
  obtain ⟨rfl, rfl, rfl, rfl⟩ := H
  go_enter Try.func38, Try.ntmps38
  go_wp2_with (first | ((with_reducible refine gate_dst (N := 2) rfl ?_); refine box_event ?hg (N := 2) ?hd (cs := #[.slice aW aD.length aX, .int .i64 aM, .int .i64 aN, .bool aQ]) (t := 33) ?hr ?_; (case hd => rfl); (case hg => rfl); (case hr => first | (go_simp; done) | (go_simp; rfl)); intro a6 hg w5 hbox hb; obtain ⟨n_, aH⟩ := Cb.bx (pB HB.out) hg hb; have a7 := aH; have aA := ak (hbox); replace HB := n_; clear n_; clear hb hbox hg) | ((with_reducible refine gate_dst (N := 4) rfl ?_); refine box_event ?hg (N := 4) ?hd (cs := #[.string (⟨#[]⟩ : ByteArray), .string (⟨#[]⟩ : ByteArray), .string (⟨#[]⟩ : ByteArray)]) (t := 38) ?hr ?_; (case hd => rfl); (case hg => rfl); (case hr => first | (go_simp; done) | (go_simp; rfl)); intro aI hg w6 hbox hb; obtain ⟨n_, aJ⟩ := Cb.bx (by repeat (first | (with_reducible first | exact HB.out | apply ba | apply bn | apply bd | refine bs ?_ aH.out) | exact HB.out)) hg hb; have a8 := aJ; obtain ⟨aG, aK⟩ := Cb.nb hg aA.out; have aE := ak (hbox); replace aA := ak (blk_below aA.out hb); replace HB := n_; clear n_; clear hb hbox hg; have cL := aG.out; have cM := aK.out; obtain ⟨b4, b5, b6, b7⟩ := Cb.c4 aA.out; obtain ⟨b8, b9, cA, cB⟩ := Cb.f4 aA.out) | ((with_reducible refine gate_callee (f := 64) rfl ?_); refine goesL_ (some 9) rfl rfl Try.func64 (by kernel_rfl) rfl #[.agg #[.slice aW aD.length aX, .int .i64 aM, .int .i64 aN, .bool aQ], .string a1] rfl (by (try simp only [List.map_toArray, List.map_cons, List.map_nil]); first | done | rfl | (simp only [List.length_drop, List.length_take]; rfl)) ?_; (with_reducible refine (disk_at.calls _ _ aD aM aN aQ a1 aC _ ?side1 ?side2 A3.out).mono ?_); (case side1 => repeat (first | exact (Kd.C_below aY.out HB.out) | (with_reducible refine Kd.C_alloc ?_ _) | (with_reducible refine Kd.C_drewN ?_ _) | (with_reducible refine Kd.C_drew ?_))); (case side2 => exact a3.out); rintro e w9 ⟨rfl, hb⟩; refine ⟨_, rfl, ?_⟩; replace aA := ak (blk_below aA.out hb); replace aE := ak (blk_below aE.out hb); replace HB := ak (below_step (by repeat (first | (with_reducible first | exact HB.out | apply ba | apply bn | apply bd | refine bs ?_ aH.out | refine bs ?_ aJ.out) | exact HB.out)) hb); (try clear hb); (try clear hb2); (try clear hk); (try clear hi); obtain ⟨a9, bA, bB⟩ := Cb.c3 aE.out; obtain ⟨bC, bD, bE⟩ := Cb.f3 aE.out) | ((with_reducible refine gate_store (t := 38) (p := 4) rfl ?_); refine store_event (t := 38) (p := 4) (v := ?vo_w11) (w1 := (((w9.setCell ⟨aI, 0, none⟩ (.string (⟨#[]⟩ : ByteArray))).setCell ⟨aI, 1, none⟩ (.string (⟨#[]⟩ : ByteArray))).setCell ⟨aI, 2, none⟩ (.string (⟨#[]⟩ : ByteArray)))) ?hg ?ho ?hn ?hr ?_; (case ho => rfl); (case hg => rfl); (case hn => rfl); (case hr => first | (go_simp; done) | (go_simp; rfl)); intro cO hw; replace aA := bf3 hw aG.out aA.out; replace aE := bp3 hw aE.out; replace HB := bw3 hw HB.out aJ.out; clear hw))
  refine bodyPost_ret (results_ct rfl _ _ aI 38 #[.string (⟨#[]⟩ : ByteArray), .string (⟨#[]⟩ : ByteArray), .string (⟨#[]⟩ : ByteArray)] (0, 0) _ rfl (pk aE.out) Try.underlying38 rfl (by kernel_rfl)) rfl ?_
  exact ⟨by first | rfl | (simp [errW_none, errW_some] <;> rfl) | (simp [*, errW_none, errW_some] <;> rfl), by repeat (first | (with_reducible first | exact HB.out | apply ba | apply bn | apply bd | refine bs ?_ aH.out | refine bs ?_ aJ.out) | exact HB.out)⟩
 ·rw [if_neg c4] at H
  have b3 : decide (aC < 0) = false := decide_eq_false c4
  clear c4
  have bF : 0 ≤ aC := Decidable.byContradiction fun q => by rw [if_neg q] at H; exact absurd H (by simp)
  rw [if_pos bF] at H
  have cE : decide (0 ≤ aC) = true := decide_eq_true bF
  clear bF
  have bG : aC < (aD.length : Int) := Decidable.byContradiction fun q => by rw [if_neg q] at H; exact absurd H (by simp)
  rw [if_pos bG] at H
  have cF : decide (aC < (aD.length : Int)) = true := decide_eq_true bG
  clear bG
  simp only [Option.some.injEq, Prod.mk.injEq] at H
  obtain ⟨rfl, rfl, rfl, rfl⟩ := H
  go_enter Try.func38, Try.ntmps38
  go_wp2_with (first | ((with_reducible refine gate_dst (N := 2) rfl ?_); refine box_event ?hg (N := 2) ?hd (cs := #[.slice aW aD.length aX, .int .i64 aM, .int .i64 aN, .bool aQ]) (t := 33) ?hr ?_; (case hd => rfl); (case hg => rfl); (case hr => first | (go_simp; done) | (go_simp; rfl)); intro a6 hg cP hbox hb; obtain ⟨n_, aH⟩ := Cb.bx (pB HB.out) hg hb; have a7 := aH; have aA := ak (hbox); replace HB := n_; clear n_; clear hb hbox hg) | ((with_reducible refine gate_dst (N := 4) rfl ?_); refine box_event ?hg (N := 4) ?hd (cs := #[.string (⟨#[]⟩ : ByteArray), .string (⟨#[]⟩ : ByteArray), .string (⟨#[]⟩ : ByteArray)]) (t := 38) ?hr ?_; (case hd => rfl); (case hg => rfl); (case hr => first | (go_simp; done) | (go_simp; rfl)); intro aI hg cQ hbox hb; obtain ⟨n_, aJ⟩ := Cb.bx (by repeat (first | (with_reducible first | exact HB.out | apply ba | apply bn | apply bd | refine bs ?_ aH.out) | exact HB.out)) hg hb; have a8 := aJ; obtain ⟨aG, aK⟩ := Cb.nb hg aA.out; have aE := ak (hbox); replace aA := ak (blk_below aA.out hb); replace HB := n_; clear n_; clear hb hbox hg; have cG := aG.out; have cH := aK.out; obtain ⟨bH, bI, bJ, bK⟩ := Cb.c4 aA.out; obtain ⟨bL, bM, bN, bO⟩ := Cb.f4 aA.out) | ((with_reducible refine gate_callee (f := 64) rfl ?_); refine goesL_ (some 9) rfl rfl Try.func64 (by kernel_rfl) rfl #[.agg #[.slice aW aD.length aX, .int .i64 aM, .int .i64 aN, .bool aQ], .string a1] rfl (by (try simp only [List.map_toArray, List.map_cons, List.map_nil]); first | done | rfl | (simp only [List.length_drop, List.length_take]; rfl)) ?_; (with_reducible refine (disk_at.calls _ _ aD aM aN aQ a1 aC _ ?side1 ?side2 A3.out).mono ?_); (case side1 => repeat (first | exact (Kd.C_below aY.out HB.out) | (with_reducible refine Kd.C_alloc ?_ _) | (with_reducible refine Kd.C_drewN ?_ _) | (with_reducible refine Kd.C_drew ?_))); (case side2 => exact a3.out); rintro e cN ⟨rfl, hb⟩; refine ⟨_, rfl, ?_⟩; replace aA := ak (blk_below aA.out hb); replace aE := ak (blk_below aE.out hb); replace HB := ak (below_step (by repeat (first | (with_reducible first | exact HB.out | apply ba | apply bn | apply bd | refine bs ?_ aH.out | refine bs ?_ aJ.out) | exact HB.out)) hb); (try clear hb); (try clear hb2); (try clear hk); (try clear hi); obtain ⟨bP, bQ, bR, bS⟩ := Cb.c4 aA.out; obtain ⟨bT, bU, bV, bW⟩ := Cb.f4 aA.out; have a4 : 0 ≤ (aC : Int) := of_decide_eq_true (by first | (with_reducible assumption) | assumption); have a5 : aC < (aD.length : Int) := of_decide_eq_true (by first | (with_reducible assumption) | assumption); obtain ⟨cI, cC, aT, aU, aV⟩ := at_T38 aY.out aC a4 a5; cases cC; replace aT := (HB.out.cell (World.block_lt_of_cell? w _ aT)).trans aT; replace aU := (HB.out.cell (World.block_lt_of_cell? w _ aU)).trans aU; replace aV := (HB.out.cell (World.block_lt_of_cell? w _ aV)).trans aV; replace a4 := eq_true a4; replace a5 := eq_true a5; obtain ⟨bX, bY, bZ⟩ := Cb.c3 aE.out; obtain ⟨b0, b1, b2⟩ := Cb.f3 aE.out) | ((with_reducible refine gate_store (t := 38) (p := 4) rfl ?_); refine store_event (t := 38) (p := 4) (v := ?vo_w21) (w1 := (((cN.setCell ⟨aI, 0, none⟩ (.string ((rd_T38 aD aC).f0))).setCell ⟨aI, 1, none⟩ (.string ((rd_T38 aD aC).f1))).setCell ⟨aI, 2, none⟩ (.string ((rd_T38 aD aC).f2)))) ?hg ?ho ?hn ?hr ?_; (case ho => rfl); (case hg => rfl); (case hn => rfl); (case hr => first | (go_simp; done) | (go_simp; rfl)); intro cR hw; replace aA := bf3 hw aG.out aA.out; replace aE := bp3 hw aE.out; replace HB := bw3 hw HB.out aJ.out; clear hw))
  refine bodyPost_ret (results_ct rfl _ _ aI 38 #[.string ((rd_T38 aD aC).f0), .string ((rd_T38 aD aC).f1), .string ((rd_T38 aD aC).f2)] (0, 0) _ rfl (pk aE.out) Try.underlying38 rfl (by kernel_rfl)) rfl ?_
  exact ⟨by first | rfl | (simp [errW_none, errW_some] <;> rfl) | (simp [*, errW_none, errW_some] <;> rfl), by repeat (first | (with_reducible first | exact HB.out | apply ba | apply bn | apply bd | refine bs ?_ aH.out | refine bs ?_ aJ.out) | exact HB.out)⟩

/-! ### disk_change: function 65 -/
set_option maxHeartbeats 8000000 in
set_option maxRecDepth 100000 in
theorem disk_change.calls (aW : Nat → Prop) (aT : Option Addr) (aU : Nat) (aJ : List (S38)) (aQ : Int) (aG : Int) (aV : Bool) (r1 : List (S38)) (r2 : Int) (r3 : Int) (r4 : Bool) (r5 : Bool) (w : World) (aZ : Kd.V k38 38 w w.heap.size (fun k_ => aW k_) (.slice aT aJ.length aU) aJ) (h : disk_change.f aJ aQ aG aV = some (r1, r2, r3, r4, r5)) :
  Calls Try.prog 65 #[.agg #[.slice aT aJ.length aU, .int .i64 aQ, .int .i64 aG, .bool aV]] w fun e w' => ∃ v0_ : Value, e = .returned (.tuple #[.agg #[v0_, .int .i64 r2, .int .i64 r3, .bool r4], .bool r5]) ∧ Kd.V k38 38 w' w.heap.size (fun k_ => (aW k_ ∨ w.heap.size ≤ k_)) v0_ r1 ∧ Below w.heap.size w w' := by
 have cL := Try.underlying33
 have aD := ak (show Kd.V k38 38 w w.heap.size (fun k_ => (aW k_ ∨ w.heap.size ≤ k_)) (.slice aT aJ.length aU) aJ from Kd.V_mono aZ (fun k_ hk => .inl hk))
 have HB := ak (Below.refl w.heap.size w)
 have H : (if aG = 0 then (some (aJ, aQ, aG, true, false)) else (if aG > 0 then (some (aJ, aQ, wrap64 (aG - 1), aV, true)) else (some (aJ, aQ, aG, aV, true)))) = some (r1, r2, r3, r4, r5) := h
 clear h
 by_cases c2 : aG = 0
 ·rw [if_pos c2] at H
  have bY : (aG == 0) = true := beq_iff_eq.mpr c2
  have bZ : (aG != 0) = false := bne_eq_false_iff_eq.mpr c2
  clear c2
  simp only [Option.some.injEq, Prod.mk.injEq] at H
  obtain ⟨rfl, rfl, rfl, rfl, rfl⟩ := H
  go_enter Try.func65, Try.ntmps65
  go_wp2_with (first | ((with_reducible refine gate_dst (N := 1) rfl ?_); refine box_event ?hg (N := 1) ?hd (cs := #[.slice aT aJ.length aU, .int .i64 aQ, .int .i64 aG, .bool aV]) (t := 33) ?hr ?_; (case hd => rfl); (case hg => rfl); (case hr => first | (go_simp; done) | (go_simp; rfl)); intro aM hg w3 hbox hb; obtain ⟨n_, aK⟩ := Cb.bx (pB HB.out) hg hb; have aX := aK; have aA := ak (hbox); replace aD := ak (Kd.V_below (Kd.V_elderB (pV aD.out) aM (Nat.le_of_eq hg.symm)) hb); replace HB := n_; clear n_; clear hb hbox hg) | ((with_reducible refine gate_dst (N := 2) rfl ?_); refine box_event ?hg (N := 2) ?hd (cs := #[.slice none 0 0, .int .i64 0, .int .i64 0, .bool false]) (t := 33) ?hr ?_; (case hd => rfl); (case hg => rfl); (case hr => first | (go_simp; done) | (go_simp; rfl)); intro aC hg w4 hbox hb; obtain ⟨n_, aN⟩ := Cb.bx (by repeat (first | (with_reducible first | exact HB.out | apply ba | apply bn | apply bd | refine bs ?_ aK.out) | exact HB.out)) hg hb; have aY := aN; obtain ⟨aE, aH⟩ := Cb.nb hg aA.out; have aI := ak (hbox); replace aD := ak (Kd.V_below (Kd.V_elderB (pV aD.out) aC (Nat.le_of_eq hg.symm)) hb); replace aA := ak (blk_below aA.out hb); replace HB := n_; clear n_; clear hb hbox hg; have cM := aE.out; have cN := aH.out; obtain ⟨b0, b1, b2, b3⟩ := Cb.c4 aA.out; obtain ⟨b4, b5, b6, b7⟩ := Cb.f4 aA.out; obtain ⟨b8, b9, cA, cB⟩ := Cb.c4 aI.out; obtain ⟨cC, cD, cE, cF⟩ := Cb.f4 aI.out) | ((with_reducible refine gate_store (t := 33) (p := 2) rfl ?_); refine store_event (t := 33) (p := 2) (v := ?vo_w8) (w1 := (((((w4.setCell ⟨aM, 3, none⟩ (.bool true)).setCell ⟨aC, 0, none⟩ (.slice aT aJ.length aU)).setCell ⟨aC, 1, none⟩ (.int .i64 aQ)).setCell ⟨aC, 2, none⟩ (.int .i64 aG)).setCell ⟨aC, 3, none⟩ (.bool true))) ?hg ?ho ?hn ?hr ?_; (case ho => rfl); (case hg => rfl); (case hn => rfl); (case hr => first | (go_simp; done) | (go_simp; rfl)); intro w8 hw; replace aD := vg4 (ok' := fun k_ => (aW k_ ∨ w.heap.size ≤ k_) ∧ k_ ≠ aM ∧ k_ ≠ aC) hw (vf1 rfl aD.out fun _ hk => hk.1.2).out (fun _ hk => hk.2) fun _ hk => ⟨hk.1.1, ⟨hk.1.2, hk.2⟩⟩; replace aA : Aside0 (w8.heap[aM]? = some (.cells #[.slice aT aJ.length aU, .int .i64 aQ, .int .i64 aG, .bool true] 33 (0, 0))) := bf4 hw aE.out (blk_put aA.out 3 _ rfl); replace aI := bp4 hw (bf1 rfl aH.out aI.out).out; replace HB := bw4 hw (bw1 rfl HB.out aK.out).out aN.out; clear hw))
  refine bodyPost_ret (results_ct rfl _ _ aC 33 #[.slice aT aJ.length aU, .int .i64 aQ, .int .i64 aG, .bool true] (0, 0) _ rfl (pk aI.out) Try.underlying33 rfl (by kernel_rfl)) rfl ?_
  exact ⟨_, by first | rfl | (simp [errW_none, errW_some] <;> rfl) | (simp [*, errW_none, errW_some] <;> rfl), pV (Kd.V_mono aD.out (fun _ hk => hk.1)), by repeat (first | (with_reducible first | exact HB.out | apply ba | apply bn | apply bd | refine bs ?_ aK.out | refine bs ?_ aN.out) | exact HB.out)⟩
 ·rw [if_neg c2] at H
  have bY : (aG == 0) = false := beq_eq_false_iff_ne.mpr c2
  have bZ : (aG != 0) = true := bne_iff_ne.mpr c2
  by_cases c9 : aG > 0
  ·rw [if_pos c9] at H
   have cG : decide (0 < aG) = true := decide_eq_true c9
   clear c9
   simp only [Option.some.injEq, Prod.mk.injEq] at H
   obtain ⟨rfl, rfl, rfl, rfl, rfl⟩ := H
   go_enter Try.func65, Try.ntmps65
   go_wp2_with (first | ((with_reducible refine gate_dst (N := 1) rfl ?_); refine box_event ?hg (N := 1) ?hd (cs := #[.slice aT aJ.length aU, .int .i64 aQ, .int .i64 aG, .bool aV]) (t := 33) ?hr ?_; (case hd => rfl); (case hg => rfl); (case hr => first | (go_simp; done) | (go_simp; rfl)); intro aM hg cR hbox hb; obtain ⟨n_, aK⟩ := Cb.bx (pB HB.out) hg hb; have aX := aK; have aA := ak (hbox); replace aD := ak (Kd.V_below (Kd.V_elderB (pV aD.out) aM (Nat.le_of_eq hg.symm)) hb); replace HB := n_; clear n_; clear hb hbox hg) | ((with_reducible refine gate_dst (N := 2) rfl ?_); refine box_event ?hg (N := 2) ?hd (cs := #[.slice none 0 0, .int .i64 0, .int .i64 0, .bool false]) (t := 33) ?hr ?_; (case hd => rfl); (case hg => rfl); (case hr => first | (go_simp; done) | (go_simp; rfl)); intro aC hg cO hbox hb; obtain ⟨n_, aN⟩ := Cb.bx (by repeat (first | (with_reducible first | exact HB.out | apply ba | apply bn | apply bd | refine bs ?_ aK.out) | exact HB.out)) hg hb; have aY := aN; obtain ⟨aE, aH⟩ := Cb.nb hg aA.out; have aI := ak (hbox); replace aD := ak (Kd.V_below (Kd.V_elderB (pV aD.out) aC (Nat.le_of_eq hg.symm)) hb); replace aA := ak (blk_below aA.out hb); replace HB := n_; clear n_; clear hb hbox hg; have cH := aE.out; have cI := aH.out; obtain ⟨a2, a3, a4, a5⟩ := Cb.c4 aA.out; obtain ⟨a6, a7, a8, a9⟩ := Cb.f4 aA.out; obtain ⟨bA, bB, bC, bD⟩ := Cb.c4 aI.out; obtain ⟨bE, bF, bG, bH⟩ := Cb.f4 aI.out) | ((with_reducible refine gate_store (t := 33) (p := 2) rfl ?_); refine store_event (t := 33) (p := 2) (v := ?vo_w15) (w1 := (((((cO.setCell ⟨aM, 2, none⟩ (.int .i64 (wrap64 (aG - 1)))).setCell ⟨aC, 0, none⟩ (.slice aT aJ.length aU)).setCell ⟨aC, 1, none⟩ (.int .i64 aQ)).setCell ⟨aC, 2, none⟩ (.int .i64 (wrap64 (aG - 1)))).setCell ⟨aC, 3, none⟩ (.bool aV))) ?hg ?ho ?hn ?hr ?_; (case ho => rfl); (case hg => rfl); (case hn => rfl); (case hr => first | (go_simp; done) | (go_simp; rfl)); intro cP hw; replace aD := vg4 (ok' := fun k_ => (aW k_ ∨ w.heap.size ≤ k_) ∧ k_ ≠ aM ∧ k_ ≠ aC) hw (vf1 rfl aD.out fun _ hk => hk.1.2).out (fun _ hk => hk.2) fun _ hk => ⟨hk.1.1, ⟨hk.1.2, hk.2⟩⟩; replace aA : Aside0 (cP.heap[aM]? = some (.cells #[.slice aT aJ.length aU, .int .i64 aQ, .int .i64 (wrap64 (aG - 1)), .bool aV] 33 (0, 0))) := bf4 hw aE.out (blk_put aA.out 2 _ rfl); replace aI := bp4 hw (bf1 rfl aH.out aI.out).out; replace HB := bw4 hw (bw1 rfl HB.out aK.out).out aN.out; clear hw))
   refine bodyPost_ret (results_ct rfl _ _ aC 33 #[.slice aT aJ.length aU, .int .i64 aQ, .int .i64 (wrap64 (aG - 1)), .bool aV] (0, 0) _ rfl (pk aI.out) Try.underlying33 rfl (by kernel_rfl)) rfl ?_
   exact ⟨_, by first | rfl | (simp [errW_none, errW_some] <;> rfl) | (simp [*, errW_none, errW_some] <;> rfl), pV (Kd.V_mono aD.out (fun _ hk => hk.1)), by repeat (first | (with_reducible first | exact HB.out | apply ba | apply bn | apply bd | refine bs ?_ aK.out | refine bs ?_ aN.out) | exact HB.out)⟩
  ·rw [if_neg c9] at H
   have cG : decide (0 < aG) = false := decide_eq_false c9
   clear c9
   simp only [Option.some.injEq, Prod.mk.injEq] at H
   obtain ⟨rfl, rfl, rfl, rfl, rfl⟩ := H
   go_enter Try.func65, Try.ntmps65
   go_wp2_with (first | ((with_reducible refine gate_dst (N := 1) rfl ?_); refine box_event ?hg (N := 1) ?hd (cs := #[.slice aT aJ.length aU, .int .i64 aQ, .int .i64 aG, .bool aV]) (t := 33) ?hr ?_; (case hd => rfl); (case hg => rfl); (case hr => first | (go_simp; done) | (go_simp; rfl)); intro aM hg cS hbox hb; obtain ⟨n_, aK⟩ := Cb.bx (pB HB.out) hg hb; have aX := aK; have aA := ak (hbox); replace aD := ak (Kd.V_below (Kd.V_elderB (pV aD.out) aM (Nat.le_of_eq hg.symm)) hb); replace HB := n_; clear n_; clear hb hbox hg) | ((with_reducible refine gate_dst (N := 2) rfl ?_); refine box_event ?hg (N := 2) ?hd (cs := #[.slice none 0 0, .int .i64 0, .int .i64 0, .bool false]) (t := 33) ?hr ?_; (case hd => rfl); (case hg => rfl); (case hr => first | (go_simp; done) | (go_simp; rfl)); intro aC hg cQ hbox hb; obtain ⟨n_, aN⟩ := Cb.bx (by repeat (first | (with_reducible first | exact HB.out | apply ba | apply bn | apply bd | refine bs ?_ aK.out) | exact HB.out)) hg hb; have aY := aN; obtain ⟨aE, aH⟩ := Cb.nb hg aA.out; have aI := ak (hbox); replace aD := ak (Kd.V_below (Kd.V_elderB (pV aD.out) aC (Nat.le_of_eq hg.symm)) hb); replace aA := ak (blk_below aA.out hb); replace HB := n_; clear n_; clear hb hbox hg; have cJ := aE.out; have cK := aH.out; obtain ⟨bI, bJ, bK, bL⟩ := Cb.c4 aA.out; obtain ⟨bM, bN, bO, bP⟩ := Cb.f4 aA.out; obtain ⟨bQ, bR, bS, bT⟩ := Cb.c4 aI.out; obtain ⟨bU, bV, bW, bX⟩ := Cb.f4 aI.out) | ((with_reducible refine gate_store (t := 33) (p := 2) rfl ?_); refine store_event (t := 33) (p := 2) (v := ?vo_w21) (w1 := ((((cQ.setCell ⟨aC, 0, none⟩ (.slice aT aJ.length aU)).setCell ⟨aC, 1, none⟩ (.int .i64 aQ)).setCell ⟨aC, 2, none⟩ (.int .i64 aG)).setCell ⟨aC, 3, none⟩ (.bool aV))) ?hg ?ho ?hn ?hr ?_; (case ho => rfl); (case hg => rfl); (case hn => rfl); (case hr => first | (go_simp; done) | (go_simp; rfl)); intro cT hw; replace aD := vg4 (ok' := fun k_ => (aW k_ ∨ w.heap.size ≤ k_) ∧ k_ ≠ aM ∧ k_ ≠ aC) hw aD.out (fun _ hk => hk.2) fun _ hk => ⟨hk.1.1, ⟨hk.1.2, hk.2⟩⟩; replace aA := bf4 hw aE.out aA.out; replace aI := bp4 hw aI.out; replace HB := bw4 hw HB.out aN.out; clear hw))
   refine bodyPost_ret (results_ct rfl _ _ aC 33 #[.slice aT aJ.length aU, .int .i64 aQ, .int .i64 aG, .bool aV] (0, 0) _ rfl (pk aI.out) Try.underlying33 rfl (by kernel_rfl)) rfl ?_
   exact ⟨_, by first | rfl | (simp [errW_none, errW_some] <;> rfl) | (simp [*, errW_none, errW_some] <;> rfl), pV (Kd.V_mono aD.out (fun _ hk => hk.1)), by repeat (first | (with_reducible first | exact HB.out | apply ba | apply bn | apply bd | refine bs ?_ aK.out | refine bs ?_ aN.out) | exact HB.out)⟩

/-! ### disk_size: function 68 -/
set_option maxHeartbeats 8000000 in
set_option maxRecDepth 100000 in
theorem disk_size.calls (a0_0 : ByteArray) (a0_1 : ByteArray) (a0_2 : ByteArray) (r : Int) (w : World) (h : disk_size.f a0_0 a0_1 a0_2 = some r) :
  Calls Try.prog 68 #[.agg #[.string a0_0, .string a0_1, .string a0_2]] w fun e w' => e = .returned (.int .i64 r) ∧ Below w.heap.size w w' := by
 have hu38 := Try.underlying38
 have HB := ak (Below.refl w.heap.size w)
 have H : (some (wrap64 ((a0_1.size : Int) + (a0_2.size : Int)))) = some r := h
 clear h
 obtain rfl := Option.some.inj H
 go_enter Try.func68, Try.ntmps68
 go_wp2_with (first | ((with_reducible refine gate_dst (N := 1) rfl ?_); refine box_event ?hg (N := 1) ?hd (cs := #[.string a0_0, .string a0_1, .string a0_2]) (t := 38) ?hr ?_; (case hd => rfl); (case hg => rfl); (case hr => first | (go_simp; done) | (go_simp; rfl)); intro gb168 hg w2 hbox hb; obtain ⟨n_, GE168⟩ := Cb.bx (pB HB.out) hg hb; have GW168 := GE168; have BK168 := ak (hbox); replace HB := n_; clear n_; clear hb hbox hg; obtain ⟨hcz3_0, hcz3_1, hcz3_2⟩ := Cb.c3 BK168.out; obtain ⟨hfz3_0, hfz3_1, hfz3_2⟩ := Cb.f3 BK168.out))
 go_ret
 exact ⟨by first | rfl | (simp [errW_none, errW_some] <;> rfl) | (simp [*, errW_none, errW_some] <;> rfl), by repeat (first | (with_reducible first | exact HB.out | apply ba | apply bn | apply bd | refine bs ?_ GE168.out) | exact HB.out)⟩

/-! ### api_File_69: function 69 -/
set_option maxHeartbeats 8000000 in
set_option maxRecDepth 100000 in
theorem api_File_69.calls (A0 : Option Addr) (c0 : Nat) (l0 : List (S38)) (r : List (S38)) (w : World) (aK : Kd.C k38 w A0 l0.length l0) (aM : l0.length ≤ c0) (h : api_File_69.f l0 = some r) :
  Calls Try.prog 69 #[.slice A0 l0.length c0] w fun e w' => ∃ v0_ : Value, e = .returned (v0_) ∧ Kd.R k38 38 w' w.heap.size (fun _ => True) v0_ r ∧ Below w.heap.size w w' := by
 have aN := ak aK
 have aT := ak aM
 clear aK aM
 have HB := ak (Below.refl w.heap.size w)
 have H : ((some (([] : List (S38)) : List (S38))).bind fun y169 => (if y169.length + l0.length < 2932031007402 then (some (y169 ++ l0)) else (none))) = some r := h
 clear h
 obtain ⟨y169, hy169⟩ : ∃ y_ : List (S38), y_ = (([] : List (S38))) := ⟨_, rfl⟩
 replace H : (if y169.length + l0.length < 2932031007402 then (some (y169 ++ l0)) else (none)) = some r := by first | (rw [hy169]; with_reducible exact H) | (have aE := (Option.bind_some _ _).symm.trans H; rw [hy169]; with_reducible exact aE) | (have aE := (Option.bind_some _ _).symm.trans H; with_reducible exact aE) | with_reducible exact H | (rw [hy169]; exact H) | exact H
 have aA := ak hy169
 clear hy169
 have c2 : y169.length + l0.length < 2932031007402 := Decidable.byContradiction fun q => by rw [if_neg q] at H; exact absurd H (by simp)
 rw [if_pos c2] at H
 have aI := ak c2
 clear c2
 obtain ⟨y172, hy172⟩ : ∃ y_ : List (S38), y_ = (y169 ++ l0) := ⟨_, rfl⟩
 replace H : (some y172) = some r := by first | (rw [hy172]; with_reducible exact H) | (have aE := (Option.bind_some _ _).symm.trans H; rw [hy172]; with_reducible exact aE) | (have aE := (Option.bind_some _ _).symm.trans H; with_reducible exact aE) | with_reducible exact H | (rw [hy172]; exact H) | exact H
 have aC := ak hy172
 clear hy172
 obtain rfl := Option.some.inj H
 have qT := fun (w : World) (a : Option Addr) (l c : Nat) => Lib.run_eql_slice_nil (P := Try.prog) w 31 38 a l c 0 0 Try.underlying31
 rcases A0 with _ | aU
 ·have hl : l0 = [] := by
   rcases l0 with _ | ⟨x_, l_⟩
   ·rfl
   ·obtain ⟨_, h_, _⟩ := aN.out.2.2 (by simp)
    cases h_
  have hy := ak (show y172 = [] by rw [aC.out, aA.out, hl]; rfl)
  clear hl
  go_enter Try.func69, Try.ntmps69
  go_wp2
  go_ret
  exact ⟨_, rfl, by rw [hy.out]; exact Kd.R_nil _ _ _ _ _, HB.out⟩
 ·go_enter Try.func69, Try.ntmps69
  go_wp2_with (first | ((with_reducible refine gate_dst (N := 5) rfl ?_); refine Kd.R_lit k38 _ 38 ?hg (N := 5) ?hd (xs := ([] : List (S38))) (inner := []) (ok := fun _ => True) (okp := fun _ => True) ?hr ?hp (fun _ hk => hk) trivial (Below.refl _ _) (Nat.le_refl _) (by simp) ?_; (case hd => rfl); (case hg => rfl); (case hr => first | (go_simp; done) | (go_simp; rfl)); (case hp => exact (Reps.none _ _)); intro aJ w3 aG hb hg_ hnew_; clear hg_ hnew_; (first | rw [← aA.out] at aG | (simp only [Int.reduceToNat] at aG; rw [← aA.out] at aG)); have aD := ak (Kd.R_lower aG (below_size (pB HB.out))); replace HB := ak (below_step (pB HB.out) hb); clear hb aG) | ((with_reducible refine gate_builtin (b := .append) (xs := #[.tmp 5, .tmp 6]) rfl ?_); at_builtin; refine Kd.R_append_rows k38 (w0 := w) w.heap.size rfl (.tmp 5) (.tmp 6) 31 38 (.agg #[(.string ⟨#[]⟩), (.string ⟨#[]⟩), (.string ⟨#[]⟩)]) 48 rfl Try.underlying31 info38 rfl (by decide) (by omega) aJ y169 l0 _ _ _ (fun _ => True) (fun _ => False) rfl rfl ?aO ?aR (fun _ _ h => h) (fun _ h => h.elim) ?aF ?aB ?aS ?aL ?_; (case aR => repeat (first | exact (Kd.C_below aN.out HB.out) | (with_reducible refine Kd.C_alloc ?_ _) | (with_reducible refine Kd.C_drewN ?_ _) | (with_reducible refine Kd.C_drew ?_))); (case aB => exact (pB HB.out)); (case aF => exact (fun _ _ => trivial)); (case aO => exact (pR aD.out)); (case aS => exact (below_size (pB HB.out))); (case aL => have := aI.out; omega); intro aQ w5 ho hb hg hat; rw [← aC.out] at ho; have n0_ := ak (hb); have n1_ := ak (ho); clear HB; clear aD; have HB := n0_; have aH := n1_; clear n0_ n1_; clear ho hb hg hat))
  go_ret
  exact ⟨_, by first | rfl | (simp [errW_none, errW_some] <;> rfl) | (simp [*, errW_none, errW_some] <;> rfl), pR aH.out, pB HB.out⟩

end Go.Proofs.Ytbhkopbalhhpgaa.PY
