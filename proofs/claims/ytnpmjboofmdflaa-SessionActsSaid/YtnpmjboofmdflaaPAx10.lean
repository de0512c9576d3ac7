-- Made by a program of this workplace out of the translation (wip/tools in the repo). Not trusted: Lean checks it.
import Derived.Test.YtnpmjboofmdflaaPAx0
import Derived.Test.YtnpmjboofmdflaaCb
import Derived.Test.YtnpmjboofmdflaaSq
import Derived.Test.YtnpmjboofmdflaaTq
import Derived.Test.YtnpmjboofmdflaaPAx1
import Derived.Test.YtnpmjboofmdflaaPAx2
import Derived.Test.YtnpmjboofmdflaaPAx3
namespace Go.Proofs.Ytnpmjboofmdflaa.PA
open Go.RowKit Go.Proofs.YtnpmjboofmdflaaW.PrintWords Go.Proofs.YtnpmjboofmdflaaW.PrintLast Go.Proofs.YtnpmjboofmdflaaW.PrintMore Go.Proofs.Ytnpmjboofmdflaa
attribute [local go_sem] max2_int min2_int max_two min_two max_three min_three max_four min_four   -- for this text's walks alone
set_option linter.unusedVariables false
set_option linter.unusedSimpArgs false

attribute [local go_sem high] eqA42 eqA85
/-! ### stanchionlaw17_few: function 15 -/
set_option maxHeartbeats 8000000 in
set_option maxRecDepth 100000 in
theorem stanchionlaw17_few.calls (aE : Int) (aF : Option Addr) (aG : Nat) (aA : List (S42)) (aH : Option Addr) (aI : Nat) (aB : List (S85)) (aJ : Int) (aK : Int) (r : Bool) (w : World) (aL : Kd.C k42 w aF aA.length aA) (aM : aA.length ≤ aG) (aN : Kd.C k85 w aH aB.length aB) (aO : aB.length ≤ aI) (h : stanchionlaw17_few.f aE aA aB aJ aK = some r) :
  Calls Try.prog 15 #[.agg #[.int .i64 aE, .slice aF aA.length aG, .slice aH aB.length aI, .int .i64 aJ, .int .u64 aK]] w fun e w' => e = .returned (.bool r) ∧ Below w.heap.size w w' := by
 have bH := Try.underlying26
 have bD := ak aL
 have bE := ak aM
 clear aL aM
 have bF := ak aN
 have bG := ak aO
 clear aN aO
 have HB := ak (Below.refl w.heap.size w)
 have H : (if (aA.length : Int) ≤ 100 then (some (decide ((aB.length : Int) ≤ 100))) else (some false)) = some r := h
 clear h
 by_cases c2 : (aA.length : Int) ≤ 100
 ·rw [if_pos c2] at H
  have aR : decide ((aA.length : Int) ≤ 100) = true := decide_eq_true c2
  have aS : decide (aA.length ≤ 100) = true := decide_eq_true (by omega)
  clear c2
  obtain rfl := Option.some.inj H
  go_enter Try.func15, Try.ntmps15
  go_wp2_with (first | ((with_reducible refine gate_dst (N := 1) rfl ?_); (try (refine gate_guard (by rfl) ?_; dsimp only)); refine bv 1 26 #[.int .i64 aE, .slice aF aA.length aG, .slice aH aB.length aI, .int .i64 aJ, .int .u64 aK] ?_; intro aP hg w3 hbox hb; obtain ⟨n_, aC⟩ := Cb.bx (pB HB.out) hg hb; have aQ := aC; have aD := ak (hbox); replace HB := n_; clear n_; clear hb hbox hg; obtain ⟨aT, aU, aV, aW, aX⟩ := Cb.c5 aD.out; obtain ⟨aY, aZ, a0, a1, a2⟩ := Cb.f5 aD.out))
  go_ret
  exact ⟨by first | rfl | (simp [errW_none, errW_some] <;> rfl) | (simp [*, errW_none, errW_some] <;> rfl), ua aC.out HB.out⟩
 ·rw [if_neg c2] at H
  have aR : decide ((aA.length : Int) ≤ 100) = false := decide_eq_false c2
  have aS : decide (aA.length ≤ 100) = false := decide_eq_false (by omega)
  clear c2
  obtain rfl := Option.some.inj H
  go_enter Try.func15, Try.ntmps15
  go_wp2_with (first | ((with_reducible refine gate_dst (N := 1) rfl ?_); (try (refine gate_guard (by rfl) ?_; dsimp only)); refine bv 1 26 #[.int .i64 aE, .slice aF aA.length aG, .slice aH aB.length aI, .int .i64 aJ, .int .u64 aK] ?_; intro aP hg w5 hbox hb; obtain ⟨n_, aC⟩ := Cb.bx (pB HB.out) hg hb; have aQ := aC; have aD := ak (hbox); replace HB := n_; clear n_; clear hb hbox hg; obtain ⟨a3, a4, a5, a6, a7⟩ := Cb.c5 aD.out; obtain ⟨a8, a9, bA, bB, bC⟩ := Cb.f5 aD.out))
  go_ret
  exact ⟨by first | rfl | (simp [errW_none, errW_some] <;> rfl) | (simp [*, errW_none, errW_some] <;> rfl), ua aC.out HB.out⟩

/-! ### stanchionref17_Sessions: function 35 -/
set_option maxHeartbeats 8000000 in
set_option maxRecDepth 100000 in
theorem stanchionref17_Sessions.calls (k : Nat) (A0 : Option Addr) (c0 : Nat) (l0 : List (S42)) (A1 : Option Addr) (c1 : Nat) (l1 : List (S42)) (r : Bool) (w : World) (a0 : Kd.C k42 w A0 l0.length l0) (a1 : l0.length ≤ c0) (a2 : Kd.C k42 w A1 l1.length l1) (a3 : l1.length ≤ c1) (h : stanchionref17_Sessions.f k l0 l1 = some r) :
  Calls Try.prog 35 #[.slice A0 l0.length c0, .slice A1 l1.length c1] w fun e w' => e = .returned (.bool r) ∧ Drawn0 w w' := by
 have a7 := Try.underlying42
 have a4 := ak a0
 have bA := ak a1
 clear a0 a1
 have a5 := ak a2
 have bB := ak a3
 clear a2 a3
 have H : (if (l0.length : Int) = (l1.length : Int) then (stanchionref17_Sessions.l0 k l0 l1 0) else (some false)) = some r := h
 clear h
 by_cases c3 : (l0.length : Int) = (l1.length : Int)
 ·rw [if_pos c3] at H
  have aT : ((l0.length : Int) == (l1.length : Int)) = true := beq_iff_eq.mpr c3
  have aU : ((l0.length : Int) != (l1.length : Int)) = false := bne_eq_false_iff_eq.mpr c3
  have aV : (l0.length == l1.length) = true := by first | simpa using c3 | (simp at c3 ⊢; omega)
  clear c3
  have H' := ak H
  clear H
  go_enter Try.func35, Try.ntmps35
  go_wp2
  repeat (go_quiet (fail); try go_wp2)
  go_loopg [5] k (fun kq v5 w' => ∃ (aA : Int), v5 = .int .i64 aA ∧ Aside0 (stanchionref17_Sessions.l0 kq l0 l1 aA = some r) ∧ Aside0 (kq ≤ k) ∧ Drawn0 w w')
  case atStart => exact ⟨(0), es, H', ⟨Nat.le_refl _⟩, by repeat (first | exact Drawn0.refl _ | apply Drawn0.step)⟩
  case round =>
   clear H'
   try clear c1 p2 c3 aT aU aV
   obtain ⟨aA, rfl, HA, a6, ⟨m1, rfl⟩⟩ := hrel
   cases gk with
   | zero => exact absurd HA.out (by simp [stanchionref17_Sessions.l0])
   | succ k1 =>
    have H := HA.out
    clear HA
    simp only [stanchionref17_Sessions.l0] at H
    by_cases c4 : aA < (l0.length : Int)
    ·rw [if_pos c4] at H
     have aY : decide (aA < (l0.length : Int)) = true := decide_eq_true c4
     clear c4
     have c5 : 0 ≤ aA := Decidable.byContradiction fun q => by rw [if_neg q] at H; exact absurd H (by simp)
     rw [if_pos c5] at H
     have a8 : decide (0 ≤ aA) = true := decide_eq_true c5
     clear c5
     have c6 : aA < (l1.length : Int) := Decidable.byContradiction fun q => by rw [if_neg q] at H; exact absurd H (by simp)
     rw [if_pos c6] at H
     have a9 : decide (aA < (l1.length : Int)) = true := decide_eq_true c6
     clear c6
     by_cases c7 : (!(((rd_T42 l0 aA).f0) == ((rd_T42 l1 aA).f0)) || (!(((rd_T42 l0 aA).f1) == ((rd_T42 l1 aA).f1)) || (!(((rd_T42 l0 aA).f2) == ((rd_T42 l1 aA).f2)) || (!((((rd_T42 l0 aA).f3).toList) == (((rd_T42 l1 aA).f3).toList)) || (!(((rd_T42 l0 aA).f4) == ((rd_T42 l1 aA).f4)) || (!(((rd_T42 l0 aA).f5) == ((rd_T42 l1 aA).f5)))))))) = true
     ·rw [if_pos c7] at H
      have aZ : (!(((rd_T42 l0 aA).f0) == ((rd_T42 l1 aA).f0)) || (!(((rd_T42 l0 aA).f1) == ((rd_T42 l1 aA).f1)) || (!(((rd_T42 l0 aA).f2) == ((rd_T42 l1 aA).f2)) || (!((((rd_T42 l0 aA).f3).toList) == (((rd_T42 l1 aA).f3).toList)) || (!(((rd_T42 l0 aA).f4) == ((rd_T42 l1 aA).f4)) || (!(((rd_T42 l0 aA).f5) == ((rd_T42 l1 aA).f5)))))))) = true := c7
      clear c7
      obtain rfl := Option.some.inj H
      have aB : 0 ≤ (aA : Int) := od
      have aC : aA < (l0.length : Int) := od
      obtain ⟨aW, aR, aF, aG, aH, aI, aJ, aK⟩ := at_T42 a4.out aA aB aC
      cases aR
      replace aB := eq_true aB
      replace aC := eq_true aC
      have aD : 0 ≤ (aA : Int) := od
      have aE : aA < (l1.length : Int) := od
      obtain ⟨aX, aS, aL, aM, aN, aO, aP, aQ⟩ := at_T42 a5.out aA aD aE
      cases aS
      replace aD := eq_true aD
      replace aE := eq_true aE
      go_wp2
      repeat (go_quiet (fail); try go_wp2)
      go_ret
      exact ⟨by first | rfl | (simp; done) | (simp [*]; done), by repeat (first | exact Drawn0.refl _ | apply Drawn0.step)⟩
     ·rw [if_neg c7] at H
      have aZ : (!(((rd_T42 l0 aA).f0) == ((rd_T42 l1 aA).f0)) || (!(((rd_T42 l0 aA).f1) == ((rd_T42 l1 aA).f1)) || (!(((rd_T42 l0 aA).f2) == ((rd_T42 l1 aA).f2)) || (!((((rd_T42 l0 aA).f3).toList) == (((rd_T42 l1 aA).f3).toList)) || (!(((rd_T42 l0 aA).f4) == ((rd_T42 l1 aA).f4)) || (!(((rd_T42 l0 aA).f5) == ((rd_T42 l1 aA).f5)))))))) = false := by simpa using c7
      clear c7
      have H' := ak H
      clear H
      have aB : 0 ≤ (aA : Int) := od
      have aC : aA < (l0.length : Int) := od
      obtain ⟨aW, aR, aF, aG, aH, aI, aJ, aK⟩ := at_T42 a4.out aA aB aC
      cases aR
      replace aB := eq_true aB
      replace aC := eq_true aC
      have aD : 0 ≤ (aA : Int) := od
      have aE : aA < (l1.length : Int) := od
      obtain ⟨aX, aS, aL, aM, aN, aO, aP, aQ⟩ := at_T42 a5.out aA aD aE
      cases aS
      replace aD := eq_true aD
      replace aE := eq_true aE
      go_wp2
      repeat (go_quiet (fail); try go_wp2)
      go_roundg k1
      case measure => have := a6.out; omega
      case rel => exact ⟨(wrap64 (aA + 1)), es, H', ⟨by have := a6.out; omega⟩, by repeat (first | exact Drawn0.refl _ | apply Drawn0.step)⟩
    ·rw [if_neg c4] at H
     have aY : decide (aA < (l0.length : Int)) = false := decide_eq_false c4
     clear c4
     obtain rfl := Option.some.inj H
     go_wp2
     repeat (go_quiet (fail); try go_wp2)
     go_ret
     exact ⟨by first | rfl | (simp; done) | (simp [*]; done), by repeat (first | exact Drawn0.refl _ | apply Drawn0.step)⟩
 ·rw [if_neg c3] at H
  have aT : ((l0.length : Int) == (l1.length : Int)) = false := beq_eq_false_iff_ne.mpr c3
  have aU : ((l0.length : Int) != (l1.length : Int)) = true := bne_iff_ne.mpr c3
  have aV : (l0.length == l1.length) = false := by first | simpa using c3 | (simp at c3 ⊢; omega)
  obtain rfl := Option.some.inj H
  go_enter Try.func35, Try.ntmps35
  go_wp2
  repeat (go_quiet (fail); try go_wp2)
  go_ret
  exact ⟨by first | rfl | (simp; done) | (simp [*]; done), by repeat (first | exact Drawn0.refl _ | apply Drawn0.step)⟩

/-! ### stanchionref15_Same: function 47 -/
set_option maxHeartbeats 8000000 in
set_option maxRecDepth 100000 in
theorem stanchionref15_Same.calls (k : Nat) (A0 : Option Addr) (c0 : Nat) (l0 : List (S85)) (A1 : Option Addr) (c1 : Nat) (l1 : List (S85)) (r : Bool) (w : World) (aS : Kd.C k85 w A0 l0.length l0) (aT : l0.length ≤ c0) (aU : Kd.C k85 w A1 l1.length l1) (aV : l1.length ≤ c1) (h : stanchionref15_Same.f k l0 l1 = some r) :
  Calls Try.prog 47 #[.slice A0 l0.length c0, .slice A1 l1.length c1] w fun e w' => e = .returned (.bool r) ∧ Drawn0 w w' := by
 have aZ := Try.underlying85
 have aW := ak aS
 have a2 := ak aT
 clear aS aT
 have aX := ak aU
 have a3 := ak aV
 clear aU aV
 have H : (if (l0.length : Int) = (l1.length : Int) then (stanchionref15_Same.l0 k l0 l1 0) else (some false)) = some r := h
 clear h
 by_cases c3 : (l0.length : Int) = (l1.length : Int)
 ·rw [if_pos c3] at H
  have aL : ((l0.length : Int) == (l1.length : Int)) = true := beq_iff_eq.mpr c3
  have aM : ((l0.length : Int) != (l1.length : Int)) = false := bne_eq_false_iff_eq.mpr c3
  have aN : (l0.length == l1.length) = true := by first | simpa using c3 | (simp at c3 ⊢; omega)
  clear c3
  have H' := ak H
  clear H
  go_enter Try.func47, Try.ntmps47
  go_wp2
  repeat (go_quiet (fail); try go_wp2)
  go_loopg [5] k (fun kq v5 w' => ∃ (aA : Int), v5 = .int .i64 aA ∧ Aside0 (stanchionref15_Same.l0 kq l0 l1 aA = some r) ∧ Aside0 (kq ≤ k) ∧ Drawn0 w w')
  case atStart => exact ⟨(0), es, H', ⟨Nat.le_refl _⟩, by repeat (first | exact Drawn0.refl _ | apply Drawn0.step)⟩
  case round =>
   clear H'
   try clear c1 p2 c3 aL aM aN
   obtain ⟨aA, rfl, HA, aY, ⟨m1, rfl⟩⟩ := hrel
   cases gk with
   | zero => exact absurd HA.out (by simp [stanchionref15_Same.l0])
   | succ k1 =>
    have H := HA.out
    clear HA
    simp only [stanchionref15_Same.l0] at H
    by_cases c4 : aA < (l0.length : Int)
    ·rw [if_pos c4] at H
     have aQ : decide (aA < (l0.length : Int)) = true := decide_eq_true c4
     clear c4
     have c5 : 0 ≤ aA := Decidable.byContradiction fun q => by rw [if_neg q] at H; exact absurd H (by simp)
     rw [if_pos c5] at H
     have a0 : decide (0 ≤ aA) = true := decide_eq_true c5
     clear c5
     have c6 : aA < (l1.length : Int) := Decidable.byContradiction fun q => by rw [if_neg q] at H; exact absurd H (by simp)
     rw [if_pos c6] at H
     have a1 : decide (aA < (l1.length : Int)) = true := decide_eq_true c6
     clear c6
     by_cases c7 : (!(((rd_T85 l0 aA).f0) == ((rd_T85 l1 aA).f0)) || (!(((rd_T85 l0 aA).f1) == ((rd_T85 l1 aA).f1)))) = true
     ·rw [if_pos c7] at H
      have aR : (!(((rd_T85 l0 aA).f0) == ((rd_T85 l1 aA).f0)) || (!(((rd_T85 l0 aA).f1) == ((rd_T85 l1 aA).f1)))) = true := c7
      clear c7
      obtain rfl := Option.some.inj H
      have aB : 0 ≤ (aA : Int) := od
      have aC : aA < (l0.length : Int) := od
      obtain ⟨aO, aJ, aF, aG⟩ := at_T85 aW.out aA aB aC
      cases aJ
      replace aB := eq_true aB
      replace aC := eq_true aC
      have aD : 0 ≤ (aA : Int) := od
      have aE : aA < (l1.length : Int) := od
      obtain ⟨aP, aK, aH, aI⟩ := at_T85 aX.out aA aD aE
      cases aK
      replace aD := eq_true aD
      replace aE := eq_true aE
      go_wp2
      repeat (go_quiet (fail); try go_wp2)
      go_ret
      exact ⟨by first | rfl | (simp; done) | (simp [*]; done), by repeat (first | exact Drawn0.refl _ | apply Drawn0.step)⟩
     ·rw [if_neg c7] at H
      have aR : (!(((rd_T85 l0 aA).f0) == ((rd_T85 l1 aA).f0)) || (!(((rd_T85 l0 aA).f1) == ((rd_T85 l1 aA).f1)))) = false := by simpa using c7
      clear c7
      have H' := ak H
      clear H
      have aB : 0 ≤ (aA : Int) := od
      have aC : aA < (l0.length : Int) := od
      obtain ⟨aO, aJ, aF, aG⟩ := at_T85 aW.out aA aB aC
      cases aJ
      replace aB := eq_true aB
      replace aC := eq_true aC
      have aD : 0 ≤ (aA : Int) := od
      have aE : aA < (l1.length : Int) := od
      obtain ⟨aP, aK, aH, aI⟩ := at_T85 aX.out aA aD aE
      cases aK
      replace aD := eq_true aD
      replace aE := eq_true aE
      go_wp2
      repeat (go_quiet (fail); try go_wp2)
      go_roundg k1
      case measure => have := aY.out; omega
      case rel => exact ⟨(wrap64 (aA + 1)), es, H', ⟨by have := aY.out; omega⟩, by repeat (first | exact Drawn0.refl _ | apply Drawn0.step)⟩
    ·rw [if_neg c4] at H
     have aQ : decide (aA < (l0.length : Int)) = false := decide_eq_false c4
     clear c4
     obtain rfl := Option.some.inj H
     go_wp2
     repeat (go_quiet (fail); try go_wp2)
     go_ret
     exact ⟨by first | rfl | (simp; done) | (simp [*]; done), by repeat (first | exact Drawn0.refl _ | apply Drawn0.step)⟩
 ·rw [if_neg c3] at H
  have aL : ((l0.length : Int) == (l1.length : Int)) = false := beq_eq_false_iff_ne.mpr c3
  have aM : ((l0.length : Int) != (l1.length : Int)) = true := bne_iff_ne.mpr c3
  have aN : (l0.length == l1.length) = false := by first | simpa using c3 | (simp at c3 ⊢; omega)
  obtain rfl := Option.some.inj H
  go_enter Try.func47, Try.ntmps47
  go_wp2
  repeat (go_quiet (fail); try go_wp2)
  go_ret
  exact ⟨by first | rfl | (simp; done) | (simp [*]; done), by repeat (first | exact Drawn0.refl _ | apply Drawn0.step)⟩

/-! ### stanchionref17_Same: function 21 -/
set_option maxHeartbeats 8000000 in
set_option maxRecDepth 100000 in
theorem stanchionref17_Same.calls (k : Nat) (aK : Int) (aO : Option Addr) (aP : Nat) (aI : List (S42)) (aQ : Option Addr) (aR : Nat) (aF : List (S85)) (aL : Int) (aS : Int) (aM : Int) (aT : Option Addr) (aU : Nat) (aJ : List (S42)) (aV : Option Addr) (aW : Nat) (aG : List (S85)) (aN : Int) (aX : Int) (r : Bool) (w : World) (bC : Kd.C k42 w aO aI.length aI) (bD : aI.length ≤ aP) (bE : Kd.C k85 w aQ aF.length aF) (bF : aF.length ≤ aR) (bG : Kd.C k42 w aT aJ.length aJ) (bH : aJ.length ≤ aU) (bI : Kd.C k85 w aV aG.length aG) (bJ : aG.length ≤ aW) (h : stanchionref17_Same.f k aK aI aF aL aS aM aJ aG aN aX = some r) :
  Calls Try.prog 21 #[.agg #[.int .i64 aK, .slice aO aI.length aP, .slice aQ aF.length aR, .int .i64 aL, .int .u64 aS], .agg #[.int .i64 aM, .slice aT aJ.length aU, .slice aV aG.length aW, .int .i64 aN, .int .u64 aX]] w fun e w' => e = .returned (.bool r) ∧ Below w.heap.size w w' := by
 have e1 := Try.underlying26
 have aY := ak bC
 have aZ := ak bD
 clear bC bD
 have a0 := ak bE
 have a1 := ak bF
 clear bE bF
 have a2 := ak bG
 have a3 := ak bH
 clear bG bH
 have a4 := ak bI
 have a5 := ak bJ
 clear bI bJ
 have HB := ak (Below.refl w.heap.size w)
 have H : ((stanchionref17_Sessions.f k aI aJ).bind fun bB => ((stanchionref15_Same.f k aF aG).bind fun a6 => (if bB = true then (if a6 = true then (if aK = aM then (if aL = aN then (some (aS == aX)) else (some false)) else (some false)) else (some false)) else (some false)))) = some r := h
 clear h
 replace H := Option.bind_eq_some_iff.mp H
 obtain ⟨bB, eP, H⟩ := H
 try dsimp only at H
 have A3 := ak eP
 clear eP
 replace H := Option.bind_eq_some_iff.mp H
 obtain ⟨a6, eQ, H⟩ := H
 try dsimp only at H
 have A4 := ak eQ
 clear eQ
 by_cases c5 : bB = true
 ·subst c5
  rw [if_pos rfl] at H
  by_cases c6 : a6 = true
  ·subst c6
   rw [if_pos rfl] at H
   by_cases c7 : aK = aM
   ·rw [if_pos c7] at H
    have eL : (aK == aM) = true := beq_iff_eq.mpr c7
    have eM : (aK != aM) = false := bne_eq_false_iff_eq.mpr c7
    clear c7
    by_cases c8 : aL = aN
    ·rw [if_pos c8] at H
     have eN : (aL == aN) = true := beq_iff_eq.mpr c8
     have eO : (aL != aN) = false := bne_eq_false_iff_eq.mpr c8
     clear c8
     obtain rfl := Option.some.inj H
     go_enter Try.func21, Try.ntmps21
     go_wp2_with (first | ((with_reducible refine gate_dst (N := 2) rfl ?_); refine bv 2 26 #[.int .i64 aK, .slice aO aI.length aP, .slice aQ aF.length aR, .int .i64 aL, .int .u64 aS] ?_; intro a7 hg w9 hbox hb; obtain ⟨n_, aA⟩ := Cb.bx (pB HB.out) hg hb; have a8 := aA; have aB := ak (hbox); replace HB := n_; clear n_; clear hb hbox hg) | ((with_reducible refine gate_dst (N := 3) rfl ?_); refine bv 3 26 #[.int .i64 aM, .slice aT aJ.length aU, .slice aV aG.length aW, .int .i64 aN, .int .u64 aX] ?_; intro a9 hg e2 hbox hb; obtain ⟨n_, aC⟩ := Cb.bx (ua aA.out HB.out) hg hb; have bA := aC; obtain ⟨aD, aE⟩ := Cb.nb hg aB.out; have aH := ak (hbox); replace aB := bb aB hb; replace HB := n_; clear n_; clear hb hbox hg; have eR := aD.out; have eS := aE.out; obtain ⟨bK, bL, bM, bN, bO⟩ := Cb.c5 aB.out; obtain ⟨bP, bQ, bR, bS, bT⟩ := Cb.f5 aB.out; obtain ⟨bU, bV, bW, bX, bY⟩ := Cb.c5 aH.out; obtain ⟨bZ, b0, b1, b2, b3⟩ := Cb.f5 aH.out) | ((with_reducible refine gate_callee (f := 35) rfl ?_); refine goesL_ (some 11) rfl rfl Try.func35 (by kernel_rfl) rfl #[.slice aO aI.length aP, .slice aT aJ.length aU] rfl mp ?_; (with_reducible refine (stanchionref17_Sessions.calls k _ _ aI _ _ aJ true _ ?side1 ?side2 ?side3 ?side4 A3.out).mono ?_); (case side1 => exact pc (Kd.C_below aY.out HB.out)); (case side2 => exact aZ.out); (case side3 => exact pc (Kd.C_below a2.out HB.out)); (case side4 => exact a3.out); rintro e w' ⟨rfl, ⟨nd, rfl⟩⟩; refine ⟨_, rfl, ?_⟩) | ((with_reducible refine gate_callee (f := 47) rfl ?_); refine goesL_ (some 16) rfl rfl Try.func47 (by kernel_rfl) rfl #[.slice aQ aF.length aR, .slice aV aG.length aW] rfl mp ?_; (with_reducible refine (stanchionref15_Same.calls k _ _ aF _ _ aG true _ ?side1 ?side2 ?side3 ?side4 A4.out).mono ?_); (case side1 => repeat (first | exact (Kd.C_below a0.out (ub aA.out aC.out HB.out)) | (with_reducible refine Kd.C_alloc ?_ _) | (with_reducible refine Kd.C_drewN ?_ _) | (with_reducible refine Kd.C_drew ?_))); (case side2 => exact a1.out); (case side3 => repeat (first | exact (Kd.C_below a4.out (ub aA.out aC.out HB.out)) | (with_reducible refine Kd.C_alloc ?_ _) | (with_reducible refine Kd.C_drewN ?_ _) | (with_reducible refine Kd.C_drew ?_))); (case side4 => exact a5.out); rintro e w' ⟨rfl, ⟨nd, rfl⟩⟩; refine ⟨_, rfl, ?_⟩))
     go_ret
     exact ⟨by first | rfl | (simp [errW_none, errW_some] <;> rfl) | (simp [*, errW_none, errW_some] <;> rfl), ub aA.out aC.out HB.out⟩
    ·rw [if_neg c8] at H
     have eN : (aL == aN) = false := beq_eq_false_iff_ne.mpr c8
     have eO : (aL != aN) = true := bne_iff_ne.mpr c8
     obtain rfl := Option.some.inj H
     go_enter Try.func21, Try.ntmps21
     go_wp2_with (first | ((with_reducible refine gate_dst (N := 2) rfl ?_); refine bv 2 26 #[.int .i64 aK, .slice aO aI.length aP, .slice aQ aF.length aR, .int .i64 aL, .int .u64 aS] ?_; intro a7 hg e3 hbox hb; obtain ⟨n_, aA⟩ := Cb.bx (pB HB.out) hg hb; have a8 := aA; have aB := ak (hbox); replace HB := n_; clear n_; clear hb hbox hg) | ((with_reducible refine gate_dst (N := 3) rfl ?_); refine bv 3 26 #[.int .i64 aM, .slice aT aJ.length aU, .slice aV aG.length aW, .int .i64 aN, .int .u64 aX] ?_; intro a9 hg e4 hbox hb; obtain ⟨n_, aC⟩ := Cb.bx (ua aA.out HB.out) hg hb; have bA := aC; obtain ⟨aD, aE⟩ := Cb.nb hg aB.out; have aH := ak (hbox); replace aB := bb aB hb; replace HB := n_; clear n_; clear hb hbox hg; have eT := aD.out; have eU := aE.out; obtain ⟨b4, b5, b6, b7, b8⟩ := Cb.c5 aB.out; obtain ⟨b9, cA, cB, cC, cD⟩ := Cb.f5 aB.out; obtain ⟨cE, cF, cG, cH, cI⟩ := Cb.c5 aH.out; obtain ⟨cJ, cK, cL, cM, cN⟩ := Cb.f5 aH.out) | ((with_reducible refine gate_callee (f := 35) rfl ?_); refine goesL_ (some 11) rfl rfl Try.func35 (by kernel_rfl) rfl #[.slice aO aI.length aP, .slice aT aJ.length aU] rfl mp ?_; (with_reducible refine (stanchionref17_Sessions.calls k _ _ aI _ _ aJ true _ ?side1 ?side2 ?side3 ?side4 A3.out).mono ?_); (case side1 => exact pc (Kd.C_below aY.out HB.out)); (case side2 => exact aZ.out); (case side3 => exact pc (Kd.C_below a2.out HB.out)); (case side4 => exact a3.out); rintro e w' ⟨rfl, ⟨nd, rfl⟩⟩; refine ⟨_, rfl, ?_⟩) | ((with_reducible refine gate_callee (f := 47) rfl ?_); refine goesL_ (some 16) rfl rfl Try.func47 (by kernel_rfl) rfl #[.slice aQ aF.length aR, .slice aV aG.length aW] rfl mp ?_; (with_reducible refine (stanchionref15_Same.calls k _ _ aF _ _ aG true _ ?side1 ?side2 ?side3 ?side4 A4.out).mono ?_); (case side1 => repeat (first | exact (Kd.C_below a0.out (ub aA.out aC.out HB.out)) | (with_reducible refine Kd.C_alloc ?_ _) | (with_reducible refine Kd.C_drewN ?_ _) | (with_reducible refine Kd.C_drew ?_))); (case side2 => exact a1.out); (case side3 => repeat (first | exact (Kd.C_below a4.out (ub aA.out aC.out HB.out)) | (with_reducible refine Kd.C_alloc ?_ _) | (with_reducible refine Kd.C_drewN ?_ _) | (with_reducible refine Kd.C_drew ?_))); (case side4 => exact a5.out); rintro e w' ⟨rfl, ⟨nd, rfl⟩⟩; refine ⟨_, rfl, ?_⟩))
     go_ret
     exact ⟨by first | rfl | (simp [errW_none, errW_some] <;> rfl) | (simp [*, errW_none, errW_some] <;> rfl), ub aA.out aC.out HB.out⟩
   ·rw [if_neg c7] at H
    have eL : (aK == aM) = false := beq_eq_false_iff_ne.mpr c7
    have eM : (aK != aM) = true := bne_iff_ne.mpr c7
    obtain rfl := Option.some.inj H
    go_enter Try.func21, Try.ntmps21
    go_wp2_with (first | ((with_reducible refine gate_dst (N := 2) rfl ?_); refine bv 2 26 #[.int .i64 aK, .slice aO aI.length aP, .slice aQ aF.length aR, .int .i64 aL, .int .u64 aS] ?_; intro a7 hg e5 hbox hb; obtain ⟨n_, aA⟩ := Cb.bx (pB HB.out) hg hb; have a8 := aA; have aB := ak (hbox); replace HB := n_; clear n_; clear hb hbox hg) | ((with_reducible refine gate_dst (N := 3) rfl ?_); refine bv 3 26 #[.int .i64 aM, .slice aT aJ.length aU, .slice aV aG.length aW, .int .i64 aN, .int .u64 aX] ?_; intro a9 hg e6 hbox hb; obtain ⟨n_, aC⟩ := Cb.bx (ua aA.out HB.out) hg hb; have bA := aC; obtain ⟨aD, aE⟩ := Cb.nb hg aB.out; have aH := ak (hbox); replace aB := bb aB hb; replace HB := n_; clear n_; clear hb hbox hg; have eV := aD.out; have eW := aE.out; obtain ⟨cO, cP, cQ, cR, cS⟩ := Cb.c5 aB.out; obtain ⟨cT, cU, cV, cW, cX⟩ := Cb.f5 aB.out; obtain ⟨cY, cZ, c9, dA, dB⟩ := Cb.c5 aH.out; obtain ⟨dC, dD, dE, dF, dG⟩ := Cb.f5 aH.out) | ((with_reducible refine gate_callee (f := 35) rfl ?_); refine goesL_ (some 11) rfl rfl Try.func35 (by kernel_rfl) rfl #[.slice aO aI.length aP, .slice aT aJ.length aU] rfl mp ?_; (with_reducible refine (stanchionref17_Sessions.calls k _ _ aI _ _ aJ true _ ?side1 ?side2 ?side3 ?side4 A3.out).mono ?_); (case side1 => exact pc (Kd.C_below aY.out HB.out)); (case side2 => exact aZ.out); (case side3 => exact pc (Kd.C_below a2.out HB.out)); (case side4 => exact a3.out); rintro e w' ⟨rfl, ⟨nd, rfl⟩⟩; refine ⟨_, rfl, ?_⟩) | ((with_reducible refine gate_callee (f := 47) rfl ?_); refine goesL_ (some 16) rfl rfl Try.func47 (by kernel_rfl) rfl #[.slice aQ aF.length aR, .slice aV aG.length aW] rfl mp ?_; (with_reducible refine (stanchionref15_Same.calls k _ _ aF _ _ aG true _ ?side1 ?side2 ?side3 ?side4 A4.out).mono ?_); (case side1 => repeat (first | exact (Kd.C_below a0.out (ub aA.out aC.out HB.out)) | (with_reducible refine Kd.C_alloc ?_ _) | (with_reducible refine Kd.C_drewN ?_ _) | (with_reducible refine Kd.C_drew ?_))); (case side2 => exact a1.out); (case side3 => repeat (first | exact (Kd.C_below a4.out (ub aA.out aC.out HB.out)) | (with_reducible refine Kd.C_alloc ?_ _) | (with_reducible refine Kd.C_drewN ?_ _) | (with_reducible refine Kd.C_drew ?_))); (case side4 => exact a5.out); rintro e w' ⟨rfl, ⟨nd, rfl⟩⟩; refine ⟨_, rfl, ?_⟩))
    go_ret
    exact ⟨by first | rfl | (simp [errW_none, errW_some] <;> rfl) | (simp [*, errW_none, errW_some] <;> rfl), ub aA.out aC.out HB.out⟩
  ·replace c6 := Bool.eq_false_iff.mpr c6
   subst c6
   rw [if_neg (show ¬ (false = true) by decide)] at H
   obtain rfl := Option.some.inj H
   go_enter Try.func21, Try.ntmps21
   go_wp2_with (first | ((with_reducible refine gate_dst (N := 2) rfl ?_); refine bv 2 26 #[.int .i64 aK, .slice aO aI.length aP, .slice aQ aF.length aR, .int .i64 aL, .int .u64 aS] ?_; intro a7 hg e7 hbox hb; obtain ⟨n_, aA⟩ := Cb.bx (pB HB.out) hg hb; have a8 := aA; have aB := ak (hbox); replace HB := n_; clear n_; clear hb hbox hg) | ((with_reducible refine gate_dst (N := 3) rfl ?_); refine bv 3 26 #[.int .i64 aM, .slice aT aJ.length aU, .slice aV aG.length aW, .int .i64 aN, .int .u64 aX] ?_; intro a9 hg e8 hbox hb; obtain ⟨n_, aC⟩ := Cb.bx (ua aA.out HB.out) hg hb; have bA := aC; obtain ⟨aD, aE⟩ := Cb.nb hg aB.out; have aH := ak (hbox); replace aB := bb aB hb; replace HB := n_; clear n_; clear hb hbox hg; have eX := aD.out; have eY := aE.out; obtain ⟨dH, dI, dJ, dK, dL⟩ := Cb.c5 aB.out; obtain ⟨dM, dN, dO, dP, dQ⟩ := Cb.f5 aB.out; obtain ⟨dR, dS, dT, dU, dV⟩ := Cb.c5 aH.out; obtain ⟨dW, dX, dY, dZ, d0⟩ := Cb.f5 aH.out) | ((with_reducible refine gate_callee (f := 35) rfl ?_); refine goesL_ (some 11) rfl rfl Try.func35 (by kernel_rfl) rfl #[.slice aO aI.length aP, .slice aT aJ.length aU] rfl mp ?_; (with_reducible refine (stanchionref17_Sessions.calls k _ _ aI _ _ aJ true _ ?side1 ?side2 ?side3 ?side4 A3.out).mono ?_); (case side1 => exact pc (Kd.C_below aY.out HB.out)); (case side2 => exact aZ.out); (case side3 => exact pc (Kd.C_below a2.out HB.out)); (case side4 => exact a3.out); rintro e w' ⟨rfl, ⟨nd, rfl⟩⟩; refine ⟨_, rfl, ?_⟩) | ((with_reducible refine gate_callee (f := 47) rfl ?_); refine goesL_ (some 16) rfl rfl Try.func47 (by kernel_rfl) rfl #[.slice aQ aF.length aR, .slice aV aG.length aW] rfl mp ?_; (with_reducible refine (stanchionref15_Same.calls k _ _ aF _ _ aG false _ ?side1 ?side2 ?side3 ?side4 A4.out).mono ?_); (case side1 => repeat (first | exact (Kd.C_below a0.out (ub aA.out aC.out HB.out)) | (with_reducible refine Kd.C_alloc ?_ _) | (with_reducible refine Kd.C_drewN ?_ _) | (with_reducible refine Kd.C_drew ?_))); (case side2 => exact a1.out); (case side3 => repeat (first | exact (Kd.C_below a4.out (ub aA.out aC.out HB.out)) | (with_reducible refine Kd.C_alloc ?_ _) | (with_reducible refine Kd.C_drewN ?_ _) | (with_reducible refine Kd.C_drew ?_))); (case side4 => exact a5.out); rintro e w' ⟨rfl, ⟨nd, rfl⟩⟩; refine ⟨_, rfl, ?_⟩))
   go_ret
   exact ⟨by first | rfl | (simp [errW_none, errW_some] <;> rfl) | (simp [*, errW_none, errW_some] <;> rfl), ub aA.out aC.out HB.out⟩
 ·replace c5 := Bool.eq_false_iff.mpr c5
  subst c5
  rw [if_neg (show ¬ (false = true) by decide)] at H
  obtain rfl := Option.some.inj H
  go_enter Try.func21, Try.ntmps21
  go_wp2_with (first | ((with_reducible refine gate_dst (N := 2) rfl ?_); refine bv 2 26 #[.int .i64 aK, .slice aO aI.length aP, .slice aQ aF.length aR, .int .i64 aL, .int .u64 aS] ?_; intro a7 hg e9 hbox hb; obtain ⟨n_, aA⟩ := Cb.bx (pB HB.out) hg hb; have a8 := aA; have aB := ak (hbox); replace HB := n_; clear n_; clear hb hbox hg) | ((with_reducible refine gate_dst (N := 3) rfl ?_); refine bv 3 26 #[.int .i64 aM, .slice aT aJ.length aU, .slice aV aG.length aW, .int .i64 aN, .int .u64 aX] ?_; intro a9 hg fA hbox hb; obtain ⟨n_, aC⟩ := Cb.bx (ua aA.out HB.out) hg hb; have bA := aC; obtain ⟨aD, aE⟩ := Cb.nb hg aB.out; have aH := ak (hbox); replace aB := bb aB hb; replace HB := n_; clear n_; clear hb hbox hg; have eZ := aD.out; have e0 := aE.out; obtain ⟨d1, d2, d3, d4, d5⟩ := Cb.c5 aB.out; obtain ⟨d6, d7, d8, d9, eA⟩ := Cb.f5 aB.out; obtain ⟨eB, eC, eD, eE, eF⟩ := Cb.c5 aH.out; obtain ⟨eG, eH, eI, eJ, eK⟩ := Cb.f5 aH.out) | ((with_reducible refine gate_callee (f := 35) rfl ?_); refine goesL_ (some 11) rfl rfl Try.func35 (by kernel_rfl) rfl #[.slice aO aI.length aP, .slice aT aJ.length aU] rfl mp ?_; (with_reducible refine (stanchionref17_Sessions.calls k _ _ aI _ _ aJ false _ ?side1 ?side2 ?side3 ?side4 A3.out).mono ?_); (case side1 => exact pc (Kd.C_below aY.out HB.out)); (case side2 => exact aZ.out); (case side3 => exact pc (Kd.C_below a2.out HB.out)); (case side4 => exact a3.out); rintro e w' ⟨rfl, ⟨nd, rfl⟩⟩; refine ⟨_, rfl, ?_⟩) | ((with_reducible refine gate_callee (f := 47) rfl ?_); refine goesL_ (some 16) rfl rfl Try.func47 (by kernel_rfl) rfl #[.slice aQ aF.length aR, .slice aV aG.length aW] rfl mp ?_; (with_reducible refine (stanchionref15_Same.calls k _ _ aF _ _ aG a6 _ ?side1 ?side2 ?side3 ?side4 A4.out).mono ?_); (case side1 => repeat (first | exact (Kd.C_below a0.out (ub aA.out aC.out HB.out)) | (with_reducible refine Kd.C_alloc ?_ _) | (with_reducible refine Kd.C_drewN ?_ _) | (with_reducible refine Kd.C_drew ?_))); (case side2 => exact a1.out); (case side3 => repeat (first | exact (Kd.C_below a4.out (ub aA.out aC.out HB.out)) | (with_reducible refine Kd.C_alloc ?_ _) | (with_reducible refine Kd.C_drewN ?_ _) | (with_reducible refine Kd.C_drew ?_))); (case side4 => exact a5.out); rintro e w' ⟨rfl, ⟨nd, rfl⟩⟩; refine ⟨_, rfl, ?_⟩))
  go_ret
  exact ⟨by first | rfl | (simp [errW_none, errW_some] <;> rfl) | (simp [*, errW_none, errW_some] <;> rfl), ub aA.out aC.out HB.out⟩

/-! ### api_Session_49: function 49 -/
set_option maxHeartbeats 8000000 in
set_option maxRecDepth 100000 in
theorem api_Session_49.calls (k : Nat) (A0 : Option Addr) (c0 : Nat) (l0 : List (S42)) (A1 : Option Addr) (c1 : Nat) (l1 : List (S42)) (r : Bool) (w : World) (a0 : Kd.C k42 w A0 l0.length l0) (a1 : l0.length ≤ c0) (a2 : Kd.C k42 w A1 l1.length l1) (a3 : l1.length ≤ c1) (h : api_Session_49.f k l0 l1 = some r) :
  Calls Try.prog 49 #[.slice A0 l0.length c0, .slice A1 l1.length c1] w fun e w' => e = .returned (.bool r) ∧ Drawn0 w w' := by
 have a7 := Try.underlying42
 have a4 := ak a0
 have bB := ak a1
 clear a0 a1
 have a5 := ak a2
 have bC := ak a3
 clear a2 a3
 have H : (if (l0.length : Int) = (l1.length : Int) then (api_Session_49.l0 k l0 l1 (l0.length : Int) 0) else (some false)) = some r := h
 clear h
 by_cases c3 : (l0.length : Int) = (l1.length : Int)
 ·rw [if_pos c3] at H
  have aT : ((l0.length : Int) == (l1.length : Int)) = true := beq_iff_eq.mpr c3
  have aU : ((l0.length : Int) != (l1.length : Int)) = false := bne_eq_false_iff_eq.mpr c3
  have aV : (l0.length == l1.length) = true := by first | simpa using c3 | (simp at c3 ⊢; omega)
  clear c3
  have H' := ak H
  clear H
  go_enter Try.func49, Try.ntmps49
  go_wp2
  repeat (go_quiet (fail); try go_wp2)
  go_loopg [13] k (fun kq v13 w' => ∃ (aA : Int), v13 = .int .i64 aA ∧ Aside0 (api_Session_49.l0 kq l0 l1 (l0.length : Int) aA = some r) ∧ Aside0 (kq ≤ k) ∧ Drawn0 w w')
  case atStart => exact ⟨(0), es, H', ⟨Nat.le_refl _⟩, by repeat (first | exact Drawn0.refl _ | apply Drawn0.step)⟩
  case round =>
   clear H'
   try clear c1 p2 c3 aT aU aV
   obtain ⟨aA, rfl, HA, a6, ⟨m1, rfl⟩⟩ := hrel
   cases gk with
   | zero => exact absurd HA.out (by simp [api_Session_49.l0])
   | succ k1 =>
    have H := HA.out
    clear HA
    simp only [api_Session_49.l0] at H
    by_cases c4 : aA < (l0.length : Int)
    ·rw [if_pos c4] at H
     have aY : decide (aA < (l0.length : Int)) = true := decide_eq_true c4
     clear c4
     have c5 : 0 ≤ aA := Decidable.byContradiction fun q => by rw [if_neg q] at H; exact absurd H (by simp)
     rw [if_pos c5] at H
     have a8 : decide (0 ≤ aA) = true := decide_eq_true c5
     clear c5
     have c6 : aA < (l0.length : Int) := Decidable.byContradiction fun q => by rw [if_neg q] at H; exact absurd H (by simp)
     rw [if_pos c6] at H
     have a9 : decide (aA < (l0.length : Int)) = true := decide_eq_true c6
     clear c6
     have c7 : aA < (l1.length : Int) := Decidable.byContradiction fun q => by rw [if_neg q] at H; exact absurd H (by simp)
     rw [if_pos c7] at H
     have bA : decide (aA < (l1.length : Int)) = true := decide_eq_true c7
     clear c7
     by_cases c8 : (!(((rd_T42 l0 aA).f0) == ((rd_T42 l1 aA).f0)) || (!(((rd_T42 l0 aA).f1) == ((rd_T42 l1 aA).f1)) || (!(((rd_T42 l0 aA).f2) == ((rd_T42 l1 aA).f2)) || (!((((rd_T42 l0 aA).f3).toList) == (((rd_T42 l1 aA).f3).toList)) || (!(((rd_T42 l0 aA).f4) == ((rd_T42 l1 aA).f4)) || (!(((rd_T42 l0 aA).f5) == ((rd_T42 l1 aA).f5)))))))) = true
     ·rw [if_pos c8] at H
      have aZ : (!(((rd_T42 l0 aA).f0) == ((rd_T42 l1 aA).f0)) || (!(((rd_T42 l0 aA).f1) == ((rd_T42 l1 aA).f1)) || (!(((rd_T42 l0 aA).f2) == ((rd_T42 l1 aA).f2)) || (!((((rd_T42 l0 aA).f3).toList) == (((rd_T42 l1 aA).f3).toList)) || (!(((rd_T42 l0 aA).f4) == ((rd_T42 l1 aA).f4)) || (!(((rd_T42 l0 aA).f5) == ((rd_T42 l1 aA).f5)))))))) = true := c8
      clear c8
      obtain rfl := Option.some.inj H
      have aB : 0 ≤ (aA : Int) := od
      have aC : aA < (l0.length : Int) := od
      obtain ⟨aW, aR, aF, aG, aH, aI, aJ, aK⟩ := at_T42 a4.out aA aB aC
      cases aR
      replace aB := eq_true aB
      replace aC := eq_true aC
      have aD : 0 ≤ (aA : Int) := od
      have aE : aA < (l1.length : Int) := od
      obtain ⟨aX, aS, aL, aM, aN, aO, aP, aQ⟩ := at_T42 a5.out aA aD aE
      cases aS
      replace aD := eq_true aD
      replace aE := eq_true aE
      go_wp2
      repeat (go_quiet (fail); try go_wp2)
      go_ret
      exact ⟨by first | rfl | (simp; done) | (simp [*]; done), by repeat (first | exact Drawn0.refl _ | apply Drawn0.step)⟩
     ·rw [if_neg c8] at H
      have aZ : (!(((rd_T42 l0 aA).f0) == ((rd_T42 l1 aA).f0)) || (!(((rd_T42 l0 aA).f1) == ((rd_T42 l1 aA).f1)) || (!(((rd_T42 l0 aA).f2) == ((rd_T42 l1 aA).f2)) || (!((((rd_T42 l0 aA).f3).toList) == (((rd_T42 l1 aA).f3).toList)) || (!(((rd_T42 l0 aA).f4) == ((rd_T42 l1 aA).f4)) || (!(((rd_T42 l0 aA).f5) == ((rd_T42 l1 aA).f5)))))))) = false := by simpa using c8
      clear c8
      have H' := ak H
      clear H
      have aB : 0 ≤ (aA : Int) := od
      have aC : aA < (l0.length : Int) := od
      obtain ⟨aW, aR, aF, aG, aH, aI, aJ, aK⟩ := at_T42 a4.out aA aB aC
      cases aR
      replace aB := eq_true aB
      replace aC := eq_true aC
      have aD : 0 ≤ (aA : Int) := od
      have aE : aA < (l1.length : Int) := od
      obtain ⟨aX, aS, aL, aM, aN, aO, aP, aQ⟩ := at_T42 a5.out aA aD aE
      cases aS
      replace aD := eq_true aD
      replace aE := eq_true aE
      go_wp2
      repeat (go_quiet (fail); try go_wp2)
      go_roundg k1
      case measure => have := a6.out; omega
      case rel => exact ⟨(wrap64 (aA + 1)), es, H', ⟨by have := a6.out; omega⟩, by repeat (first | exact Drawn0.refl _ | apply Drawn0.step)⟩
    ·rw [if_neg c4] at H
     have aY : decide (aA < (l0.length : Int)) = false := decide_eq_false c4
     clear c4
     obtain rfl := Option.some.inj H
     go_wp2
     repeat (go_quiet (fail); try go_wp2)
     go_ret
     exact ⟨by first | rfl | (simp; done) | (simp [*]; done), by repeat (first | exact Drawn0.refl _ | apply Drawn0.step)⟩
 ·rw [if_neg c3] at H
  have aT : ((l0.length : Int) == (l1.length : Int)) = false := beq_eq_false_iff_ne.mpr c3
  have aU : ((l0.length : Int) != (l1.length : Int)) = true := bne_iff_ne.mpr c3
  have aV : (l0.length == l1.length) = false := by first | simpa using c3 | (simp at c3 ⊢; omega)
  obtain rfl := Option.some.inj H
  go_enter Try.func49, Try.ntmps49
  go_wp2
  repeat (go_quiet (fail); try go_wp2)
  go_ret
  exact ⟨by first | rfl | (simp; done) | (simp [*]; done), by repeat (first | exact Drawn0.refl _ | apply Drawn0.step)⟩

/-! ### api_Alarm_50: function 50 -/
set_option maxHeartbeats 8000000 in
set_option maxRecDepth 100000 in
theorem api_Alarm_50.calls (k : Nat) (A0 : Option Addr) (c0 : Nat) (l0 : List (S85)) (A1 : Option Addr) (c1 : Nat) (l1 : List (S85)) (r : Bool) (w : World) (aS : Kd.C k85 w A0 l0.length l0) (aT : l0.length ≤ c0) (aU : Kd.C k85 w A1 l1.length l1) (aV : l1.length ≤ c1) (h : api_Alarm_50.f k l0 l1 = some r) :
  Calls Try.prog 50 #[.slice A0 l0.length c0, .slice A1 l1.length c1] w fun e w' => e = .returned (.bool r) ∧ Drawn0 w w' := by
 have aZ := Try.underlying85
 have aW := ak aS
 have a3 := ak aT
 clear aS aT
 have aX := ak aU
 have a4 := ak aV
 clear aU aV
 have H : (if (l0.length : Int) = (l1.length : Int) then (api_Alarm_50.l0 k l0 l1 (l0.length : Int) 0) else (some false)) = some r := h
 clear h
 by_cases c3 : (l0.length : Int) = (l1.length : Int)
 ·rw [if_pos c3] at H
  have aL : ((l0.length : Int) == (l1.length : Int)) = true := beq_iff_eq.mpr c3
  have aM : ((l0.length : Int) != (l1.length : Int)) = false := bne_eq_false_iff_eq.mpr c3
  have aN : (l0.length == l1.length) = true := by first | simpa using c3 | (simp at c3 ⊢; omega)
  clear c3
  have H' := ak H
  clear H
  go_enter Try.func50, Try.ntmps50
  go_wp2
  repeat (go_quiet (fail); try go_wp2)
  go_loopg [13] k (fun kq v13 w' => ∃ (aA : Int), v13 = .int .i64 aA ∧ Aside0 (api_Alarm_50.l0 kq l0 l1 (l0.length : Int) aA = some r) ∧ Aside0 (kq ≤ k) ∧ Drawn0 w w')
  case atStart => exact ⟨(0), es, H', ⟨Nat.le_refl _⟩, by repeat (first | exact Drawn0.refl _ | apply Drawn0.step)⟩
  case round =>
   clear H'
   try clear c1 p2 c3 aL aM aN
   obtain ⟨aA, rfl, HA, aY, ⟨m1, rfl⟩⟩ := hrel
   cases gk with
   | zero => exact absurd HA.out (by simp [api_Alarm_50.l0])
   | succ k1 =>
    have H := HA.out
    clear HA
    simp only [api_Alarm_50.l0] at H
    by_cases c4 : aA < (l0.length : Int)
    ·rw [if_pos c4] at H
     have aQ : decide (aA < (l0.length : Int)) = true := decide_eq_true c4
     clear c4
     have c5 : 0 ≤ aA := Decidable.byContradiction fun q => by rw [if_neg q] at H; exact absurd H (by simp)
     rw [if_pos c5] at H
     have a0 : decide (0 ≤ aA) = true := decide_eq_true c5
     clear c5
     have c6 : aA < (l0.length : Int) := Decidable.byContradiction fun q => by rw [if_neg q] at H; exact absurd H (by simp)
     rw [if_pos c6] at H
     have a1 : decide (aA < (l0.length : Int)) = true := decide_eq_true c6
     clear c6
     have c7 : aA < (l1.length : Int) := Decidable.byContradiction fun q => by rw [if_neg q] at H; exact absurd H (by simp)
     rw [if_pos c7] at H
     have a2 : decide (aA < (l1.length : Int)) = true := decide_eq_true c7
     clear c7
     by_cases c8 : (!(((rd_T85 l0 aA).f0) == ((rd_T85 l1 aA).f0)) || (!(((rd_T85 l0 aA).f1) == ((rd_T85 l1 aA).f1)))) = true
     ·rw [if_pos c8] at H
      have aR : (!(((rd_T85 l0 aA).f0) == ((rd_T85 l1 aA).f0)) || (!(((rd_T85 l0 aA).f1) == ((rd_T85 l1 aA).f1)))) = true := c8
      clear c8
      obtain rfl := Option.some.inj H
      have aB : 0 ≤ (aA : Int) := od
      have aC : aA < (l0.length : Int) := od
      obtain ⟨aO, aJ, aF, aG⟩ := at_T85 aW.out aA aB aC
      cases aJ
      replace aB := eq_true aB
      replace aC := eq_true aC
      have aD : 0 ≤ (aA : Int) := od
      have aE : aA < (l1.length : Int) := od
      obtain ⟨aP, aK, aH, aI⟩ := at_T85 aX.out aA aD aE
      cases aK
      replace aD := eq_true aD
      replace aE := eq_true aE
      go_wp2
      repeat (go_quiet (fail); try go_wp2)
      go_ret
      exact ⟨by first | rfl | (simp; done) | (simp [*]; done), by repeat (first | exact Drawn0.refl _ | apply Drawn0.step)⟩
     ·rw [if_neg c8] at H
      have aR : (!(((rd_T85 l0 aA).f0) == ((rd_T85 l1 aA).f0)) || (!(((rd_T85 l0 aA).f1) == ((rd_T85 l1 aA).f1)))) = false := by simpa using c8
      clear c8
      have H' := ak H
      clear H
      have aB : 0 ≤ (aA : Int) := od
      have aC : aA < (l0.length : Int) := od
      obtain ⟨aO, aJ, aF, aG⟩ := at_T85 aW.out aA aB aC
      cases aJ
      replace aB := eq_true aB
      replace aC := eq_true aC
      have aD : 0 ≤ (aA : Int) := od
      have aE : aA < (l1.length : Int) := od
      obtain ⟨aP, aK, aH, aI⟩ := at_T85 aX.out aA aD aE
      cases aK
      replace aD := eq_true aD
      replace aE := eq_true aE
      go_wp2
      repeat (go_quiet (fail); try go_wp2)
      go_roundg k1
      case measure => have := aY.out; omega
      case rel => exact ⟨(wrap64 (aA + 1)), es, H', ⟨by have := aY.out; omega⟩, by repeat (first | exact Drawn0.refl _ | apply Drawn0.step)⟩
    ·rw [if_neg c4] at H
     have aQ : decide (aA < (l0.length : Int)) = false := decide_eq_false c4
     clear c4
     obtain rfl := Option.some.inj H
     go_wp2
     repeat (go_quiet (fail); try go_wp2)
     go_ret
     exact ⟨by first | rfl | (simp; done) | (simp [*]; done), by repeat (first | exact Drawn0.refl _ | apply Drawn0.step)⟩
 ·rw [if_neg c3] at H
  have aL : ((l0.length : Int) == (l1.length : Int)) = false := beq_eq_false_iff_ne.mpr c3
  have aM : ((l0.length : Int) != (l1.length : Int)) = true := bne_iff_ne.mpr c3
  have aN : (l0.length == l1.length) = false := by first | simpa using c3 | (simp at c3 ⊢; omega)
  obtain rfl := Option.some.inj H
  go_enter Try.func50, Try.ntmps50
  go_wp2
  repeat (go_quiet (fail); try go_wp2)
  go_ret
  exact ⟨by first | rfl | (simp; done) | (simp [*]; done), by repeat (first | exact Drawn0.refl _ | apply Drawn0.step)⟩

/-! ### session_Same: function 23 -/
set_option maxHeartbeats 8000000 in
set_option maxRecDepth 100000 in
theorem session_Same.calls (k : Nat) (aM : Int) (aR : Option Addr) (aS : Nat) (aK : List (S42)) (aT : Option Addr) (aU : Nat) (aI : List (S85)) (aG : Int) (aO : Int) (aN : Int) (aV : Option Addr) (aW : Nat) (aL : List (S42)) (aX : Option Addr) (aY : Nat) (aJ : List (S85)) (aH : Int) (aP : Int) (r : Bool) (w : World) (bC : Kd.C k42 w aR aK.length aK) (bD : aK.length ≤ aS) (bE : Kd.C k85 w aT aI.length aI) (bF : aI.length ≤ aU) (bG : Kd.C k42 w aV aL.length aL) (bH : aL.length ≤ aW) (bI : Kd.C k85 w aX aJ.length aJ) (bJ : aJ.length ≤ aY) (h : session_Same.f k aM aK aI aG aO aN aL aJ aH aP = some r) :
  Calls Try.prog 23 #[.agg #[.int .i64 aM, .slice aR aK.length aS, .slice aT aI.length aU, .int .i64 aG, .int .u64 aO], .agg #[.int .i64 aN, .slice aV aL.length aW, .slice aX aJ.length aY, .int .i64 aH, .int .u64 aP]] w fun e w' => e = .returned (.bool r) ∧ Below w.heap.size w w' := by
 have e1 := Try.underlying26
 have aZ := ak bC
 have a0 := ak bD
 clear bC bD
 have a7 := ak bE
 have a8 := ak bF
 clear bE bF
 have a1 := ak bG
 have a2 := ak bH
 clear bG bH
 have a9 := ak bI
 have bA := ak bJ
 clear bI bJ
 have HB := ak (Below.refl w.heap.size w)
 have H : (if aM = aN then ((api_Session_49.f k aK aL).bind fun bB => (if bB = true then ((api_Alarm_50.f k aI aJ).bind fun aQ => (if aQ = true then (if aG = aH then (some (aO == aP)) else (some false)) else (some false))) else (some false))) else (some false)) = some r := h
 clear h
 by_cases c3 : aM = aN
 ·rw [if_pos c3] at H
  have eL : (aM == aN) = true := beq_iff_eq.mpr c3
  have eM : (aM != aN) = false := bne_eq_false_iff_eq.mpr c3
  clear c3
  replace H := Option.bind_eq_some_iff.mp H
  obtain ⟨bB, eP, H⟩ := H
  try dsimp only at H
  have A4 := ak eP
  clear eP
  by_cases c5 : bB = true
  ·subst c5
   rw [if_pos rfl] at H
   replace H := Option.bind_eq_some_iff.mp H
   obtain ⟨aQ, eQ, H⟩ := H
   try dsimp only at H
   have A6 := ak eQ
   clear eQ
   by_cases c7 : aQ = true
   ·subst c7
    rw [if_pos rfl] at H
    by_cases c8 : aG = aH
    ·rw [if_pos c8] at H
     have eN : (aG == aH) = true := beq_iff_eq.mpr c8
     have eO : (aG != aH) = false := bne_eq_false_iff_eq.mpr c8
     clear c8
     obtain rfl := Option.some.inj H
     go_enter Try.func23, Try.ntmps23
     go_wp2_with (first | ((with_reducible refine gate_dst (N := 2) rfl ?_); refine bv 2 26 #[.int .i64 aM, .slice aR aK.length aS, .slice aT aI.length aU, .int .i64 aG, .int .u64 aO] ?_; intro a3 hg w9 hbox hb; obtain ⟨n_, aB⟩ := Cb.bx (pB HB.out) hg hb; have a4 := aB; have aA := ak (hbox); replace HB := n_; clear n_; clear hb hbox hg) | ((with_reducible refine gate_dst (N := 3) rfl ?_); refine bv 3 26 #[.int .i64 aN, .slice aV aL.length aW, .slice aX aJ.length aY, .int .i64 aH, .int .u64 aP] ?_; intro a5 hg e2 hbox hb; obtain ⟨n_, aE⟩ := Cb.bx (ua aB.out HB.out) hg hb; have a6 := aE; obtain ⟨aC, aD⟩ := Cb.nb hg aA.out; have aF := ak (hbox); replace aA := bb aA hb; replace HB := n_; clear n_; clear hb hbox hg; have eR := aC.out; have eS := aD.out; obtain ⟨bK, bL, bM, bN, bO⟩ := Cb.c5 aA.out; obtain ⟨bP, bQ, bR, bS, bT⟩ := Cb.f5 aA.out; obtain ⟨bU, bV, bW, bX, bY⟩ := Cb.c5 aF.out; obtain ⟨bZ, b0, b1, b2, b3⟩ := Cb.f5 aF.out) | (go_at_call 49; (with_reducible refine (api_Session_49.calls k _ _ aK _ _ aL true _ ?side1 ?side2 ?side3 ?side4 A4.out).mono ?_); (case side1 => exact pc (Kd.C_below aZ.out HB.out)); (case side2 => exact a0.out); (case side3 => exact pc (Kd.C_below a1.out HB.out)); (case side4 => exact a2.out); rintro e w' ⟨rfl, ⟨nd, rfl⟩⟩) | (go_at_call 50; (with_reducible refine (api_Alarm_50.calls k _ _ aI _ _ aJ true _ ?side1 ?side2 ?side3 ?side4 A6.out).mono ?_); (case side1 => repeat (first | exact (Kd.C_below a7.out (ub aB.out aE.out HB.out)) | (with_reducible refine Kd.C_alloc ?_ _) | (with_reducible refine Kd.C_drewN ?_ _) | (with_reducible refine Kd.C_drew ?_))); (case side2 => exact a8.out); (case side3 => repeat (first | exact (Kd.C_below a9.out (ub aB.out aE.out HB.out)) | (with_reducible refine Kd.C_alloc ?_ _) | (with_reducible refine Kd.C_drewN ?_ _) | (with_reducible refine Kd.C_drew ?_))); (case side4 => exact bA.out); rintro e w' ⟨rfl, ⟨nd, rfl⟩⟩))
     go_ret
     exact ⟨by first | rfl | (simp [errW_none, errW_some] <;> rfl) | (simp [*, errW_none, errW_some] <;> rfl), ub aB.out aE.out HB.out⟩
    ·rw [if_neg c8] at H
     have eN : (aG == aH) = false := beq_eq_false_iff_ne.mpr c8
     have eO : (aG != aH) = true := bne_iff_ne.mpr c8
     obtain rfl := Option.some.inj H
     go_enter Try.func23, Try.ntmps23
     go_wp2_with (first | ((with_reducible refine gate_dst (N := 2) rfl ?_); refine bv 2 26 #[.int .i64 aM, .slice aR aK.length aS, .slice aT aI.length aU, .int .i64 aG, .int .u64 aO] ?_; intro a3 hg e3 hbox hb; obtain ⟨n_, aB⟩ := Cb.bx (pB HB.out) hg hb; have a4 := aB; have aA := ak (hbox); replace HB := n_; clear n_; clear hb hbox hg) | ((with_reducible refine gate_dst (N := 3) rfl ?_); refine bv 3 26 #[.int .i64 aN, .slice aV aL.length aW, .slice aX aJ.length aY, .int .i64 aH, .int .u64 aP] ?_; intro a5 hg e4 hbox hb; obtain ⟨n_, aE⟩ := Cb.bx (ua aB.out HB.out) hg hb; have a6 := aE; obtain ⟨aC, aD⟩ := Cb.nb hg aA.out; have aF := ak (hbox); replace aA := bb aA hb; replace HB := n_; clear n_; clear hb hbox hg; have eT := aC.out; have eU := aD.out; obtain ⟨b4, b5, b6, b7, b8⟩ := Cb.c5 aA.out; obtain ⟨b9, cA, cB, cC, cD⟩ := Cb.f5 aA.out; obtain ⟨cE, cF, cG, cH, cI⟩ := Cb.c5 aF.out; obtain ⟨cJ, cK, cL, cM, cN⟩ := Cb.f5 aF.out) | (go_at_call 49; (with_reducible refine (api_Session_49.calls k _ _ aK _ _ aL true _ ?side1 ?side2 ?side3 ?side4 A4.out).mono ?_); (case side1 => exact pc (Kd.C_below aZ.out HB.out)); (case side2 => exact a0.out); (case side3 => exact pc (Kd.C_below a1.out HB.out)); (case side4 => exact a2.out); rintro e w' ⟨rfl, ⟨nd, rfl⟩⟩) | (go_at_call 50; (with_reducible refine (api_Alarm_50.calls k _ _ aI _ _ aJ true _ ?side1 ?side2 ?side3 ?side4 A6.out).mono ?_); (case side1 => repeat (first | exact (Kd.C_below a7.out (ub aB.out aE.out HB.out)) | (with_reducible refine Kd.C_alloc ?_ _) | (with_reducible refine Kd.C_drewN ?_ _) | (with_reducible refine Kd.C_drew ?_))); (case side2 => exact a8.out); (case side3 => repeat (first | exact (Kd.C_below a9.out (ub aB.out aE.out HB.out)) | (with_reducible refine Kd.C_alloc ?_ _) | (with_reducible refine Kd.C_drewN ?_ _) | (with_reducible refine Kd.C_drew ?_))); (case side4 => exact bA.out); rintro e w' ⟨rfl, ⟨nd, rfl⟩⟩))
     go_ret
     exact ⟨by first | rfl | (simp [errW_none, errW_some] <;> rfl) | (simp [*, errW_none, errW_some] <;> rfl), ub aB.out aE.out HB.out⟩
   ·replace c7 := Bool.eq_false_iff.mpr c7
    subst c7
    rw [if_neg (show ¬ (false = true) by decide)] at H
    obtain rfl := Option.some.inj H
    go_enter Try.func23, Try.ntmps23
    go_wp2_with (first | ((with_reducible refine gate_dst (N := 2) rfl ?_); refine bv 2 26 #[.int .i64 aM, .slice aR aK.length aS, .slice aT aI.length aU, .int .i64 aG, .int .u64 aO] ?_; intro a3 hg e5 hbox hb; obtain ⟨n_, aB⟩ := Cb.bx (pB HB.out) hg hb; have a4 := aB; have aA := ak (hbox); replace HB := n_; clear n_; clear hb hbox hg) | ((with_reducible refine gate_dst (N := 3) rfl ?_); refine bv 3 26 #[.int .i64 aN, .slice aV aL.length aW, .slice aX aJ.length aY, .int .i64 aH, .int .u64 aP] ?_; intro a5 hg e6 hbox hb; obtain ⟨n_, aE⟩ := Cb.bx (ua aB.out HB.out) hg hb; have a6 := aE; obtain ⟨aC, aD⟩ := Cb.nb hg aA.out; have aF := ak (hbox); replace aA := bb aA hb; replace HB := n_; clear n_; clear hb hbox hg; have eV := aC.out; have eW := aD.out; obtain ⟨cO, cP, cQ, cR, cS⟩ := Cb.c5 aA.out; obtain ⟨cT, cU, cV, cW, cX⟩ := Cb.f5 aA.out; obtain ⟨cY, cZ, c9, dA, dB⟩ := Cb.c5 aF.out; obtain ⟨dC, dD, dE, dF, dG⟩ := Cb.f5 aF.out) | (go_at_call 49; (with_reducible refine (api_Session_49.calls k _ _ aK _ _ aL true _ ?side1 ?side2 ?side3 ?side4 A4.out).mono ?_); (case side1 => exact pc (Kd.C_below aZ.out HB.out)); (case side2 => exact a0.out); (case side3 => exact pc (Kd.C_below a1.out HB.out)); (case side4 => exact a2.out); rintro e w' ⟨rfl, ⟨nd, rfl⟩⟩) | (go_at_call 50; (with_reducible refine (api_Alarm_50.calls k _ _ aI _ _ aJ false _ ?side1 ?side2 ?side3 ?side4 A6.out).mono ?_); (case side1 => repeat (first | exact (Kd.C_below a7.out (ub aB.out aE.out HB.out)) | (with_reducible refine Kd.C_alloc ?_ _) | (with_reducible refine Kd.C_drewN ?_ _) | (with_reducible refine Kd.C_drew ?_))); (case side2 => exact a8.out); (case side3 => repeat (first | exact (Kd.C_below a9.out (ub aB.out aE.out HB.out)) | (with_reducible refine Kd.C_alloc ?_ _) | (with_reducible refine Kd.C_drewN ?_ _) | (with_reducible refine Kd.C_drew ?_))); (case side4 => exact bA.out); rintro e w' ⟨rfl, ⟨nd, rfl⟩⟩))
    go_ret
    exact ⟨by first | rfl | (simp [errW_none, errW_some] <;> rfl) | (simp [*, errW_none, errW_some] <;> rfl), ub aB.out aE.out HB.out⟩
  ·replace c5 := Bool.eq_false_iff.mpr c5
   subst c5
   rw [if_neg (show ¬ (false = true) by decide)] at H
   obtain rfl := Option.some.inj H
   go_enter Try.func23, Try.ntmps23
   go_wp2_with (first | ((with_reducible refine gate_dst (N := 2) rfl ?_); refine bv 2 26 #[.int .i64 aM, .slice aR aK.length aS, .slice aT aI.length aU, .int .i64 aG, .int .u64 aO] ?_; intro a3 hg e7 hbox hb; obtain ⟨n_, aB⟩ := Cb.bx (pB HB.out) hg hb; have a4 := aB; have aA := ak (hbox); replace HB := n_; clear n_; clear hb hbox hg) | ((with_reducible refine gate_dst (N := 3) rfl ?_); refine bv 3 26 #[.int .i64 aN, .slice aV aL.length aW, .slice aX aJ.length aY, .int .i64 aH, .int .u64 aP] ?_; intro a5 hg e8 hbox hb; obtain ⟨n_, aE⟩ := Cb.bx (ua aB.out HB.out) hg hb; have a6 := aE; obtain ⟨aC, aD⟩ := Cb.nb hg aA.out; have aF := ak (hbox); replace aA := bb aA hb; replace HB := n_; clear n_; clear hb hbox hg; have eX := aC.out; have eY := aD.out; obtain ⟨dH, dI, dJ, dK, dL⟩ := Cb.c5 aA.out; obtain ⟨dM, dN, dO, dP, dQ⟩ := Cb.f5 aA.out; obtain ⟨dR, dS, dT, dU, dV⟩ := Cb.c5 aF.out; obtain ⟨dW, dX, dY, dZ, d0⟩ := Cb.f5 aF.out) | (go_at_call 49; (with_reducible refine (api_Session_49.calls k _ _ aK _ _ aL false _ ?side1 ?side2 ?side3 ?side4 A4.out).mono ?_); (case side1 => exact pc (Kd.C_below aZ.out HB.out)); (case side2 => exact a0.out); (case side3 => exact pc (Kd.C_below a1.out HB.out)); (case side4 => exact a2.out); rintro e w' ⟨rfl, ⟨nd, rfl⟩⟩))
   go_ret
   exact ⟨by first | rfl | (simp [errW_none, errW_some] <;> rfl) | (simp [*, errW_none, errW_some] <;> rfl), ub aB.out aE.out HB.out⟩
 ·rw [if_neg c3] at H
  have eL : (aM == aN) = false := beq_eq_false_iff_ne.mpr c3
  have eM : (aM != aN) = true := bne_iff_ne.mpr c3
  obtain rfl := Option.some.inj H
  go_enter Try.func23, Try.ntmps23
  go_wp2_with (first | ((with_reducible refine gate_dst (N := 2) rfl ?_); refine bv 2 26 #[.int .i64 aM, .slice aR aK.length aS, .slice aT aI.length aU, .int .i64 aG, .int .u64 aO] ?_; intro a3 hg e9 hbox hb; obtain ⟨n_, aB⟩ := Cb.bx (pB HB.out) hg hb; have a4 := aB; have aA := ak (hbox); replace HB := n_; clear n_; clear hb hbox hg) | ((with_reducible refine gate_dst (N := 3) rfl ?_); refine bv 3 26 #[.int .i64 aN, .slice aV aL.length aW, .slice aX aJ.length aY, .int .i64 aH, .int .u64 aP] ?_; intro a5 hg fA hbox hb; obtain ⟨n_, aE⟩ := Cb.bx (ua aB.out HB.out) hg hb; have a6 := aE; obtain ⟨aC, aD⟩ := Cb.nb hg aA.out; have aF := ak (hbox); replace aA := bb aA hb; replace HB := n_; clear n_; clear hb hbox hg; have eZ := aC.out; have e0 := aD.out; obtain ⟨d1, d2, d3, d4, d5⟩ := Cb.c5 aA.out; obtain ⟨d6, d7, d8, d9, eA⟩ := Cb.f5 aA.out; obtain ⟨eB, eC, eD, eE, eF⟩ := Cb.c5 aF.out; obtain ⟨eG, eH, eI, eJ, eK⟩ := Cb.f5 aF.out))
  go_ret
  exact ⟨by first | rfl | (simp [errW_none, errW_some] <;> rfl) | (simp [*, errW_none, errW_some] <;> rfl), ub aB.out aE.out HB.out⟩

end Go.Proofs.Ytnpmjboofmdflaa.PA
