-- Made by a program of this workplace out of the translation (wip/tools in the repo). Not trusted: Lean checks it.
import Derived.Test.YtbhkopbalhhpgaaPYx0
import Derived.Test.YtbhkopbalhhpgaaSq
import Derived.Test.YtbhkopbalhhpgaaPYx4
namespace Go.Proofs.Ytbhkopbalhhpgaa.PY
open Go.RowKit Go.Proofs.YtbhkopbalhhpgaaW.PrintWords Go.Proofs.YtbhkopbalhhpgaaW.PrintLast Go.Proofs.YtbhkopbalhhpgaaW.PrintMore
attribute [local go_sem] max2_int min2_int max_two min_two max_three min_three max_four min_four   -- for this text's walks alone
set_option linter.unusedVariables false
set_option linter.unusedSimpArgs false

/-! ### stanchionref01_TakeNum: function 75 -/
set_option maxHeartbeats 8000000 in
set_option maxRecDepth 100000 in
theorem stanchionref01_TakeNum.calls (k : Nat) (a0 : ByteArray) (r1 : Int) (r2 : ByteArray) (r3 : Int) (w : World) (h : stanchionref01_TakeNum.f k a0 = some (r1, r2, r3)) :
  Calls Try.prog 75 #[.string a0] w fun e w' => e = .returned (.tuple #[.int .u64 r1, .string r2, .int .i64 r3]) ∧ Drawn0 w w' := by
 have H : (stanchionref01_TakeNum.l0 k a0 0) = some (r1, r2, r3) := h
 clear h
 have bW := ak H
 clear H
 go_enter Try.func75, Try.ntmps75
 go_upto_block 0 with (fail)
 repeat (go_quiet (fail); go_upto_block 0 with (fail))
 go_cut [5] (fun v5 wc => ∃ (kq : Nat) (aA : Int), v5 = .int .i64 aA ∧ Aside0 (stanchionref01_TakeNum.j1 kq a0 aA = some (r1, r2, r3)) ∧ Aside0 (kq ≤ k) ∧ Drawn0 w wc)
 case first =>
  have H := bW.out
  clear bW
  have H' := ak H
  clear H
  go_wp2
  repeat (go_quiet (fail); try go_wp2)
  go_loopg [5] k (fun kq v5 w' => ∃ (aA : Int), v5 = .int .i64 aA ∧ Aside0 (stanchionref01_TakeNum.l0 kq a0 aA = some (r1, r2, r3)) ∧ Aside0 (kq ≤ k) ∧ Drawn0 w w')
  case atStart => exact ⟨(0), (by first | rfl | (simp; done) | (simp [*]; done)), H', ⟨Nat.le_refl _⟩, by repeat (first | exact Drawn0.refl _ | apply Drawn0.step)⟩
  case round =>
   clear H'
   try clear p2
   obtain ⟨aA, rfl, HA, a5, ⟨m1, rfl⟩⟩ := hrel
   cases gk with
   | zero => exact absurd HA.out (by simp [stanchionref01_TakeNum.l0])
   | succ k1 =>
    have H := HA.out
    clear HA
    simp only [stanchionref01_TakeNum.l0] at H
    by_cases c3 : aA < (a0.size : Int)
    ·rw [if_pos c3] at H
     have aE : decide (aA < (a0.size : Int)) = true := decide_eq_true c3
     clear c3
     (first | rw [aE] | (simp only [i64_w, i32_w]; rw [aE]) | skip)
     have c4 : 0 ≤ aA := Decidable.byContradiction fun q => by rw [if_neg q] at H; exact absurd H (by simp)
     rw [if_pos c4] at H
     have aR : decide (0 ≤ aA) = true := decide_eq_true c4
     clear c4
     by_cases c6 : (bt a0 aA) ≥ 48
     ·rw [if_pos c6] at H
      have aJ : decide (48 ≤ (bt a0 aA)) = true := decide_eq_true c6
      clear c6
      by_cases c8 : (bt a0 aA) ≤ 57
      ·rw [if_pos c8] at H
       have aK : decide ((bt a0 aA) ≤ 57) = true := decide_eq_true c8
       clear c8
       have H' := ak H
       clear H
       have p5 : 0 ≤ (aA : Int) := of_decide_eq_true (by first | (with_reducible assumption) | assumption)
       have q5 : aA < (a0.size : Int) := of_decide_eq_true (by first | (with_reducible assumption) | assumption)
       have a6 := bt_at a0 aA
       replace p5 := eq_true p5
       replace q5 := eq_true q5
       have p7 : 0 ≤ (aA : Int) := of_decide_eq_true (by first | (with_reducible assumption) | assumption)
       have q7 : aA < (a0.size : Int) := of_decide_eq_true (by first | (with_reducible assumption) | assumption)
       have bP := bt_at a0 aA
       replace p7 := eq_true p7
       replace q7 := eq_true q7
       go_wp2
       repeat (go_quiet (fail); try go_wp2)
       go_roundg k1
       case measure => have := a5.out; omega
       case rel => exact ⟨(wrap64 (aA + 1)), (by first | rfl | (simp; done) | (simp [*]; done)), H', ⟨by have := a5.out; omega⟩, by repeat (first | exact Drawn0.refl _ | apply Drawn0.step)⟩
      ·rw [if_neg c8] at H
       have aK : decide ((bt a0 aA) ≤ 57) = false := decide_eq_false c8
       clear c8
       have H' := ak H
       clear H
       have p5 : 0 ≤ (aA : Int) := of_decide_eq_true (by first | (with_reducible assumption) | assumption)
       have q5 : aA < (a0.size : Int) := of_decide_eq_true (by first | (with_reducible assumption) | assumption)
       have a6 := bt_at a0 aA
       replace p5 := eq_true p5
       replace q5 := eq_true q5
       have p7 : 0 ≤ (aA : Int) := of_decide_eq_true (by first | (with_reducible assumption) | assumption)
       have q7 : aA < (a0.size : Int) := of_decide_eq_true (by first | (with_reducible assumption) | assumption)
       have bP := bt_at a0 aA
       replace p7 := eq_true p7
       replace q7 := eq_true q7
       go_wp2
       repeat (go_quiet (fail); try go_wp2)
       go_meet
       case rel => exact ⟨_, (aA), (by first | rfl | (simp; done) | (simp [*]; done)), H', ⟨by have := a5.out; first | omega | exact Nat.le_refl _⟩, by repeat (first | exact Drawn0.refl _ | apply Drawn0.step)⟩
     ·rw [if_neg c6] at H
      have aJ : decide (48 ≤ (bt a0 aA)) = false := decide_eq_false c6
      clear c6
      have H' := ak H
      clear H
      have p5 : 0 ≤ (aA : Int) := of_decide_eq_true (by first | (with_reducible assumption) | assumption)
      have q5 : aA < (a0.size : Int) := of_decide_eq_true (by first | (with_reducible assumption) | assumption)
      have a6 := bt_at a0 aA
      replace p5 := eq_true p5
      replace q5 := eq_true q5
      go_wp2
      repeat (go_quiet (fail); try go_wp2)
      go_meet
      case rel => exact ⟨_, (aA), (by first | rfl | (simp; done) | (simp [*]; done)), H', ⟨by have := a5.out; first | omega | exact Nat.le_refl _⟩, by repeat (first | exact Drawn0.refl _ | apply Drawn0.step)⟩
    ·rw [if_neg c3] at H
     have aE : decide (aA < (a0.size : Int)) = false := decide_eq_false c3
     clear c3
     (first | rw [aE] | (simp only [i64_w, i32_w]; rw [aE]) | skip)
     have H' := ak H
     clear H
     go_wp2
     repeat (go_quiet (fail); try go_wp2)
     go_meet
     case rel => exact ⟨_, (aA), (by first | rfl | (simp; done) | (simp [*]; done)), H', ⟨by have := a5.out; first | omega | exact Nat.le_refl _⟩, by repeat (first | exact Drawn0.refl _ | apply Drawn0.step)⟩
 case rest =>
  clear bW
  try clear p2 c3 aE c4 aR p5 q5 a6 c6 aJ p6 c7 p7 q7 bP c8 aK p2 p5 p7 q5 q7
  obtain ⟨kq, aA, rfl, HA, aS, ⟨b7, rfl⟩⟩ := hcut
  cases kq with
  | zero => exact absurd HA.out (by simp [stanchionref01_TakeNum.j1])
  | succ kj1 =>
   have H := HA.out
   clear HA
   simp only [stanchionref01_TakeNum.j1] at H
   have bX := ak H
   clear H
   go_upto_region 4 with (fail)
   repeat (go_quiet (fail); go_upto_region 4 with (fail))
   go_cut [37] (fun v37 wc => ∃ (kq : Nat) (aF : Bool), v37 = .bool aF ∧ Aside0 (stanchionref01_TakeNum.j2 kq a0 aA aF = some (r1, r2, r3)) ∧ Aside0 (kq ≤ kj1) ∧ Drawn0 w wc)
   case first =>
    have H := bX.out
    clear bX
    by_cases aL : aA > 20
    ·rw [if_pos aL] at H
     have aD : decide (20 < aA) = true := decide_eq_true aL
     clear aL
     (first | rw [aD] | (simp only [i64_w, i32_w]; rw [aD]) | skip)
     have H' := ak H
     clear H
     go_wp2
     repeat (go_quiet (fail); try go_wp2)
     go_meet
     case rel => exact ⟨_, (true), (by first | rfl | (simp; done) | (simp [*]; done)), H', ⟨by have := aS.out; first | omega | exact Nat.le_refl _⟩, by repeat (first | exact Drawn0.refl _ | apply Drawn0.step)⟩
    ·rw [if_neg aL] at H
     have aD : decide (20 < aA) = false := decide_eq_false aL
     clear aL
     (first | rw [aD] | (simp only [i64_w, i32_w]; rw [aD]) | skip)
     by_cases aM : aA > 1
     ·rw [if_pos aM] at H
      have aG : decide (1 < aA) = true := decide_eq_true aM
      clear aM
      have aY : 0 < (a0.size : Int) := Decidable.byContradiction fun q => by rw [if_neg q] at H; exact absurd H (by simp)
      rw [if_pos aY] at H
      have aN : decide (0 < (a0.size : Int)) = true := decide_eq_true aY
      have aO : decide (0 < a0.size) = true := decide_eq_true (by omega)
      clear aY
      have H' := ak H
      clear H
      have a7 : 0 ≤ (0 : Int) := (by omega)
      have aZ : 0 < a0.size := (by have : (0 : Int) < (a0.size : Int) := of_decide_eq_true (by first | (with_reducible assumption) | assumption); omega)
      have a8 : ∀ h : 0 < a0.size, ((a0[0]'h).toNat : Int) = bt a0 0 := bt_at a0 0
      clear a7
      have a9 : (0 < (a0.size : Int)) = True := eq_true (of_decide_eq_true (by first | (with_reducible assumption) | assumption))
      replace aZ := eq_true aZ
      go_wp2
      repeat (go_quiet (fail); try go_wp2)
      go_meet
      case rel => exact ⟨_, (((bt a0 0) == 48)), (by first | rfl | (simp; done) | (simp [*]; done)), H', ⟨by have := aS.out; first | omega | exact Nat.le_refl _⟩, by repeat (first | exact Drawn0.refl _ | apply Drawn0.step)⟩
     ·rw [if_neg aM] at H
      have aG : decide (1 < aA) = false := decide_eq_false aM
      clear aM
      have H' := ak H
      clear H
      go_wp2
      repeat (go_quiet (fail); try go_wp2)
      go_meet
      case rel => exact ⟨_, (false), (by first | rfl | (simp; done) | (simp [*]; done)), H', ⟨by have := aS.out; first | omega | exact Nat.le_refl _⟩, by repeat (first | exact Drawn0.refl _ | apply Drawn0.step)⟩
   case rest =>
    clear bX
    try clear c1 p1 q1 hx1 qi1 p2 c3 aE c4 aR p5 q5 a6 c6 aJ p6 c7 p7 q7 bP c8 aK aL aD aM aG aY aN aO a7 aZ a8 a9 a7 p2 p5 p6 p7 aZ q5 q7
    obtain ⟨kq, aF, rfl, HA, bQ, ⟨b8, rfl⟩⟩ := hcut
    cases kq with
    | zero => exact absurd HA.out (by simp [stanchionref01_TakeNum.j2])
    | succ kj8 =>
     have H := HA.out
     clear HA
     simp only [stanchionref01_TakeNum.j2] at H
     by_cases bA : aF = true
     ·subst bA
      have H1 : (some (0, (⟨#[]⟩ : ByteArray), 3)) = some (r1, r2, r3) := by rw [if_pos rfl] at H; exact H
      clear H
      have H := H1
      clear H1
      simp only [Option.some.injEq, Prod.mk.injEq] at H
      obtain ⟨rfl, rfl, rfl⟩ := H
      go_wp2
      repeat (go_quiet (fail); try go_wp2)
      go_ret3
      exact ⟨by first | rfl | (simp; done) | (simp [*]; done), by repeat (first | exact Drawn0.refl _ | apply Drawn0.step)⟩
     ·replace bA := Bool.eq_false_iff.mpr bA
      subst bA
      have H1 : (stanchionref01_TakeNum.l1 kj8 a0 aA 0 0) = some (r1, r2, r3) := by rw [if_neg (show ¬ (false = true) by decide)] at H; exact H
      clear H
      have H := H1
      clear H1
      have H' := ak H
      clear H
      go_wp2
      repeat (go_quiet (fail); try go_wp2)
      go_loopg [6, 7] kj8 (fun kq v6 v7 w' => ∃ (aC : Int) (aB : Int), v6 = .int .u64 aC ∧ v7 = .int .i64 aB ∧ Aside0 (stanchionref01_TakeNum.l1 kq a0 aA aC aB = some (r1, r2, r3)) ∧ Aside0 (kq ≤ kj8) ∧ Drawn0 w w')
      case atStart => exact ⟨(0), (0), (by first | rfl | (simp; done) | (simp [*]; done)), (by first | rfl | (simp; done) | (simp [*]; done)), H', ⟨Nat.le_refl _⟩, by repeat (first | exact Drawn0.refl _ | apply Drawn0.step)⟩
      case round =>
       clear H'
       try clear c1 p1 q1 hx1 qi1 p2 c3 aE c4 aR p5 q5 a6 c6 aJ p6 c7 p7 q7 bP c8 aK aL aD aM aG aY aN aO a7 aZ a8 a9 bA p1 a7 p2 p5 p6 p7 q1 aZ q5 q7
       obtain ⟨aC, aB, rfl, rfl, HA, bR, ⟨m3, rfl⟩⟩ := hrel
       cases gk with
       | zero => exact absurd HA.out (by simp [stanchionref01_TakeNum.l1])
       | succ k3 =>
        have H := HA.out
        clear HA
        simp only [stanchionref01_TakeNum.l1] at H
        by_cases a2 : aB < aA
        ·rw [if_pos a2] at H
         have bB : decide (aB < aA) = true := decide_eq_true a2
         clear a2
         have bS : 0 ≤ aB := Decidable.byContradiction fun q => by rw [if_neg q] at H; exact absurd H (by simp)
         rw [if_pos bS] at H
         have bZ : decide (0 ≤ aB) = true := decide_eq_true bS
         clear bS
         have bT : aB < (a0.size : Int) := Decidable.byContradiction fun q => by rw [if_neg q] at H; exact absurd H (by simp)
         rw [if_pos bT] at H
         have b0 : decide (aB < (a0.size : Int)) = true := decide_eq_true bT
         clear bT
         by_cases a3 : aC > 1844674407370955161
         ·rw [if_pos a3] at H
          have bC : decide (1844674407370955161 < aC) = true := decide_eq_true a3
          clear a3
          simp only [Option.some.injEq, Prod.mk.injEq] at H
          obtain ⟨rfl, rfl, rfl⟩ := H
          have aH : 0 ≤ (aB : Int) := of_decide_eq_true (by first | (with_reducible assumption) | assumption)
          have aI : aB < (a0.size : Int) := of_decide_eq_true (by first | (with_reducible assumption) | assumption)
          have aT := bt_at a0 aB
          replace aH := eq_true aH
          replace aI := eq_true aI
          go_wp2
          repeat (go_quiet (fail); try go_wp2)
          go_ret3
          exact ⟨by first | rfl | (simp; done) | (simp [*]; done), by repeat (first | exact Drawn0.refl _ | apply Drawn0.step)⟩
         ·rw [if_neg a3] at H
          have bC : decide (1844674407370955161 < aC) = false := decide_eq_false a3
          clear a3
          by_cases aU : aC = 1844674407370955161
          ·rw [if_pos aU] at H
           have bD : (aC == 1844674407370955161) = true := beq_iff_eq.mpr aU
           have bE : (aC != 1844674407370955161) = false := bne_eq_false_iff_eq.mpr aU
           clear aU
           by_cases a4 : (((bt a0 aB) - 48) % 256) > 5
           ·rw [if_pos a4] at H
            have bF : decide (5 < (((bt a0 aB) - 48) % 256)) = true := decide_eq_true a4
            clear a4
            simp only [Option.some.injEq, Prod.mk.injEq] at H
            obtain ⟨rfl, rfl, rfl⟩ := H
            have aH : 0 ≤ (aB : Int) := of_decide_eq_true (by first | (with_reducible assumption) | assumption)
            have aI : aB < (a0.size : Int) := of_decide_eq_true (by first | (with_reducible assumption) | assumption)
            have aT := bt_at a0 aB
            replace aH := eq_true aH
            replace aI := eq_true aI
            go_wp2
            repeat (go_quiet (fail); try go_wp2)
            go_ret3
            exact ⟨by first | rfl | (simp; done) | (simp [*]; done), by repeat (first | exact Drawn0.refl _ | apply Drawn0.step)⟩
           ·rw [if_neg a4] at H
            have bF : decide (5 < (((bt a0 aB) - 48) % 256)) = false := decide_eq_false a4
            clear a4
            have H' := ak H
            clear H
            have aH : 0 ≤ (aB : Int) := of_decide_eq_true (by first | (with_reducible assumption) | assumption)
            have aI : aB < (a0.size : Int) := of_decide_eq_true (by first | (with_reducible assumption) | assumption)
            have aT := bt_at a0 aB
            replace aH := eq_true aH
            replace aI := eq_true aI
            go_wp2
            repeat (go_quiet (fail); try go_wp2)
            go_roundg k3
            case measure => have := aS.out; have := bQ.out; have := bR.out; omega
            case rel => exact ⟨(IntKind.u64.wrap ((IntKind.u64.wrap (10 * aC)) + (((bt a0 aB) - 48) % 256))), (wrap64 (aB + 1)), (by first | rfl | (simp; done) | (simp [*]; done)), (by first | rfl | (simp; done) | (simp [*]; done)), H', ⟨by have := aS.out; have := bQ.out; have := bR.out; omega⟩, by repeat (first | exact Drawn0.refl _ | apply Drawn0.step)⟩
          ·rw [if_neg aU] at H
           have bD : (aC == 1844674407370955161) = false := beq_eq_false_iff_ne.mpr aU
           have bE : (aC != 1844674407370955161) = true := bne_iff_ne.mpr aU
           have H' := ak H
           clear H
           have aH : 0 ≤ (aB : Int) := of_decide_eq_true (by first | (with_reducible assumption) | assumption)
           have aI : aB < (a0.size : Int) := of_decide_eq_true (by first | (with_reducible assumption) | assumption)
           have aT := bt_at a0 aB
           replace aH := eq_true aH
           replace aI := eq_true aI
           go_wp2
           repeat (go_quiet (fail); try go_wp2)
           go_roundg k3
           case measure => have := aS.out; have := bQ.out; have := bR.out; omega
           case rel => exact ⟨(IntKind.u64.wrap ((IntKind.u64.wrap (10 * aC)) + (((bt a0 aB) - 48) % 256))), (wrap64 (aB + 1)), (by first | rfl | (simp; done) | (simp [*]; done)), (by first | rfl | (simp; done) | (simp [*]; done)), H', ⟨by have := aS.out; have := bQ.out; have := bR.out; omega⟩, by repeat (first | exact Drawn0.refl _ | apply Drawn0.step)⟩
        ·rw [if_neg a2] at H
         have bB : decide (aB < aA) = false := decide_eq_false a2
         clear a2
         by_cases aV : aA = (a0.size : Int)
         ·rw [if_pos aV] at H
          have bG : (aA == (a0.size : Int)) = true := beq_iff_eq.mpr aV
          have bH : (aA != (a0.size : Int)) = false := bne_eq_false_iff_eq.mpr aV
          clear aV
          simp only [Option.some.injEq, Prod.mk.injEq] at H
          obtain ⟨rfl, rfl, rfl⟩ := H
          go_wp2
          repeat (go_quiet (fail); try go_wp2)
          go_ret3
          exact ⟨by first | rfl | (simp; done) | (simp [*]; done), by repeat (first | exact Drawn0.refl _ | apply Drawn0.step)⟩
         ·rw [if_neg aV] at H
          have bG : (aA == (a0.size : Int)) = false := beq_eq_false_iff_ne.mpr aV
          have bH : (aA != (a0.size : Int)) = true := bne_iff_ne.mpr aV
          have bU : 0 ≤ aA := Decidable.byContradiction fun q => by rw [if_neg q] at H; exact absurd H (by simp)
          rw [if_pos bU] at H
          have b1 : decide (0 ≤ aA) = true := decide_eq_true bU
          clear bU
          have bV : aA < (a0.size : Int) := Decidable.byContradiction fun q => by rw [if_neg q] at H; exact absurd H (by simp)
          rw [if_pos bV] at H
          have b2 : decide (aA < (a0.size : Int)) = true := decide_eq_true bV
          clear bV
          by_cases aW : (bt a0 aA) = 59
          ·rw [if_pos aW] at H
           have bI : ((bt a0 aA) == 59) = true := beq_iff_eq.mpr aW
           have bJ : ((bt a0 aA) != 59) = false := bne_eq_false_iff_eq.mpr aW
           clear aW
           by_cases aX : aA = 0
           ·rw [if_pos aX] at H
            have bK : (aA == 0) = true := beq_iff_eq.mpr aX
            have bL : (aA != 0) = false := bne_eq_false_iff_eq.mpr aX
            clear aX
            simp only [Option.some.injEq, Prod.mk.injEq] at H
            obtain ⟨rfl, rfl, rfl⟩ := H
            have aP : 0 ≤ (aA : Int) := of_decide_eq_true (by first | (with_reducible assumption) | assumption)
            have aQ : aA < (a0.size : Int) := of_decide_eq_true (by first | (with_reducible assumption) | assumption)
            have bM := bt_at a0 aA
            replace aP := eq_true aP
            replace aQ := eq_true aQ
            go_wp2
            repeat (go_quiet (fail); try go_wp2)
            go_ret3
            exact ⟨by first | rfl | (simp; done) | (simp [*]; done), by repeat (first | exact Drawn0.refl _ | apply Drawn0.step)⟩
           ·rw [if_neg aX] at H
            have bK : (aA == 0) = false := beq_eq_false_iff_ne.mpr aX
            have bL : (aA != 0) = true := bne_iff_ne.mpr aX
            obtain ⟨ji28, hji28⟩ : ∃ j_ : Int, (wrap64 (aA + 1)) = j_ := ⟨_, rfl⟩
            replace H : (if 0 ≤ (ji28) then (if (ji28) ≤ (a0.size : Int) then (some (aC, a0.extract ((ji28) : Int).toNat a0.size, 0)) else (none)) else (none)) = some (r1, r2, r3) := by first | (rw [hji28] at H; exact H) | (simp only [hji28] at H ⊢; exact H)
            have bY : (IntKind.i64.wrap (aA + 1)) = ji28 := (i64_w _).trans hji28
            have bN : 0 ≤ (ji28) := Decidable.byContradiction fun q => by rw [if_neg q] at H; exact absurd H (by simp)
            rw [if_pos bN] at H
            have b3 := eq_true bN
            have b4 : decide (0 ≤ (ji28)) = true := decide_eq_true bN
            clear bN
            have bO : (ji28) ≤ (a0.size : Int) := Decidable.byContradiction fun q => by rw [if_neg q] at H; exact absurd H (by simp)
            rw [if_pos bO] at H
            have b5 := eq_true bO
            have b6 : decide ((ji28) ≤ (a0.size : Int)) = true := decide_eq_true bO
            clear bO
            simp only [Option.some.injEq, Prod.mk.injEq] at H
            obtain ⟨rfl, rfl, rfl⟩ := H
            have aP : 0 ≤ (aA : Int) := of_decide_eq_true (by first | (with_reducible assumption) | assumption)
            have aQ : aA < (a0.size : Int) := of_decide_eq_true (by first | (with_reducible assumption) | assumption)
            have bM := bt_at a0 aA
            replace aP := eq_true aP
            replace aQ := eq_true aQ
            go_wp2
            repeat (go_quiet (fail); try go_wp2)
            go_ret3
            exact ⟨by first | rfl | (simp; done) | (simp only [← hji28] <;> (first | rfl | simp)) | (simp [*]; done), by repeat (first | exact Drawn0.refl _ | apply Drawn0.step)⟩
          ·rw [if_neg aW] at H
           have bI : ((bt a0 aA) == 59) = false := beq_eq_false_iff_ne.mpr aW
           have bJ : ((bt a0 aA) != 59) = true := bne_iff_ne.mpr aW
           simp only [Option.some.injEq, Prod.mk.injEq] at H
           obtain ⟨rfl, rfl, rfl⟩ := H
           have aP : 0 ≤ (aA : Int) := of_decide_eq_true (by first | (with_reducible assumption) | assumption)
           have aQ : aA < (a0.size : Int) := of_decide_eq_true (by first | (with_reducible assumption) | assumption)
           have bM := bt_at a0 aA
           replace aP := eq_true aP
           replace aQ := eq_true aQ
           go_wp2
           repeat (go_quiet (fail); try go_wp2)
           go_ret3
           exact ⟨by first | rfl | (simp; done) | (simp [*]; done), by repeat (first | exact Drawn0.refl _ | apply Drawn0.step)⟩

/-! ### stanchionref01_TakeText: function 76 -/
set_option maxHeartbeats 8000000 in
set_option maxRecDepth 100000 in
theorem stanchionref01_TakeText.calls (k : Nat) (a0 : ByteArray) (a1 : Int) (r1 : ByteArray) (r2 : ByteArray) (r3 : Int) (w : World) (h : stanchionref01_TakeText.f k a0 a1 = some (r1, r2, r3)) :
  Calls Try.prog 76 #[.string a0, .int .i64 a1] w fun e w' => e = .returned (.tuple #[.string r1, .string r2, .int .i64 r3]) ∧ Drawn0 w w' := by
 have H : ((stanchionref01_TakeNum.f k a0).bind fun bt480 => (if bt480.2.2 = 0 then (if a1 < 0 then (stanchionref01_TakeText.j0 k bt480.1 bt480.2.1 true) else (stanchionref01_TakeText.j0 k bt480.1 bt480.2.1 (decide (bt480.1 > (IntKind.u64.wrap (a1)))))) else (some ((⟨#[]⟩ : ByteArray), (⟨#[]⟩ : ByteArray), bt480.2.2)))) = some (r1, r2, r3) := h
 clear h
 replace H := Option.bind_eq_some_iff.mp H
 obtain ⟨⟨aA, aB, aC⟩, aK, H⟩ := H
 replace H : (if aC = 0 then (if a1 < 0 then (stanchionref01_TakeText.j0 k aA aB true) else (stanchionref01_TakeText.j0 k aA aB (decide (aA > (IntKind.u64.wrap (a1)))))) else (some ((⟨#[]⟩ : ByteArray), (⟨#[]⟩ : ByteArray), aC))) = some (r1, r2, r3) := H
 have A3 := ak aK
 clear aK
 by_cases c4 : aC = 0
 ·rw [if_pos c4] at H
  have aF : (aC == 0) = true := beq_iff_eq.mpr c4
  have aG : (aC != 0) = false := bne_eq_false_iff_eq.mpr c4
  clear c4
  have aI := ak H
  clear H
  go_enter Try.func76, Try.ntmps76
  go_upto_region 4 with (first | (go_at_call 75; (with_reducible refine (stanchionref01_TakeNum.calls k a0 aA aB aC _ A3.out).mono ?_); rintro e w' ⟨rfl, ⟨nd, rfl⟩⟩; (try first | exact ⟨rfl, _, World.drewN_drewN _ _ _⟩ | exact ⟨rfl, _, Eq.trans (World.drewN_drewN _ _ _) (congrArg (World.drewN _) (Nat.add_assoc _ _ _))⟩)))
  repeat (go_quiet (first | (go_at_call 75; (with_reducible refine (stanchionref01_TakeNum.calls k a0 aA aB aC _ A3.out).mono ?_); rintro e w' ⟨rfl, ⟨nd, rfl⟩⟩; (try first | exact ⟨rfl, _, World.drewN_drewN _ _ _⟩ | exact ⟨rfl, _, Eq.trans (World.drewN_drewN _ _ _) (congrArg (World.drewN _) (Nat.add_assoc _ _ _))⟩))); go_upto_region 4 with (first | (go_at_call 75; (with_reducible refine (stanchionref01_TakeNum.calls k a0 aA aB aC _ A3.out).mono ?_); rintro e w' ⟨rfl, ⟨nd, rfl⟩⟩; (try first | exact ⟨rfl, _, World.drewN_drewN _ _ _⟩ | exact ⟨rfl, _, Eq.trans (World.drewN_drewN _ _ _) (congrArg (World.drewN _) (Nat.add_assoc _ _ _))⟩))))
  (try simp only [Act.put, List.setIfInBounds_toArray, List.set_cons_zero, List.set_cons_succ])
  go_cut [26] (fun v26 wc => ∃ (kq : Nat) (aD : Bool), v26 = .bool aD ∧ Aside0 (stanchionref01_TakeText.j0 kq aA aB aD = some (r1, r2, r3)) ∧ Aside0 (kq ≤ k) ∧ Drawn0 w wc)
  case first =>
   have H := aI.out
   clear aI
   by_cases c6 : a1 < 0
   ·rw [if_pos c6] at H
    have aE : decide (a1 < 0) = true := decide_eq_true c6
    clear c6
    (first | rw [aE] | (simp only [i64_w, i32_w]; rw [aE]) | skip)
    have H' := ak H
    clear H
    go_wp2
    repeat (go_quiet (fail); try go_wp2)
    go_meet
    case rel => exact ⟨_, (true), (by first | rfl | (simp; done) | (simp [*]; done)), H', ⟨by first | omega | exact Nat.le_refl _⟩, by repeat (first | exact Drawn0.refl _ | apply Drawn0.step)⟩
   ·rw [if_neg c6] at H
    have aE : decide (a1 < 0) = false := decide_eq_false c6
    clear c6
    (first | rw [aE] | (simp only [i64_w, i32_w]; rw [aE]) | skip)
    have H' := ak H
    clear H
    go_wp2
    repeat (go_quiet (fail); try go_wp2)
    go_meet
    case rel => exact ⟨_, (decide (aA > (IntKind.u64.wrap (a1)))), (by first | rfl | (simp; done) | (simp [*]; done)), H', ⟨by first | omega | exact Nat.le_refl _⟩, by repeat (first | exact Drawn0.refl _ | apply Drawn0.step)⟩
  case rest =>
   clear aI
   try clear p2 c4 aF aG c6 aE
   obtain ⟨kq, aD, rfl, HA, aR, ⟨aS, rfl⟩⟩ := hcut
   cases kq with
   | zero => exact absurd HA.out (by simp [stanchionref01_TakeText.j0])
   | succ kj4 =>
    have H := HA.out
    clear HA
    simp only [stanchionref01_TakeText.j0] at H
    by_cases c7 : aD = true
    ·subst c7
     have H1 : (some ((⟨#[]⟩ : ByteArray), (⟨#[]⟩ : ByteArray), 4)) = some (r1, r2, r3) := by rw [if_pos rfl] at H; exact H
     clear H
     have H := H1
     clear H1
     simp only [Option.some.injEq, Prod.mk.injEq] at H
     obtain ⟨rfl, rfl, rfl⟩ := H
     go_wp2
     repeat (go_quiet (fail); try go_wp2)
     go_ret3
     exact ⟨by first | rfl | (simp; done) | (simp [*]; done), by repeat (first | exact Drawn0.refl _ | apply Drawn0.step)⟩
    ·replace c7 := Bool.eq_false_iff.mpr c7
     subst c7
     have H1 : (if aA > (IntKind.u64.wrap ((aB.size : Int))) then (some ((⟨#[]⟩ : ByteArray), (⟨#[]⟩ : ByteArray), 2)) else (if 0 ≤ aA then (if aA ≤ (aB.size : Int) then (some (aB.extract 0 (aA : Int).toNat, aB.extract (aA : Int).toNat aB.size, 0)) else (none)) else (none))) = some (r1, r2, r3) := by rw [if_neg (show ¬ (false = true) by decide)] at H; exact H
     clear H
     have H := H1
     clear H1
     by_cases c8 : aA > (IntKind.u64.wrap ((aB.size : Int)))
     ·rw [if_pos c8] at H
      have aJ : decide ((IntKind.u64.wrap ((aB.size : Int))) < aA) = true := decide_eq_true c8
      clear c8
      simp only [Option.some.injEq, Prod.mk.injEq] at H
      obtain ⟨rfl, rfl, rfl⟩ := H
      go_wp2
      repeat (go_quiet (fail); try go_wp2)
      go_ret3
      exact ⟨by first | rfl | (simp; done) | (simp [*]; done), by repeat (first | exact Drawn0.refl _ | apply Drawn0.step)⟩
     ·rw [if_neg c8] at H
      have aJ : decide ((IntKind.u64.wrap ((aB.size : Int))) < aA) = false := decide_eq_false c8
      clear c8
      have c9 : 0 ≤ aA := Decidable.byContradiction fun q => by rw [if_neg q] at H; exact absurd H (by simp)
      rw [if_pos c9] at H
      have aP := eq_true c9
      have aQ : decide (0 ≤ aA) = true := decide_eq_true c9
      clear c9
      have aH : aA ≤ (aB.size : Int) := Decidable.byContradiction fun q => by rw [if_neg q] at H; exact absurd H (by simp)
      rw [if_pos aH] at H
      have aL := eq_true aH
      have aM : decide (aA ≤ (aB.size : Int)) = true := decide_eq_true aH
      clear aH
      have aN := eq_true (of_decide_eq_true (by first | (with_reducible assumption) | assumption) : 0 ≤ aA)
      have aO := eq_true (of_decide_eq_true (by first | (with_reducible assumption) | assumption) : aA ≤ (aB.size : Int))
      simp only [Option.some.injEq, Prod.mk.injEq] at H
      obtain ⟨rfl, rfl, rfl⟩ := H
      go_wp2
      repeat (go_quiet (fail); try go_wp2)
      go_ret3
      exact ⟨by first | rfl | (simp; done) | (simp [*]; done), by repeat (first | exact Drawn0.refl _ | apply Drawn0.step)⟩
 ·rw [if_neg c4] at H
  have aF : (aC == 0) = false := beq_eq_false_iff_ne.mpr c4
  have aG : (aC != 0) = true := bne_iff_ne.mpr c4
  simp only [Option.some.injEq, Prod.mk.injEq] at H
  obtain ⟨rfl, rfl, rfl⟩ := H
  go_enter Try.func76, Try.ntmps76
  go_wp2_with (first | (go_at_call 75; (with_reducible refine (stanchionref01_TakeNum.calls k a0 aA aB aC _ A3.out).mono ?_); rintro e w' ⟨rfl, ⟨nd, rfl⟩⟩; (try first | exact ⟨rfl, _, World.drewN_drewN _ _ _⟩ | exact ⟨rfl, _, Eq.trans (World.drewN_drewN _ _ _) (congrArg (World.drewN _) (Nat.add_assoc _ _ _))⟩)))
  repeat (go_quiet (first | (go_at_call 75; (with_reducible refine (stanchionref01_TakeNum.calls k a0 aA aB aC _ A3.out).mono ?_); rintro e w' ⟨rfl, ⟨nd, rfl⟩⟩; (try first | exact ⟨rfl, _, World.drewN_drewN _ _ _⟩ | exact ⟨rfl, _, Eq.trans (World.drewN_drewN _ _ _) (congrArg (World.drewN _) (Nat.add_assoc _ _ _))⟩))); try go_wp2_with (first | (go_at_call 75; (with_reducible refine (stanchionref01_TakeNum.calls k a0 aA aB aC _ A3.out).mono ?_); rintro e w' ⟨rfl, ⟨nd, rfl⟩⟩; (try first | exact ⟨rfl, _, World.drewN_drewN _ _ _⟩ | exact ⟨rfl, _, Eq.trans (World.drewN_drewN _ _ _) (congrArg (World.drewN _) (Nat.add_assoc _ _ _))⟩))))
  go_ret3
  exact ⟨by first | rfl | (simp; done) | (simp [*]; done), by repeat (first | exact Drawn0.refl _ | apply Drawn0.step)⟩

/-! ### stanchionref02_Of: function 92 -/
set_option maxHeartbeats 8000000 in
set_option maxRecDepth 100000 in
theorem stanchionref02_Of.calls (k : Nat) (a0 : ByteArray) (r : Int) (w : World) (h : stanchionref02_Of.f k a0 = some r) :
  Calls Try.prog 92 #[.string a0] w fun e w' => e = .returned (.int .u32 r) ∧ Drawn0 w w' := by
 have H : (stanchionref02_Of.l0 k a0 1 0 0) = some r := h
 clear h
 have H' := ak H
 clear H
 go_enter Try.func92, Try.ntmps92
 go_wp2
 go_loopg [3, 4, 5] k (fun kq v3 v4 v5 w' => ∃ (x3_1 : Int) (x4_1 : Int) (x5_1 : Int), v3 = .int .i64 x3_1 ∧ v4 = .int .i64 x4_1 ∧ v5 = .int .i64 x5_1 ∧ Aside0 (stanchionref02_Of.l0 kq a0 x3_1 x4_1 x5_1 = some r) ∧ Aside0 (kq ≤ k) ∧ Drawn0 w w')
 case atStart => exact ⟨(1), (0), (0), (by first | rfl | (simp; done) | (simp [*]; done)), (by first | rfl | (simp; done) | (simp [*]; done)), (by first | rfl | (simp; done) | (simp [*]; done)), H', ⟨Nat.le_refl _⟩, by repeat (first | exact Drawn0.refl _ | apply Drawn0.step)⟩
 case round =>
  clear H'
  obtain ⟨x3_1, x4_1, x5_1, rfl, rfl, rfl, HA, HK1, ⟨m1, rfl⟩⟩ := hrel
  cases gk with
  | zero => exact absurd HA.out (by simp [stanchionref02_Of.l0])
  | succ k1 =>
   have H := HA.out
   clear HA
   simp only [stanchionref02_Of.l0] at H
   by_cases c2 : x5_1 < (a0.size : Int)
   ·rw [if_pos c2] at H
    have c2b0 : decide (x5_1 < (a0.size : Int)) = true := decide_eq_true c2
    clear c2
    have c3 : 0 ≤ x5_1 := Decidable.byContradiction fun q => by rw [if_neg q] at H; exact absurd H (by simp)
    rw [if_pos c3] at H
    have c3b0 : decide (0 ≤ x5_1) = true := decide_eq_true c3
    clear c3
    have H' := ak H
    clear H
    have p4 : 0 ≤ (x5_1 : Int) := of_decide_eq_true (by first | (with_reducible assumption) | assumption)
    have q4 : x5_1 < (a0.size : Int) := of_decide_eq_true (by first | (with_reducible assumption) | assumption)
    have hx4 := bt_at a0 x5_1
    replace p4 := eq_true p4
    replace q4 := eq_true q4
    go_wp2
    go_roundg k1
    case measure => have := HK1.out; omega
    case rel => exact ⟨(Int.tmod (wrap64 (x3_1 + (wrap64 (bt a0 x5_1)))) 65521), (Int.tmod (wrap64 (x4_1 + (Int.tmod (wrap64 (x3_1 + (wrap64 (bt a0 x5_1)))) 65521))) 65521), (wrap64 (x5_1 + 1)), (by first | rfl | (simp; done) | (simp [*]; done)), (by first | rfl | (simp; done) | (simp [*]; done)), (by first | rfl | (simp; done) | (simp [*]; done)), H', ⟨by have := HK1.out; omega⟩, by repeat (first | exact Drawn0.refl _ | apply Drawn0.step)⟩
   ·rw [if_neg c2] at H
    have c2b0 : decide (x5_1 < (a0.size : Int)) = false := decide_eq_false c2
    clear c2
    obtain rfl := Option.some.inj H
    go_wp2
    go_ret
    exact ⟨by first | rfl | (simp; done) | (simp [*]; done), by repeat (first | exact Drawn0.refl _ | apply Drawn0.step)⟩

/-! ### stanchionref02_Open: function 74 -/
set_option maxHeartbeats 8000000 in
set_option maxRecDepth 100000 in
theorem stanchionref02_Open.calls (k : Nat) (a0 : ByteArray) (a1 : Int) (r1 : ByteArray) (r2 : ByteArray) (r3 : Int) (w : World) (h : stanchionref02_Open.f k a0 a1 = some (r1, r2, r3)) :
  Calls Try.prog 74 #[.string a0, .int .i64 a1] w fun e w' => e = .returned (.tuple #[.string r1, .string r2, .int .i64 r3]) ∧ Drawn0 w w' := by
 have H : ((stanchionref01_TakeText.f k a0 a1).bind fun bt483 => (if bt483.2.2 = 0 then ((stanchionref01_TakeNum.f k bt483.2.1).bind fun bt486 => (if bt486.2.2 = 0 then ((stanchionref02_Of.f k bt483.1).bind fun aA => (if bt486.1 = (IntKind.u64.wrap (aA)) then (some (bt483.1, bt486.2.1, 0)) else (some ((⟨#[]⟩ : ByteArray), (⟨#[]⟩ : ByteArray), 10)))) else (some ((⟨#[]⟩ : ByteArray), (⟨#[]⟩ : ByteArray), bt486.2.2)))) else (some ((⟨#[]⟩ : ByteArray), (⟨#[]⟩ : ByteArray), bt483.2.2)))) = some (r1, r2, r3) := h
 clear h
 replace H := Option.bind_eq_some_iff.mp H
 obtain ⟨⟨aB, aC, aD⟩, aN, H⟩ := H
 replace H : (if aD = 0 then ((stanchionref01_TakeNum.f k aC).bind fun bt486 => (if bt486.2.2 = 0 then ((stanchionref02_Of.f k aB).bind fun aA => (if bt486.1 = (IntKind.u64.wrap (aA)) then (some (aB, bt486.2.1, 0)) else (some ((⟨#[]⟩ : ByteArray), (⟨#[]⟩ : ByteArray), 10)))) else (some ((⟨#[]⟩ : ByteArray), (⟨#[]⟩ : ByteArray), bt486.2.2)))) else (some ((⟨#[]⟩ : ByteArray), (⟨#[]⟩ : ByteArray), aD))) = some (r1, r2, r3) := H
 have A3 := ak aN
 clear aN
 by_cases c4 : aD = 0
 ·rw [if_pos c4] at H
  have aH : (aD == 0) = true := beq_iff_eq.mpr c4
  have aI : (aD != 0) = false := bne_eq_false_iff_eq.mpr c4
  clear c4
  replace H := Option.bind_eq_some_iff.mp H
  obtain ⟨⟨aE, aG, aF⟩, aO, H⟩ := H
  replace H : (if aF = 0 then ((stanchionref02_Of.f k aB).bind fun aA => (if aE = (IntKind.u64.wrap (aA)) then (some (aB, aG, 0)) else (some ((⟨#[]⟩ : ByteArray), (⟨#[]⟩ : ByteArray), 10)))) else (some ((⟨#[]⟩ : ByteArray), (⟨#[]⟩ : ByteArray), aF))) = some (r1, r2, r3) := H
  have A5 := ak aO
  clear aO
  by_cases c6 : aF = 0
  ·rw [if_pos c6] at H
   have aJ : (aF == 0) = true := beq_iff_eq.mpr c6
   have aK : (aF != 0) = false := bne_eq_false_iff_eq.mpr c6
   clear c6
   replace H := Option.bind_eq_some_iff.mp H
   obtain ⟨aA, aP, H⟩ := H
   replace H : (if aE = (IntKind.u64.wrap (aA)) then (some (aB, aG, 0)) else (some ((⟨#[]⟩ : ByteArray), (⟨#[]⟩ : ByteArray), 10))) = some (r1, r2, r3) := H
   have A7 := ak aP
   clear aP
   by_cases c8 : aE = (IntKind.u64.wrap (aA))
   ·rw [if_pos c8] at H
    have aL : (aE == (IntKind.u64.wrap (aA))) = true := beq_iff_eq.mpr c8
    have aM : (aE != (IntKind.u64.wrap (aA))) = false := bne_eq_false_iff_eq.mpr c8
    clear c8
    simp only [Option.some.injEq, Prod.mk.injEq] at H
    obtain ⟨rfl, rfl, rfl⟩ := H
    go_enter Try.func74, Try.ntmps74
    go_wp2_with (first | ((with_reducible refine gate_callee (f := 76) rfl ?_); refine goesL_ (some 16) rfl rfl Try.func76 (by kernel_rfl) rfl #[.string a0, .int .i64 a1] rfl (by (try simp only [List.map_toArray, List.map_cons, List.map_nil]); first | done | rfl | (simp only [List.length_drop, List.length_take]; rfl)) ?_; (with_reducible refine (stanchionref01_TakeText.calls k a0 a1 aB aC aD _ A3.out).mono ?_); rintro e w' ⟨rfl, ⟨nd, rfl⟩⟩; refine ⟨_, rfl, ?_⟩) | ((with_reducible refine gate_callee (f := 75) rfl ?_); refine goesL_ (some 25) rfl rfl Try.func75 (by kernel_rfl) rfl #[.string aC] rfl (by (try simp only [List.map_toArray, List.map_cons, List.map_nil]); first | done | rfl | (simp only [List.length_drop, List.length_take]; rfl)) ?_; (with_reducible refine (stanchionref01_TakeNum.calls k aC aE aG aF _ A5.out).mono ?_); rintro e w' ⟨rfl, ⟨nd, rfl⟩⟩; refine ⟨_, rfl, ?_⟩) | ((with_reducible refine gate_callee (f := 92) rfl ?_); refine goesL_ (some 34) rfl rfl Try.func92 (by kernel_rfl) rfl #[.string aB] rfl (by (try simp only [List.map_toArray, List.map_cons, List.map_nil]); first | done | rfl | (simp only [List.length_drop, List.length_take]; rfl)) ?_; (with_reducible refine (stanchionref02_Of.calls k aB aA _ A7.out).mono ?_); rintro e w' ⟨rfl, ⟨nd, rfl⟩⟩; refine ⟨_, rfl, ?_⟩))
    go_ret3
    exact ⟨by first | rfl | (simp; done) | (simp [*]; done), by repeat (first | exact Drawn0.refl _ | apply Drawn0.step)⟩
   ·rw [if_neg c8] at H
    have aL : (aE == (IntKind.u64.wrap (aA))) = false := beq_eq_false_iff_ne.mpr c8
    have aM : (aE != (IntKind.u64.wrap (aA))) = true := bne_iff_ne.mpr c8
    simp only [Option.some.injEq, Prod.mk.injEq] at H
    obtain ⟨rfl, rfl, rfl⟩ := H
    go_enter Try.func74, Try.ntmps74
    go_wp2_with (first | ((with_reducible refine gate_callee (f := 76) rfl ?_); refine goesL_ (some 16) rfl rfl Try.func76 (by kernel_rfl) rfl #[.string a0, .int .i64 a1] rfl (by (try simp only [List.map_toArray, List.map_cons, List.map_nil]); first | done | rfl | (simp only [List.length_drop, List.length_take]; rfl)) ?_; (with_reducible refine (stanchionref01_TakeText.calls k a0 a1 aB aC aD _ A3.out).mono ?_); rintro e w' ⟨rfl, ⟨nd, rfl⟩⟩; refine ⟨_, rfl, ?_⟩) | ((with_reducible refine gate_callee (f := 75) rfl ?_); refine goesL_ (some 25) rfl rfl Try.func75 (by kernel_rfl) rfl #[.string aC] rfl (by (try simp only [List.map_toArray, List.map_cons, List.map_nil]); first | done | rfl | (simp only [List.length_drop, List.length_take]; rfl)) ?_; (with_reducible refine (stanchionref01_TakeNum.calls k aC aE aG aF _ A5.out).mono ?_); rintro e w' ⟨rfl, ⟨nd, rfl⟩⟩; refine ⟨_, rfl, ?_⟩) | ((with_reducible refine gate_callee (f := 92) rfl ?_); refine goesL_ (some 34) rfl rfl Try.func92 (by kernel_rfl) rfl #[.string aB] rfl (by (try simp only [List.map_toArray, List.map_cons, List.map_nil]); first | done | rfl | (simp only [List.length_drop, List.length_take]; rfl)) ?_; (with_reducible refine (stanchionref02_Of.calls k aB aA _ A7.out).mono ?_); rintro e w' ⟨rfl, ⟨nd, rfl⟩⟩; refine ⟨_, rfl, ?_⟩))
    go_ret3
    exact ⟨by first | rfl | (simp; done) | (simp [*]; done), by repeat (first | exact Drawn0.refl _ | apply Drawn0.step)⟩
  ·rw [if_neg c6] at H
   have aJ : (aF == 0) = false := beq_eq_false_iff_ne.mpr c6
   have aK : (aF != 0) = true := bne_iff_ne.mpr c6
   simp only [Option.some.injEq, Prod.mk.injEq] at H
   obtain ⟨rfl, rfl, rfl⟩ := H
   go_enter Try.func74, Try.ntmps74
   go_wp2_with (first | ((with_reducible refine gate_callee (f := 76) rfl ?_); refine goesL_ (some 16) rfl rfl Try.func76 (by kernel_rfl) rfl #[.string a0, .int .i64 a1] rfl (by (try simp only [List.map_toArray, List.map_cons, List.map_nil]); first | done | rfl | (simp only [List.length_drop, List.length_take]; rfl)) ?_; (with_reducible refine (stanchionref01_TakeText.calls k a0 a1 aB aC aD _ A3.out).mono ?_); rintro e w' ⟨rfl, ⟨nd, rfl⟩⟩; refine ⟨_, rfl, ?_⟩) | ((with_reducible refine gate_callee (f := 75) rfl ?_); refine goesL_ (some 25) rfl rfl Try.func75 (by kernel_rfl) rfl #[.string aC] rfl (by (try simp only [List.map_toArray, List.map_cons, List.map_nil]); first | done | rfl | (simp only [List.length_drop, List.length_take]; rfl)) ?_; (with_reducible refine (stanchionref01_TakeNum.calls k aC aE aG aF _ A5.out).mono ?_); rintro e w' ⟨rfl, ⟨nd, rfl⟩⟩; refine ⟨_, rfl, ?_⟩))
   go_ret3
   exact ⟨by first | rfl | (simp; done) | (simp [*]; done), by repeat (first | exact Drawn0.refl _ | apply Drawn0.step)⟩
 ·rw [if_neg c4] at H
  have aH : (aD == 0) = false := beq_eq_false_iff_ne.mpr c4
  have aI : (aD != 0) = true := bne_iff_ne.mpr c4
  simp only [Option.some.injEq, Prod.mk.injEq] at H
  obtain ⟨rfl, rfl, rfl⟩ := H
  go_enter Try.func74, Try.ntmps74
  go_wp2_with (first | ((with_reducible refine gate_callee (f := 76) rfl ?_); refine goesL_ (some 16) rfl rfl Try.func76 (by kernel_rfl) rfl #[.string a0, .int .i64 a1] rfl (by (try simp only [List.map_toArray, List.map_cons, List.map_nil]); first | done | rfl | (simp only [List.length_drop, List.length_take]; rfl)) ?_; (with_reducible refine (stanchionref01_TakeText.calls k a0 a1 aB aC aD _ A3.out).mono ?_); rintro e w' ⟨rfl, ⟨nd, rfl⟩⟩; refine ⟨_, rfl, ?_⟩))
  go_ret3
  exact ⟨by first | rfl | (simp; done) | (simp [*]; done), by repeat (first | exact Drawn0.refl _ | apply Drawn0.step)⟩

/-! ### stanchionref01_Less: function 54 -/
set_option maxHeartbeats 8000000 in
set_option maxRecDepth 100000 in
theorem stanchionref01_Less.calls (k : Nat) (a0 : ByteArray) (a1 : ByteArray) (r : Bool) (w : World) (h : stanchionref01_Less.f k a0 a1 = some r) :
  Calls Try.prog 54 #[.string a0, .string a1] w fun e w' => e = .returned (.bool r) ∧ Drawn0 w w' := by
 have H : (stanchionref01_Less.l0 k a0 a1 0) = some r := h
 clear h
 have H' := ak H
 clear H
 go_enter Try.func54, Try.ntmps54
 go_wp2
 repeat (go_quiet (fail); try go_wp2)
 go_loopg [5] k (fun kq v5 w' => ∃ (aA : Int), v5 = .int .i64 aA ∧ Aside0 (stanchionref01_Less.l0 kq a0 a1 aA = some r) ∧ Aside0 (kq ≤ k) ∧ Drawn0 w w')
 case atStart => exact ⟨(0), (by first | rfl | (simp; done) | (simp [*]; done)), H', ⟨Nat.le_refl _⟩, by repeat (first | exact Drawn0.refl _ | apply Drawn0.step)⟩
 case round =>
  clear H'
  try clear p2
  obtain ⟨aA, rfl, HA, aI, ⟨m1, rfl⟩⟩ := hrel
  cases gk with
  | zero => exact absurd HA.out (by simp [stanchionref01_Less.l0])
  | succ k1 =>
   have H := HA.out
   clear HA
   simp only [stanchionref01_Less.l0] at H
   have aJ := ak H
   clear H
   go_upto_region 2 with (fail)
   repeat (go_quiet (fail); go_upto_region 2 with (fail))
   go_cut [15] (fun v15 wc => ∃ (kq : Nat) (aB : Bool), v15 = .bool aB ∧ Aside0 (stanchionref01_Less.j1 kq a0 a1 aA aB = some r) ∧ Aside0 (kq ≤ k1) ∧ Drawn0 w wc)
   case first =>
    have H := aJ.out
    clear aJ
    by_cases c4 : aA < (a0.size : Int)
    ·rw [if_pos c4] at H
     have aC : decide (aA < (a0.size : Int)) = true := decide_eq_true c4
     clear c4
     (first | rw [aC] | (simp only [i64_w, i32_w]; rw [aC]) | skip)
     have H' := ak H
     clear H
     go_wp2
     repeat (go_quiet (fail); try go_wp2)
     go_meet
     case rel => exact ⟨_, (decide (aA < (a1.size : Int))), (by first | rfl | (simp; done) | (simp [*]; done)), H', ⟨by have := aI.out; first | omega | exact Nat.le_refl _⟩, by repeat (first | exact Drawn0.refl _ | apply Drawn0.step)⟩
    ·rw [if_neg c4] at H
     have aC : decide (aA < (a0.size : Int)) = false := decide_eq_false c4
     clear c4
     (first | rw [aC] | (simp only [i64_w, i32_w]; rw [aC]) | skip)
     have H' := ak H
     clear H
     go_wp2
     repeat (go_quiet (fail); try go_wp2)
     go_meet
     case rel => exact ⟨_, (false), (by first | rfl | (simp; done) | (simp [*]; done)), H', ⟨by have := aI.out; first | omega | exact Nat.le_refl _⟩, by repeat (first | exact Drawn0.refl _ | apply Drawn0.step)⟩
   case rest =>
    clear aJ
    try clear p2 c4 aC p2
    obtain ⟨kq, aB, rfl, HA, aL, ⟨aW, rfl⟩⟩ := hcut
    cases kq with
    | zero => exact absurd HA.out (by simp [stanchionref01_Less.j1])
    | succ kj2 =>
     have H := HA.out
     clear HA
     simp only [stanchionref01_Less.j1] at H
     by_cases c5 : aB = true
     ·subst c5
      have H1 : (if 0 ≤ aA then (if aA < (a0.size : Int) then (if aA < (a1.size : Int) then (if (bt a0 aA) = (bt a1 aA) then (stanchionref01_Less.l0 kj2 a0 a1 (wrap64 (aA + 1))) else (some (decide ((bt a0 aA) < (bt a1 aA))))) else (none)) else (none)) else (none)) = some r := by rw [if_pos rfl] at H; exact H
      clear H
      have H := H1
      clear H1
      have c6 : 0 ≤ aA := Decidable.byContradiction fun q => by rw [if_neg q] at H; exact absurd H (by simp)
      rw [if_pos c6] at H
      have aQ : decide (0 ≤ aA) = true := decide_eq_true c6
      clear c6
      have c7 : aA < (a0.size : Int) := Decidable.byContradiction fun q => by rw [if_neg q] at H; exact absurd H (by simp)
      rw [if_pos c7] at H
      have aR : decide (aA < (a0.size : Int)) = true := decide_eq_true c7
      clear c7
      have c9 : aA < (a1.size : Int) := Decidable.byContradiction fun q => by rw [if_neg q] at H; exact absurd H (by simp)
      rw [if_pos c9] at H
      have aS : decide (aA < (a1.size : Int)) = true := decide_eq_true c9
      clear c9
      by_cases aD : (bt a0 aA) = (bt a1 aA)
      ·rw [if_pos aD] at H
       have aE : ((bt a0 aA) == (bt a1 aA)) = true := beq_iff_eq.mpr aD
       have aF : ((bt a0 aA) != (bt a1 aA)) = false := bne_eq_false_iff_eq.mpr aD
       clear aD
       have H' := ak H
       clear H
       have p8 : 0 ≤ (aA : Int) := of_decide_eq_true (by first | (with_reducible assumption) | assumption)
       have q8 : aA < (a0.size : Int) := of_decide_eq_true (by first | (with_reducible assumption) | assumption)
       have aT := bt_at a0 aA
       replace p8 := eq_true p8
       replace q8 := eq_true q8
       have aG : 0 ≤ (aA : Int) := of_decide_eq_true (by first | (with_reducible assumption) | assumption)
       have aH : aA < (a1.size : Int) := of_decide_eq_true (by first | (with_reducible assumption) | assumption)
       have aK := bt_at a1 aA
       replace aG := eq_true aG
       replace aH := eq_true aH
       go_wp2
       repeat (go_quiet (fail); try go_wp2)
       go_roundg kj2
       case measure => have := aI.out; have := aL.out; omega
       case rel => exact ⟨(wrap64 (aA + 1)), (by first | rfl | (simp; done) | (simp [*]; done)), H', ⟨by have := aI.out; have := aL.out; omega⟩, by repeat (first | exact Drawn0.refl _ | apply Drawn0.step)⟩
      ·rw [if_neg aD] at H
       have aE : ((bt a0 aA) == (bt a1 aA)) = false := beq_eq_false_iff_ne.mpr aD
       have aF : ((bt a0 aA) != (bt a1 aA)) = true := bne_iff_ne.mpr aD
       obtain rfl := Option.some.inj H
       have p8 : 0 ≤ (aA : Int) := of_decide_eq_true (by first | (with_reducible assumption) | assumption)
       have q8 : aA < (a0.size : Int) := of_decide_eq_true (by first | (with_reducible assumption) | assumption)
       have aT := bt_at a0 aA
       replace p8 := eq_true p8
       replace q8 := eq_true q8
       have aG : 0 ≤ (aA : Int) := of_decide_eq_true (by first | (with_reducible assumption) | assumption)
       have aH : aA < (a1.size : Int) := of_decide_eq_true (by first | (with_reducible assumption) | assumption)
       have aK := bt_at a1 aA
       replace aG := eq_true aG
       replace aH := eq_true aH
       have aM : 0 ≤ (aA : Int) := of_decide_eq_true (by first | (with_reducible assumption) | assumption)
       have aN : aA < (a0.size : Int) := of_decide_eq_true (by first | (with_reducible assumption) | assumption)
       have aU := bt_at a0 aA
       replace aM := eq_true aM
       replace aN := eq_true aN
       have aO : 0 ≤ (aA : Int) := of_decide_eq_true (by first | (with_reducible assumption) | assumption)
       have aP : aA < (a1.size : Int) := of_decide_eq_true (by first | (with_reducible assumption) | assumption)
       have aV := bt_at a1 aA
       replace aO := eq_true aO
       replace aP := eq_true aP
       go_wp2
       repeat (go_quiet (fail); try go_wp2)
       go_ret
       exact ⟨by first | rfl | (simp; done) | (simp [*]; done), by repeat (first | exact Drawn0.refl _ | apply Drawn0.step)⟩
     ·replace c5 := Bool.eq_false_iff.mpr c5
      subst c5
      have H1 : (some (decide ((a0.size : Int) < (a1.size : Int)))) = some r := by rw [if_neg (show ¬ (false = true) by decide)] at H; exact H
      clear H
      have H := H1
      clear H1
      obtain rfl := Option.some.inj H
      go_wp2
      repeat (go_quiet (fail); try go_wp2)
      go_ret
      exact ⟨by first | rfl | (simp; done) | (simp [*]; done), by repeat (first | exact Drawn0.refl _ | apply Drawn0.step)⟩

end Go.Proofs.Ytbhkopbalhhpgaa.PY
