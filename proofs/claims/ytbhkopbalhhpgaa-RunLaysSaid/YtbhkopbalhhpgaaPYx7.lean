-- Made by a program of this workplace out of the translation (wip/tools in the repo). Not trusted: Lean checks it.
import Derived.Test.YtbhkopbalhhpgaaPYx0
import Derived.Test.YtbhkopbalhhpgaaSq
import Derived.Test.YtbhkopbalhhpgaaPYx3
import Derived.Test.YtbhkopbalhhpgaaPYx5
import Derived.Test.YtbhkopbalhhpgaaPYx6
namespace Go.Proofs.Ytbhkopbalhhpgaa.PY
open Go.RowKit Go.Proofs.YtbhkopbalhhpgaaW.PrintWords Go.Proofs.YtbhkopbalhhpgaaW.PrintLast Go.Proofs.YtbhkopbalhhpgaaW.PrintMore
attribute [local go_sem] max2_int min2_int max_two min_two max_three min_three max_four min_four   -- for this text's walks alone
set_option linter.unusedVariables false
set_option linter.unusedSimpArgs false

/-! ### dec_TakeNum: function 35 -/
set_option maxHeartbeats 8000000 in
set_option maxRecDepth 100000 in
theorem dec_TakeNum.calls (k : Nat) (a0 : ByteArray) (r1 : Int) (r2 : ByteArray) (r3 : Int) (w : World) (h : dec_TakeNum.f k a0 = some (r1, r2, r3)) :
  Calls Try.prog 35 #[.string a0] w fun e w' => e = .returned (.tuple #[.int .u64 r1, .string r2, .int .i64 r3]) ∧ Drawn0 w w' := by
 have H : (dec_TakeNum.l0 k a0 0) = some (r1, r2, r3) := h
 clear h
 have bQ := ak H
 clear H
 go_enter Try.func35, Try.ntmps35
 go_upto_block 0 with (fail)
 refine dec_TakeNum.scope_body ?_
 go_upto_block 0 with (fail)
 refine wp_label ?_
 go_upto_block 0 with (fail)
 go_cut [5] (fun v5 wc => ∃ (kq : Nat) (aA : Int), v5 = .int .i64 aA ∧ Aside0 (dec_TakeNum.j1 kq a0 aA = some (r1, r2, r3)) ∧ Aside0 (kq ≤ k) ∧ Drawn0 w wc)
 case first =>
  have H := bQ.out
  clear bQ
  have H' := ak H
  clear H
  go_wp2
  repeat (go_quiet (fail); try go_wp2)
  go_loopg [5] k (fun kq v5 w' => ∃ (aA : Int), v5 = .int .i64 aA ∧ Aside0 (dec_TakeNum.l0 kq a0 aA = some (r1, r2, r3)) ∧ Aside0 (kq ≤ k) ∧ Drawn0 w w')
  case atStart => exact ⟨(0), (by first | rfl | (simp; done) | (simp [*]; done)), H', ⟨Nat.le_refl _⟩, by repeat (first | exact Drawn0.refl _ | apply Drawn0.step)⟩
  case round =>
   clear H'
   try clear p2
   obtain ⟨aA, rfl, HA, a7, ⟨m1, rfl⟩⟩ := hrel
   cases gk with
   | zero => exact absurd HA.out (by simp [dec_TakeNum.l0])
   | succ k1 =>
    have H := HA.out
    clear HA
    simp only [dec_TakeNum.l0] at H
    by_cases c3 : aA < (a0.size : Int)
    ·rw [if_pos c3] at H
     have aG : decide (aA < (a0.size : Int)) = true := decide_eq_true c3
     clear c3
     (first | rw [aG] | (simp only [i64_w, i32_w]; rw [aG]) | skip)
     have c4 : 0 ≤ aA := Decidable.byContradiction fun q => by rw [if_neg q] at H; exact absurd H (by simp)
     rw [if_pos c4] at H
     have aU : decide (0 ≤ aA) = true := decide_eq_true c4
     clear c4
     by_cases c6 : (bt a0 aA) < 48
     ·rw [if_pos c6] at H
      have aI : decide ((bt a0 aA) < 48) = true := decide_eq_true c6
      clear c6
      have H' := ak H
      clear H
      have p5 : 0 ≤ (aA : Int) := of_decide_eq_true (by first | (with_reducible assumption) | assumption)
      have q5 : aA < (a0.size : Int) := of_decide_eq_true (by first | (with_reducible assumption) | assumption)
      have a8 := bt_at a0 aA
      replace p5 := eq_true p5
      replace q5 := eq_true q5
      go_wp2
      repeat (go_quiet (fail); try go_wp2)
      go_meet
      case rel => exact ⟨_, (aA), (by first | rfl | (simp; done) | (simp [*]; done)), H', ⟨by have := a7.out; first | omega | exact Nat.le_refl _⟩, by repeat (first | exact Drawn0.refl _ | apply Drawn0.step)⟩
     ·rw [if_neg c6] at H
      have aI : decide ((bt a0 aA) < 48) = false := decide_eq_false c6
      clear c6
      by_cases c8 : (bt a0 aA) > 57
      ·rw [if_pos c8] at H
       have aJ : decide (57 < (bt a0 aA)) = true := decide_eq_true c8
       clear c8
       have H' := ak H
       clear H
       have p5 : 0 ≤ (aA : Int) := of_decide_eq_true (by first | (with_reducible assumption) | assumption)
       have q5 : aA < (a0.size : Int) := of_decide_eq_true (by first | (with_reducible assumption) | assumption)
       have a8 := bt_at a0 aA
       replace p5 := eq_true p5
       replace q5 := eq_true q5
       have p7 : 0 ≤ (aA : Int) := of_decide_eq_true (by first | (with_reducible assumption) | assumption)
       have q7 : aA < (a0.size : Int) := of_decide_eq_true (by first | (with_reducible assumption) | assumption)
       have bM := bt_at a0 aA
       replace p7 := eq_true p7
       replace q7 := eq_true q7
       go_wp2
       repeat (go_quiet (fail); try go_wp2)
       go_meet
       case rel => exact ⟨_, (aA), (by first | rfl | (simp; done) | (simp [*]; done)), H', ⟨by have := a7.out; first | omega | exact Nat.le_refl _⟩, by repeat (first | exact Drawn0.refl _ | apply Drawn0.step)⟩
      ·rw [if_neg c8] at H
       have aJ : decide (57 < (bt a0 aA)) = false := decide_eq_false c8
       clear c8
       have H' := ak H
       clear H
       have p5 : 0 ≤ (aA : Int) := of_decide_eq_true (by first | (with_reducible assumption) | assumption)
       have q5 : aA < (a0.size : Int) := of_decide_eq_true (by first | (with_reducible assumption) | assumption)
       have a8 := bt_at a0 aA
       replace p5 := eq_true p5
       replace q5 := eq_true q5
       have p7 : 0 ≤ (aA : Int) := of_decide_eq_true (by first | (with_reducible assumption) | assumption)
       have q7 : aA < (a0.size : Int) := of_decide_eq_true (by first | (with_reducible assumption) | assumption)
       have bM := bt_at a0 aA
       replace p7 := eq_true p7
       replace q7 := eq_true q7
       go_wp2
       repeat (go_quiet (fail); try go_wp2)
       go_roundg k1
       case measure => have := a7.out; omega
       case rel => exact ⟨(wrap64 (aA + 1)), (by first | rfl | (simp; done) | (simp [*]; done)), H', ⟨by have := a7.out; omega⟩, by repeat (first | exact Drawn0.refl _ | apply Drawn0.step)⟩
    ·rw [if_neg c3] at H
     have aG : decide (aA < (a0.size : Int)) = false := decide_eq_false c3
     clear c3
     (first | rw [aG] | (simp only [i64_w, i32_w]; rw [aG]) | skip)
     have H' := ak H
     clear H
     go_wp2
     repeat (go_quiet (fail); try go_wp2)
     go_meet
     case rel => exact ⟨_, (aA), (by first | rfl | (simp; done) | (simp [*]; done)), H', ⟨by have := a7.out; first | omega | exact Nat.le_refl _⟩, by repeat (first | exact Drawn0.refl _ | apply Drawn0.step)⟩
 case rest =>
  clear bQ
  try clear p2 c3 aG c4 aU p5 q5 a8 c6 aI p6 p7 q7 bM c8 aJ p2 p5 p7 q5 q7
  obtain ⟨kq, aA, rfl, HA, a9, ⟨b1, rfl⟩⟩ := hcut
  cases kq with
  | zero => exact absurd HA.out (by simp [dec_TakeNum.j1])
  | succ kj1 =>
   have H := HA.out
   clear HA
   simp only [dec_TakeNum.j1] at H
   by_cases c9 : aA > 20
   ·rw [if_pos c9] at H
    have aV : decide (20 < aA) = true := decide_eq_true c9
    clear c9
    simp only [Option.some.injEq, Prod.mk.injEq] at H
    obtain ⟨rfl, rfl, rfl⟩ := H
    go_wp2
    repeat (go_quiet (fail); try go_wp2)
    go_ret3
    exact ⟨by first | rfl | (simp; done) | (simp [*]; done), by repeat (first | exact Drawn0.refl _ | apply Drawn0.step)⟩
   ·rw [if_neg c9] at H
    have aV : decide (20 < aA) = false := decide_eq_false c9
    clear c9
    have aW : 0 ≤ aA := Decidable.byContradiction fun q => by rw [if_neg q] at H; exact absurd H (by simp)
    rw [if_pos aW] at H
    have aK := eq_true aW
    have aL : decide (0 ≤ aA) = true := decide_eq_true aW
    clear aW
    have aX : aA ≤ (a0.size : Int) := Decidable.byContradiction fun q => by rw [if_neg q] at H; exact absurd H (by simp)
    rw [if_pos aX] at H
    have aM := eq_true aX
    have aN : decide (aA ≤ (a0.size : Int)) = true := decide_eq_true aX
    clear aX
    replace H := Option.bind_eq_some_iff.mp H
    obtain ⟨⟨aB, aH⟩, bA, H⟩ := H
    replace H : (if aA > 1 then (if 0 < (a0.size : Int) then (dec_TakeNum.j2 kj1 a0 aA aB aH ((bt a0 0) == 48)) else (none)) else (dec_TakeNum.j2 kj1 a0 aA aB aH false)) = some (r1, r2, r3) := H
    have bR := ak bA
    clear bA
    have aY := ak H
    clear H
    go_upto_region 9 with (first | (go_at_call 63; (with_reducible refine (dec_told.calls kj1 (a0.extract 0 (aA : Int).toNat) aB aH _ bR.out).mono ?_); rintro e w' ⟨rfl, ⟨nd, rfl⟩⟩; (try first | exact ⟨rfl, _, World.drewN_drewN _ _ _⟩ | exact ⟨rfl, _, Eq.trans (World.drewN_drewN _ _ _) (congrArg (World.drewN _) (Nat.add_assoc _ _ _))⟩)))
    repeat (go_quiet (first | (go_at_call 63; (with_reducible refine (dec_told.calls kj1 (a0.extract 0 (aA : Int).toNat) aB aH _ bR.out).mono ?_); rintro e w' ⟨rfl, ⟨nd, rfl⟩⟩; (try first | exact ⟨rfl, _, World.drewN_drewN _ _ _⟩ | exact ⟨rfl, _, Eq.trans (World.drewN_drewN _ _ _) (congrArg (World.drewN _) (Nat.add_assoc _ _ _))⟩))); go_upto_region 9 with (first | (go_at_call 63; (with_reducible refine (dec_told.calls kj1 (a0.extract 0 (aA : Int).toNat) aB aH _ bR.out).mono ?_); rintro e w' ⟨rfl, ⟨nd, rfl⟩⟩; (try first | exact ⟨rfl, _, World.drewN_drewN _ _ _⟩ | exact ⟨rfl, _, Eq.trans (World.drewN_drewN _ _ _) (congrArg (World.drewN _) (Nat.add_assoc _ _ _))⟩))))
    (try simp only [Act.put, List.setIfInBounds_toArray, List.set_cons_zero, List.set_cons_succ])
    go_cut [32] (fun v32 wc => ∃ (kq : Nat) (aE : Bool), v32 = .bool aE ∧ Aside0 (dec_TakeNum.j2 kq a0 aA aB aH aE = some (r1, r2, r3)) ∧ Aside0 (kq ≤ kj1) ∧ Drawn0 w wc)
    case first =>
     have H := aY.out
     clear aY
     by_cases aO : aA > 1
     ·rw [if_pos aO] at H
      have aC : decide (1 < aA) = true := decide_eq_true aO
      clear aO
      (first | rw [aC] | (simp only [i64_w, i32_w]; rw [aC]) | skip)
      have a5 : 0 < (a0.size : Int) := Decidable.byContradiction fun q => by rw [if_neg q] at H; exact absurd H (by simp)
      rw [if_pos a5] at H
      have aP : decide (0 < (a0.size : Int)) = true := decide_eq_true a5
      have aQ : decide (0 < a0.size) = true := decide_eq_true (by omega)
      clear a5
      have H' := ak H
      clear H
      have bB : 0 ≤ (0 : Int) := (by omega)
      have a6 : 0 < a0.size := (by have : (0 : Int) < (a0.size : Int) := of_decide_eq_true (by first | (with_reducible assumption) | assumption); omega)
      have bC : ∀ h : 0 < a0.size, ((a0[0]'h).toNat : Int) = bt a0 0 := bt_at a0 0
      clear bB
      have bD : (0 < (a0.size : Int)) = True := eq_true (of_decide_eq_true (by first | (with_reducible assumption) | assumption))
      replace a6 := eq_true a6
      go_wp2
      repeat (go_quiet (fail); try go_wp2)
      go_meet
      case rel => exact ⟨_, (((bt a0 0) == 48)), (by first | rfl | (simp; done) | (simp [*]; done)), H', ⟨by have := a9.out; first | omega | exact Nat.le_refl _⟩, by repeat (first | exact Drawn0.refl _ | apply Drawn0.step)⟩
     ·rw [if_neg aO] at H
      have aC : decide (1 < aA) = false := decide_eq_false aO
      clear aO
      (first | rw [aC] | (simp only [i64_w, i32_w]; rw [aC]) | skip)
      have H' := ak H
      clear H
      go_wp2
      repeat (go_quiet (fail); try go_wp2)
      go_meet
      case rel => exact ⟨_, (false), (by first | rfl | (simp; done) | (simp [*]; done)), H', ⟨by have := a9.out; first | omega | exact Nat.le_refl _⟩, by repeat (first | exact Drawn0.refl _ | apply Drawn0.step)⟩
    case rest =>
     clear aY
     try clear c1 p1 q1 hx1 qi1 p2 c3 aG c4 aU p5 q5 a8 c6 aI p6 p7 q7 bM c8 aJ c9 aV aW aK aL aX aM aN aO aC a5 aP aQ bB a6 bC bD bB p2 p5 p6 p7 a6 q5 q7
     obtain ⟨kq, aE, rfl, HA, aZ, ⟨bY, rfl⟩⟩ := hcut
     cases kq with
     | zero => exact absurd HA.out (by simp [dec_TakeNum.j2])
     | succ kj12 =>
      have H := HA.out
      clear HA
      simp only [dec_TakeNum.j2] at H
      by_cases bE : aE = true
      ·subst bE
       have H1 : (some (0, (⟨#[]⟩ : ByteArray), 3)) = some (r1, r2, r3) := by rw [if_pos rfl] at H; exact H
       clear H
       have H := H1
       clear H1
       simp only [Option.some.injEq, Prod.mk.injEq] at H
       obtain ⟨rfl, rfl, rfl⟩ := H
       go_wp2
       repeat (go_quiet (fail); try go_wp2)
       go_ret3
       exact ⟨by first | rfl | (simp; done) | (simp [*]; done), by repeat (first | exact Drawn0.refl _ | apply Drawn0.step)⟩
      ·replace bE := Bool.eq_false_iff.mpr bE
       subst bE
       have H1 : (if aH = true then (if aA < (a0.size : Int) then (if aA = 0 then (dec_TakeNum.j3 kj12 a0 aA aB true) else (if 0 ≤ aA then (dec_TakeNum.j3 kj12 a0 aA aB ((bt a0 aA) != 59)) else (none))) else (dec_TakeNum.j3 kj12 a0 aA aB false)) else (some (0, (⟨#[]⟩ : ByteArray), 3))) = some (r1, r2, r3) := by rw [if_neg (show ¬ (false = true) by decide)] at H; exact H
       clear H
       have H := H1
       clear H1
       by_cases bF : aH = true
       ·subst bF
        have H1 : (if aA < (a0.size : Int) then (if aA = 0 then (dec_TakeNum.j3 kj12 a0 aA aB true) else (if 0 ≤ aA then (dec_TakeNum.j3 kj12 a0 aA aB ((bt a0 aA) != 59)) else (none))) else (dec_TakeNum.j3 kj12 a0 aA aB false)) = some (r1, r2, r3) := by rw [if_pos rfl] at H; exact H
        clear H
        have H := H1
        clear H1
        have a2 := ak H
        clear H
        go_upto_region 11 with (fail)
        repeat (go_quiet (fail); go_upto_region 11 with (fail))
        go_cut [43] (fun v43 wc => ∃ (kq : Nat) (aF : Bool), v43 = .bool aF ∧ Aside0 (dec_TakeNum.j3 kq a0 aA aB aF = some (r1, r2, r3)) ∧ Aside0 (kq ≤ kj12) ∧ Drawn0 w wc)
        case first =>
         have H := a2.out
         clear a2
         by_cases a3 : aA < (a0.size : Int)
         ·rw [if_pos a3] at H
          have aD : decide (aA < (a0.size : Int)) = true := decide_eq_true a3
          clear a3
          (first | rw [aD] | (simp only [i64_w, i32_w]; rw [aD]) | skip)
          by_cases aR : aA = 0
          ·rw [if_pos aR] at H
           have aS : (aA == 0) = true := beq_iff_eq.mpr aR
           have aT : (aA != 0) = false := bne_eq_false_iff_eq.mpr aR
           clear aR
           have H' := ak H
           clear H
           go_wp2
           repeat (go_quiet (fail); try go_wp2)
           go_meet
           case rel => exact ⟨_, (true), (by first | rfl | (simp; done) | (simp [*]; done)), H', ⟨by have := a9.out; have := aZ.out; first | omega | exact Nat.le_refl _⟩, by repeat (first | exact Drawn0.refl _ | apply Drawn0.step)⟩
          ·rw [if_neg aR] at H
           have aS : (aA == 0) = false := beq_eq_false_iff_ne.mpr aR
           have aT : (aA != 0) = true := bne_iff_ne.mpr aR
           have bG : 0 ≤ aA := Decidable.byContradiction fun q => by rw [if_neg q] at H; exact absurd H (by simp)
           rw [if_pos bG] at H
           have bH : decide (0 ≤ aA) = true := decide_eq_true bG
           clear bG
           have H' := ak H
           clear H
           have bN : 0 ≤ (aA : Int) := of_decide_eq_true (by first | (with_reducible assumption) | assumption)
           have bO : aA < (a0.size : Int) := of_decide_eq_true (by first | (with_reducible assumption) | assumption)
           have bS := bt_at a0 aA
           replace bN := eq_true bN
           replace bO := eq_true bO
           go_wp2
           repeat (go_quiet (fail); try go_wp2)
           go_meet
           case rel => exact ⟨_, (((bt a0 aA) != 59)), (by first | rfl | (simp; done) | (simp [*]; done)), H', ⟨by have := a9.out; have := aZ.out; first | omega | exact Nat.le_refl _⟩, by repeat (first | exact Drawn0.refl _ | apply Drawn0.step)⟩
         ·rw [if_neg a3] at H
          have aD : decide (aA < (a0.size : Int)) = false := decide_eq_false a3
          clear a3
          (first | rw [aD] | (simp only [i64_w, i32_w]; rw [aD]) | skip)
          have H' := ak H
          clear H
          go_wp2
          repeat (go_quiet (fail); try go_wp2)
          go_meet
          case rel => exact ⟨_, (false), (by first | rfl | (simp; done) | (simp [*]; done)), H', ⟨by have := a9.out; have := aZ.out; first | omega | exact Nat.le_refl _⟩, by repeat (first | exact Drawn0.refl _ | apply Drawn0.step)⟩
        case rest =>
         clear a2
         try clear c1 p1 q1 hx1 qi1 c2 p2 q2 hx2 c3 aG c4 aU p5 q5 a8 c6 aI p6 p7 q7 bM c8 aJ c9 aV aW aK aL aX aM aN c12 aO aC a5 aP aQ bB a6 bC bD bE bF a3 aD aR aS aT bG bH bN bO bS p1 bB p2 bN p5 p6 p7 q1 a6 bO q5 q7
         obtain ⟨kq, aF, rfl, HA, bZ, ⟨b0, rfl⟩⟩ := hcut
         cases kq with
         | zero => exact absurd HA.out (by simp [dec_TakeNum.j3])
         | succ kj18 =>
          have H := HA.out
          clear HA
          simp only [dec_TakeNum.j3] at H
          by_cases bP : aF = true
          ·subst bP
           have H1 : (some (0, (⟨#[]⟩ : ByteArray), 3)) = some (r1, r2, r3) := by rw [if_pos rfl] at H; exact H
           clear H
           have H := H1
           clear H1
           simp only [Option.some.injEq, Prod.mk.injEq] at H
           obtain ⟨rfl, rfl, rfl⟩ := H
           go_wp2
           repeat (go_quiet (fail); try go_wp2)
           go_ret3
           exact ⟨by first | rfl | (simp; done) | (simp [*]; done), by repeat (first | exact Drawn0.refl _ | apply Drawn0.step)⟩
          ·replace bP := Bool.eq_false_iff.mpr bP
           subst bP
           have H1 : (if aA = (a0.size : Int) then (some (0, (⟨#[]⟩ : ByteArray), 2)) else (if 0 ≤ (wrap64 (aA + 1)) then (if (wrap64 (aA + 1)) ≤ (a0.size : Int) then (some (aB, a0.extract ((wrap64 (aA + 1)) : Int).toNat a0.size, 0)) else (none)) else (none))) = some (r1, r2, r3) := by rw [if_neg (show ¬ (false = true) by decide)] at H; exact H
           clear H
           have H := H1
           clear H1
           by_cases a4 : aA = (a0.size : Int)
           ·rw [if_pos a4] at H
            have bI : (aA == (a0.size : Int)) = true := beq_iff_eq.mpr a4
            have bJ : (aA != (a0.size : Int)) = false := bne_eq_false_iff_eq.mpr a4
            clear a4
            simp only [Option.some.injEq, Prod.mk.injEq] at H
            obtain ⟨rfl, rfl, rfl⟩ := H
            go_wp2
            repeat (go_quiet (fail); try go_wp2)
            go_ret3
            exact ⟨by first | rfl | (simp; done) | (simp [*]; done), by repeat (first | exact Drawn0.refl _ | apply Drawn0.step)⟩
           ·rw [if_neg a4] at H
            have bI : (aA == (a0.size : Int)) = false := beq_eq_false_iff_ne.mpr a4
            have bJ : (aA != (a0.size : Int)) = true := bne_iff_ne.mpr a4
            obtain ⟨ji26, hji26⟩ : ∃ j_ : Int, (wrap64 (aA + 1)) = j_ := ⟨_, rfl⟩
            replace H : (if 0 ≤ (ji26) then (if (ji26) ≤ (a0.size : Int) then (some (aB, a0.extract ((ji26) : Int).toNat a0.size, 0)) else (none)) else (none)) = some (r1, r2, r3) := by first | (rw [hji26] at H; exact H) | (simp only [hji26] at H ⊢; exact H)
            have bT : (IntKind.i64.wrap (aA + 1)) = ji26 := (i64_w _).trans hji26
            have bK : 0 ≤ (ji26) := Decidable.byContradiction fun q => by rw [if_neg q] at H; exact absurd H (by simp)
            rw [if_pos bK] at H
            have bU := eq_true bK
            have bV : decide (0 ≤ (ji26)) = true := decide_eq_true bK
            clear bK
            have bL : (ji26) ≤ (a0.size : Int) := Decidable.byContradiction fun q => by rw [if_neg q] at H; exact absurd H (by simp)
            rw [if_pos bL] at H
            have bW := eq_true bL
            have bX : decide ((ji26) ≤ (a0.size : Int)) = true := decide_eq_true bL
            clear bL
            simp only [Option.some.injEq, Prod.mk.injEq] at H
            obtain ⟨rfl, rfl, rfl⟩ := H
            go_wp2
            repeat (go_quiet (fail); try go_wp2)
            go_ret3
            exact ⟨by first | rfl | (simp; done) | (simp only [← hji26] <;> (first | rfl | simp)) | (simp [*]; done), by repeat (first | exact Drawn0.refl _ | apply Drawn0.step)⟩
       ·replace bF := Bool.eq_false_iff.mpr bF
        subst bF
        have H1 : (some (0, (⟨#[]⟩ : ByteArray), 3)) = some (r1, r2, r3) := by rw [if_neg (show ¬ (false = true) by decide)] at H; exact H
        clear H
        have H := H1
        clear H1
        simp only [Option.some.injEq, Prod.mk.injEq] at H
        obtain ⟨rfl, rfl, rfl⟩ := H
        go_wp2
        repeat (go_quiet (fail); try go_wp2)
        go_ret3
        exact ⟨by first | rfl | (simp; done) | (simp [*]; done), by repeat (first | exact Drawn0.refl _ | apply Drawn0.step)⟩

/-! ### dec_TakeText: function 36 -/
set_option maxHeartbeats 8000000 in
set_option maxRecDepth 100000 in
theorem dec_TakeText.calls (k : Nat) (a0 : ByteArray) (a1 : Int) (r1 : ByteArray) (r2 : ByteArray) (r3 : Int) (w : World) (h : dec_TakeText.f k a0 a1 = some (r1, r2, r3)) :
  Calls Try.prog 36 #[.string a0, .int .i64 a1] w fun e w' => e = .returned (.tuple #[.string r1, .string r2, .int .i64 r3]) ∧ Drawn0 w w' := by
 have H : ((dec_TakeNum.f k a0).bind fun bt119 => (if bt119.2.2 = 0 then (if a1 < 0 then (dec_TakeText.j0 k bt119.1 bt119.2.1 true) else (dec_TakeText.j0 k bt119.1 bt119.2.1 (decide (bt119.1 > (IntKind.u64.wrap (a1)))))) else (some ((⟨#[]⟩ : ByteArray), (⟨#[]⟩ : ByteArray), bt119.2.2)))) = some (r1, r2, r3) := h
 clear h
 replace H := Option.bind_eq_some_iff.mp H
 obtain ⟨⟨aA, aB, aC⟩, aK, H⟩ := H
 replace H : (if aC = 0 then (if a1 < 0 then (dec_TakeText.j0 k aA aB true) else (dec_TakeText.j0 k aA aB (decide (aA > (IntKind.u64.wrap (a1)))))) else (some ((⟨#[]⟩ : ByteArray), (⟨#[]⟩ : ByteArray), aC))) = some (r1, r2, r3) := H
 have A3 := ak aK
 clear aK
 by_cases c4 : aC = 0
 ·rw [if_pos c4] at H
  have aF : (aC == 0) = true := beq_iff_eq.mpr c4
  have aG : (aC != 0) = false := bne_eq_false_iff_eq.mpr c4
  clear c4
  have aI := ak H
  clear H
  go_enter Try.func36, Try.ntmps36
  go_upto_region 4 with (first | (go_at_call 35; (with_reducible refine (dec_TakeNum.calls k a0 aA aB aC _ A3.out).mono ?_); rintro e w' ⟨rfl, ⟨nd, rfl⟩⟩; (try first | exact ⟨rfl, _, World.drewN_drewN _ _ _⟩ | exact ⟨rfl, _, Eq.trans (World.drewN_drewN _ _ _) (congrArg (World.drewN _) (Nat.add_assoc _ _ _))⟩)))
  repeat (go_quiet (first | (go_at_call 35; (with_reducible refine (dec_TakeNum.calls k a0 aA aB aC _ A3.out).mono ?_); rintro e w' ⟨rfl, ⟨nd, rfl⟩⟩; (try first | exact ⟨rfl, _, World.drewN_drewN _ _ _⟩ | exact ⟨rfl, _, Eq.trans (World.drewN_drewN _ _ _) (congrArg (World.drewN _) (Nat.add_assoc _ _ _))⟩))); go_upto_region 4 with (first | (go_at_call 35; (with_reducible refine (dec_TakeNum.calls k a0 aA aB aC _ A3.out).mono ?_); rintro e w' ⟨rfl, ⟨nd, rfl⟩⟩; (try first | exact ⟨rfl, _, World.drewN_drewN _ _ _⟩ | exact ⟨rfl, _, Eq.trans (World.drewN_drewN _ _ _) (congrArg (World.drewN _) (Nat.add_assoc _ _ _))⟩))))
  (try simp only [Act.put, List.setIfInBounds_toArray, List.set_cons_zero, List.set_cons_succ])
  go_cut [20] (fun v20 wc => ∃ (kq : Nat) (aD : Bool), v20 = .bool aD ∧ Aside0 (dec_TakeText.j0 kq aA aB aD = some (r1, r2, r3)) ∧ Aside0 (kq ≤ k) ∧ Drawn0 w wc)
  case first =>
   have H := aI.out
   clear aI
   by_cases c6 : a1 < 0
   ·rw [if_pos c6] at H
    have aE : decide (a1 < 0) = true := decide_eq_true c6
    clear c6
    (first | rw [aE] | (simp only [i64_w, i32_w]; rw [aE]) | skip)
    have H' := ak H
    clear H
    go_wp2
    repeat (go_quiet (fail); try go_wp2)
    go_meet
    case rel => exact ⟨_, (true), (by first | rfl | (simp; done) | (simp [*]; done)), H', ⟨by first | omega | exact Nat.le_refl _⟩, by repeat (first | exact Drawn0.refl _ | apply Drawn0.step)⟩
   ·rw [if_neg c6] at H
    have aE : decide (a1 < 0) = false := decide_eq_false c6
    clear c6
    (first | rw [aE] | (simp only [i64_w, i32_w]; rw [aE]) | skip)
    have H' := ak H
    clear H
    go_wp2
    repeat (go_quiet (fail); try go_wp2)
    go_meet
    case rel => exact ⟨_, (decide (aA > (IntKind.u64.wrap (a1)))), (by first | rfl | (simp; done) | (simp [*]; done)), H', ⟨by first | omega | exact Nat.le_refl _⟩, by repeat (first | exact Drawn0.refl _ | apply Drawn0.step)⟩
  case rest =>
   clear aI
   try clear p2 c3 c4 aF aG c6 aE
   obtain ⟨kq, aD, rfl, HA, aR, ⟨aS, rfl⟩⟩ := hcut
   cases kq with
   | zero => exact absurd HA.out (by simp [dec_TakeText.j0])
   | succ kj4 =>
    have H := HA.out
    clear HA
    simp only [dec_TakeText.j0] at H
    by_cases c7 : aD = true
    ·subst c7
     have H1 : (some ((⟨#[]⟩ : ByteArray), (⟨#[]⟩ : ByteArray), 4)) = some (r1, r2, r3) := by rw [if_pos rfl] at H; exact H
     clear H
     have H := H1
     clear H1
     simp only [Option.some.injEq, Prod.mk.injEq] at H
     obtain ⟨rfl, rfl, rfl⟩ := H
     go_wp2
     repeat (go_quiet (fail); try go_wp2)
     go_ret3
     exact ⟨by first | rfl | (simp; done) | (simp [*]; done), by repeat (first | exact Drawn0.refl _ | apply Drawn0.step)⟩
    ·replace c7 := Bool.eq_false_iff.mpr c7
     subst c7
     have H1 : (if aA > (IntKind.u64.wrap ((aB.size : Int))) then (some ((⟨#[]⟩ : ByteArray), (⟨#[]⟩ : ByteArray), 2)) else (if 0 ≤ aA then (if aA ≤ (aB.size : Int) then (some (aB.extract 0 (aA : Int).toNat, aB.extract (aA : Int).toNat aB.size, 0)) else (none)) else (none))) = some (r1, r2, r3) := by rw [if_neg (show ¬ (false = true) by decide)] at H; exact H
     clear H
     have H := H1
     clear H1
     by_cases c8 : aA > (IntKind.u64.wrap ((aB.size : Int)))
     ·rw [if_pos c8] at H
      have aJ : decide ((IntKind.u64.wrap ((aB.size : Int))) < aA) = true := decide_eq_true c8
      clear c8
      simp only [Option.some.injEq, Prod.mk.injEq] at H
      obtain ⟨rfl, rfl, rfl⟩ := H
      go_wp2
      repeat (go_quiet (fail); try go_wp2)
      go_ret3
      exact ⟨by first | rfl | (simp; done) | (simp [*]; done), by repeat (first | exact Drawn0.refl _ | apply Drawn0.step)⟩
     ·rw [if_neg c8] at H
      have aJ : decide ((IntKind.u64.wrap ((aB.size : Int))) < aA) = false := decide_eq_false c8
      clear c8
      have c9 : 0 ≤ aA := Decidable.byContradiction fun q => by rw [if_neg q] at H; exact absurd H (by simp)
      rw [if_pos c9] at H
      have aP := eq_true c9
      have aQ : decide (0 ≤ aA) = true := decide_eq_true c9
      clear c9
      have aH : aA ≤ (aB.size : Int) := Decidable.byContradiction fun q => by rw [if_neg q] at H; exact absurd H (by simp)
      rw [if_pos aH] at H
      have aL := eq_true aH
      have aM : decide (aA ≤ (aB.size : Int)) = true := decide_eq_true aH
      clear aH
      have aN := eq_true (of_decide_eq_true (by first | (with_reducible assumption) | assumption) : 0 ≤ aA)
      have aO := eq_true (of_decide_eq_true (by first | (with_reducible assumption) | assumption) : aA ≤ (aB.size : Int))
      simp only [Option.some.injEq, Prod.mk.injEq] at H
      obtain ⟨rfl, rfl, rfl⟩ := H
      go_wp2
      repeat (go_quiet (fail); try go_wp2)
      go_ret3
      exact ⟨by first | rfl | (simp; done) | (simp [*]; done), by repeat (first | exact Drawn0.refl _ | apply Drawn0.step)⟩
 ·rw [if_neg c4] at H
  have aF : (aC == 0) = false := beq_eq_false_iff_ne.mpr c4
  have aG : (aC != 0) = true := bne_iff_ne.mpr c4
  simp only [Option.some.injEq, Prod.mk.injEq] at H
  obtain ⟨rfl, rfl, rfl⟩ := H
  go_enter Try.func36, Try.ntmps36
  go_wp2_with (first | (go_at_call 35; (with_reducible refine (dec_TakeNum.calls k a0 aA aB aC _ A3.out).mono ?_); rintro e w' ⟨rfl, ⟨nd, rfl⟩⟩; (try first | exact ⟨rfl, _, World.drewN_drewN _ _ _⟩ | exact ⟨rfl, _, Eq.trans (World.drewN_drewN _ _ _) (congrArg (World.drewN _) (Nat.add_assoc _ _ _))⟩)))
  repeat (go_quiet (first | (go_at_call 35; (with_reducible refine (dec_TakeNum.calls k a0 aA aB aC _ A3.out).mono ?_); rintro e w' ⟨rfl, ⟨nd, rfl⟩⟩; (try first | exact ⟨rfl, _, World.drewN_drewN _ _ _⟩ | exact ⟨rfl, _, Eq.trans (World.drewN_drewN _ _ _) (congrArg (World.drewN _) (Nat.add_assoc _ _ _))⟩))); try go_wp2_with (first | (go_at_call 35; (with_reducible refine (dec_TakeNum.calls k a0 aA aB aC _ A3.out).mono ?_); rintro e w' ⟨rfl, ⟨nd, rfl⟩⟩; (try first | exact ⟨rfl, _, World.drewN_drewN _ _ _⟩ | exact ⟨rfl, _, Eq.trans (World.drewN_drewN _ _ _) (congrArg (World.drewN _) (Nat.add_assoc _ _ _))⟩))))
  go_ret3
  exact ⟨by first | rfl | (simp; done) | (simp [*]; done), by repeat (first | exact Drawn0.refl _ | apply Drawn0.step)⟩

/-! ### sum_Open: function 34 -/
set_option maxHeartbeats 8000000 in
set_option maxRecDepth 100000 in
theorem sum_Open.calls (k : Nat) (a0 : ByteArray) (a1 : Int) (r1 : ByteArray) (r2 : ByteArray) (r3 : Int) (w : World) (h : sum_Open.f k a0 a1 = some (r1, r2, r3)) :
  Calls Try.prog 34 #[.string a0, .int .i64 a1] w fun e w' => e = .returned (.tuple #[.string r1, .string r2, .int .i64 r3]) ∧ Below w.heap.size w w' := by
 have HB := ak (Below.refl w.heap.size w)
 have H : ((dec_TakeText.f k a0 a1).bind fun bt122 => (if bt122.2.2 = 0 then ((dec_TakeNum.f k bt122.2.1).bind fun bt125 => (if bt125.2.2 = 0 then ((sum_Of.f bt122.1).bind fun aA => (if bt125.1 = (IntKind.u64.wrap (aA)) then (some (bt122.1, bt125.2.1, 0)) else (some ((⟨#[]⟩ : ByteArray), (⟨#[]⟩ : ByteArray), 10)))) else (some ((⟨#[]⟩ : ByteArray), (⟨#[]⟩ : ByteArray), bt125.2.2)))) else (some ((⟨#[]⟩ : ByteArray), (⟨#[]⟩ : ByteArray), bt122.2.2)))) = some (r1, r2, r3) := h
 clear h
 replace H := Option.bind_eq_some_iff.mp H
 obtain ⟨⟨aB, aC, aD⟩, aN, H⟩ := H
 replace H : (if aD = 0 then ((dec_TakeNum.f k aC).bind fun bt125 => (if bt125.2.2 = 0 then ((sum_Of.f aB).bind fun aA => (if bt125.1 = (IntKind.u64.wrap (aA)) then (some (aB, bt125.2.1, 0)) else (some ((⟨#[]⟩ : ByteArray), (⟨#[]⟩ : ByteArray), 10)))) else (some ((⟨#[]⟩ : ByteArray), (⟨#[]⟩ : ByteArray), bt125.2.2)))) else (some ((⟨#[]⟩ : ByteArray), (⟨#[]⟩ : ByteArray), aD))) = some (r1, r2, r3) := H
 have A3 := ak aN
 clear aN
 by_cases c4 : aD = 0
 ·rw [if_pos c4] at H
  have aH : (aD == 0) = true := beq_iff_eq.mpr c4
  have aI : (aD != 0) = false := bne_eq_false_iff_eq.mpr c4
  clear c4
  replace H := Option.bind_eq_some_iff.mp H
  obtain ⟨⟨aE, aG, aF⟩, aO, H⟩ := H
  replace H : (if aF = 0 then ((sum_Of.f aB).bind fun aA => (if aE = (IntKind.u64.wrap (aA)) then (some (aB, aG, 0)) else (some ((⟨#[]⟩ : ByteArray), (⟨#[]⟩ : ByteArray), 10)))) else (some ((⟨#[]⟩ : ByteArray), (⟨#[]⟩ : ByteArray), aF))) = some (r1, r2, r3) := H
  have A5 := ak aO
  clear aO
  by_cases c6 : aF = 0
  ·rw [if_pos c6] at H
   have aJ : (aF == 0) = true := beq_iff_eq.mpr c6
   have aK : (aF != 0) = false := bne_eq_false_iff_eq.mpr c6
   clear c6
   replace H := Option.bind_eq_some_iff.mp H
   obtain ⟨aA, aP, H⟩ := H
   replace H : (if aE = (IntKind.u64.wrap (aA)) then (some (aB, aG, 0)) else (some ((⟨#[]⟩ : ByteArray), (⟨#[]⟩ : ByteArray), 10))) = some (r1, r2, r3) := H
   have A7 := ak aP
   clear aP
   by_cases c8 : aE = (IntKind.u64.wrap (aA))
   ·rw [if_pos c8] at H
    have aL : (aE == (IntKind.u64.wrap (aA))) = true := beq_iff_eq.mpr c8
    have aM : (aE != (IntKind.u64.wrap (aA))) = false := bne_eq_false_iff_eq.mpr c8
    clear c8
    simp only [Option.some.injEq, Prod.mk.injEq] at H
    obtain ⟨rfl, rfl, rfl⟩ := H
    go_enter Try.func34, Try.ntmps34
    go_wp2_with (first | ((with_reducible refine gate_callee (f := 36) rfl ?_); refine goesL_ (some 14) rfl rfl Try.func36 (by kernel_rfl) rfl #[.string a0, .int .i64 a1] rfl (by (try simp only [List.map_toArray, List.map_cons, List.map_nil]); first | done | rfl | (simp only [List.length_drop, List.length_take]; rfl)) ?_; (with_reducible refine (dec_TakeText.calls k a0 a1 aB aC aD _ A3.out).mono ?_); rintro e w' ⟨rfl, ⟨nd, rfl⟩⟩; refine ⟨_, rfl, ?_⟩) | ((with_reducible refine gate_callee (f := 35) rfl ?_); refine goesL_ (some 23) rfl rfl Try.func35 (by kernel_rfl) rfl #[.string aC] rfl (by (try simp only [List.map_toArray, List.map_cons, List.map_nil]); first | done | rfl | (simp only [List.length_drop, List.length_take]; rfl)) ?_; (with_reducible refine (dec_TakeNum.calls k aC aE aG aF _ A5.out).mono ?_); rintro e w' ⟨rfl, ⟨nd, rfl⟩⟩; refine ⟨_, rfl, ?_⟩) | ((with_reducible refine gate_callee (f := 62) rfl ?_); refine goesL_ (some 34) rfl rfl Try.func62 (by kernel_rfl) rfl #[.string aB] rfl (by (try simp only [List.map_toArray, List.map_cons, List.map_nil]); first | done | rfl | (simp only [List.length_drop, List.length_take]; rfl)) ?_; (with_reducible refine (sum_Of.calls aB aA _ A7.out).mono ?_); rintro e w9 ⟨rfl, hb⟩; refine ⟨_, rfl, ?_⟩; replace HB := ak (below_step (pB HB.out) hb); (try clear hb); (try clear hb2); (try clear hk); (try clear hi)))
    go_ret3
    exact ⟨by first | rfl | (simp [errW_none, errW_some] <;> rfl) | (simp [*, errW_none, errW_some] <;> rfl), pB HB.out⟩
   ·rw [if_neg c8] at H
    have aL : (aE == (IntKind.u64.wrap (aA))) = false := beq_eq_false_iff_ne.mpr c8
    have aM : (aE != (IntKind.u64.wrap (aA))) = true := bne_iff_ne.mpr c8
    simp only [Option.some.injEq, Prod.mk.injEq] at H
    obtain ⟨rfl, rfl, rfl⟩ := H
    go_enter Try.func34, Try.ntmps34
    go_wp2_with (first | ((with_reducible refine gate_callee (f := 36) rfl ?_); refine goesL_ (some 14) rfl rfl Try.func36 (by kernel_rfl) rfl #[.string a0, .int .i64 a1] rfl (by (try simp only [List.map_toArray, List.map_cons, List.map_nil]); first | done | rfl | (simp only [List.length_drop, List.length_take]; rfl)) ?_; (with_reducible refine (dec_TakeText.calls k a0 a1 aB aC aD _ A3.out).mono ?_); rintro e w' ⟨rfl, ⟨nd, rfl⟩⟩; refine ⟨_, rfl, ?_⟩) | ((with_reducible refine gate_callee (f := 35) rfl ?_); refine goesL_ (some 23) rfl rfl Try.func35 (by kernel_rfl) rfl #[.string aC] rfl (by (try simp only [List.map_toArray, List.map_cons, List.map_nil]); first | done | rfl | (simp only [List.length_drop, List.length_take]; rfl)) ?_; (with_reducible refine (dec_TakeNum.calls k aC aE aG aF _ A5.out).mono ?_); rintro e w' ⟨rfl, ⟨nd, rfl⟩⟩; refine ⟨_, rfl, ?_⟩) | ((with_reducible refine gate_callee (f := 62) rfl ?_); refine goesL_ (some 34) rfl rfl Try.func62 (by kernel_rfl) rfl #[.string aB] rfl (by (try simp only [List.map_toArray, List.map_cons, List.map_nil]); first | done | rfl | (simp only [List.length_drop, List.length_take]; rfl)) ?_; (with_reducible refine (sum_Of.calls aB aA _ A7.out).mono ?_); rintro e aQ ⟨rfl, hb⟩; refine ⟨_, rfl, ?_⟩; replace HB := ak (below_step (pB HB.out) hb); (try clear hb); (try clear hb2); (try clear hk); (try clear hi)))
    go_ret3
    exact ⟨by first | rfl | (simp [errW_none, errW_some] <;> rfl) | (simp [*, errW_none, errW_some] <;> rfl), pB HB.out⟩
  ·rw [if_neg c6] at H
   have aJ : (aF == 0) = false := beq_eq_false_iff_ne.mpr c6
   have aK : (aF != 0) = true := bne_iff_ne.mpr c6
   simp only [Option.some.injEq, Prod.mk.injEq] at H
   obtain ⟨rfl, rfl, rfl⟩ := H
   go_enter Try.func34, Try.ntmps34
   go_wp2_with (first | ((with_reducible refine gate_callee (f := 36) rfl ?_); refine goesL_ (some 14) rfl rfl Try.func36 (by kernel_rfl) rfl #[.string a0, .int .i64 a1] rfl (by (try simp only [List.map_toArray, List.map_cons, List.map_nil]); first | done | rfl | (simp only [List.length_drop, List.length_take]; rfl)) ?_; (with_reducible refine (dec_TakeText.calls k a0 a1 aB aC aD _ A3.out).mono ?_); rintro e w' ⟨rfl, ⟨nd, rfl⟩⟩; refine ⟨_, rfl, ?_⟩) | ((with_reducible refine gate_callee (f := 35) rfl ?_); refine goesL_ (some 23) rfl rfl Try.func35 (by kernel_rfl) rfl #[.string aC] rfl (by (try simp only [List.map_toArray, List.map_cons, List.map_nil]); first | done | rfl | (simp only [List.length_drop, List.length_take]; rfl)) ?_; (with_reducible refine (dec_TakeNum.calls k aC aE aG aF _ A5.out).mono ?_); rintro e w' ⟨rfl, ⟨nd, rfl⟩⟩; refine ⟨_, rfl, ?_⟩))
   go_ret3
   exact ⟨by first | rfl | (simp [errW_none, errW_some] <;> rfl) | (simp [*, errW_none, errW_some] <;> rfl), pB HB.out⟩
 ·rw [if_neg c4] at H
  have aH : (aD == 0) = false := beq_eq_false_iff_ne.mpr c4
  have aI : (aD != 0) = true := bne_iff_ne.mpr c4
  simp only [Option.some.injEq, Prod.mk.injEq] at H
  obtain ⟨rfl, rfl, rfl⟩ := H
  go_enter Try.func34, Try.ntmps34
  go_wp2_with (first | ((with_reducible refine gate_callee (f := 36) rfl ?_); refine goesL_ (some 14) rfl rfl Try.func36 (by kernel_rfl) rfl #[.string a0, .int .i64 a1] rfl (by (try simp only [List.map_toArray, List.map_cons, List.map_nil]); first | done | rfl | (simp only [List.length_drop, List.length_take]; rfl)) ?_; (with_reducible refine (dec_TakeText.calls k a0 a1 aB aC aD _ A3.out).mono ?_); rintro e w' ⟨rfl, ⟨nd, rfl⟩⟩; refine ⟨_, rfl, ?_⟩))
  go_ret3
  exact ⟨by first | rfl | (simp [errW_none, errW_some] <;> rfl) | (simp [*, errW_none, errW_some] <;> rfl), pB HB.out⟩

end Go.Proofs.Ytbhkopbalhhpgaa.PY
