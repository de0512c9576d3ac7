-- Made by a program of this workplace out of the translation (wip/tools in the repo). Not trusted: Lean checks it.
import Derived.Test.YtbhkopbalhhpgaaPYx0
import Derived.Test.YtbhkopbalhhpgaaCb
import Derived.Test.YtbhkopbalhhpgaaSq
import Derived.Test.YtbhkopbalhhpgaaSt
import Derived.Test.YtbhkopbalhhpgaaPYx4
import Derived.Test.YtbhkopbalhhpgaaPYx16
import Derived.Test.YtbhkopbalhhpgaaPYx17
namespace Go.Proofs.Ytbhkopbalhhpgaa.PY
open Go.RowKit Go.Proofs.YtbhkopbalhhpgaaW.PrintWords Go.Proofs.YtbhkopbalhhpgaaW.PrintLast Go.Proofs.YtbhkopbalhhpgaaW.PrintMore Go.Proofs.Ytbhkopbalhhpgaa
attribute [local go_sem] max2_int min2_int max_two min_two max_three min_three max_four min_four   -- for this text's walks alone
set_option linter.unusedVariables false
set_option linter.unusedSimpArgs false

/-! ### stanchionref05_Right: function 93 -/
set_option maxHeartbeats 8000000 in
set_option maxRecDepth 100000 in
theorem stanchionref05_Right.calls (k : Nat) (A0 : Option Addr) (c0 : Nat) (l0 : List (S62)) (r : Bool) (w : World) (aW : Kd.C k62 w A0 l0.length l0) (aX : l0.length ≤ c0) (h : stanchionref05_Right.f k l0 = some r) :
  Calls Try.prog 93 #[.slice A0 l0.length c0] w fun e w' => e = .returned (.bool r) ∧ Drawn0 w w' := by
 have aU := ak aW
 have a6 := ak aX
 clear aW aX
 have H : (stanchionref05_Right.l0 k l0 1) = some r := h
 clear h
 have H' := ak H
 clear H
 go_enter Try.func93, Try.ntmps93
 go_wp2
 repeat (go_quiet (fail); try go_wp2)
 go_loopg [3] k (fun kq v3 w' => ∃ (aA : Int), v3 = .int .i64 aA ∧ Aside0 (stanchionref05_Right.l0 kq l0 aA = some r) ∧ Aside0 (kq ≤ k) ∧ Drawn0 w w')
 case atStart => exact ⟨(1), (by first | rfl | (simp; done) | (simp [*]; done)), H', ⟨Nat.le_refl _⟩, by repeat (first | exact Drawn0.refl _ | apply Drawn0.step)⟩
 case round =>
  clear H'
  obtain ⟨aA, rfl, HA, aY, ⟨m1, rfl⟩⟩ := hrel
  cases gk with
  | zero => exact absurd HA.out (by simp [stanchionref05_Right.l0])
  | succ k1 =>
   have H := HA.out
   clear HA
   simp only [stanchionref05_Right.l0] at H
   by_cases c2 : aA < (l0.length : Int)
   ·rw [if_pos c2] at H
    have aV : decide (aA < (l0.length : Int)) = true := decide_eq_true c2
    clear c2
    obtain ⟨ji3, hji3⟩ : ∃ j_ : Int, (wrap64 (aA - 1)) = j_ := ⟨_, rfl⟩
    replace H : (if 0 ≤ (ji3) then (if (ji3) < (l0.length : Int) then (if 0 ≤ aA then ((stanchionref01_Less.f k1 ((rd_T62 l0 (ji3)).f0) ((rd_T62 l0 aA).f0)).bind fun aJ => (if aJ = true then (stanchionref05_Right.l0 k1 l0 (wrap64 (aA + 1))) else (some false))) else (none)) else (none)) else (none)) = some r := by first | (rw [hji3] at H; exact H) | (simp only [hji3] at H ⊢; exact H)
    have aZ : (IntKind.i64.wrap (aA - 1)) = ji3 := (i64_w _).trans hji3
    have c4 : 0 ≤ (ji3) := Decidable.byContradiction fun q => by rw [if_neg q] at H; exact absurd H (by simp)
    rw [if_pos c4] at H
    have a3 : decide (0 ≤ (ji3)) = true := decide_eq_true c4
    clear c4
    have c5 : (ji3) < (l0.length : Int) := Decidable.byContradiction fun q => by rw [if_neg q] at H; exact absurd H (by simp)
    rw [if_pos c5] at H
    have a4 : decide ((ji3) < (l0.length : Int)) = true := decide_eq_true c5
    clear c5
    have c6 : 0 ≤ aA := Decidable.byContradiction fun q => by rw [if_neg q] at H; exact absurd H (by simp)
    rw [if_pos c6] at H
    have a5 : decide (0 ≤ aA) = true := decide_eq_true c6
    clear c6
    replace H := Option.bind_eq_some_iff.mp H
    obtain ⟨aJ, a2, H⟩ := H
    replace H : (if aJ = true then (stanchionref05_Right.l0 k1 l0 (wrap64 (aA + 1))) else (some false)) = some r := H
    have A7 := ak a2
    clear a2
    by_cases c8 : aJ = true
    ·subst c8
     have H1 : (stanchionref05_Right.l0 k1 l0 (wrap64 (aA + 1))) = some r := by rw [if_pos rfl] at H; exact H
     clear H
     have H := H1
     clear H1
     have H' := ak H
     clear H
     have aC : 0 ≤ ((ji3) : Int) := of_decide_eq_true (by first | (with_reducible assumption) | assumption)
     have aD : (ji3) < (l0.length : Int) := of_decide_eq_true (by first | (with_reducible assumption) | assumption)
     obtain ⟨aH, aR, aK, aM⟩ := at_T62 aU.out (ji3) aC aD
     cases aR
     replace aC := eq_true aC
     replace aD := eq_true aD
     have aE : 0 ≤ (aA : Int) := of_decide_eq_true (by first | (with_reducible assumption) | assumption)
     have aG : aA < (l0.length : Int) := of_decide_eq_true (by first | (with_reducible assumption) | assumption)
     obtain ⟨aI, aT, aN, aQ⟩ := at_T62 aU.out aA aE aG
     obtain rfl : aH = aI := (by injection aT)
     replace aE := eq_true aE
     replace aG := eq_true aG
     go_wp2_with (first | (go_at_call 54; (with_reducible refine (stanchionref01_Less.calls k1 ((rd_T62 l0 (ji3)).f0) ((rd_T62 l0 aA).f0) true _ A7.out).mono ?_); rintro e w' ⟨rfl, ⟨nd, rfl⟩⟩; (try first | exact ⟨rfl, _, World.drewN_drewN _ _ _⟩ | exact ⟨rfl, _, Eq.trans (World.drewN_drewN _ _ _) (congrArg (World.drewN _) (Nat.add_assoc _ _ _))⟩)))
     repeat (go_quiet (first | (go_at_call 54; (with_reducible refine (stanchionref01_Less.calls k1 ((rd_T62 l0 (ji3)).f0) ((rd_T62 l0 aA).f0) true _ A7.out).mono ?_); rintro e w' ⟨rfl, ⟨nd, rfl⟩⟩; (try first | exact ⟨rfl, _, World.drewN_drewN _ _ _⟩ | exact ⟨rfl, _, Eq.trans (World.drewN_drewN _ _ _) (congrArg (World.drewN _) (Nat.add_assoc _ _ _))⟩))); try go_wp2_with (first | (go_at_call 54; (with_reducible refine (stanchionref01_Less.calls k1 ((rd_T62 l0 (ji3)).f0) ((rd_T62 l0 aA).f0) true _ A7.out).mono ?_); rintro e w' ⟨rfl, ⟨nd, rfl⟩⟩; (try first | exact ⟨rfl, _, World.drewN_drewN _ _ _⟩ | exact ⟨rfl, _, Eq.trans (World.drewN_drewN _ _ _) (congrArg (World.drewN _) (Nat.add_assoc _ _ _))⟩))))
     go_roundg k1
     case measure => have := aY.out; omega
     case rel => exact ⟨(wrap64 (aA + 1)), (by first | rfl | (simp; done) | (simp [*]; done)), H', ⟨by have := aY.out; omega⟩, by repeat (first | exact Drawn0.refl _ | apply Drawn0.step)⟩
    ·replace c8 := Bool.eq_false_iff.mpr c8
     subst c8
     have H1 : (some false) = some r := by rw [if_neg (show ¬ (false = true) by decide)] at H; exact H
     clear H
     have H := H1
     clear H1
     obtain rfl := Option.some.inj H
     have aC : 0 ≤ ((ji3) : Int) := of_decide_eq_true (by first | (with_reducible assumption) | assumption)
     have aD : (ji3) < (l0.length : Int) := of_decide_eq_true (by first | (with_reducible assumption) | assumption)
     obtain ⟨aH, aR, aK, aM⟩ := at_T62 aU.out (ji3) aC aD
     cases aR
     replace aC := eq_true aC
     replace aD := eq_true aD
     have aE : 0 ≤ (aA : Int) := of_decide_eq_true (by first | (with_reducible assumption) | assumption)
     have aG : aA < (l0.length : Int) := of_decide_eq_true (by first | (with_reducible assumption) | assumption)
     obtain ⟨aI, aT, aN, aQ⟩ := at_T62 aU.out aA aE aG
     obtain rfl : aH = aI := (by injection aT)
     replace aE := eq_true aE
     replace aG := eq_true aG
     go_wp2_with (first | (go_at_call 54; (with_reducible refine (stanchionref01_Less.calls k1 ((rd_T62 l0 (ji3)).f0) ((rd_T62 l0 aA).f0) false _ A7.out).mono ?_); rintro e w' ⟨rfl, ⟨nd, rfl⟩⟩; (try first | exact ⟨rfl, _, World.drewN_drewN _ _ _⟩ | exact ⟨rfl, _, Eq.trans (World.drewN_drewN _ _ _) (congrArg (World.drewN _) (Nat.add_assoc _ _ _))⟩)))
     repeat (go_quiet (first | (go_at_call 54; (with_reducible refine (stanchionref01_Less.calls k1 ((rd_T62 l0 (ji3)).f0) ((rd_T62 l0 aA).f0) false _ A7.out).mono ?_); rintro e w' ⟨rfl, ⟨nd, rfl⟩⟩; (try first | exact ⟨rfl, _, World.drewN_drewN _ _ _⟩ | exact ⟨rfl, _, Eq.trans (World.drewN_drewN _ _ _) (congrArg (World.drewN _) (Nat.add_assoc _ _ _))⟩))); try go_wp2_with (first | (go_at_call 54; (with_reducible refine (stanchionref01_Less.calls k1 ((rd_T62 l0 (ji3)).f0) ((rd_T62 l0 aA).f0) false _ A7.out).mono ?_); rintro e w' ⟨rfl, ⟨nd, rfl⟩⟩; (try first | exact ⟨rfl, _, World.drewN_drewN _ _ _⟩ | exact ⟨rfl, _, Eq.trans (World.drewN_drewN _ _ _) (congrArg (World.drewN _) (Nat.add_assoc _ _ _))⟩))))
     go_ret
     exact ⟨by first | rfl | (simp; done) | (simp only [← hji3] <;> (first | rfl | simp)) | (simp [*]; done), by repeat (first | exact Drawn0.refl _ | apply Drawn0.step)⟩
   ·rw [if_neg c2] at H
    have aV : decide (aA < (l0.length : Int)) = false := decide_eq_false c2
    clear c2
    obtain rfl := Option.some.inj H
    go_wp2
    repeat (go_quiet (fail); try go_wp2)
    go_ret
    exact ⟨by first | rfl | (simp; done) | (simp [*]; done), by repeat (first | exact Drawn0.refl _ | apply Drawn0.step)⟩

/-! ### stanchionref06_may: function 77 -/
set_option maxHeartbeats 8000000 in
set_option maxRecDepth 100000 in
theorem stanchionref06_may.calls (k : Nat) (A0 : Option Addr) (c0 : Nat) (l0 : List (S62)) (r : Bool) (w : World) (a2 : Kd.C k62 w A0 l0.length l0) (a3 : l0.length ≤ c0) (h : stanchionref06_may.f k l0 = some r) :
  Calls Try.prog 77 #[.slice A0 l0.length c0] w fun e w' => e = .returned (.bool r) ∧ Drawn0 w w' := by
 have aT := ak a2
 have a6 := ak a3
 clear a2 a3
 have H : (stanchionref06_may.l0 k l0 0) = some r := h
 clear h
 have H' := ak H
 clear H
 go_enter Try.func77, Try.ntmps77
 go_wp2
 go_loopg [3] k (fun kq v3 w' => ∃ (aA : Int), v3 = .int .i64 aA ∧ Aside0 (stanchionref06_may.l0 kq l0 aA = some r) ∧ Aside0 (kq ≤ k) ∧ Drawn0 w w')
 case atStart => exact ⟨(0), (by first | rfl | (simp; done) | (simp [*]; done)), H', ⟨Nat.le_refl _⟩, by repeat (first | exact Drawn0.refl _ | apply Drawn0.step)⟩
 case round =>
  clear H'
  obtain ⟨aA, rfl, HA, a4, ⟨m1, rfl⟩⟩ := hrel
  cases gk with
  | zero => exact absurd HA.out (by simp [stanchionref06_may.l0])
  | succ k1 =>
   have H := HA.out
   clear HA
   simp only [stanchionref06_may.l0] at H
   by_cases c2 : aA < (l0.length : Int)
   ·rw [if_pos c2] at H
    have aV : decide (aA < (l0.length : Int)) = true := decide_eq_true c2
    clear c2
    have c3 : 0 ≤ aA := Decidable.byContradiction fun q => by rw [if_neg q] at H; exact absurd H (by simp)
    rw [if_pos c3] at H
    have a7 : decide (0 ≤ aA) = true := decide_eq_true c3
    clear c3
    by_cases c4 : (((rd_T62 l0 aA).f0).size : Int) > 65536
    ·rw [if_pos c4] at H
     have aW : decide (65536 < (((rd_T62 l0 aA).f0).size : Int)) = true := decide_eq_true c4
     have aX : decide (65536 < ((rd_T62 l0 aA).f0).size) = true := decide_eq_true (by omega)
     clear c4
     obtain rfl := Option.some.inj H
     have aC : 0 ≤ (aA : Int) := of_decide_eq_true (by first | (with_reducible assumption) | assumption)
     have aD : aA < (l0.length : Int) := of_decide_eq_true (by first | (with_reducible assumption) | assumption)
     obtain ⟨aH, aK, aI, aJ⟩ := at_T62 aT.out aA aC aD
     cases aK
     replace aC := eq_true aC
     replace aD := eq_true aD
     go_wp2
     go_ret
     exact ⟨by first | rfl | (simp; done) | (simp [*]; done), by repeat (first | exact Drawn0.refl _ | apply Drawn0.step)⟩
    ·rw [if_neg c4] at H
     have aW : decide (65536 < (((rd_T62 l0 aA).f0).size : Int)) = false := decide_eq_false c4
     have aX : decide (65536 < ((rd_T62 l0 aA).f0).size) = false := decide_eq_false (by omega)
     clear c4
     by_cases c5 : (((rd_T62 l0 aA).f1).size : Int) > 65536
     ·rw [if_pos c5] at H
      have aY : decide (65536 < (((rd_T62 l0 aA).f1).size : Int)) = true := decide_eq_true c5
      have aZ : decide (65536 < ((rd_T62 l0 aA).f1).size) = true := decide_eq_true (by omega)
      clear c5
      obtain rfl := Option.some.inj H
      have aC : 0 ≤ (aA : Int) := of_decide_eq_true (by first | (with_reducible assumption) | assumption)
      have aD : aA < (l0.length : Int) := of_decide_eq_true (by first | (with_reducible assumption) | assumption)
      obtain ⟨aH, aK, aI, aJ⟩ := at_T62 aT.out aA aC aD
      cases aK
      replace aC := eq_true aC
      replace aD := eq_true aD
      have aE : 0 ≤ (aA : Int) := of_decide_eq_true (by first | (with_reducible assumption) | assumption)
      have aG : aA < (l0.length : Int) := of_decide_eq_true (by first | (with_reducible assumption) | assumption)
      obtain ⟨aM, aR, aN, aQ⟩ := at_T62 aT.out aA aE aG
      obtain rfl : aH = aM := (by injection aR)
      replace aE := eq_true aE
      replace aG := eq_true aG
      go_wp2
      go_ret
      exact ⟨by first | rfl | (simp; done) | (simp [*]; done), by repeat (first | exact Drawn0.refl _ | apply Drawn0.step)⟩
     ·rw [if_neg c5] at H
      have aY : decide (65536 < (((rd_T62 l0 aA).f1).size : Int)) = false := decide_eq_false c5
      have aZ : decide (65536 < ((rd_T62 l0 aA).f1).size) = false := decide_eq_false (by omega)
      clear c5
      have H' := ak H
      clear H
      have aC : 0 ≤ (aA : Int) := of_decide_eq_true (by first | (with_reducible assumption) | assumption)
      have aD : aA < (l0.length : Int) := of_decide_eq_true (by first | (with_reducible assumption) | assumption)
      obtain ⟨aH, aK, aI, aJ⟩ := at_T62 aT.out aA aC aD
      cases aK
      replace aC := eq_true aC
      replace aD := eq_true aD
      have aE : 0 ≤ (aA : Int) := of_decide_eq_true (by first | (with_reducible assumption) | assumption)
      have aG : aA < (l0.length : Int) := of_decide_eq_true (by first | (with_reducible assumption) | assumption)
      obtain ⟨aM, aR, aN, aQ⟩ := at_T62 aT.out aA aE aG
      obtain rfl : aH = aM := (by injection aR)
      replace aE := eq_true aE
      replace aG := eq_true aG
      go_wp2
      go_roundg k1
      case measure => have := a4.out; omega
      case rel => exact ⟨(wrap64 (aA + 1)), (by first | rfl | (simp; done) | (simp [*]; done)), H', ⟨by have := a4.out; omega⟩, by repeat (first | exact Drawn0.refl _ | apply Drawn0.step)⟩
   ·rw [if_neg c2] at H
    have aV : decide (aA < (l0.length : Int)) = false := decide_eq_false c2
    clear c2
    replace H := Option.bind_eq_some_iff.mp H
    obtain ⟨aU, a5, H⟩ := H
    replace H : (some aU) = some r := H
    have A6 := ak a5
    clear a5
    obtain rfl := Option.some.inj H
    go_wp2_with (first | ((with_reducible refine gate_callee (f := 93) rfl ?_); refine goesL_ (some 27) rfl rfl Try.func93 (by kernel_rfl) rfl #[.slice A0 l0.length c0] rfl (by (try simp only [List.map_toArray, List.map_cons, List.map_nil]); first | done | rfl | (simp only [List.length_drop, List.length_take]; rfl)) ?_; (with_reducible refine (stanchionref05_Right.calls k1 _ _ l0 aU _ ?side1 ?side2 A6.out).mono ?_); (case side1 => repeat (first | exact aT.out | (with_reducible refine Kd.C_alloc ?_ _) | (with_reducible refine Kd.C_drewN ?_ _) | (with_reducible refine Kd.C_drew ?_))); (case side2 => exact a6.out); rintro e w' ⟨rfl, ⟨nd, rfl⟩⟩; refine ⟨_, rfl, ?_⟩))
    go_ret
    exact ⟨by first | rfl | (simp; done) | (simp [*]; done), by repeat (first | exact Drawn0.refl _ | apply Drawn0.step)⟩

/-! ### stanchionref06_Take: function 49 -/
set_option maxHeartbeats 8000000 in
set_option maxRecDepth 100000 in
theorem stanchionref06_Take.calls (k : Nat) (a0 : ByteArray) (r1 : List (S62)) (r2 : Int) (w : World) (h : stanchionref06_Take.f k a0 = some (r1, r2)) :
  Calls Try.prog 49 #[.string a0] w fun e w' => ∃ v0_ : Value, e = .returned (.tuple #[v0_, .int .i64 r2]) ∧ Kd.R k62 62 w' w.heap.size (fun _ => True) v0_ r1 ∧ Below w.heap.size w w' := by
 have b3 := Try.underlying62
 have HB := ak (Below.refl w.heap.size w)
 have H : ((stanchionref02_Open.f k a0 1073741824).bind fun bt496 => (if bt496.2.2 = 0 then (stanchionref06_Take.j0 k bt496.1 (decide ((bt496.2.1.size : Int) > 0))) else (stanchionref06_Take.j0 k bt496.1 true))) = some (r1, r2) := h
 clear h
 replace H := Option.bind_eq_some_iff.mp H
 obtain ⟨⟨aH, aX, aQ⟩, bX, H⟩ := H
 replace H : (if aQ = 0 then (stanchionref06_Take.j0 k aH (decide ((aX.size : Int) > 0))) else (stanchionref06_Take.j0 k aH true)) = some (r1, r2) := H
 have A2 := ak bX
 clear bX
 have bK := ak H
 clear H
 go_enter Try.func49, Try.ntmps49
 go_upto_region 2 with (first | ((with_reducible refine gate_callee (f := 74) rfl ?_); refine goesL_ (some 21) rfl rfl Try.func74 (by kernel_rfl) rfl #[.string a0, .int .i64 1073741824] rfl (by (try simp only [List.map_toArray, List.map_cons, List.map_nil]); first | done | rfl | (simp only [List.length_drop, List.length_take]; rfl)) ?_; (with_reducible refine (stanchionref02_Open.calls k a0 1073741824 aH aX aQ _ A2.out).mono ?_); rintro e w' ⟨rfl, ⟨nd, rfl⟩⟩; refine ⟨_, rfl, ?_⟩))
 (try simp only [Act.put, List.setIfInBounds_toArray, List.set_cons_zero, List.set_cons_succ])
 go_cut [31] (fun v31 wc => ∃ (kq : Nat) (aU : Bool), v31 = .bool aU ∧ Aside0 (stanchionref06_Take.j0 kq aH aU = some (r1, r2)) ∧ Aside0 (kq ≤ k) ∧ Aside0 (Below w.heap.size w wc))
 case first =>
  have H := bK.out
  clear bK
  by_cases c4 : aQ = 0
  ·rw [if_pos c4] at H
   have aR : (aQ == 0) = true := beq_iff_eq.mpr c4
   have aY : (aQ != 0) = false := bne_eq_false_iff_eq.mpr c4
   clear c4
   (first | rw [aR] | (simp only [i64_w, i32_w]; rw [aR]) | skip)
   have H' := ak H
   clear H
   go_wp2
   go_meet
   case rel => exact ⟨_, (decide ((aX.size : Int) > 0)), (by first | rfl | (simp; done) | (simp [*]; done)), H', ⟨by first | omega | exact Nat.le_refl _⟩, ⟨pB HB.out⟩⟩
  ·rw [if_neg c4] at H
   have aR : (aQ == 0) = false := beq_eq_false_iff_ne.mpr c4
   have aY : (aQ != 0) = true := bne_iff_ne.mpr c4
   (first | rw [aR] | (simp only [i64_w, i32_w]; rw [aR]) | skip)
   have H' := ak H
   clear H
   go_wp2
   go_meet
   case rel => exact ⟨_, (true), (by first | rfl | (simp; done) | (simp [*]; done)), H', ⟨by first | omega | exact Nat.le_refl _⟩, ⟨pB HB.out⟩⟩
 case rest =>
  clear bK
  try clear p2 c4 aR aY
  obtain ⟨kq, aU, rfl, HA, bY, HB⟩ := hcut
  cases kq with
  | zero => exact absurd HA.out (by simp [stanchionref06_Take.j0])
  | succ kj2 =>
   have H := HA.out
   clear HA
   simp only [stanchionref06_Take.j0] at H
   by_cases c5 : aU = true
   ·subst c5
    have H1 : (some (([] : List (S62)), 3)) = some (r1, r2) := by rw [if_pos rfl] at H; exact H
    clear H
    have H := H1
    clear H1
    simp only [Option.some.injEq, Prod.mk.injEq] at H
    obtain ⟨rfl, rfl⟩ := H
    go_wp2
    go_ret2
    exact ⟨_, by first | rfl | (simp [errW_none, errW_some] <;> rfl) | (simp [*, errW_none, errW_some] <;> rfl), by first | exact Kd.R_nil _ _ _ _ _ | exact Kd.N_nil _ _ _ _ _ | exact Kd.V_nil _ _ _ _ _ | exact Kd.Q_nil _ _ _ _ _ | exact Kd.S_nil _ _ _ _ _, pB HB.out⟩
   ·replace c5 := Bool.eq_false_iff.mpr c5
    subst c5
    have H1 : ((stanchionref01_TakeNum.f kj2 aH).bind fun bt499 => (if bt499.2.2 = 0 then (stanchionref06_Take.l0 kj2 bt499.1 bt499.2.1 ([] : List (S62)) 0) else (some (([] : List (S62)), 3)))) = some (r1, r2) := by rw [if_neg (show ¬ (false = true) by decide)] at H; exact H
    clear H
    have H := H1
    clear H1
    replace H := Option.bind_eq_some_iff.mp H
    obtain ⟨⟨aG, aW, aK⟩, bZ, H⟩ := H
    replace H : (if aK = 0 then (stanchionref06_Take.l0 kj2 aG aW ([] : List (S62)) 0) else (some (([] : List (S62)), 3))) = some (r1, r2) := H
    have A6 := ak bZ
    clear bZ
    by_cases c7 : aK = 0
    ·rw [if_pos c7] at H
     have a5 : (aK == 0) = true := beq_iff_eq.mpr c7
     have a6 : (aK != 0) = false := bne_eq_false_iff_eq.mpr c7
     clear c7
     have H' := ak H
     clear H
     go_wp2_with (first | ((with_reducible refine gate_callee (f := 75) rfl ?_); refine goesL_ (some 34) rfl rfl Try.func75 (by kernel_rfl) rfl #[.string aH] rfl (by (try simp only [List.map_toArray, List.map_cons, List.map_nil]); first | done | rfl | (simp only [List.length_drop, List.length_take]; rfl)) ?_; (with_reducible refine (stanchionref01_TakeNum.calls kj2 aH aG aW aK _ A6.out).mono ?_); rintro e w' ⟨rfl, ⟨nd, rfl⟩⟩; refine ⟨_, rfl, ?_⟩))
     go_loopg [8, 10, 11] kj2 (fun kq v8 v10 v11 w' => ∃ (aE : ByteArray) (aA : List (S62)) (aD : Int), v8 = .string aE ∧ v11 = .int .u64 aD ∧ Aside0 (stanchionref06_Take.l0 kq aG aE aA aD = some (r1, r2)) ∧ Aside0 (kq ≤ kj2) ∧ Aside0 (Kd.R k62 62 w' w.heap.size (fun _ => True) v10 aA) ∧ Aside0 (Below w.heap.size w w'))
     case atStart => exact ⟨(aW), (([] : List (S62))), (0), (by first | rfl | (simp; done) | (simp [*]; done)), (by first | rfl | (simp; done) | (simp [*]; done)), H', ⟨Nat.le_refl _⟩, ⟨by first | exact Kd.R_nil _ _ _ _ _ | exact Kd.N_nil _ _ _ _ _ | exact Kd.V_nil _ _ _ _ _ | exact Kd.Q_nil _ _ _ _ _ | exact Kd.S_nil _ _ _ _ _⟩, ⟨pB HB.out⟩⟩
     case round =>
      clear H'
      try clear p2 c4 aR aY c5 c7 a5 a6 p2
      obtain ⟨aE, aA, aD, rfl, rfl, HA, b0, aC, HB⟩ := hrel
      cases gk with
      | zero => exact absurd HA.out (by simp [stanchionref06_Take.l0])
      | succ k2 =>
       have H := HA.out
       clear HA
       simp only [stanchionref06_Take.l0] at H
       by_cases c8 : aD < aG
       ·rw [if_pos c8] at H
        have bL : decide (aD < aG) = true := decide_eq_true c8
        clear c8
        replace H := Option.bind_eq_some_iff.mp H
        obtain ⟨⟨aI, aM, aJ⟩, b1, H⟩ := H
        replace H : (if aJ = 0 then ((stanchionref01_TakeText.f k2 aM 65536).bind fun bt506 => (if bt506.2.2 = 0 then (if aA.length < 4398046511104 then (stanchionref06_Take.l0 k2 aG bt506.2.1 (aA ++ [(⟨aI, bt506.1⟩ : S62)]) (IntKind.u64.wrap (aD + 1))) else (none)) else (some (([] : List (S62)), 3)))) else (some (([] : List (S62)), 3))) = some (r1, r2) := H
        have A9 := ak b1
        clear b1
        by_cases aZ : aJ = 0
        ·rw [if_pos aZ] at H
         have a7 : (aJ == 0) = true := beq_iff_eq.mpr aZ
         have a8 : (aJ != 0) = false := bne_eq_false_iff_eq.mpr aZ
         clear aZ
         replace H := Option.bind_eq_some_iff.mp H
         obtain ⟨⟨aT, aV, aN⟩, a9, H⟩ := H
         replace H : (if aN = 0 then (if aA.length < 4398046511104 then (stanchionref06_Take.l0 k2 aG aV (aA ++ [(⟨aI, aT⟩ : S62)]) (IntKind.u64.wrap (aD + 1))) else (none)) else (some (([] : List (S62)), 3))) = some (r1, r2) := H
         have b2 := ak a9
         clear a9
         by_cases a2 : aN = 0
         ·rw [if_pos a2] at H
          have bA : (aN == 0) = true := beq_iff_eq.mpr a2
          have bB : (aN != 0) = false := bne_eq_false_iff_eq.mpr a2
          clear a2
          have bI : aA.length < 4398046511104 := Decidable.byContradiction fun q => by rw [if_neg q] at H; exact absurd H (by simp)
          rw [if_pos bI] at H
          have bC := ak bI
          clear bI
          obtain ⟨y509, hy509⟩ : ∃ y_ : List (S62), y_ = (aA ++ [(⟨aI, aT⟩ : S62)]) := ⟨_, rfl⟩
          replace H : (stanchionref06_Take.l0 k2 aG aV y509 (IntKind.u64.wrap (aD + 1))) = some (r1, r2) := by first | (rw [hy509]; with_reducible exact H) | (have bM := (Option.bind_some _ _).symm.trans H; rw [hy509]; with_reducible exact bM) | (have bM := (Option.bind_some _ _).symm.trans H; with_reducible exact bM) | with_reducible exact H | (rw [hy509]; exact H) | exact H
          have bD := ak hy509
          clear hy509
          have H' := ak H
          clear H
          go_wp2_with (first | ((with_reducible refine gate_callee (f := 76) rfl ?_); refine goesL_ (some 47) rfl rfl Try.func76 (by kernel_rfl) rfl #[.string aE, .int .i64 65536] rfl (by (try simp only [List.map_toArray, List.map_cons, List.map_nil]); first | done | rfl | (simp only [List.length_drop, List.length_take]; rfl)) ?_; (with_reducible refine (stanchionref01_TakeText.calls k2 aE 65536 aI aM aJ _ A9.out).mono ?_); rintro e w' ⟨rfl, ⟨nd, rfl⟩⟩; refine ⟨_, rfl, ?_⟩) | ((with_reducible refine gate_callee (f := 76) rfl ?_); refine goesL_ (some 55) rfl rfl Try.func76 (by kernel_rfl) rfl #[.string aM, .int .i64 65536] rfl (by (try simp only [List.map_toArray, List.map_cons, List.map_nil]); first | done | rfl | (simp only [List.length_drop, List.length_take]; rfl)) ?_; (with_reducible refine (stanchionref01_TakeText.calls k2 aM 65536 aT aV aN _ b2.out).mono ?_); rintro e w' ⟨rfl, ⟨nd, rfl⟩⟩; refine ⟨_, rfl, ?_⟩) | ((with_reducible refine gate_builtin (b := .append) (xs := #[.tmp 61, .tmp 65]) rfl ?_); (try (refine gate_guard (by rfl) ?_; dsimp only)); at_builtin; refine Kd.R_append k62 (w0 := w) w.heap.size rfl (.tmp 61) (.tmp 65) 22 62 (.agg #[(.string ⟨#[]⟩), (.string ⟨#[]⟩)]) 32 rfl Try.underlying22 info62 rfl (by decide) (by omega) u10 aA (⟨aI, aT⟩ : S62) [.string aI, .string aT] (fun _ => True) (fun _ => False) rfl rfl ?aP (fun _ hk => hk.elim) ?aF ?aO ?aB ?aS ?aL ?_; (case aP => exact k62_mkM _ _ _ (⟨aI, aT⟩ : S62)); (case aB => exact (pB HB.out)); (case aF => exact (fun _ _ => trivial)); (case aO => exact (pR aC.out)); (case aS => exact (below_size (pB HB.out))); (case aL => have := bC.out; omega); intro b4 b5 ho hb hg hat; rw [← bD.out] at ho; have n0_ := ak (hb); have n1_ := ak (ho); clear HB; clear aC; have HB := n0_; have bE := n1_; clear n0_ n1_; clear ho hb hg hat))
          go_roundg k2
          case measure => have := bY.out; have := b0.out; omega
          case rel => exact ⟨(aV), (y509), (IntKind.u64.wrap (aD + 1)), (by first | rfl | (simp; done) | (simp [*]; done)), (by first | rfl | (simp; done) | (simp [*]; done)), H', ⟨by have := bY.out; have := b0.out; omega⟩, ⟨pR bE.out⟩, ⟨pB HB.out⟩⟩
         ·rw [if_neg a2] at H
          have bA : (aN == 0) = false := beq_eq_false_iff_ne.mpr a2
          have bB : (aN != 0) = true := bne_iff_ne.mpr a2
          simp only [Option.some.injEq, Prod.mk.injEq] at H
          obtain ⟨rfl, rfl⟩ := H
          go_wp2_with (first | ((with_reducible refine gate_callee (f := 76) rfl ?_); refine goesL_ (some 47) rfl rfl Try.func76 (by kernel_rfl) rfl #[.string aE, .int .i64 65536] rfl (by (try simp only [List.map_toArray, List.map_cons, List.map_nil]); first | done | rfl | (simp only [List.length_drop, List.length_take]; rfl)) ?_; (with_reducible refine (stanchionref01_TakeText.calls k2 aE 65536 aI aM aJ _ A9.out).mono ?_); rintro e w' ⟨rfl, ⟨nd, rfl⟩⟩; refine ⟨_, rfl, ?_⟩) | ((with_reducible refine gate_callee (f := 76) rfl ?_); refine goesL_ (some 55) rfl rfl Try.func76 (by kernel_rfl) rfl #[.string aM, .int .i64 65536] rfl (by (try simp only [List.map_toArray, List.map_cons, List.map_nil]); first | done | rfl | (simp only [List.length_drop, List.length_take]; rfl)) ?_; (with_reducible refine (stanchionref01_TakeText.calls k2 aM 65536 aT aV aN _ b2.out).mono ?_); rintro e w' ⟨rfl, ⟨nd, rfl⟩⟩; refine ⟨_, rfl, ?_⟩))
          go_ret2
          exact ⟨_, by first | rfl | (simp [errW_none, errW_some] <;> rfl) | (simp [*, errW_none, errW_some] <;> rfl), by first | exact Kd.R_nil _ _ _ _ _ | exact Kd.N_nil _ _ _ _ _ | exact Kd.V_nil _ _ _ _ _ | exact Kd.Q_nil _ _ _ _ _ | exact Kd.S_nil _ _ _ _ _, pB HB.out⟩
        ·rw [if_neg aZ] at H
         have a7 : (aJ == 0) = false := beq_eq_false_iff_ne.mpr aZ
         have a8 : (aJ != 0) = true := bne_iff_ne.mpr aZ
         simp only [Option.some.injEq, Prod.mk.injEq] at H
         obtain ⟨rfl, rfl⟩ := H
         go_wp2_with (first | ((with_reducible refine gate_callee (f := 76) rfl ?_); refine goesL_ (some 47) rfl rfl Try.func76 (by kernel_rfl) rfl #[.string aE, .int .i64 65536] rfl (by (try simp only [List.map_toArray, List.map_cons, List.map_nil]); first | done | rfl | (simp only [List.length_drop, List.length_take]; rfl)) ?_; (with_reducible refine (stanchionref01_TakeText.calls k2 aE 65536 aI aM aJ _ A9.out).mono ?_); rintro e w' ⟨rfl, ⟨nd, rfl⟩⟩; refine ⟨_, rfl, ?_⟩))
         go_ret2
         exact ⟨_, by first | rfl | (simp [errW_none, errW_some] <;> rfl) | (simp [*, errW_none, errW_some] <;> rfl), by first | exact Kd.R_nil _ _ _ _ _ | exact Kd.N_nil _ _ _ _ _ | exact Kd.V_nil _ _ _ _ _ | exact Kd.Q_nil _ _ _ _ _ | exact Kd.S_nil _ _ _ _ _, pB HB.out⟩
       ·rw [if_neg c8] at H
        have bL : decide (aD < aG) = false := decide_eq_false c8
        clear c8
        replace H := Option.bind_eq_some_iff.mp H
        obtain ⟨a3, bF, H⟩ := H
        replace H : (if (aE.size : Int) > 0 then (some (([] : List (S62)), 3)) else (if a3 = true then (some (aA, 0)) else (some (([] : List (S62)), 3)))) = some (r1, r2) := H
        have bN := ak bF
        clear bF
        by_cases a4 : (aE.size : Int) > 0
        ·rw [if_pos a4] at H
         have bG : decide (0 < (aE.size : Int)) = true := decide_eq_true a4
         have bH : decide (0 < aE.size) = true := decide_eq_true (by omega)
         clear a4
         simp only [Option.some.injEq, Prod.mk.injEq] at H
         obtain ⟨rfl, rfl⟩ := H
         obtain ⟨bO, bP, bQ⟩ := Kd.R_slice aC.out
         subst bQ
         go_wp2_with (first | ((with_reducible refine gate_callee (f := 77) rfl ?_); refine goesL_ (some 69) rfl rfl Try.func77 (by kernel_rfl) rfl #[.slice bO aA.length bP] rfl (by (try simp only [List.map_toArray, List.map_cons, List.map_nil]); first | done | rfl | (simp only [List.length_drop, List.length_take]; rfl)) ?_; (with_reducible refine (stanchionref06_may.calls k2 _ _ aA a3 _ ?side1 ?side2 bN.out).mono ?_); (case side1 => repeat (first | exact (Kd.R_reads' aC.out).2.2 | (with_reducible refine Kd.C_alloc ?_ _) | (with_reducible refine Kd.C_drewN ?_ _) | (with_reducible refine Kd.C_drew ?_))); (case side2 => exact (Kd.R_reads' aC.out).2.1); rintro e w' ⟨rfl, ⟨nd, rfl⟩⟩; refine ⟨_, rfl, ?_⟩))
         go_ret2
         exact ⟨_, by first | rfl | (simp [errW_none, errW_some] <;> rfl) | (simp [*, errW_none, errW_some] <;> rfl), by first | exact Kd.R_nil _ _ _ _ _ | exact Kd.N_nil _ _ _ _ _ | exact Kd.V_nil _ _ _ _ _ | exact Kd.Q_nil _ _ _ _ _ | exact Kd.S_nil _ _ _ _ _, pB HB.out⟩
        ·rw [if_neg a4] at H
         have bG : decide (0 < (aE.size : Int)) = false := decide_eq_false a4
         have bH : decide (0 < aE.size) = false := decide_eq_false (by omega)
         clear a4
         by_cases bJ : a3 = true
         ·subst bJ
          have H1 : (some (aA, 0)) = some (r1, r2) := by rw [if_pos rfl] at H; exact H
          clear H
          have H := H1
          clear H1
          simp only [Option.some.injEq, Prod.mk.injEq] at H
          obtain ⟨rfl, rfl⟩ := H
          obtain ⟨bR, bS, bT⟩ := Kd.R_slice aC.out
          subst bT
          go_wp2_with (first | ((with_reducible refine gate_callee (f := 77) rfl ?_); refine goesL_ (some 69) rfl rfl Try.func77 (by kernel_rfl) rfl #[.slice bR aA.length bS] rfl (by (try simp only [List.map_toArray, List.map_cons, List.map_nil]); first | done | rfl | (simp only [List.length_drop, List.length_take]; rfl)) ?_; (with_reducible refine (stanchionref06_may.calls k2 _ _ aA true _ ?side1 ?side2 bN.out).mono ?_); (case side1 => repeat (first | exact (Kd.R_reads' aC.out).2.2 | (with_reducible refine Kd.C_alloc ?_ _) | (with_reducible refine Kd.C_drewN ?_ _) | (with_reducible refine Kd.C_drew ?_))); (case side2 => exact (Kd.R_reads' aC.out).2.1); rintro e w' ⟨rfl, ⟨nd, rfl⟩⟩; refine ⟨_, rfl, ?_⟩))
          go_ret2
          exact ⟨_, by first | rfl | (simp [errW_none, errW_some] <;> rfl) | (simp [*, errW_none, errW_some] <;> rfl), pR aC.out, pB HB.out⟩
         ·replace bJ := Bool.eq_false_iff.mpr bJ
          subst bJ
          have H1 : (some (([] : List (S62)), 3)) = some (r1, r2) := by rw [if_neg (show ¬ (false = true) by decide)] at H; exact H
          clear H
          have H := H1
          clear H1
          simp only [Option.some.injEq, Prod.mk.injEq] at H
          obtain ⟨rfl, rfl⟩ := H
          obtain ⟨bU, bV, bW⟩ := Kd.R_slice aC.out
          subst bW
          go_wp2_with (first | ((with_reducible refine gate_callee (f := 77) rfl ?_); refine goesL_ (some 69) rfl rfl Try.func77 (by kernel_rfl) rfl #[.slice bU aA.length bV] rfl (by (try simp only [List.map_toArray, List.map_cons, List.map_nil]); first | done | rfl | (simp only [List.length_drop, List.length_take]; rfl)) ?_; (with_reducible refine (stanchionref06_may.calls k2 _ _ aA false _ ?side1 ?side2 bN.out).mono ?_); (case side1 => repeat (first | exact (Kd.R_reads' aC.out).2.2 | (with_reducible refine Kd.C_alloc ?_ _) | (with_reducible refine Kd.C_drewN ?_ _) | (with_reducible refine Kd.C_drew ?_))); (case side2 => exact (Kd.R_reads' aC.out).2.1); rintro e w' ⟨rfl, ⟨nd, rfl⟩⟩; refine ⟨_, rfl, ?_⟩))
          go_ret2
          exact ⟨_, by first | rfl | (simp [errW_none, errW_some] <;> rfl) | (simp [*, errW_none, errW_some] <;> rfl), by first | exact Kd.R_nil _ _ _ _ _ | exact Kd.N_nil _ _ _ _ _ | exact Kd.V_nil _ _ _ _ _ | exact Kd.Q_nil _ _ _ _ _ | exact Kd.S_nil _ _ _ _ _, pB HB.out⟩
    ·rw [if_neg c7] at H
     have a5 : (aK == 0) = false := beq_eq_false_iff_ne.mpr c7
     have a6 : (aK != 0) = true := bne_iff_ne.mpr c7
     simp only [Option.some.injEq, Prod.mk.injEq] at H
     obtain ⟨rfl, rfl⟩ := H
     go_wp2_with (first | ((with_reducible refine gate_callee (f := 75) rfl ?_); refine goesL_ (some 34) rfl rfl Try.func75 (by kernel_rfl) rfl #[.string aH] rfl (by (try simp only [List.map_toArray, List.map_cons, List.map_nil]); first | done | rfl | (simp only [List.length_drop, List.length_take]; rfl)) ?_; (with_reducible refine (stanchionref01_TakeNum.calls kj2 aH aG aW aK _ A6.out).mono ?_); rintro e w' ⟨rfl, ⟨nd, rfl⟩⟩; refine ⟨_, rfl, ?_⟩))
     go_ret2
     exact ⟨_, by first | rfl | (simp [errW_none, errW_some] <;> rfl) | (simp [*, errW_none, errW_some] <;> rfl), by first | exact Kd.R_nil _ _ _ _ _ | exact Kd.N_nil _ _ _ _ _ | exact Kd.V_nil _ _ _ _ _ | exact Kd.Q_nil _ _ _ _ _ | exact Kd.S_nil _ _ _ _ _, pB HB.out⟩

/-! ### stanchionref06_Load: function 20 -/
set_option maxHeartbeats 8000000 in
set_option maxRecDepth 100000 in
theorem stanchionref06_Load.calls (k : Nat) (aJ : Option Addr) (aK : Nat) (aD : List (S38)) (aE : Int) (aG : Int) (aH : Bool) (a1 : ByteArray) (r1 : List (S62)) (r2 : Int) (w : World) (aN : Kd.C k38 w aJ aD.length aD) (aQ : aD.length ≤ aK) (h : stanchionref06_Load.f k aD aE aG aH a1 = some (r1, r2)) :
  Calls Try.prog 20 #[.agg #[.slice aJ aD.length aK, .int .i64 aE, .int .i64 aG, .bool aH], .string a1] w fun e w' => ∃ v0_ : Value, e = .returned (.tuple #[v0_, .int .i64 r2]) ∧ Kd.R k62 62 w' w.heap.size (fun _ => True) v0_ r1 ∧ Below w.heap.size w w' := by
 have bM := Try.underlying33
 have aR := ak aN
 have aT := ak aQ
 clear aN aQ
 have HB := ak (Below.refl w.heap.size w)
 have H : ((stanchionref03_Read.f k aD aE aG aH a1).bind fun bt513 => (if bt513.2 = 0 then ((stanchionref06_Take.f k bt513.1).bind fun bt515 => (some (bt515.1, bt515.2))) else (some (([] : List (S62)), bt513.2)))) = some (r1, r2) := h
 clear h
 replace H := Option.bind_eq_some_iff.mp H
 obtain ⟨⟨aM, aI⟩, bJ, H⟩ := H
 replace H : (if aI = 0 then ((stanchionref06_Take.f k aM).bind fun bt515 => (some (bt515.1, bt515.2))) else (some (([] : List (S62)), aI))) = some (r1, r2) := H
 have A3 := ak bJ
 clear bJ
 by_cases c4 : aI = 0
 ·rw [if_pos c4] at H
  have a9 : (aI == 0) = true := beq_iff_eq.mpr c4
  have bA : (aI != 0) = false := bne_eq_false_iff_eq.mpr c4
  clear c4
  replace H := Option.bind_eq_some_iff.mp H
  obtain ⟨⟨aU, aV⟩, bK, H⟩ := H
  replace H : (some (aU, aV)) = some (r1, r2) := H
  have A5 := ak bK
  clear bK
  simp only [Option.some.injEq, Prod.mk.injEq] at H
  obtain ⟨rfl, rfl⟩ := H
  go_enter Try.func20, Try.ntmps20
  go_wp2_with (first | ((with_reducible refine gate_dst (N := 2) rfl ?_); refine box_event ?hg (N := 2) ?hd (cs := #[.slice aJ aD.length aK, .int .i64 aE, .int .i64 aG, .bool aH]) (t := 33) ?hr ?_; (case hd => rfl); (case hg => rfl); (case hr => first | (go_simp; done) | (go_simp; rfl)); intro aW hg w6 hbox hb; obtain ⟨n_, aC⟩ := Cb.bx (pB HB.out) hg hb; have aX := aC; have aA := ak (hbox); replace HB := n_; clear n_; clear hb hbox hg; obtain ⟨bB, bC, bD, bE⟩ := Cb.c4 aA.out; obtain ⟨bF, bG, bH, bI⟩ := Cb.f4 aA.out) | ((with_reducible refine gate_callee (f := 48) rfl ?_); refine goesL_ (some 11) rfl rfl Try.func48 (by kernel_rfl) rfl #[.agg #[.slice aJ aD.length aK, .int .i64 aE, .int .i64 aG, .bool aH], .string a1] rfl (by (try simp only [List.map_toArray, List.map_cons, List.map_nil]); first | done | rfl | (simp only [List.length_drop, List.length_take]; rfl)) ?_; (with_reducible refine (stanchionref03_Read.calls k _ _ aD aE aG aH a1 aM aI _ ?side1 ?side2 A3.out).mono ?_); (case side1 => repeat (first | exact (Kd.C_below aR.out HB.out) | (with_reducible refine Kd.C_alloc ?_ _) | (with_reducible refine Kd.C_drewN ?_ _) | (with_reducible refine Kd.C_drew ?_))); (case side2 => exact aT.out); rintro e w8 ⟨rfl, hb⟩; refine ⟨_, rfl, ?_⟩; replace aA := ak (blk_below aA.out hb); replace HB := ak (below_step (by repeat (first | (with_reducible first | exact HB.out | apply ba | apply bn | apply bd | refine bs ?_ aC.out) | exact HB.out)) hb); (try clear hb); (try clear hb2); (try clear hk); (try clear hi)) | ((with_reducible refine gate_callee (f := 49) rfl ?_); refine goesL_ (some 18) rfl rfl Try.func49 (by kernel_rfl) rfl #[.string aM] rfl (by (try simp only [List.map_toArray, List.map_cons, List.map_nil]); first | done | rfl | (simp only [List.length_drop, List.length_take]; rfl)) ?_; (with_reducible refine (stanchionref06_Take.calls k aM aU aV _ A5.out).mono ?_); rintro e w9 ⟨bN, rfl, bL, hb⟩; refine ⟨_, rfl, ?_⟩; have aY := ak (Kd.R_lower bL (below_size (by repeat (first | (with_reducible first | exact HB.out | apply ba | apply bn | apply bd | refine bs ?_ aC.out) | exact HB.out)))); replace aA := ak (blk_below aA.out hb); replace HB := ak (below_step (by repeat (first | (with_reducible first | exact HB.out | apply ba | apply bn | apply bd | refine bs ?_ aC.out) | exact HB.out)) hb); (try clear hb); (try clear hb2); (try clear hk); (try clear hi); (try clear bL)))
  go_ret2
  exact ⟨_, by first | rfl | (simp [errW_none, errW_some] <;> rfl) | (simp [*, errW_none, errW_some] <;> rfl), pR aY.out, by repeat (first | (with_reducible first | exact HB.out | apply ba | apply bn | apply bd | refine bs ?_ aC.out) | exact HB.out)⟩
 ·rw [if_neg c4] at H
  have a9 : (aI == 0) = false := beq_eq_false_iff_ne.mpr c4
  have bA : (aI != 0) = true := bne_iff_ne.mpr c4
  simp only [Option.some.injEq, Prod.mk.injEq] at H
  obtain ⟨rfl, rfl⟩ := H
  go_enter Try.func20, Try.ntmps20
  go_wp2_with (first | ((with_reducible refine gate_dst (N := 2) rfl ?_); refine box_event ?hg (N := 2) ?hd (cs := #[.slice aJ aD.length aK, .int .i64 aE, .int .i64 aG, .bool aH]) (t := 33) ?hr ?_; (case hd => rfl); (case hg => rfl); (case hr => first | (go_simp; done) | (go_simp; rfl)); intro aW hg bO hbox hb; obtain ⟨n_, aC⟩ := Cb.bx (pB HB.out) hg hb; have aX := aC; have aA := ak (hbox); replace HB := n_; clear n_; clear hb hbox hg; obtain ⟨aZ, a2, a3, a4⟩ := Cb.c4 aA.out; obtain ⟨a5, a6, a7, a8⟩ := Cb.f4 aA.out) | ((with_reducible refine gate_callee (f := 48) rfl ?_); refine goesL_ (some 11) rfl rfl Try.func48 (by kernel_rfl) rfl #[.agg #[.slice aJ aD.length aK, .int .i64 aE, .int .i64 aG, .bool aH], .string a1] rfl (by (try simp only [List.map_toArray, List.map_cons, List.map_nil]); first | done | rfl | (simp only [List.length_drop, List.length_take]; rfl)) ?_; (with_reducible refine (stanchionref03_Read.calls k _ _ aD aE aG aH a1 aM aI _ ?side1 ?side2 A3.out).mono ?_); (case side1 => repeat (first | exact (Kd.C_below aR.out HB.out) | (with_reducible refine Kd.C_alloc ?_ _) | (with_reducible refine Kd.C_drewN ?_ _) | (with_reducible refine Kd.C_drew ?_))); (case side2 => exact aT.out); rintro e bP ⟨rfl, hb⟩; refine ⟨_, rfl, ?_⟩; replace aA := ak (blk_below aA.out hb); replace HB := ak (below_step (by repeat (first | (with_reducible first | exact HB.out | apply ba | apply bn | apply bd | refine bs ?_ aC.out) | exact HB.out)) hb); (try clear hb); (try clear hb2); (try clear hk); (try clear hi)))
  go_ret2
  exact ⟨_, by first | rfl | (simp [errW_none, errW_some] <;> rfl) | (simp [*, errW_none, errW_some] <;> rfl), by first | exact Kd.R_nil _ _ _ _ _ | exact Kd.N_nil _ _ _ _ _ | exact Kd.V_nil _ _ _ _ _ | exact Kd.Q_nil _ _ _ _ _ | exact Kd.S_nil _ _ _ _ _, by repeat (first | (with_reducible first | exact HB.out | apply ba | apply bn | apply bd | refine bs ?_ aC.out) | exact HB.out)⟩

end Go.Proofs.Ytbhkopbalhhpgaa.PY
