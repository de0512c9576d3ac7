-- Made by a program of this workplace out of the translation (wip/tools in the repo). Not trusted: Lean checks it.
import Derived.Test.YtnpmjboofmdflaaPBx0
import Derived.Test.YtnpmjboofmdflaaPBx1
import Derived.Test.YtnpmjboofmdflaaPBx2
import Derived.Test.YtnpmjboofmdflaaPBx3
namespace Go.Proofs.Ytnpmjboofmdflaa.PB
open Go.RowKit Go.Proofs.YtnpmjboofmdflaaW.PrintWords Go.Proofs.YtnpmjboofmdflaaW.PrintLast Go.Proofs.YtnpmjboofmdflaaW.PrintMore
attribute [local go_sem] max2_int min2_int max_two min_two max_three min_three max_four min_four   -- for this text's walks alone
set_option linter.unusedVariables false
set_option linter.unusedSimpArgs false

attribute [local go_sem high] eqA42 eqA85
/-! ### api_Session_49: function 49 -/
set_option maxHeartbeats 8000000 in
set_option maxRecDepth 100000 in
theorem api_Session_49.calls (k : Nat) (A0 : Option Addr) (c0 : Nat) (l0 : List (S42)) (A1 : Option Addr) (c1 : Nat) (l1 : List (S42)) (r : Bool) (w : World) (hr0 : Kd.C k42 w A0 l0.length l0) (hc0 : l0.length ≤ c0) (hr1 : Kd.C k42 w A1 l1.length l1) (hc1 : l1.length ≤ c1) (h : api_Session_49.f k l0 l1 = some r) :
    Calls Try.prog 49 #[.slice A0 l0.length c0, .slice A1 l1.length c1] w fun e w' => e = .returned (.bool r) ∧ Drawn0 w w' := by
  have hu42 := Try.underlying42
  have HR0 := Aside0.mk hr0
  have HC0 := Aside0.mk hc0
  clear hr0 hc0
  have HR1 := Aside0.mk hr1
  have HC1 := Aside0.mk hc1
  clear hr1 hc1
  have H : (if (l0.length : Int) = (l1.length : Int) then (api_Session_49.l0 k l0 l1 (l0.length : Int) 0) else (some false)) = some r := h
  clear h
  by_cases c3 : (l0.length : Int) = (l1.length : Int)
  · rw [if_pos c3] at H
    have c3b0 : ((l0.length : Int) == (l1.length : Int)) = true := beq_iff_eq.mpr c3
    have c3b1 : ((l0.length : Int) != (l1.length : Int)) = false := bne_eq_false_iff_eq.mpr c3
    have c3b2 : (l0.length == l1.length) = true := by first | simpa using c3 | (simp at c3 ⊢; omega)
    clear c3
    have H' := Aside0.mk H
    clear H
    go_enter Try.func49, Try.ntmps49
    go_wp2
    repeat (go_quiet (fail); try go_wp2)
    go_loopg [13] k (fun kq v13 w' => ∃ (x13_1 : Int), v13 = .int .i64 x13_1 ∧ Aside0 (api_Session_49.l0 kq l0 l1 (l0.length : Int) x13_1 = some r) ∧ Aside0 (kq ≤ k) ∧ Drawn0 w w')
    case atStart => exact ⟨(0), (by first | rfl | (simp; done) | (simp [*]; done)), H', ⟨Nat.le_refl _⟩, by repeat (first | exact Drawn0.refl _ | apply Drawn0.step)⟩
    case round =>
      clear H'
      try clear c1
      try clear p2
      try clear c3
      try clear c3b0
      try clear c3b1
      try clear c3b2
      obtain ⟨x13_1, rfl, HA, HK1, ⟨m1, rfl⟩⟩ := hrel
      cases gk with
      | zero => exact absurd HA.out (by simp [api_Session_49.l0])
      | succ k1 =>
        have H := HA.out
        clear HA
        simp only [api_Session_49.l0] at H
        by_cases c4 : x13_1 < (l0.length : Int)
        · rw [if_pos c4] at H
          have c4b0 : decide (x13_1 < (l0.length : Int)) = true := decide_eq_true c4
          clear c4
          by_cases c5 : 0 ≤ x13_1
          · rw [if_pos c5] at H
            have c5b0 : decide (0 ≤ x13_1) = true := decide_eq_true c5
            clear c5
            by_cases c6 : x13_1 < (l0.length : Int)
            · rw [if_pos c6] at H
              have c6b0 : decide (x13_1 < (l0.length : Int)) = true := decide_eq_true c6
              clear c6
              by_cases c7 : x13_1 < (l1.length : Int)
              · rw [if_pos c7] at H
                have c7b0 : decide (x13_1 < (l1.length : Int)) = true := decide_eq_true c7
                clear c7
                by_cases c8 : (!(((rd_T42 l0 x13_1).f0) == ((rd_T42 l1 x13_1).f0)) || (!(((rd_T42 l0 x13_1).f1) == ((rd_T42 l1 x13_1).f1)) || (!(((rd_T42 l0 x13_1).f2) == ((rd_T42 l1 x13_1).f2)) || (!((((rd_T42 l0 x13_1).f3).toList) == (((rd_T42 l1 x13_1).f3).toList)) || (!(((rd_T42 l0 x13_1).f4) == ((rd_T42 l1 x13_1).f4)) || (!(((rd_T42 l0 x13_1).f5) == ((rd_T42 l1 x13_1).f5)))))))) = true
                · rw [if_pos c8] at H
                  have c8b0 : (!(((rd_T42 l0 x13_1).f0) == ((rd_T42 l1 x13_1).f0)) || (!(((rd_T42 l0 x13_1).f1) == ((rd_T42 l1 x13_1).f1)) || (!(((rd_T42 l0 x13_1).f2) == ((rd_T42 l1 x13_1).f2)) || (!((((rd_T42 l0 x13_1).f3).toList) == (((rd_T42 l1 x13_1).f3).toList)) || (!(((rd_T42 l0 x13_1).f4) == ((rd_T42 l1 x13_1).f4)) || (!(((rd_T42 l0 x13_1).f5) == ((rd_T42 l1 x13_1).f5)))))))) = true := c8
                  clear c8
                  obtain rfl := Option.some.inj H
                  have p601 : 0 ≤ (x13_1 : Int) := of_decide_eq_true (by first | (with_reducible assumption) | assumption)
                  have q601 : x13_1 < (l0.length : Int) := of_decide_eq_true (by first | (with_reducible assumption) | assumption)
                  obtain ⟨ad601, e601, hx601_0, hx601_1, hx601_2, hx601_3, hx601_4, hx601_5⟩ := at_T42 HR0.out x13_1 p601 q601
                  cases e601
                  replace p601 := eq_true p601
                  replace q601 := eq_true q601
                  have p602 : 0 ≤ (x13_1 : Int) := of_decide_eq_true (by first | (with_reducible assumption) | assumption)
                  have q602 : x13_1 < (l1.length : Int) := of_decide_eq_true (by first | (with_reducible assumption) | assumption)
                  obtain ⟨ad602, e602, hx602_0, hx602_1, hx602_2, hx602_3, hx602_4, hx602_5⟩ := at_T42 HR1.out x13_1 p602 q602
                  cases e602
                  replace p602 := eq_true p602
                  replace q602 := eq_true q602
                  go_wp2
                  repeat (go_quiet (fail); try go_wp2)
                  go_ret
                  exact ⟨by first | rfl | (simp; done) | (simp [*]; done), by repeat (first | exact Drawn0.refl _ | apply Drawn0.step)⟩
                · rw [if_neg c8] at H
                  have c8b0 : (!(((rd_T42 l0 x13_1).f0) == ((rd_T42 l1 x13_1).f0)) || (!(((rd_T42 l0 x13_1).f1) == ((rd_T42 l1 x13_1).f1)) || (!(((rd_T42 l0 x13_1).f2) == ((rd_T42 l1 x13_1).f2)) || (!((((rd_T42 l0 x13_1).f3).toList) == (((rd_T42 l1 x13_1).f3).toList)) || (!(((rd_T42 l0 x13_1).f4) == ((rd_T42 l1 x13_1).f4)) || (!(((rd_T42 l0 x13_1).f5) == ((rd_T42 l1 x13_1).f5)))))))) = false := by simpa using c8
                  clear c8
                  have H' := Aside0.mk H
                  clear H
                  have p601 : 0 ≤ (x13_1 : Int) := of_decide_eq_true (by first | (with_reducible assumption) | assumption)
                  have q601 : x13_1 < (l0.length : Int) := of_decide_eq_true (by first | (with_reducible assumption) | assumption)
                  obtain ⟨ad601, e601, hx601_0, hx601_1, hx601_2, hx601_3, hx601_4, hx601_5⟩ := at_T42 HR0.out x13_1 p601 q601
                  cases e601
                  replace p601 := eq_true p601
                  replace q601 := eq_true q601
                  have p602 : 0 ≤ (x13_1 : Int) := of_decide_eq_true (by first | (with_reducible assumption) | assumption)
                  have q602 : x13_1 < (l1.length : Int) := of_decide_eq_true (by first | (with_reducible assumption) | assumption)
                  obtain ⟨ad602, e602, hx602_0, hx602_1, hx602_2, hx602_3, hx602_4, hx602_5⟩ := at_T42 HR1.out x13_1 p602 q602
                  cases e602
                  replace p602 := eq_true p602
                  replace q602 := eq_true q602
                  go_wp2
                  repeat (go_quiet (fail); try go_wp2)
                  go_roundg k1
                  case measure => have := HK1.out; omega
                  case rel => exact ⟨(wrap64 (x13_1 + 1)), (by first | rfl | (simp; done) | (simp [*]; done)), H', ⟨by have := HK1.out; omega⟩, by repeat (first | exact Drawn0.refl _ | apply Drawn0.step)⟩
              · rw [if_neg c7] at H
                exact absurd H (by simp)
            · rw [if_neg c6] at H
              exact absurd H (by simp)
          · rw [if_neg c5] at H
            exact absurd H (by simp)
        · rw [if_neg c4] at H
          have c4b0 : decide (x13_1 < (l0.length : Int)) = false := decide_eq_false c4
          clear c4
          obtain rfl := Option.some.inj H
          go_wp2
          repeat (go_quiet (fail); try go_wp2)
          go_ret
          exact ⟨by first | rfl | (simp; done) | (simp [*]; done), by repeat (first | exact Drawn0.refl _ | apply Drawn0.step)⟩
  · rw [if_neg c3] at H
    have c3b0 : ((l0.length : Int) == (l1.length : Int)) = false := beq_eq_false_iff_ne.mpr c3
    have c3b1 : ((l0.length : Int) != (l1.length : Int)) = true := bne_iff_ne.mpr c3
    have c3b2 : (l0.length == l1.length) = false := by first | simpa using c3 | (simp at c3 ⊢; omega)
    obtain rfl := Option.some.inj H
    go_enter Try.func49, Try.ntmps49
    go_wp2
    repeat (go_quiet (fail); try go_wp2)
    go_ret
    exact ⟨by first | rfl | (simp; done) | (simp [*]; done), by repeat (first | exact Drawn0.refl _ | apply Drawn0.step)⟩

/-! ### api_Alarm_50: function 50 -/
set_option maxHeartbeats 8000000 in
set_option maxRecDepth 100000 in
theorem api_Alarm_50.calls (k : Nat) (A0 : Option Addr) (c0 : Nat) (l0 : List (S85)) (A1 : Option Addr) (c1 : Nat) (l1 : List (S85)) (r : Bool) (w : World) (hr0 : Kd.C k85 w A0 l0.length l0) (hc0 : l0.length ≤ c0) (hr1 : Kd.C k85 w A1 l1.length l1) (hc1 : l1.length ≤ c1) (h : api_Alarm_50.f k l0 l1 = some r) :
    Calls Try.prog 50 #[.slice A0 l0.length c0, .slice A1 l1.length c1] w fun e w' => e = .returned (.bool r) ∧ Drawn0 w w' := by
  have hu85 := Try.underlying85
  have HR0 := Aside0.mk hr0
  have HC0 := Aside0.mk hc0
  clear hr0 hc0
  have HR1 := Aside0.mk hr1
  have HC1 := Aside0.mk hc1
  clear hr1 hc1
  have H : (if (l0.length : Int) = (l1.length : Int) then (api_Alarm_50.l0 k l0 l1 (l0.length : Int) 0) else (some false)) = some r := h
  clear h
  by_cases c3 : (l0.length : Int) = (l1.length : Int)
  · rw [if_pos c3] at H
    have c3b0 : ((l0.length : Int) == (l1.length : Int)) = true := beq_iff_eq.mpr c3
    have c3b1 : ((l0.length : Int) != (l1.length : Int)) = false := bne_eq_false_iff_eq.mpr c3
    have c3b2 : (l0.length == l1.length) = true := by first | simpa using c3 | (simp at c3 ⊢; omega)
    clear c3
    have H' := Aside0.mk H
    clear H
    go_enter Try.func50, Try.ntmps50
    go_wp2
    repeat (go_quiet (fail); try go_wp2)
    go_loopg [13] k (fun kq v13 w' => ∃ (x13_1 : Int), v13 = .int .i64 x13_1 ∧ Aside0 (api_Alarm_50.l0 kq l0 l1 (l0.length : Int) x13_1 = some r) ∧ Aside0 (kq ≤ k) ∧ Drawn0 w w')
    case atStart => exact ⟨(0), (by first | rfl | (simp; done) | (simp [*]; done)), H', ⟨Nat.le_refl _⟩, by repeat (first | exact Drawn0.refl _ | apply Drawn0.step)⟩
    case round =>
      clear H'
      try clear c1
      try clear p2
      try clear c3
      try clear c3b0
      try clear c3b1
      try clear c3b2
      obtain ⟨x13_1, rfl, HA, HK1, ⟨m1, rfl⟩⟩ := hrel
      cases gk with
      | zero => exact absurd HA.out (by simp [api_Alarm_50.l0])
      | succ k1 =>
        have H := HA.out
        clear HA
        simp only [api_Alarm_50.l0] at H
        by_cases c4 : x13_1 < (l0.length : Int)
        · rw [if_pos c4] at H
          have c4b0 : decide (x13_1 < (l0.length : Int)) = true := decide_eq_true c4
          clear c4
          by_cases c5 : 0 ≤ x13_1
          · rw [if_pos c5] at H
            have c5b0 : decide (0 ≤ x13_1) = true := decide_eq_true c5
            clear c5
            by_cases c6 : x13_1 < (l0.length : Int)
            · rw [if_pos c6] at H
              have c6b0 : decide (x13_1 < (l0.length : Int)) = true := decide_eq_true c6
              clear c6
              by_cases c7 : x13_1 < (l1.length : Int)
              · rw [if_pos c7] at H
                have c7b0 : decide (x13_1 < (l1.length : Int)) = true := decide_eq_true c7
                clear c7
                by_cases c8 : (!(((rd_T85 l0 x13_1).f0) == ((rd_T85 l1 x13_1).f0)) || (!(((rd_T85 l0 x13_1).f1) == ((rd_T85 l1 x13_1).f1)))) = true
                · rw [if_pos c8] at H
                  have c8b0 : (!(((rd_T85 l0 x13_1).f0) == ((rd_T85 l1 x13_1).f0)) || (!(((rd_T85 l0 x13_1).f1) == ((rd_T85 l1 x13_1).f1)))) = true := c8
                  clear c8
                  obtain rfl := Option.some.inj H
                  have p603 : 0 ≤ (x13_1 : Int) := of_decide_eq_true (by first | (with_reducible assumption) | assumption)
                  have q603 : x13_1 < (l0.length : Int) := of_decide_eq_true (by first | (with_reducible assumption) | assumption)
                  obtain ⟨ad603, e603, hx603_0, hx603_1⟩ := at_T85 HR0.out x13_1 p603 q603
                  cases e603
                  replace p603 := eq_true p603
                  replace q603 := eq_true q603
                  have p604 : 0 ≤ (x13_1 : Int) := of_decide_eq_true (by first | (with_reducible assumption) | assumption)
                  have q604 : x13_1 < (l1.length : Int) := of_decide_eq_true (by first | (with_reducible assumption) | assumption)
                  obtain ⟨ad604, e604, hx604_0, hx604_1⟩ := at_T85 HR1.out x13_1 p604 q604
                  cases e604
                  replace p604 := eq_true p604
                  replace q604 := eq_true q604
                  go_wp2
                  repeat (go_quiet (fail); try go_wp2)
                  go_ret
                  exact ⟨by first | rfl | (simp; done) | (simp [*]; done), by repeat (first | exact Drawn0.refl _ | apply Drawn0.step)⟩
                · rw [if_neg c8] at H
                  have c8b0 : (!(((rd_T85 l0 x13_1).f0) == ((rd_T85 l1 x13_1).f0)) || (!(((rd_T85 l0 x13_1).f1) == ((rd_T85 l1 x13_1).f1)))) = false := by simpa using c8
                  clear c8
                  have H' := Aside0.mk H
                  clear H
                  have p603 : 0 ≤ (x13_1 : Int) := of_decide_eq_true (by first | (with_reducible assumption) | assumption)
                  have q603 : x13_1 < (l0.length : Int) := of_decide_eq_true (by first | (with_reducible assumption) | assumption)
                  obtain ⟨ad603, e603, hx603_0, hx603_1⟩ := at_T85 HR0.out x13_1 p603 q603
                  cases e603
                  replace p603 := eq_true p603
                  replace q603 := eq_true q603
                  have p604 : 0 ≤ (x13_1 : Int) := of_decide_eq_true (by first | (with_reducible assumption) | assumption)
                  have q604 : x13_1 < (l1.length : Int) := of_decide_eq_true (by first | (with_reducible assumption) | assumption)
                  obtain ⟨ad604, e604, hx604_0, hx604_1⟩ := at_T85 HR1.out x13_1 p604 q604
                  cases e604
                  replace p604 := eq_true p604
                  replace q604 := eq_true q604
                  go_wp2
                  repeat (go_quiet (fail); try go_wp2)
                  go_roundg k1
                  case measure => have := HK1.out; omega
                  case rel => exact ⟨(wrap64 (x13_1 + 1)), (by first | rfl | (simp; done) | (simp [*]; done)), H', ⟨by have := HK1.out; omega⟩, by repeat (first | exact Drawn0.refl _ | apply Drawn0.step)⟩
              · rw [if_neg c7] at H
                exact absurd H (by simp)
            · rw [if_neg c6] at H
              exact absurd H (by simp)
          · rw [if_neg c5] at H
            exact absurd H (by simp)
        · rw [if_neg c4] at H
          have c4b0 : decide (x13_1 < (l0.length : Int)) = false := decide_eq_false c4
          clear c4
          obtain rfl := Option.some.inj H
          go_wp2
          repeat (go_quiet (fail); try go_wp2)
          go_ret
          exact ⟨by first | rfl | (simp; done) | (simp [*]; done), by repeat (first | exact Drawn0.refl _ | apply Drawn0.step)⟩
  · rw [if_neg c3] at H
    have c3b0 : ((l0.length : Int) == (l1.length : Int)) = false := beq_eq_false_iff_ne.mpr c3
    have c3b1 : ((l0.length : Int) != (l1.length : Int)) = true := bne_iff_ne.mpr c3
    have c3b2 : (l0.length == l1.length) = false := by first | simpa using c3 | (simp at c3 ⊢; omega)
    obtain rfl := Option.some.inj H
    go_enter Try.func50, Try.ntmps50
    go_wp2
    repeat (go_quiet (fail); try go_wp2)
    go_ret
    exact ⟨by first | rfl | (simp; done) | (simp [*]; done), by repeat (first | exact Drawn0.refl _ | apply Drawn0.step)⟩

/-! ### session_Same: function 23 -/
set_option maxHeartbeats 8000000 in
set_option maxRecDepth 100000 in
theorem session_Same.calls (k : Nat) (a0_0 : Int) (A0_1 : Option Addr) (c0_1 : Nat) (l0_1 : List (S42)) (A0_2 : Option Addr) (c0_2 : Nat) (l0_2 : List (S85)) (a0_3 : Int) (a0_4 : Int) (a1_0 : Int) (A1_1 : Option Addr) (c1_1 : Nat) (l1_1 : List (S42)) (A1_2 : Option Addr) (c1_2 : Nat) (l1_2 : List (S85)) (a1_3 : Int) (a1_4 : Int) (r : Bool) (w : World) (hr0_1 : Kd.C k42 w A0_1 l0_1.length l0_1) (hc0_1 : l0_1.length ≤ c0_1) (hr0_2 : Kd.C k85 w A0_2 l0_2.length l0_2) (hc0_2 : l0_2.length ≤ c0_2) (hr1_1 : Kd.C k42 w A1_1 l1_1.length l1_1) (hc1_1 : l1_1.length ≤ c1_1) (hr1_2 : Kd.C k85 w A1_2 l1_2.length l1_2) (hc1_2 : l1_2.length ≤ c1_2) (h : session_Same.f k a0_0 l0_1 l0_2 a0_3 a0_4 a1_0 l1_1 l1_2 a1_3 a1_4 = some r) :
    Calls Try.prog 23 #[.agg #[.int .i64 a0_0, .slice A0_1 l0_1.length c0_1, .slice A0_2 l0_2.length c0_2, .int .i64 a0_3, .int .u64 a0_4], .agg #[.int .i64 a1_0, .slice A1_1 l1_1.length c1_1, .slice A1_2 l1_2.length c1_2, .int .i64 a1_3, .int .u64 a1_4]] w fun e w' => e = .returned (.bool r) ∧ Below w.heap.size w w' := by
  have hu26 := Try.underlying26
  have HR0_1 := Aside0.mk hr0_1
  have HC0_1 := Aside0.mk hc0_1
  clear hr0_1 hc0_1
  have HR0_2 := Aside0.mk hr0_2
  have HC0_2 := Aside0.mk hc0_2
  clear hr0_2 hc0_2
  have HR1_1 := Aside0.mk hr1_1
  have HC1_1 := Aside0.mk hc1_1
  clear hr1_1 hc1_1
  have HR1_2 := Aside0.mk hr1_2
  have HC1_2 := Aside0.mk hc1_2
  clear hr1_2 hc1_2
  have HB := Aside0.mk (Below.refl w.heap.size w)
  have H : (if a0_0 = a1_0 then ((api_Session_49.f k l0_1 l1_1).bind fun t607 => (if t607 = true then ((api_Alarm_50.f k l0_2 l1_2).bind fun t608 => (if t608 = true then (if a0_3 = a1_3 then (some (a0_4 == a1_4)) else (some false)) else (some false))) else (some false))) else (some false)) = some r := h
  clear h
  by_cases c3 : a0_0 = a1_0
  · rw [if_pos c3] at H
    have c3b0 : (a0_0 == a1_0) = true := beq_iff_eq.mpr c3
    have c3b1 : (a0_0 != a1_0) = false := bne_eq_false_iff_eq.mpr c3
    clear c3
    replace H := Option.bind_eq_some_iff.mp H
    obtain ⟨t607, A40, H⟩ := H
    replace H : (if t607 = true then ((api_Alarm_50.f k l0_2 l1_2).bind fun t608 => (if t608 = true then (if a0_3 = a1_3 then (some (a0_4 == a1_4)) else (some false)) else (some false))) else (some false)) = some r := H
    have A4 := Aside0.mk A40
    clear A40
    by_cases c5 : t607 = true
    · subst c5
      have H1 : ((api_Alarm_50.f k l0_2 l1_2).bind fun t608 => (if t608 = true then (if a0_3 = a1_3 then (some (a0_4 == a1_4)) else (some false)) else (some false))) = some r := by rw [if_pos rfl] at H; exact H
      clear H
      have H := H1
      clear H1
      replace H := Option.bind_eq_some_iff.mp H
      obtain ⟨t608, A60, H⟩ := H
      replace H : (if t608 = true then (if a0_3 = a1_3 then (some (a0_4 == a1_4)) else (some false)) else (some false)) = some r := H
      have A6 := Aside0.mk A60
      clear A60
      by_cases c7 : t608 = true
      · subst c7
        have H1 : (if a0_3 = a1_3 then (some (a0_4 == a1_4)) else (some false)) = some r := by rw [if_pos rfl] at H; exact H
        clear H
        have H := H1
        clear H1
        by_cases c8 : a0_3 = a1_3
        · rw [if_pos c8] at H
          have c8b0 : (a0_3 == a1_3) = true := beq_iff_eq.mpr c8
          have c8b1 : (a0_3 != a1_3) = false := bne_eq_false_iff_eq.mpr c8
          clear c8
          obtain rfl := Option.some.inj H
          go_enter Try.func23, Try.ntmps23
          go_wp2_with (first | ((with_reducible refine gate_dst (N := 2) rfl ?_); refine box_event ?hg (N := 2) ?hd (cs := #[.int .i64 a0_0, .slice A0_1 l0_1.length c0_1, .slice A0_2 l0_2.length c0_2, .int .i64 a0_3, .int .u64 a0_4]) (t := 26) ?hr ?_; (case hd => rfl); (case hg => rfl); (case hr => first | (go_simp; done) | (go_simp; rfl)); intro gb605 hg w9 hbox hb; have n0_ := Aside0.mk (below_step (by repeat (first | (with_reducible first | exact HB.out | apply below_alloc | apply pw_below_drewN | apply below_drew1) | exact HB.out)) hb); have n1_ := Aside0.mk (hbox); have n2_ := Aside0.mk ((by rw [hg]; exact (below_size (by repeat (first | (with_reducible first | exact HB.out | apply below_alloc | apply pw_below_drewN | apply below_drew1) | exact HB.out))) : w.heap.size ≤ gb605)); have n3_ := Aside0.mk ((by rw [hg]; exact (below_size (by repeat (first | (with_reducible first | exact HB.out | apply below_alloc | apply pw_below_drewN | apply below_drew1) | exact HB.out))) : w.heap.size ≤ gb605)); clear HB; have HB := n0_; have BK605 := n1_; have GW605 := n2_; have GE605 := n3_; clear n0_ n1_ n2_ n3_; clear hb hbox hg) | ((with_reducible refine gate_dst (N := 3) rfl ?_); refine box_event ?hg (N := 3) ?hd (cs := #[.int .i64 a1_0, .slice A1_1 l1_1.length c1_1, .slice A1_2 l1_2.length c1_2, .int .i64 a1_3, .int .u64 a1_4]) (t := 26) ?hr ?_; (case hd => rfl); (case hg => rfl); (case hr => first | (go_simp; done) | (go_simp; rfl)); intro gb606 hg w10 hbox hb; have n0_ := Aside0.mk (blk_below (g := gb605) (o := .cells #[.int .i64 a0_0, .slice A0_1 l0_1.length c0_1, .slice A0_2 l0_2.length c0_2, .int .i64 a0_3, .int .u64 a0_4] 26 (0, 0)) (by (with_reducible repeat (first | refine blk_drewN ?_ _ | refine blk_drew ?_ | refine blk_alloc ?_ _)); exact BK605.out) hb); have n1_ := Aside0.mk (below_step (by repeat (first | (with_reducible first | exact HB.out | apply below_alloc | apply pw_below_drewN | apply below_drew1 | refine below_set ?_ GE605.out) | exact HB.out)) hb); have n2_ := Aside0.mk (hbox); have n3_ := Aside0.mk ((by rw [hg]; exact (below_size (by repeat (first | (with_reducible first | exact HB.out | apply below_alloc | apply pw_below_drewN | apply below_drew1 | refine below_set ?_ GE605.out) | exact HB.out))) : w.heap.size ≤ gb606)); have n4_ := Aside0.mk ((by rw [hg]; exact (below_size (by repeat (first | (with_reducible first | exact HB.out | apply below_alloc | apply pw_below_drewN | apply below_drew1 | refine below_set ?_ GE605.out) | exact HB.out))) : w.heap.size ≤ gb606)); have n5_ := Aside0.mk ((by rw [hg]; exact Nat.ne_of_lt (blk_lt (g := gb605) (o := .cells #[.int .i64 a0_0, .slice A0_1 l0_1.length c0_1, .slice A0_2 l0_2.length c0_2, .int .i64 a0_3, .int .u64 a0_4] 26 (0, 0)) (by (with_reducible repeat (first | refine blk_drewN ?_ _ | refine blk_drew ?_ | refine blk_alloc ?_ _)); exact BK605.out)) : gb605 ≠ gb606)); have n6_ := Aside0.mk ((by rw [hg]; exact Nat.ne_of_gt (blk_lt (g := gb605) (o := .cells #[.int .i64 a0_0, .slice A0_1 l0_1.length c0_1, .slice A0_2 l0_2.length c0_2, .int .i64 a0_3, .int .u64 a0_4] 26 (0, 0)) (by (with_reducible repeat (first | refine blk_drewN ?_ _ | refine blk_drew ?_ | refine blk_alloc ?_ _)); exact BK605.out)) : gb606 ≠ gb605)); clear BK605; clear HB; have BK605 := n0_; have HB := n1_; have BK606 := n2_; have GW606 := n3_; have GE606 := n4_; have NB605_606 := n5_; have NB606_605 := n6_; clear n0_ n1_ n2_ n3_ n4_ n5_ n6_; clear hb hbox hg; have hnb11 := NB605_606.out; have hnc11 := NB606_605.out; have hcz12_0 : w10.cell? ⟨gb605, 0, none⟩ = some (.int .i64 a0_0) := (blk_cell BK605.out 0).trans rfl; have hcz12_1 : w10.cell? ⟨gb605, 1, none⟩ = some (.slice A0_1 l0_1.length c0_1) := (blk_cell BK605.out 1).trans rfl; have hcz12_2 : w10.cell? ⟨gb605, 2, none⟩ = some (.slice A0_2 l0_2.length c0_2) := (blk_cell BK605.out 2).trans rfl; have hcz12_3 : w10.cell? ⟨gb605, 3, none⟩ = some (.int .i64 a0_3) := (blk_cell BK605.out 3).trans rfl; have hcz12_4 : w10.cell? ⟨gb605, 4, none⟩ = some (.int .u64 a0_4) := (blk_cell BK605.out 4).trans rfl; have hfz12_0 := blk_frozen BK605.out 0; have hfz12_1 := blk_frozen BK605.out 1; have hfz12_2 := blk_frozen BK605.out 2; have hfz12_3 := blk_frozen BK605.out 3; have hfz12_4 := blk_frozen BK605.out 4; have hcz13_0 : w10.cell? ⟨gb606, 0, none⟩ = some (.int .i64 a1_0) := (blk_cell BK606.out 0).trans rfl; have hcz13_1 : w10.cell? ⟨gb606, 1, none⟩ = some (.slice A1_1 l1_1.length c1_1) := (blk_cell BK606.out 1).trans rfl; have hcz13_2 : w10.cell? ⟨gb606, 2, none⟩ = some (.slice A1_2 l1_2.length c1_2) := (blk_cell BK606.out 2).trans rfl; have hcz13_3 : w10.cell? ⟨gb606, 3, none⟩ = some (.int .i64 a1_3) := (blk_cell BK606.out 3).trans rfl; have hcz13_4 : w10.cell? ⟨gb606, 4, none⟩ = some (.int .u64 a1_4) := (blk_cell BK606.out 4).trans rfl; have hfz13_0 := blk_frozen BK606.out 0; have hfz13_1 := blk_frozen BK606.out 1; have hfz13_2 := blk_frozen BK606.out 2; have hfz13_3 := blk_frozen BK606.out 3; have hfz13_4 := blk_frozen BK606.out 4) | (go_at_call 49; (with_reducible refine (api_Session_49.calls k _ _ l0_1 _ _ l1_1 true _ ?side1 ?side2 ?side3 ?side4 A4.out).mono ?_); (case side1 => repeat (first | exact (Kd.C_below HR0_1.out HB.out) | (with_reducible refine Kd.C_alloc ?_ _) | (with_reducible refine Kd.C_drewN ?_ _) | (with_reducible refine Kd.C_drew ?_))); (case side2 => exact HC0_1.out); (case side3 => repeat (first | exact (Kd.C_below HR1_1.out HB.out) | (with_reducible refine Kd.C_alloc ?_ _) | (with_reducible refine Kd.C_drewN ?_ _) | (with_reducible refine Kd.C_drew ?_))); (case side4 => exact HC1_1.out); rintro e w' ⟨rfl, ⟨nd, rfl⟩⟩) | (go_at_call 50; (with_reducible refine (api_Alarm_50.calls k _ _ l0_2 _ _ l1_2 true _ ?side1 ?side2 ?side3 ?side4 A6.out).mono ?_); (case side1 => repeat (first | exact (Kd.C_below HR0_2.out (by repeat (first | (with_reducible first | exact HB.out | apply below_alloc | apply pw_below_drewN | apply below_drew1 | refine below_set ?_ GE605.out | refine below_set ?_ GE606.out) | exact HB.out))) | (with_reducible refine Kd.C_alloc ?_ _) | (with_reducible refine Kd.C_drewN ?_ _) | (with_reducible refine Kd.C_drew ?_))); (case side2 => exact HC0_2.out); (case side3 => repeat (first | exact (Kd.C_below HR1_2.out (by repeat (first | (with_reducible first | exact HB.out | apply below_alloc | apply pw_below_drewN | apply below_drew1 | refine below_set ?_ GE605.out | refine below_set ?_ GE606.out) | exact HB.out))) | (with_reducible refine Kd.C_alloc ?_ _) | (with_reducible refine Kd.C_drewN ?_ _) | (with_reducible refine Kd.C_drew ?_))); (case side4 => exact HC1_2.out); rintro e w' ⟨rfl, ⟨nd, rfl⟩⟩))
          go_ret
          exact ⟨by first | rfl | (simp [errW_none, errW_some] <;> rfl) | (simp [*, errW_none, errW_some] <;> rfl), by repeat (first | (with_reducible first | exact HB.out | apply below_alloc | apply pw_below_drewN | apply below_drew1 | refine below_set ?_ GE605.out | refine below_set ?_ GE606.out) | exact HB.out)⟩
        · rw [if_neg c8] at H
          have c8b0 : (a0_3 == a1_3) = false := beq_eq_false_iff_ne.mpr c8
          have c8b1 : (a0_3 != a1_3) = true := bne_iff_ne.mpr c8
          obtain rfl := Option.some.inj H
          go_enter Try.func23, Try.ntmps23
          go_wp2_with (first | ((with_reducible refine gate_dst (N := 2) rfl ?_); refine box_event ?hg (N := 2) ?hd (cs := #[.int .i64 a0_0, .slice A0_1 l0_1.length c0_1, .slice A0_2 l0_2.length c0_2, .int .i64 a0_3, .int .u64 a0_4]) (t := 26) ?hr ?_; (case hd => rfl); (case hg => rfl); (case hr => first | (go_simp; done) | (go_simp; rfl)); intro gb605 hg w14 hbox hb; have n0_ := Aside0.mk (below_step (by repeat (first | (with_reducible first | exact HB.out | apply below_alloc | apply pw_below_drewN | apply below_drew1) | exact HB.out)) hb); have n1_ := Aside0.mk (hbox); have n2_ := Aside0.mk ((by rw [hg]; exact (below_size (by repeat (first | (with_reducible first | exact HB.out | apply below_alloc | apply pw_below_drewN | apply below_drew1) | exact HB.out))) : w.heap.size ≤ gb605)); have n3_ := Aside0.mk ((by rw [hg]; exact (below_size (by repeat (first | (with_reducible first | exact HB.out | apply below_alloc | apply pw_below_drewN | apply below_drew1) | exact HB.out))) : w.heap.size ≤ gb605)); clear HB; have HB := n0_; have BK605 := n1_; have GW605 := n2_; have GE605 := n3_; clear n0_ n1_ n2_ n3_; clear hb hbox hg) | ((with_reducible refine gate_dst (N := 3) rfl ?_); refine box_event ?hg (N := 3) ?hd (cs := #[.int .i64 a1_0, .slice A1_1 l1_1.length c1_1, .slice A1_2 l1_2.length c1_2, .int .i64 a1_3, .int .u64 a1_4]) (t := 26) ?hr ?_; (case hd => rfl); (case hg => rfl); (case hr => first | (go_simp; done) | (go_simp; rfl)); intro gb606 hg w15 hbox hb; have n0_ := Aside0.mk (blk_below (g := gb605) (o := .cells #[.int .i64 a0_0, .slice A0_1 l0_1.length c0_1, .slice A0_2 l0_2.length c0_2, .int .i64 a0_3, .int .u64 a0_4] 26 (0, 0)) (by (with_reducible repeat (first | refine blk_drewN ?_ _ | refine blk_drew ?_ | refine blk_alloc ?_ _)); exact BK605.out) hb); have n1_ := Aside0.mk (below_step (by repeat (first | (with_reducible first | exact HB.out | apply below_alloc | apply pw_below_drewN | apply below_drew1 | refine below_set ?_ GE605.out) | exact HB.out)) hb); have n2_ := Aside0.mk (hbox); have n3_ := Aside0.mk ((by rw [hg]; exact (below_size (by repeat (first | (with_reducible first | exact HB.out | apply below_alloc | apply pw_below_drewN | apply below_drew1 | refine below_set ?_ GE605.out) | exact HB.out))) : w.heap.size ≤ gb606)); have n4_ := Aside0.mk ((by rw [hg]; exact (below_size (by repeat (first | (with_reducible first | exact HB.out | apply below_alloc | apply pw_below_drewN | apply below_drew1 | refine below_set ?_ GE605.out) | exact HB.out))) : w.heap.size ≤ gb606)); have n5_ := Aside0.mk ((by rw [hg]; exact Nat.ne_of_lt (blk_lt (g := gb605) (o := .cells #[.int .i64 a0_0, .slice A0_1 l0_1.length c0_1, .slice A0_2 l0_2.length c0_2, .int .i64 a0_3, .int .u64 a0_4] 26 (0, 0)) (by (with_reducible repeat (first | refine blk_drewN ?_ _ | refine blk_drew ?_ | refine blk_alloc ?_ _)); exact BK605.out)) : gb605 ≠ gb606)); have n6_ := Aside0.mk ((by rw [hg]; exact Nat.ne_of_gt (blk_lt (g := gb605) (o := .cells #[.int .i64 a0_0, .slice A0_1 l0_1.length c0_1, .slice A0_2 l0_2.length c0_2, .int .i64 a0_3, .int .u64 a0_4] 26 (0, 0)) (by (with_reducible repeat (first | refine blk_drewN ?_ _ | refine blk_drew ?_ | refine blk_alloc ?_ _)); exact BK605.out)) : gb606 ≠ gb605)); clear BK605; clear HB; have BK605 := n0_; have HB := n1_; have BK606 := n2_; have GW606 := n3_; have GE606 := n4_; have NB605_606 := n5_; have NB606_605 := n6_; clear n0_ n1_ n2_ n3_ n4_ n5_ n6_; clear hb hbox hg; have hnb16 := NB605_606.out; have hnc16 := NB606_605.out; have hcz17_0 : w15.cell? ⟨gb605, 0, none⟩ = some (.int .i64 a0_0) := (blk_cell BK605.out 0).trans rfl; have hcz17_1 : w15.cell? ⟨gb605, 1, none⟩ = some (.slice A0_1 l0_1.length c0_1) := (blk_cell BK605.out 1).trans rfl; have hcz17_2 : w15.cell? ⟨gb605, 2, none⟩ = some (.slice A0_2 l0_2.length c0_2) := (blk_cell BK605.out 2).trans rfl; have hcz17_3 : w15.cell? ⟨gb605, 3, none⟩ = some (.int .i64 a0_3) := (blk_cell BK605.out 3).trans rfl; have hcz17_4 : w15.cell? ⟨gb605, 4, none⟩ = some (.int .u64 a0_4) := (blk_cell BK605.out 4).trans rfl; have hfz17_0 := blk_frozen BK605.out 0; have hfz17_1 := blk_frozen BK605.out 1; have hfz17_2 := blk_frozen BK605.out 2; have hfz17_3 := blk_frozen BK605.out 3; have hfz17_4 := blk_frozen BK605.out 4; have hcz18_0 : w15.cell? ⟨gb606, 0, none⟩ = some (.int .i64 a1_0) := (blk_cell BK606.out 0).trans rfl; have hcz18_1 : w15.cell? ⟨gb606, 1, none⟩ = some (.slice A1_1 l1_1.length c1_1) := (blk_cell BK606.out 1).trans rfl; have hcz18_2 : w15.cell? ⟨gb606, 2, none⟩ = some (.slice A1_2 l1_2.length c1_2) := (blk_cell BK606.out 2).trans rfl; have hcz18_3 : w15.cell? ⟨gb606, 3, none⟩ = some (.int .i64 a1_3) := (blk_cell BK606.out 3).trans rfl; have hcz18_4 : w15.cell? ⟨gb606, 4, none⟩ = some (.int .u64 a1_4) := (blk_cell BK606.out 4).trans rfl; have hfz18_0 := blk_frozen BK606.out 0; have hfz18_1 := blk_frozen BK606.out 1; have hfz18_2 := blk_frozen BK606.out 2; have hfz18_3 := blk_frozen BK606.out 3; have hfz18_4 := blk_frozen BK606.out 4) | (go_at_call 49; (with_reducible refine (api_Session_49.calls k _ _ l0_1 _ _ l1_1 true _ ?side1 ?side2 ?side3 ?side4 A4.out).mono ?_); (case side1 => repeat (first | exact (Kd.C_below HR0_1.out HB.out) | (with_reducible refine Kd.C_alloc ?_ _) | (with_reducible refine Kd.C_drewN ?_ _) | (with_reducible refine Kd.C_drew ?_))); (case side2 => exact HC0_1.out); (case side3 => repeat (first | exact (Kd.C_below HR1_1.out HB.out) | (with_reducible refine Kd.C_alloc ?_ _) | (with_reducible refine Kd.C_drewN ?_ _) | (with_reducible refine Kd.C_drew ?_))); (case side4 => exact HC1_1.out); rintro e w' ⟨rfl, ⟨nd, rfl⟩⟩) | (go_at_call 50; (with_reducible refine (api_Alarm_50.calls k _ _ l0_2 _ _ l1_2 true _ ?side1 ?side2 ?side3 ?side4 A6.out).mono ?_); (case side1 => repeat (first | exact (Kd.C_below HR0_2.out (by repeat (first | (with_reducible first | exact HB.out | apply below_alloc | apply pw_below_drewN | apply below_drew1 | refine below_set ?_ GE605.out | refine below_set ?_ GE606.out) | exact HB.out))) | (with_reducible refine Kd.C_alloc ?_ _) | (with_reducible refine Kd.C_drewN ?_ _) | (with_reducible refine Kd.C_drew ?_))); (case side2 => exact HC0_2.out); (case side3 => repeat (first | exact (Kd.C_below HR1_2.out (by repeat (first | (with_reducible first | exact HB.out | apply below_alloc | apply pw_below_drewN | apply below_drew1 | refine below_set ?_ GE605.out | refine below_set ?_ GE606.out) | exact HB.out))) | (with_reducible refine Kd.C_alloc ?_ _) | (with_reducible refine Kd.C_drewN ?_ _) | (with_reducible refine Kd.C_drew ?_))); (case side4 => exact HC1_2.out); rintro e w' ⟨rfl, ⟨nd, rfl⟩⟩))
          go_ret
          exact ⟨by first | rfl | (simp [errW_none, errW_some] <;> rfl) | (simp [*, errW_none, errW_some] <;> rfl), by repeat (first | (with_reducible first | exact HB.out | apply below_alloc | apply pw_below_drewN | apply below_drew1 | refine below_set ?_ GE605.out | refine below_set ?_ GE606.out) | exact HB.out)⟩
      · replace c7 := Bool.eq_false_iff.mpr c7
        subst c7
        have H1 : (some false) = some r := by rw [if_neg (show ¬ (false = true) by decide)] at H; exact H
        clear H
        have H := H1
        clear H1
        obtain rfl := Option.some.inj H
        go_enter Try.func23, Try.ntmps23
        go_wp2_with (first | ((with_reducible refine gate_dst (N := 2) rfl ?_); refine box_event ?hg (N := 2) ?hd (cs := #[.int .i64 a0_0, .slice A0_1 l0_1.length c0_1, .slice A0_2 l0_2.length c0_2, .int .i64 a0_3, .int .u64 a0_4]) (t := 26) ?hr ?_; (case hd => rfl); (case hg => rfl); (case hr => first | (go_simp; done) | (go_simp; rfl)); intro gb605 hg w19 hbox hb; have n0_ := Aside0.mk (below_step (by repeat (first | (with_reducible first | exact HB.out | apply below_alloc | apply pw_below_drewN | apply below_drew1) | exact HB.out)) hb); have n1_ := Aside0.mk (hbox); have n2_ := Aside0.mk ((by rw [hg]; exact (below_size (by repeat (first | (with_reducible first | exact HB.out | apply below_alloc | apply pw_below_drewN | apply below_drew1) | exact HB.out))) : w.heap.size ≤ gb605)); have n3_ := Aside0.mk ((by rw [hg]; exact (below_size (by repeat (first | (with_reducible first | exact HB.out | apply below_alloc | apply pw_below_drewN | apply below_drew1) | exact HB.out))) : w.heap.size ≤ gb605)); clear HB; have HB := n0_; have BK605 := n1_; have GW605 := n2_; have GE605 := n3_; clear n0_ n1_ n2_ n3_; clear hb hbox hg) | ((with_reducible refine gate_dst (N := 3) rfl ?_); refine box_event ?hg (N := 3) ?hd (cs := #[.int .i64 a1_0, .slice A1_1 l1_1.length c1_1, .slice A1_2 l1_2.length c1_2, .int .i64 a1_3, .int .u64 a1_4]) (t := 26) ?hr ?_; (case hd => rfl); (case hg => rfl); (case hr => first | (go_simp; done) | (go_simp; rfl)); intro gb606 hg w20 hbox hb; have n0_ := Aside0.mk (blk_below (g := gb605) (o := .cells #[.int .i64 a0_0, .slice A0_1 l0_1.length c0_1, .slice A0_2 l0_2.length c0_2, .int .i64 a0_3, .int .u64 a0_4] 26 (0, 0)) (by (with_reducible repeat (first | refine blk_drewN ?_ _ | refine blk_drew ?_ | refine blk_alloc ?_ _)); exact BK605.out) hb); have n1_ := Aside0.mk (below_step (by repeat (first | (with_reducible first | exact HB.out | apply below_alloc | apply pw_below_drewN | apply below_drew1 | refine below_set ?_ GE605.out) | exact HB.out)) hb); have n2_ := Aside0.mk (hbox); have n3_ := Aside0.mk ((by rw [hg]; exact (below_size (by repeat (first | (with_reducible first | exact HB.out | apply below_alloc | apply pw_below_drewN | apply below_drew1 | refine below_set ?_ GE605.out) | exact HB.out))) : w.heap.size ≤ gb606)); have n4_ := Aside0.mk ((by rw [hg]; exact (below_size (by repeat (first | (with_reducible first | exact HB.out | apply below_alloc | apply pw_below_drewN | apply below_drew1 | refine below_set ?_ GE605.out) | exact HB.out))) : w.heap.size ≤ gb606)); have n5_ := Aside0.mk ((by rw [hg]; exact Nat.ne_of_lt (blk_lt (g := gb605) (o := .cells #[.int .i64 a0_0, .slice A0_1 l0_1.length c0_1, .slice A0_2 l0_2.length c0_2, .int .i64 a0_3, .int .u64 a0_4] 26 (0, 0)) (by (with_reducible repeat (first | refine blk_drewN ?_ _ | refine blk_drew ?_ | refine blk_alloc ?_ _)); exact BK605.out)) : gb605 ≠ gb606)); have n6_ := Aside0.mk ((by rw [hg]; exact Nat.ne_of_gt (blk_lt (g := gb605) (o := .cells #[.int .i64 a0_0, .slice A0_1 l0_1.length c0_1, .slice A0_2 l0_2.length c0_2, .int .i64 a0_3, .int .u64 a0_4] 26 (0, 0)) (by (with_reducible repeat (first | refine blk_drewN ?_ _ | refine blk_drew ?_ | refine blk_alloc ?_ _)); exact BK605.out)) : gb606 ≠ gb605)); clear BK605; clear HB; have BK605 := n0_; have HB := n1_; have BK606 := n2_; have GW606 := n3_; have GE606 := n4_; have NB605_606 := n5_; have NB606_605 := n6_; clear n0_ n1_ n2_ n3_ n4_ n5_ n6_; clear hb hbox hg; have hnb21 := NB605_606.out; have hnc21 := NB606_605.out; have hcz22_0 : w20.cell? ⟨gb605, 0, none⟩ = some (.int .i64 a0_0) := (blk_cell BK605.out 0).trans rfl; have hcz22_1 : w20.cell? ⟨gb605, 1, none⟩ = some (.slice A0_1 l0_1.length c0_1) := (blk_cell BK605.out 1).trans rfl; have hcz22_2 : w20.cell? ⟨gb605, 2, none⟩ = some (.slice A0_2 l0_2.length c0_2) := (blk_cell BK605.out 2).trans rfl; have hcz22_3 : w20.cell? ⟨gb605, 3, none⟩ = some (.int .i64 a0_3) := (blk_cell BK605.out 3).trans rfl; have hcz22_4 : w20.cell? ⟨gb605, 4, none⟩ = some (.int .u64 a0_4) := (blk_cell BK605.out 4).trans rfl; have hfz22_0 := blk_frozen BK605.out 0; have hfz22_1 := blk_frozen BK605.out 1; have hfz22_2 := blk_frozen BK605.out 2; have hfz22_3 := blk_frozen BK605.out 3; have hfz22_4 := blk_frozen BK605.out 4; have hcz23_0 : w20.cell? ⟨gb606, 0, none⟩ = some (.int .i64 a1_0) := (blk_cell BK606.out 0).trans rfl; have hcz23_1 : w20.cell? ⟨gb606, 1, none⟩ = some (.slice A1_1 l1_1.length c1_1) := (blk_cell BK606.out 1).trans rfl; have hcz23_2 : w20.cell? ⟨gb606, 2, none⟩ = some (.slice A1_2 l1_2.length c1_2) := (blk_cell BK606.out 2).trans rfl; have hcz23_3 : w20.cell? ⟨gb606, 3, none⟩ = some (.int .i64 a1_3) := (blk_cell BK606.out 3).trans rfl; have hcz23_4 : w20.cell? ⟨gb606, 4, none⟩ = some (.int .u64 a1_4) := (blk_cell BK606.out 4).trans rfl; have hfz23_0 := blk_frozen BK606.out 0; have hfz23_1 := blk_frozen BK606.out 1; have hfz23_2 := blk_frozen BK606.out 2; have hfz23_3 := blk_frozen BK606.out 3; have hfz23_4 := blk_frozen BK606.out 4) | (go_at_call 49; (with_reducible refine (api_Session_49.calls k _ _ l0_1 _ _ l1_1 true _ ?side1 ?side2 ?side3 ?side4 A4.out).mono ?_); (case side1 => repeat (first | exact (Kd.C_below HR0_1.out HB.out) | (with_reducible refine Kd.C_alloc ?_ _) | (with_reducible refine Kd.C_drewN ?_ _) | (with_reducible refine Kd.C_drew ?_))); (case side2 => exact HC0_1.out); (case side3 => repeat (first | exact (Kd.C_below HR1_1.out HB.out) | (with_reducible refine Kd.C_alloc ?_ _) | (with_reducible refine Kd.C_drewN ?_ _) | (with_reducible refine Kd.C_drew ?_))); (case side4 => exact HC1_1.out); rintro e w' ⟨rfl, ⟨nd, rfl⟩⟩) | (go_at_call 50; (with_reducible refine (api_Alarm_50.calls k _ _ l0_2 _ _ l1_2 false _ ?side1 ?side2 ?side3 ?side4 A6.out).mono ?_); (case side1 => repeat (first | exact (Kd.C_below HR0_2.out (by repeat (first | (with_reducible first | exact HB.out | apply below_alloc | apply pw_below_drewN | apply below_drew1 | refine below_set ?_ GE605.out | refine below_set ?_ GE606.out) | exact HB.out))) | (with_reducible refine Kd.C_alloc ?_ _) | (with_reducible refine Kd.C_drewN ?_ _) | (with_reducible refine Kd.C_drew ?_))); (case side2 => exact HC0_2.out); (case side3 => repeat (first | exact (Kd.C_below HR1_2.out (by repeat (first | (with_reducible first | exact HB.out | apply below_alloc | apply pw_below_drewN | apply below_drew1 | refine below_set ?_ GE605.out | refine below_set ?_ GE606.out) | exact HB.out))) | (with_reducible refine Kd.C_alloc ?_ _) | (with_reducible refine Kd.C_drewN ?_ _) | (with_reducible refine Kd.C_drew ?_))); (case side4 => exact HC1_2.out); rintro e w' ⟨rfl, ⟨nd, rfl⟩⟩))
        go_ret
        exact ⟨by first | rfl | (simp [errW_none, errW_some] <;> rfl) | (simp [*, errW_none, errW_some] <;> rfl), by repeat (first | (with_reducible first | exact HB.out | apply below_alloc | apply pw_below_drewN | apply below_drew1 | refine below_set ?_ GE605.out | refine below_set ?_ GE606.out) | exact HB.out)⟩
    · replace c5 := Bool.eq_false_iff.mpr c5
      subst c5
      have H1 : (some false) = some r := by rw [if_neg (show ¬ (false = true) by decide)] at H; exact H
      clear H
      have H := H1
      clear H1
      obtain rfl := Option.some.inj H
      go_enter Try.func23, Try.ntmps23
      go_wp2_with (first | ((with_reducible refine gate_dst (N := 2) rfl ?_); refine box_event ?hg (N := 2) ?hd (cs := #[.int .i64 a0_0, .slice A0_1 l0_1.length c0_1, .slice A0_2 l0_2.length c0_2, .int .i64 a0_3, .int .u64 a0_4]) (t := 26) ?hr ?_; (case hd => rfl); (case hg => rfl); (case hr => first | (go_simp; done) | (go_simp; rfl)); intro gb605 hg w24 hbox hb; have n0_ := Aside0.mk (below_step (by repeat (first | (with_reducible first | exact HB.out | apply below_alloc | apply pw_below_drewN | apply below_drew1) | exact HB.out)) hb); have n1_ := Aside0.mk (hbox); have n2_ := Aside0.mk ((by rw [hg]; exact (below_size (by repeat (first | (with_reducible first | exact HB.out | apply below_alloc | apply pw_below_drewN | apply below_drew1) | exact HB.out))) : w.heap.size ≤ gb605)); have n3_ := Aside0.mk ((by rw [hg]; exact (below_size (by repeat (first | (with_reducible first | exact HB.out | apply below_alloc | apply pw_below_drewN | apply below_drew1) | exact HB.out))) : w.heap.size ≤ gb605)); clear HB; have HB := n0_; have BK605 := n1_; have GW605 := n2_; have GE605 := n3_; clear n0_ n1_ n2_ n3_; clear hb hbox hg) | ((with_reducible refine gate_dst (N := 3) rfl ?_); refine box_event ?hg (N := 3) ?hd (cs := #[.int .i64 a1_0, .slice A1_1 l1_1.length c1_1, .slice A1_2 l1_2.length c1_2, .int .i64 a1_3, .int .u64 a1_4]) (t := 26) ?hr ?_; (case hd => rfl); (case hg => rfl); (case hr => first | (go_simp; done) | (go_simp; rfl)); intro gb606 hg w25 hbox hb; have n0_ := Aside0.mk (blk_below (g := gb605) (o := .cells #[.int .i64 a0_0, .slice A0_1 l0_1.length c0_1, .slice A0_2 l0_2.length c0_2, .int .i64 a0_3, .int .u64 a0_4] 26 (0, 0)) (by (with_reducible repeat (first | refine blk_drewN ?_ _ | refine blk_drew ?_ | refine blk_alloc ?_ _)); exact BK605.out) hb); have n1_ := Aside0.mk (below_step (by repeat (first | (with_reducible first | exact HB.out | apply below_alloc | apply pw_below_drewN | apply below_drew1 | refine below_set ?_ GE605.out) | exact HB.out)) hb); have n2_ := Aside0.mk (hbox); have n3_ := Aside0.mk ((by rw [hg]; exact (below_size (by repeat (first | (with_reducible first | exact HB.out | apply below_alloc | apply pw_below_drewN | apply below_drew1 | refine below_set ?_ GE605.out) | exact HB.out))) : w.heap.size ≤ gb606)); have n4_ := Aside0.mk ((by rw [hg]; exact (below_size (by repeat (first | (with_reducible first | exact HB.out | apply below_alloc | apply pw_below_drewN | apply below_drew1 | refine below_set ?_ GE605.out) | exact HB.out))) : w.heap.size ≤ gb606)); have n5_ := Aside0.mk ((by rw [hg]; exact Nat.ne_of_lt (blk_lt (g := gb605) (o := .cells #[.int .i64 a0_0, .slice A0_1 l0_1.length c0_1, .slice A0_2 l0_2.length c0_2, .int .i64 a0_3, .int .u64 a0_4] 26 (0, 0)) (by (with_reducible repeat (first | refine blk_drewN ?_ _ | refine blk_drew ?_ | refine blk_alloc ?_ _)); exact BK605.out)) : gb605 ≠ gb606)); have n6_ := Aside0.mk ((by rw [hg]; exact Nat.ne_of_gt (blk_lt (g := gb605) (o := .cells #[.int .i64 a0_0, .slice A0_1 l0_1.length c0_1, .slice A0_2 l0_2.length c0_2, .int .i64 a0_3, .int .u64 a0_4] 26 (0, 0)) (by (with_reducible repeat (first | refine blk_drewN ?_ _ | refine blk_drew ?_ | refine blk_alloc ?_ _)); exact BK605.out)) : gb606 ≠ gb605)); clear BK605; clear HB; have BK605 := n0_; have HB := n1_; have BK606 := n2_; have GW606 := n3_; have GE606 := n4_; have NB605_606 := n5_; have NB606_605 := n6_; clear n0_ n1_ n2_ n3_ n4_ n5_ n6_; clear hb hbox hg; have hnb26 := NB605_606.out; have hnc26 := NB606_605.out; have hcz27_0 : w25.cell? ⟨gb605, 0, none⟩ = some (.int .i64 a0_0) := (blk_cell BK605.out 0).trans rfl; have hcz27_1 : w25.cell? ⟨gb605, 1, none⟩ = some (.slice A0_1 l0_1.length c0_1) := (blk_cell BK605.out 1).trans rfl; have hcz27_2 : w25.cell? ⟨gb605, 2, none⟩ = some (.slice A0_2 l0_2.length c0_2) := (blk_cell BK605.out 2).trans rfl; have hcz27_3 : w25.cell? ⟨gb605, 3, none⟩ = some (.int .i64 a0_3) := (blk_cell BK605.out 3).trans rfl; have hcz27_4 : w25.cell? ⟨gb605, 4, none⟩ = some (.int .u64 a0_4) := (blk_cell BK605.out 4).trans rfl; have hfz27_0 := blk_frozen BK605.out 0; have hfz27_1 := blk_frozen BK605.out 1; have hfz27_2 := blk_frozen BK605.out 2; have hfz27_3 := blk_frozen BK605.out 3; have hfz27_4 := blk_frozen BK605.out 4; have hcz28_0 : w25.cell? ⟨gb606, 0, none⟩ = some (.int .i64 a1_0) := (blk_cell BK606.out 0).trans rfl; have hcz28_1 : w25.cell? ⟨gb606, 1, none⟩ = some (.slice A1_1 l1_1.length c1_1) := (blk_cell BK606.out 1).trans rfl; have hcz28_2 : w25.cell? ⟨gb606, 2, none⟩ = some (.slice A1_2 l1_2.length c1_2) := (blk_cell BK606.out 2).trans rfl; have hcz28_3 : w25.cell? ⟨gb606, 3, none⟩ = some (.int .i64 a1_3) := (blk_cell BK606.out 3).trans rfl; have hcz28_4 : w25.cell? ⟨gb606, 4, none⟩ = some (.int .u64 a1_4) := (blk_cell BK606.out 4).trans rfl; have hfz28_0 := blk_frozen BK606.out 0; have hfz28_1 := blk_frozen BK606.out 1; have hfz28_2 := blk_frozen BK606.out 2; have hfz28_3 := blk_frozen BK606.out 3; have hfz28_4 := blk_frozen BK606.out 4) | (go_at_call 49; (with_reducible refine (api_Session_49.calls k _ _ l0_1 _ _ l1_1 false _ ?side1 ?side2 ?side3 ?side4 A4.out).mono ?_); (case side1 => repeat (first | exact (Kd.C_below HR0_1.out HB.out) | (with_reducible refine Kd.C_alloc ?_ _) | (with_reducible refine Kd.C_drewN ?_ _) | (with_reducible refine Kd.C_drew ?_))); (case side2 => exact HC0_1.out); (case side3 => repeat (first | exact (Kd.C_below HR1_1.out HB.out) | (with_reducible refine Kd.C_alloc ?_ _) | (with_reducible refine Kd.C_drewN ?_ _) | (with_reducible refine Kd.C_drew ?_))); (case side4 => exact HC1_1.out); rintro e w' ⟨rfl, ⟨nd, rfl⟩⟩))
      go_ret
      exact ⟨by first | rfl | (simp [errW_none, errW_some] <;> rfl) | (simp [*, errW_none, errW_some] <;> rfl), by repeat (first | (with_reducible first | exact HB.out | apply below_alloc | apply pw_below_drewN | apply below_drew1 | refine below_set ?_ GE605.out | refine below_set ?_ GE606.out) | exact HB.out)⟩
  · rw [if_neg c3] at H
    have c3b0 : (a0_0 == a1_0) = false := beq_eq_false_iff_ne.mpr c3
    have c3b1 : (a0_0 != a1_0) = true := bne_iff_ne.mpr c3
    obtain rfl := Option.some.inj H
    go_enter Try.func23, Try.ntmps23
    go_wp2_with (first | ((with_reducible refine gate_dst (N := 2) rfl ?_); refine box_event ?hg (N := 2) ?hd (cs := #[.int .i64 a0_0, .slice A0_1 l0_1.length c0_1, .slice A0_2 l0_2.length c0_2, .int .i64 a0_3, .int .u64 a0_4]) (t := 26) ?hr ?_; (case hd => rfl); (case hg => rfl); (case hr => first | (go_simp; done) | (go_simp; rfl)); intro gb605 hg w29 hbox hb; have n0_ := Aside0.mk (below_step (by repeat (first | (with_reducible first | exact HB.out | apply below_alloc | apply pw_below_drewN | apply below_drew1) | exact HB.out)) hb); have n1_ := Aside0.mk (hbox); have n2_ := Aside0.mk ((by rw [hg]; exact (below_size (by repeat (first | (with_reducible first | exact HB.out | apply below_alloc | apply pw_below_drewN | apply below_drew1) | exact HB.out))) : w.heap.size ≤ gb605)); have n3_ := Aside0.mk ((by rw [hg]; exact (below_size (by repeat (first | (with_reducible first | exact HB.out | apply below_alloc | apply pw_below_drewN | apply below_drew1) | exact HB.out))) : w.heap.size ≤ gb605)); clear HB; have HB := n0_; have BK605 := n1_; have GW605 := n2_; have GE605 := n3_; clear n0_ n1_ n2_ n3_; clear hb hbox hg) | ((with_reducible refine gate_dst (N := 3) rfl ?_); refine box_event ?hg (N := 3) ?hd (cs := #[.int .i64 a1_0, .slice A1_1 l1_1.length c1_1, .slice A1_2 l1_2.length c1_2, .int .i64 a1_3, .int .u64 a1_4]) (t := 26) ?hr ?_; (case hd => rfl); (case hg => rfl); (case hr => first | (go_simp; done) | (go_simp; rfl)); intro gb606 hg w30 hbox hb; have n0_ := Aside0.mk (blk_below (g := gb605) (o := .cells #[.int .i64 a0_0, .slice A0_1 l0_1.length c0_1, .slice A0_2 l0_2.length c0_2, .int .i64 a0_3, .int .u64 a0_4] 26 (0, 0)) (by (with_reducible repeat (first | refine blk_drewN ?_ _ | refine blk_drew ?_ | refine blk_alloc ?_ _)); exact BK605.out) hb); have n1_ := Aside0.mk (below_step (by repeat (first | (with_reducible first | exact HB.out | apply below_alloc | apply pw_below_drewN | apply below_drew1 | refine below_set ?_ GE605.out) | exact HB.out)) hb); have n2_ := Aside0.mk (hbox); have n3_ := Aside0.mk ((by rw [hg]; exact (below_size (by repeat (first | (with_reducible first | exact HB.out | apply below_alloc | apply pw_below_drewN | apply below_drew1 | refine below_set ?_ GE605.out) | exact HB.out))) : w.heap.size ≤ gb606)); have n4_ := Aside0.mk ((by rw [hg]; exact (below_size (by repeat (first | (with_reducible first | exact HB.out | apply below_alloc | apply pw_below_drewN | apply below_drew1 | refine below_set ?_ GE605.out) | exact HB.out))) : w.heap.size ≤ gb606)); have n5_ := Aside0.mk ((by rw [hg]; exact Nat.ne_of_lt (blk_lt (g := gb605) (o := .cells #[.int .i64 a0_0, .slice A0_1 l0_1.length c0_1, .slice A0_2 l0_2.length c0_2, .int .i64 a0_3, .int .u64 a0_4] 26 (0, 0)) (by (with_reducible repeat (first | refine blk_drewN ?_ _ | refine blk_drew ?_ | refine blk_alloc ?_ _)); exact BK605.out)) : gb605 ≠ gb606)); have n6_ := Aside0.mk ((by rw [hg]; exact Nat.ne_of_gt (blk_lt (g := gb605) (o := .cells #[.int .i64 a0_0, .slice A0_1 l0_1.length c0_1, .slice A0_2 l0_2.length c0_2, .int .i64 a0_3, .int .u64 a0_4] 26 (0, 0)) (by (with_reducible repeat (first | refine blk_drewN ?_ _ | refine blk_drew ?_ | refine blk_alloc ?_ _)); exact BK605.out)) : gb606 ≠ gb605)); clear BK605; clear HB; have BK605 := n0_; have HB := n1_; have BK606 := n2_; have GW606 := n3_; have GE606 := n4_; have NB605_606 := n5_; have NB606_605 := n6_; clear n0_ n1_ n2_ n3_ n4_ n5_ n6_; clear hb hbox hg; have hnb31 := NB605_606.out; have hnc31 := NB606_605.out; have hcz32_0 : w30.cell? ⟨gb605, 0, none⟩ = some (.int .i64 a0_0) := (blk_cell BK605.out 0).trans rfl; have hcz32_1 : w30.cell? ⟨gb605, 1, none⟩ = some (.slice A0_1 l0_1.length c0_1) := (blk_cell BK605.out 1).trans rfl; have hcz32_2 : w30.cell? ⟨gb605, 2, none⟩ = some (.slice A0_2 l0_2.length c0_2) := (blk_cell BK605.out 2).trans rfl; have hcz32_3 : w30.cell? ⟨gb605, 3, none⟩ = some (.int .i64 a0_3) := (blk_cell BK605.out 3).trans rfl; have hcz32_4 : w30.cell? ⟨gb605, 4, none⟩ = some (.int .u64 a0_4) := (blk_cell BK605.out 4).trans rfl; have hfz32_0 := blk_frozen BK605.out 0; have hfz32_1 := blk_frozen BK605.out 1; have hfz32_2 := blk_frozen BK605.out 2; have hfz32_3 := blk_frozen BK605.out 3; have hfz32_4 := blk_frozen BK605.out 4; have hcz33_0 : w30.cell? ⟨gb606, 0, none⟩ = some (.int .i64 a1_0) := (blk_cell BK606.out 0).trans rfl; have hcz33_1 : w30.cell? ⟨gb606, 1, none⟩ = some (.slice A1_1 l1_1.length c1_1) := (blk_cell BK606.out 1).trans rfl; have hcz33_2 : w30.cell? ⟨gb606, 2, none⟩ = some (.slice A1_2 l1_2.length c1_2) := (blk_cell BK606.out 2).trans rfl; have hcz33_3 : w30.cell? ⟨gb606, 3, none⟩ = some (.int .i64 a1_3) := (blk_cell BK606.out 3).trans rfl; have hcz33_4 : w30.cell? ⟨gb606, 4, none⟩ = some (.int .u64 a1_4) := (blk_cell BK606.out 4).trans rfl; have hfz33_0 := blk_frozen BK606.out 0; have hfz33_1 := blk_frozen BK606.out 1; have hfz33_2 := blk_frozen BK606.out 2; have hfz33_3 := blk_frozen BK606.out 3; have hfz33_4 := blk_frozen BK606.out 4))
    go_ret
    exact ⟨by first | rfl | (simp [errW_none, errW_some] <;> rfl) | (simp [*, errW_none, errW_some] <;> rfl), by repeat (first | (with_reducible first | exact HB.out | apply below_alloc | apply pw_below_drewN | apply below_drew1 | refine below_set ?_ GE605.out | refine below_set ?_ GE606.out) | exact HB.out)⟩

end Go.Proofs.Ytnpmjboofmdflaa.PB
