-- Made by a program of this workplace out of the translation (wip/tools in the repo). Not trusted: Lean checks it.
import Derived.Test.YthcdlgphabaidaaPRx0
import Derived.Test.YthcdlgphabaidaaPRx2
namespace Go.Proofs.Ythcdlgphabaidaa.PR
open Go.RowKit Go.Proofs.YthcdlgphabaidaaW.PrintWords Go.Proofs.YthcdlgphabaidaaW.PrintLast Go.Proofs.YthcdlgphabaidaaW.PrintMore
attribute [local go_sem] max2_int min2_int max_two min_two max_three min_three max_four min_four   -- for this text's walks alone
set_option linter.unusedVariables false
set_option linter.unusedSimpArgs false

/-! ### stanchionref01_TakeNum (function 41): what it is -/
/-! ### stanchionref01_TakeText (function 42): what it is -/
/-! ### stanchionref07_Take (function 21): what it is -/
/-! ### stanchionref05_Writes (function 43): what it is -/
def stanchionref05_Writes.l0 : Nat → List (S54) → List (S54) → Int → Option (Bool)
  | 0, _, _, _ => none
  | k + 1, x0, x1, x5 => if x5 < (x0.length : Int) then (if 0 ≤ x5 then (if x5 < (x1.length : Int) then (if (!((((rd_T54 x0 x5).f0).toList) == (((rd_T54 x1 x5).f0).toList)) || (!((((rd_T54 x0 x5).f1).toList) == (((rd_T54 x1 x5).f1).toList)) || (!(((rd_T54 x0 x5).f2) == ((rd_T54 x1 x5).f2))))) = true then (some false) else (stanchionref05_Writes.l0 k x0 x1 (wrap64 (x5 + 1)))) else (none)) else (none)) else (some true)
def stanchionref05_Writes.f (k : Nat) (l0 : List (S54)) (l1 : List (S54)) : Option (Bool) := if (l0.length : Int) = (l1.length : Int) then (stanchionref05_Writes.l0 k l0 l1 0) else (some false)
/-! ### stanchionref07_SameBatch (function 22): what it is -/
def stanchionref07_SameBatch.f (k : Nat) (a0_0 : Int) (a0_1 : ByteArray) (l0_2 : List (S54)) (a1_0 : Int) (a1_1 : ByteArray) (l1_2 : List (S54)) : Option (Bool) := (stanchionref05_Writes.f k l0_2 l1_2).bind fun t221 => (if t221 = true then (if a0_0 = a1_0 then (some (a0_1.toList == a1_1.toList)) else (some false)) else (some false))
/-! ### stanchionlaw07_BatchBytes (function 4): what it is -/
/-! ### stanchionlaw07_BatchBack (function 5): what it is -/
def stanchionlaw07_BatchBack.j0 : Nat → Int → Bool → ByteArray → Bool → Option (Bool)
  | 0, _, _, _, _ => none
  | k + 1, x1, x5, x6, x52 => if x52 = true then (some false) else (if x1 < 0 then (some x5) else (if x1 ≥ (x6.size : Int) then (some x5) else (if 0 ≤ x1 then (if x1 ≤ (x6.size : Int) then ((batch_Take.f k (x6.extract 0 (x1 : Int).toNat)).bind fun bt265 => (if x5 = true then (some (bt265.2.2.2 == 3)) else (some false))) else (none)) else (none))))
def stanchionlaw07_BatchBack.f (k : Nat) (a0_0 : Int) (a0_1 : ByteArray) (l0_2 : List (S54)) (a1 : Int) : Option (Bool) := (stanchionlaw07_shown.f k).bind fun t246 => ((batch_Bytes.f k a0_0 a0_1 l0_2).bind fun bt247 => (if bt247.2 = 0 then ((batch_Take.f k bt247.1).bind fun bt250 => ((stanchionref07_SameBatch.f k a0_0 a0_1 l0_2 bt250.1 bt250.2.1 bt250.2.2.1).bind fun t257 => (if bt247.1.size + 1 ≤ 9223372036854775807 then ((batch_Take.f k (bt247.1 ++ (⟨#[48]⟩ : ByteArray))).bind fun bt258 => (if t257 = true then (if bt250.2.2.2 = 0 then (stanchionlaw07_BatchBack.j0 k a1 t246 bt247.1 (bt258.2.2.2 != 3)) else (stanchionlaw07_BatchBack.j0 k a1 t246 bt247.1 true)) else (stanchionlaw07_BatchBack.j0 k a1 t246 bt247.1 true))) else (none)))) else (if t246 = true then ((batch_May.f k a0_0 a0_1 l0_2).bind fun t249 => (some (!t249))) else (some false))))
/-! ### batch_May_1: function 44 -/
set_option maxHeartbeats 8000000 in
set_option maxRecDepth 100000 in
theorem batch_May_1.calls (a0_0 : ByteArray) (a0_1 : ByteArray) (a0_2 : Bool) (r : Bool) (w : World) (h : batch_May_1.f a0_0 a0_1 a0_2 = some r) :
    Calls Try.prog 44 #[.agg #[.string a0_0, .string a0_1, .bool a0_2]] w fun e w' => e = .returned (.bool r) ∧ Below w.heap.size w w' := by
  have hu54 := Try.underlying54
  have HB := Aside0.mk (Below.refl w.heap.size w)
  have H : (if (a0_0.size : Int) < 1 then (some true) else (if (a0_0.size : Int) > 32 then (some true) else (if (a0_1.size : Int) > 64 then (some true) else (if a0_2 = true then (some (a0_1.toList != ([] : List UInt8))) else (some false))))) = some r := h
  clear h
  by_cases c2 : (a0_0.size : Int) < 1
  · rw [if_pos c2] at H
    have c2b0 : decide ((a0_0.size : Int) < 1) = true := decide_eq_true c2
    have c2b1 : decide (a0_0.size < 1) = true := decide_eq_true (by omega)
    clear c2
    obtain rfl := Option.some.inj H
    go_enter Try.func44, Try.ntmps44
    go_wp2_with (first | ((with_reducible refine gate_dst (N := 1) rfl ?_); (try (refine gate_guard (by rfl) ?_; dsimp only)); refine box_event ?hg (N := 1) ?hd (cs := #[.string a0_0, .string a0_1, .bool a0_2]) (t := 54) ?hr ?_; (case hd => rfl); (case hg => rfl); (case hr => first | (go_simp; done) | (go_simp; rfl)); intro gb101 hg w3 hbox hb; have n0_ := Aside0.mk (below_step (by repeat (first | (with_reducible first | exact HB.out | apply below_alloc | apply pw_below_drewN | apply below_drew1) | exact HB.out)) hb); have n1_ := Aside0.mk (hbox); have n2_ := Aside0.mk ((by rw [hg]; exact (below_size (by repeat (first | (with_reducible first | exact HB.out | apply below_alloc | apply pw_below_drewN | apply below_drew1) | exact HB.out))) : w.heap.size ≤ gb101)); have n3_ := Aside0.mk ((by rw [hg]; exact (below_size (by repeat (first | (with_reducible first | exact HB.out | apply below_alloc | apply pw_below_drewN | apply below_drew1) | exact HB.out))) : w.heap.size ≤ gb101)); clear HB; have HB := n0_; have BK101 := n1_; have GW101 := n2_; have GE101 := n3_; clear n0_ n1_ n2_ n3_; clear hb hbox hg; have hcz4_0 : w3.cell? ⟨gb101, 0, none⟩ = some (.string a0_0) := (blk_cell BK101.out 0).trans rfl; have hcz4_1 : w3.cell? ⟨gb101, 1, none⟩ = some (.string a0_1) := (blk_cell BK101.out 1).trans rfl; have hcz4_2 : w3.cell? ⟨gb101, 2, none⟩ = some (.bool a0_2) := (blk_cell BK101.out 2).trans rfl; have hfz4_0 := blk_frozen BK101.out 0; have hfz4_1 := blk_frozen BK101.out 1; have hfz4_2 := blk_frozen BK101.out 2))
    go_ret
    exact ⟨by first | rfl | (simp [errW_none, errW_some] <;> rfl) | (simp [*, errW_none, errW_some] <;> rfl) | (simp [*, errW_none, errW_some]; generalize ByteArray.toList _ = q_; cases q_ <;> rfl), by repeat (first | (with_reducible first | exact HB.out | apply below_alloc | apply pw_below_drewN | apply below_drew1 | refine below_set ?_ GE101.out) | exact HB.out)⟩
  · rw [if_neg c2] at H
    have c2b0 : decide ((a0_0.size : Int) < 1) = false := decide_eq_false c2
    have c2b1 : decide (a0_0.size < 1) = false := decide_eq_false (by omega)
    clear c2
    by_cases c5 : (a0_0.size : Int) > 32
    · rw [if_pos c5] at H
      have c5b0 : decide (32 < (a0_0.size : Int)) = true := decide_eq_true c5
      have c5b1 : decide (32 < a0_0.size) = true := decide_eq_true (by omega)
      clear c5
      obtain rfl := Option.some.inj H
      go_enter Try.func44, Try.ntmps44
      go_wp2_with (first | ((with_reducible refine gate_dst (N := 1) rfl ?_); (try (refine gate_guard (by rfl) ?_; dsimp only)); refine box_event ?hg (N := 1) ?hd (cs := #[.string a0_0, .string a0_1, .bool a0_2]) (t := 54) ?hr ?_; (case hd => rfl); (case hg => rfl); (case hr => first | (go_simp; done) | (go_simp; rfl)); intro gb101 hg w6 hbox hb; have n0_ := Aside0.mk (below_step (by repeat (first | (with_reducible first | exact HB.out | apply below_alloc | apply pw_below_drewN | apply below_drew1) | exact HB.out)) hb); have n1_ := Aside0.mk (hbox); have n2_ := Aside0.mk ((by rw [hg]; exact (below_size (by repeat (first | (with_reducible first | exact HB.out | apply below_alloc | apply pw_below_drewN | apply below_drew1) | exact HB.out))) : w.heap.size ≤ gb101)); have n3_ := Aside0.mk ((by rw [hg]; exact (below_size (by repeat (first | (with_reducible first | exact HB.out | apply below_alloc | apply pw_below_drewN | apply below_drew1) | exact HB.out))) : w.heap.size ≤ gb101)); clear HB; have HB := n0_; have BK101 := n1_; have GW101 := n2_; have GE101 := n3_; clear n0_ n1_ n2_ n3_; clear hb hbox hg; have hcz7_0 : w6.cell? ⟨gb101, 0, none⟩ = some (.string a0_0) := (blk_cell BK101.out 0).trans rfl; have hcz7_1 : w6.cell? ⟨gb101, 1, none⟩ = some (.string a0_1) := (blk_cell BK101.out 1).trans rfl; have hcz7_2 : w6.cell? ⟨gb101, 2, none⟩ = some (.bool a0_2) := (blk_cell BK101.out 2).trans rfl; have hfz7_0 := blk_frozen BK101.out 0; have hfz7_1 := blk_frozen BK101.out 1; have hfz7_2 := blk_frozen BK101.out 2))
      go_ret
      exact ⟨by first | rfl | (simp [errW_none, errW_some] <;> rfl) | (simp [*, errW_none, errW_some] <;> rfl) | (simp [*, errW_none, errW_some]; generalize ByteArray.toList _ = q_; cases q_ <;> rfl), by repeat (first | (with_reducible first | exact HB.out | apply below_alloc | apply pw_below_drewN | apply below_drew1 | refine below_set ?_ GE101.out) | exact HB.out)⟩
    · rw [if_neg c5] at H
      have c5b0 : decide (32 < (a0_0.size : Int)) = false := decide_eq_false c5
      have c5b1 : decide (32 < a0_0.size) = false := decide_eq_false (by omega)
      clear c5
      by_cases c8 : (a0_1.size : Int) > 64
      · rw [if_pos c8] at H
        have c8b0 : decide (64 < (a0_1.size : Int)) = true := decide_eq_true c8
        have c8b1 : decide (64 < a0_1.size) = true := decide_eq_true (by omega)
        clear c8
        obtain rfl := Option.some.inj H
        go_enter Try.func44, Try.ntmps44
        go_wp2_with (first | ((with_reducible refine gate_dst (N := 1) rfl ?_); (try (refine gate_guard (by rfl) ?_; dsimp only)); refine box_event ?hg (N := 1) ?hd (cs := #[.string a0_0, .string a0_1, .bool a0_2]) (t := 54) ?hr ?_; (case hd => rfl); (case hg => rfl); (case hr => first | (go_simp; done) | (go_simp; rfl)); intro gb101 hg w9 hbox hb; have n0_ := Aside0.mk (below_step (by repeat (first | (with_reducible first | exact HB.out | apply below_alloc | apply pw_below_drewN | apply below_drew1) | exact HB.out)) hb); have n1_ := Aside0.mk (hbox); have n2_ := Aside0.mk ((by rw [hg]; exact (below_size (by repeat (first | (with_reducible first | exact HB.out | apply below_alloc | apply pw_below_drewN | apply below_drew1) | exact HB.out))) : w.heap.size ≤ gb101)); have n3_ := Aside0.mk ((by rw [hg]; exact (below_size (by repeat (first | (with_reducible first | exact HB.out | apply below_alloc | apply pw_below_drewN | apply below_drew1) | exact HB.out))) : w.heap.size ≤ gb101)); clear HB; have HB := n0_; have BK101 := n1_; have GW101 := n2_; have GE101 := n3_; clear n0_ n1_ n2_ n3_; clear hb hbox hg; have hcz10_0 : w9.cell? ⟨gb101, 0, none⟩ = some (.string a0_0) := (blk_cell BK101.out 0).trans rfl; have hcz10_1 : w9.cell? ⟨gb101, 1, none⟩ = some (.string a0_1) := (blk_cell BK101.out 1).trans rfl; have hcz10_2 : w9.cell? ⟨gb101, 2, none⟩ = some (.bool a0_2) := (blk_cell BK101.out 2).trans rfl; have hfz10_0 := blk_frozen BK101.out 0; have hfz10_1 := blk_frozen BK101.out 1; have hfz10_2 := blk_frozen BK101.out 2))
        go_ret
        exact ⟨by first | rfl | (simp [errW_none, errW_some] <;> rfl) | (simp [*, errW_none, errW_some] <;> rfl) | (simp [*, errW_none, errW_some]; generalize ByteArray.toList _ = q_; cases q_ <;> rfl), by repeat (first | (with_reducible first | exact HB.out | apply below_alloc | apply pw_below_drewN | apply below_drew1 | refine below_set ?_ GE101.out) | exact HB.out)⟩
      · rw [if_neg c8] at H
        have c8b0 : decide (64 < (a0_1.size : Int)) = false := decide_eq_false c8
        have c8b1 : decide (64 < a0_1.size) = false := decide_eq_false (by omega)
        clear c8
        by_cases c11 : a0_2 = true
        · subst c11
          have H1 : (some (a0_1.toList != ([] : List UInt8))) = some r := by rw [if_pos rfl] at H; exact H
          clear H
          have H := H1
          clear H1
          obtain rfl := Option.some.inj H
          go_enter Try.func44, Try.ntmps44
          go_wp2_with (first | ((with_reducible refine gate_dst (N := 1) rfl ?_); (try (refine gate_guard (by rfl) ?_; dsimp only)); refine box_event ?hg (N := 1) ?hd (cs := #[.string a0_0, .string a0_1, .bool true]) (t := 54) ?hr ?_; (case hd => rfl); (case hg => rfl); (case hr => first | (go_simp; done) | (go_simp; rfl)); intro gb101 hg w12 hbox hb; have n0_ := Aside0.mk (below_step (by repeat (first | (with_reducible first | exact HB.out | apply below_alloc | apply pw_below_drewN | apply below_drew1) | exact HB.out)) hb); have n1_ := Aside0.mk (hbox); have n2_ := Aside0.mk ((by rw [hg]; exact (below_size (by repeat (first | (with_reducible first | exact HB.out | apply below_alloc | apply pw_below_drewN | apply below_drew1) | exact HB.out))) : w.heap.size ≤ gb101)); have n3_ := Aside0.mk ((by rw [hg]; exact (below_size (by repeat (first | (with_reducible first | exact HB.out | apply below_alloc | apply pw_below_drewN | apply below_drew1) | exact HB.out))) : w.heap.size ≤ gb101)); clear HB; have HB := n0_; have BK101 := n1_; have GW101 := n2_; have GE101 := n3_; clear n0_ n1_ n2_ n3_; clear hb hbox hg; have hcz13_0 : w12.cell? ⟨gb101, 0, none⟩ = some (.string a0_0) := (blk_cell BK101.out 0).trans rfl; have hcz13_1 : w12.cell? ⟨gb101, 1, none⟩ = some (.string a0_1) := (blk_cell BK101.out 1).trans rfl; have hcz13_2 : w12.cell? ⟨gb101, 2, none⟩ = some (.bool true) := (blk_cell BK101.out 2).trans rfl; have hfz13_0 := blk_frozen BK101.out 0; have hfz13_1 := blk_frozen BK101.out 1; have hfz13_2 := blk_frozen BK101.out 2))
          go_ret
          exact ⟨by first | rfl | (simp [errW_none, errW_some] <;> rfl) | (simp [*, errW_none, errW_some] <;> rfl) | (simp [*, errW_none, errW_some]; generalize ByteArray.toList _ = q_; cases q_ <;> rfl), by repeat (first | (with_reducible first | exact HB.out | apply below_alloc | apply pw_below_drewN | apply below_drew1 | refine below_set ?_ GE101.out) | exact HB.out)⟩
        · replace c11 := Bool.eq_false_iff.mpr c11
          subst c11
          have H1 : (some false) = some r := by rw [if_neg (show ¬ (false = true) by decide)] at H; exact H
          clear H
          have H := H1
          clear H1
          obtain rfl := Option.some.inj H
          go_enter Try.func44, Try.ntmps44
          go_wp2_with (first | ((with_reducible refine gate_dst (N := 1) rfl ?_); (try (refine gate_guard (by rfl) ?_; dsimp only)); refine box_event ?hg (N := 1) ?hd (cs := #[.string a0_0, .string a0_1, .bool false]) (t := 54) ?hr ?_; (case hd => rfl); (case hg => rfl); (case hr => first | (go_simp; done) | (go_simp; rfl)); intro gb101 hg w14 hbox hb; have n0_ := Aside0.mk (below_step (by repeat (first | (with_reducible first | exact HB.out | apply below_alloc | apply pw_below_drewN | apply below_drew1) | exact HB.out)) hb); have n1_ := Aside0.mk (hbox); have n2_ := Aside0.mk ((by rw [hg]; exact (below_size (by repeat (first | (with_reducible first | exact HB.out | apply below_alloc | apply pw_below_drewN | apply below_drew1) | exact HB.out))) : w.heap.size ≤ gb101)); have n3_ := Aside0.mk ((by rw [hg]; exact (below_size (by repeat (first | (with_reducible first | exact HB.out | apply below_alloc | apply pw_below_drewN | apply below_drew1) | exact HB.out))) : w.heap.size ≤ gb101)); clear HB; have HB := n0_; have BK101 := n1_; have GW101 := n2_; have GE101 := n3_; clear n0_ n1_ n2_ n3_; clear hb hbox hg; have hcz15_0 : w14.cell? ⟨gb101, 0, none⟩ = some (.string a0_0) := (blk_cell BK101.out 0).trans rfl; have hcz15_1 : w14.cell? ⟨gb101, 1, none⟩ = some (.string a0_1) := (blk_cell BK101.out 1).trans rfl; have hcz15_2 : w14.cell? ⟨gb101, 2, none⟩ = some (.bool false) := (blk_cell BK101.out 2).trans rfl; have hfz15_0 := blk_frozen BK101.out 0; have hfz15_1 := blk_frozen BK101.out 1; have hfz15_2 := blk_frozen BK101.out 2))
          go_ret
          exact ⟨by first | rfl | (simp [errW_none, errW_some] <;> rfl) | (simp [*, errW_none, errW_some] <;> rfl) | (simp [*, errW_none, errW_some]; generalize ByteArray.toList _ = q_; cases q_ <;> rfl), by repeat (first | (with_reducible first | exact HB.out | apply below_alloc | apply pw_below_drewN | apply below_drew1 | refine below_set ?_ GE101.out) | exact HB.out)⟩

open Go.Proofs.Ythcdlgphabaidaa.Cp
/-! ### api_Write_57: function 57 -/
set_option maxHeartbeats 8000000 in
set_option maxRecDepth 100000 in
theorem api_Write_57.calls (p : S54 → Bool) (g : Nat) (lb : Array Value) (eg : ∀ args w, (callFunc g args).run Try.prog w = .ok (.enter g args) w) (A0 : Option Addr) (c0 : Nat) (l0 : List (S54)) (w : World) (hr0 : Kd.C k54 w A0 l0.length l0)
    (hp : ∀ (W : World) (x : S54), Below w.heap.size w W → Calls Try.prog g (#[.agg #[.string x.f0, .string x.f1, .bool x.f2]] ++ lb) W fun e w' => e = .returned (.bool (p x)) ∧ Below W.heap.size W w') :
    Calls Try.prog 57 #[.slice A0 l0.length c0, .func (.func g) #[] lb] w fun e w' => e = .returned (.int .i64 (ixOf p l0)) ∧ Below w.heap.size w w' := by
  have hu54 := Try.underlying54
  have HR := Aside0.mk hr0
  have HP := Aside0.mk hp
  have hmx := hr0.2.1
  clear hr0 hp
  go_enter Try.func57, Try.ntmps57
  go_wp2
  go_loopg [5, 8] l0.length (fun gg _ s8 wr => ∃ kk : Nat, kk ≤ l0.length ∧ l0.length - kk ≤ gg ∧ s8 = .int .i64 kk ∧ Aside0 (Below w.heap.size w wr) ∧ Aside0 (∀ j, j < kk → p (l0.getD j z54) = false))
  case atStart => exact ⟨0, Nat.zero_le _, by omega, rfl, ⟨Below.refl _ w⟩, ⟨fun j hj => absurd hj (Nat.not_lt_zero _)⟩⟩
  case round =>
    obtain ⟨kk, hkk, hg, rfl, HB, A⟩ := hrel
    by_cases hlt : kk < l0.length
    · have hltz : (kk : Int) < (l0.length : Int) := by omega
      obtain ⟨ad, e, hx0, hx1, hx2⟩ := at_T54 (Kd.C_below HR.out HB.out) (kk : Int) (by omega) hltz
      cases e
      simp only [Int.toNat_natCast] at hx0 hx1 hx2
      have hcall := HP.out wr (l0.getD kk z54) HB.out
      have e0 : rd_T54 l0 (kk : Int) = l0.getD kk z54 := by simp [rd_T54]
      rw [e0] at hx0 hx1 hx2
      clear e0
      obtain ⟨y, hy⟩ : ∃ y, l0.getD kk z54 = y := ⟨_, rfl⟩
      rw [hy] at hx0 hx1 hx2 hcall
      have Y := Aside0.mk hy
      clear hy
      obtain ⟨q, hq⟩ : ∃ q, p y = q := ⟨_, rfl⟩
      rw [hq] at hcall
      have Q := Aside0.mk hq
      clear hq
      cases q with
      | true =>
        go_wp2_with (go_at_fn g; refine hcall.mono ?_; rintro e w' ⟨rfl, hb'⟩)
        go_ret
        exact ⟨by rw [ixOf_hit p l0 z54 kk hlt (by rw [Y.out]; exact Q.out) A.out]; rfl, below_step HB.out hb'⟩
      | false =>
        go_wp2_with (go_at_fn g; refine hcall.mono ?_; rintro e w' ⟨rfl, hb'⟩)
        go_roundg (l0.length - (kk + 1))
        case measure => omega
        case rel =>
          refine ⟨kk + 1, by omega, by omega, by go_num, ⟨below_step HB.out hb'⟩, ⟨fun j hj => ?_⟩⟩
          by_cases e : j = kk
          · subst e; rw [Y.out]; exact Q.out
          · exact A.out j (by omega)
    · have hltz : decide ((kk : Int) < (l0.length : Int)) = false := decide_eq_false (by omega)
      have hltn : decide (kk < l0.length) = false := decide_eq_false (by omega)
      have E := Aside0.mk (show kk = l0.length by omega)
      go_wp2
      go_ret
      exact ⟨by rw [ixOf_miss p l0 z54 (fun j hj => A.out j (by have := E.out; omega))]; rfl, HB.out⟩

open Go.Proofs.Ythcdlgphabaidaa.Cp
/-! ### api_Write_45: function 45 -/
theorem ixOf_any {α : Type} (p : α → Bool) (l : List α) : decide (ixOf p l ≥ 0) = l.any p := by
  unfold ixOf
  by_cases h : l.findIdx p < l.length
  · rw [if_pos h, List.any_eq_true.2 ⟨l[l.findIdx p], List.getElem_mem h, List.findIdx_getElem⟩]
    exact decide_eq_true (by omega)
  · rw [if_neg h, List.any_eq_false.2 (fun x hx hp => h (List.findIdx_lt_length_of_exists ⟨x, hx, hp⟩))]
    decide
set_option maxHeartbeats 8000000 in
theorem api_Write_45.calls (p : S54 → Bool) (g : Nat) (lb : Array Value) (eg : ∀ args w, (callFunc g args).run Try.prog w = .ok (.enter g args) w) (A0 : Option Addr) (c0 : Nat) (l0 : List (S54)) (w : World) (hr0 : Kd.C k54 w A0 l0.length l0)
    (hp : ∀ (W : World) (x : S54), Below w.heap.size w W → Calls Try.prog g (#[.agg #[.string x.f0, .string x.f1, .bool x.f2]] ++ lb) W fun e w' => e = .returned (.bool (p x)) ∧ Below W.heap.size W w') :
    Calls Try.prog 45 #[.slice A0 l0.length c0, .func (.func g) #[] lb] w fun e w' => e = .returned (.bool (l0.any p)) ∧ Below w.heap.size w w' := by
  have HR := Aside0.mk hr0
  have HP := Aside0.mk hp
  clear hr0 hp
  go_enter Try.func45, Try.ntmps45
  go_wp2_with (go_at_call 57; (refine (api_Write_57.calls p g lb eg A0 c0 l0 _ HR.out HP.out).mono ?_; rintro e w' ⟨rfl, hb⟩))
  go_ret
  exact ⟨by rw [← ixOf_any]; rfl, hb⟩

end Go.Proofs.Ythcdlgphabaidaa.PR
