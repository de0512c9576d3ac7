-- Made by a program of this workplace out of the translation (wip/tools in the repo). Not trusted: Lean checks it.
import Derived.Test.YthcdlgphabaidaaPOx0
import Derived.Test.YthcdlgphabaidaaPOx2
import Derived.Test.YthcdlgphabaidaaPOx5
import Derived.Test.YthcdlgphabaidaaPOx7
import Derived.Test.YthcdlgphabaidaaPOx8
namespace Go.Proofs.Ythcdlgphabaidaa.PO
open Go.RowKit Go.Proofs.YthcdlgphabaidaaW.PrintWords Go.Proofs.YthcdlgphabaidaaW.PrintLast Go.Proofs.YthcdlgphabaidaaW.PrintMore
attribute [local go_sem] max2_int min2_int max_two min_two max_three min_three max_four min_four   -- for this text's walks alone
set_option linter.unusedVariables false
set_option linter.unusedSimpArgs false

/-! ### stanchionlaw07_BatchOnce: function 9 -/
def stanchionlaw07_BatchOnce.T6 : Bool × List (List Nat × List Nat) := (true, [([], []), ([], []), ([], []), ([1, 2], [1, 2]), ([3], [3]), ([4], [4]), ([0, 5], [0, 5]), ([6], [6]), ([7], [7]), ([7], [7]), ([8, 6, 0, 1, 2, 3, 4, 5, 6, 7, 8], [8]), ([9, 10, 0, 1, 2, 3, 4, 5, 6, 7, 8, 9, 10], [9])])
def stanchionlaw07_BatchOnce.B6 : List Nat := [0, 0, 0, 6, 14, 30, 63, 127, 255, 255, 511, 2047]
theorem stanchionlaw07_BatchOnce.tab6 : rtab .any (opsOf Try.f9 6) = stanchionlaw07_BatchOnce.T6 := by kernel_rfl
theorem stanchionlaw07_BatchOnce.bits6 : waitsOk stanchionlaw07_BatchOnce.T6.2 stanchionlaw07_BatchOnce.B6 = true := by kernel_rfl
def stanchionlaw07_BatchOnce.T7 : Bool × List (List Nat × List Nat) := (true, [([], []), ([], []), ([], []), ([1, 2], [1, 2]), ([3], [3]), ([0, 4], [0, 4]), ([5], [5]), ([6], [6]), ([6], [6]), ([], []), ([9, 7, 5, 0, 1, 2, 3, 4, 5, 6, 7, 9], [7, 9]), ([8, 10, 0, 1, 2, 3, 4, 5, 6, 7, 8, 9, 10], [8])])
def stanchionlaw07_BatchOnce.B7 : List Nat := [0, 0, 0, 6, 14, 31, 63, 127, 127, 0, 767, 2047]
theorem stanchionlaw07_BatchOnce.tab7 : rtab .any (opsOf Try.f9 7) = stanchionlaw07_BatchOnce.T7 := by kernel_rfl
theorem stanchionlaw07_BatchOnce.bits7 : waitsOk stanchionlaw07_BatchOnce.T7.2 stanchionlaw07_BatchOnce.B7 = true := by kernel_rfl
def stanchionlaw07_BatchOnce.T8 : Bool × List (List Nat × List Nat) := (true, [([], []), ([], []), ([], []), ([1, 2], [1, 2]), ([3], [3]), ([4], [4]), ([0, 5], [0, 5]), ([6], [6]), ([7], [7]), ([7], [7]), ([8, 6, 0, 1, 2, 3, 4, 5, 6, 7, 8], [8]), ([9, 10, 0, 1, 2, 3, 4, 5, 6, 7, 8, 9, 10], [9])])
def stanchionlaw07_BatchOnce.B8 : List Nat := [0, 0, 0, 6, 14, 30, 63, 127, 255, 255, 511, 2047]
theorem stanchionlaw07_BatchOnce.tab8 : rtab .any (opsOf Try.f9 8) = stanchionlaw07_BatchOnce.T8 := by kernel_rfl
theorem stanchionlaw07_BatchOnce.bits8 : waitsOk stanchionlaw07_BatchOnce.T8.2 stanchionlaw07_BatchOnce.B8 = true := by kernel_rfl
def stanchionlaw07_BatchOnce.T13 : Bool × List (List Nat × List Nat) := (true, [([], []), ([], []), ([], []), ([1, 2], [1, 2]), ([3], [3]), ([0, 4], [0, 4]), ([5], [5]), ([6], [6]), ([6], [6]), ([], []), ([9, 7, 5, 0, 1, 2, 3, 4, 5, 6, 7, 9], [7, 9]), ([8, 10, 0, 1, 2, 3, 4, 5, 6, 7, 8, 9, 10], [8])])
def stanchionlaw07_BatchOnce.B13 : List Nat := [0, 0, 0, 6, 14, 31, 63, 127, 127, 0, 767, 2047]
theorem stanchionlaw07_BatchOnce.tab13 : rtab .any (opsOf Try.f9 13) = stanchionlaw07_BatchOnce.T13 := by kernel_rfl
theorem stanchionlaw07_BatchOnce.bits13 : waitsOk stanchionlaw07_BatchOnce.T13.2 stanchionlaw07_BatchOnce.B13 = true := by kernel_rfl
set_option maxHeartbeats 8000000 in
set_option maxRecDepth 100000 in
theorem stanchionlaw07_BatchOnce.calls (k : Nat) (A0 : Option Addr) (c0 : Nat) (l0 : List (S37)) (r : Bool) (w : World) (hr0 : Kd.C k37 w A0 l0.length l0) (hc0 : l0.length ≤ c0) (h : stanchionlaw07_BatchOnce.f k l0 = some r) (hr_ : r = true) :
    Calls Try.prog 9 #[.slice A0 l0.length c0] w fun e w' => e = .returned (.bool r) ∧ Below w.heap.size w w' := by
  have hu24 := Try.underlying24
  have hu37 := Try.underlying37
  have HR0 := Aside0.mk hr0
  have HC0 := Aside0.mk hc0
  clear hr0 hc0
  have HB := Aside0.mk (Below.refl w.heap.size w)
  have H : ((stanchionlaw07_shown.f k).bind fun t217 => (stanchionlaw07_BatchOnce.l0 k l0 t217 0 ([] : List (S68)) ([] : List (S68)))) = some r := h
  clear h
  replace H := Option.bind_eq_some_iff.mp H
  obtain ⟨t217, A20, H⟩ := H
  replace H : (stanchionlaw07_BatchOnce.l0 k l0 t217 0 ([] : List (S68)) ([] : List (S68))) = some r := H
  have A2 := Aside0.mk A20
  clear A20
  have H' := Aside0.mk H
  clear H
  go_enter Try.func9, Try.ntmps9
  go_wp2_with (first | ((with_reducible refine gate_callee (f := 11) rfl ?_); refine goesL_ (some 14) rfl rfl Try.func11 (by kernel_rfl) rfl #[] rfl (by (try simp only [List.map_toArray, List.map_cons, List.map_nil]); first | done | rfl | (simp only [List.length_drop, List.length_take]; rfl)) ?_; (with_reducible refine (stanchionlaw07_shown.calls k  t217 _ A2.out).mono ?_); rintro e w3 ⟨rfl, hb⟩; refine ⟨_, rfl, ?_⟩; have n0_ := Aside0.mk (below_step (by repeat (first | (with_reducible first | exact HB.out | apply below_alloc | apply pw_below_drewN | apply below_drew1) | exact HB.out)) hb); clear HB; have HB := n0_; clear n0_; (try clear hb); (try clear hb2); (try clear hk); (try clear hi)) | ((with_reducible refine gate_dst (N := 4) rfl ?_); refine box_event ?hg (N := 4) ?hd (cs := #[.slice none 0 0, .slice none 0 0]) (t := 24) ?hr ?_; (case hd => rfl); (case hg => rfl); (case hr => first | (go_simp; done) | (go_simp; rfl)); intro gb218 hg w4 hbox hb; have n0_ := Aside0.mk (below_step (by repeat (first | (with_reducible first | exact HB.out | apply below_alloc | apply pw_below_drewN | apply below_drew1) | exact HB.out)) hb); have n1_ := Aside0.mk (hbox); have n2_ := Aside0.mk ((by rw [hg]; exact (below_size (by repeat (first | (with_reducible first | exact HB.out | apply below_alloc | apply pw_below_drewN | apply below_drew1) | exact HB.out))) : w.heap.size ≤ gb218)); have n3_ := Aside0.mk ((by rw [hg]; exact (below_size (by repeat (first | (with_reducible first | exact HB.out | apply below_alloc | apply pw_below_drewN | apply below_drew1) | exact HB.out))) : w.heap.size ≤ gb218)); clear HB; have HB := n0_; have BK218 := n1_; have GW218 := n2_; have GE218 := n3_; clear n0_ n1_ n2_ n3_; clear hb hbox hg; have hcz5_0 : w4.cell? ⟨gb218, 0, none⟩ = some (.slice none 0 0) := (blk_cell BK218.out 0).trans rfl; have hcz5_1 : w4.cell? ⟨gb218, 1, none⟩ = some (.slice none 0 0) := (blk_cell BK218.out 1).trans rfl; have hfz5_0 := blk_frozen BK218.out 0; have hfz5_1 := blk_frozen BK218.out 1))
  go_loopg [5] k (fun kq v5 w' => ∃ (x5_1 : Int) (x219000_1 : List (S68)) (x219001_1 : List (S68)) (u219000 : Value) (u219001 : Value), v5 = .int .i64 x5_1 ∧ Aside0 (stanchionlaw07_BatchOnce.l0 kq l0 t217 x5_1 x219000_1 x219001_1 = some r) ∧ Aside0 (kq ≤ k) ∧ Aside0 (Kd.V k68 68 w' w.heap.size (fun k_ => k_ ≠ gb218) u219000 x219000_1) ∧ Aside0 (Kd.V k68 68 w' w.heap.size (fun k_ => k_ ≠ gb218) u219001 x219001_1) ∧ Aside0 (w'.heap[gb218]? = some (.cells #[u219000, u219001] 24 (0, 0))) ∧ Aside0 (Below w.heap.size w w'))
  case atStart => exact ⟨(0), (([] : List (S68))), (([] : List (S68))), (.slice none 0 0), (.slice none 0 0), (by first | rfl | (simp; done) | (simp [*]; done)), H', ⟨Nat.le_refl _⟩, ⟨Kd.V_nil _ _ _ _ _⟩, ⟨Kd.V_nil _ _ _ _ _⟩, ⟨by (with_reducible repeat (first | refine blk_drewN ?_ _ | refine blk_drew ?_ | refine blk_alloc ?_ _)); refine blk_put (cs := #[.slice none 0 0, .slice none 0 0]) ?_ 1 _ rfl; (with_reducible repeat (first | refine blk_drewN ?_ _ | refine blk_drew ?_ | refine blk_alloc ?_ _)); refine blk_put (cs := #[.slice none 0 0, .slice none 0 0]) ?_ 0 _ rfl; (with_reducible repeat (first | refine blk_drewN ?_ _ | refine blk_drew ?_ | refine blk_alloc ?_ _)); exact BK218.out⟩, ⟨by repeat (first | (with_reducible first | exact HB.out | apply below_alloc | apply pw_below_drewN | apply below_drew1 | refine below_set ?_ GE218.out) | exact HB.out)⟩⟩
  case round =>
    clear H'
    try clear c1
    try clear p2
    try clear hcz5_0
    try clear hcz5_1
    try clear hfz5_0
    try clear hfz5_1
    obtain ⟨x5_1, x219000_1, x219001_1, u219000, u219001, rfl, HA, HK1, HO_219000, HO_219001, BK218, HB⟩ := hrel
    cases gk with
    | zero => exact absurd HA.out (by simp [stanchionlaw07_BatchOnce.l0])
    | succ k1 =>
      have H := HA.out
      clear HA
      simp only [stanchionlaw07_BatchOnce.l0] at H
      have HC6 := Aside0.mk H
      clear H
      go_upto_region 4 with (fail)
      go_cut [23] (fun v23 wc => ∃ (kq : Nat) (x23_5 : Bool), v23 = .bool x23_5 ∧ Aside0 (stanchionlaw07_BatchOnce.j1 kq l0 t217 x5_1 x23_5 x219000_1 x219001_1 = some r) ∧ Aside0 (kq ≤ k1) ∧ Aside0 (Kd.V k68 68 wc w.heap.size (fun k_ => k_ ≠ gb218) u219000 x219000_1) ∧ Aside0 (Kd.V k68 68 wc w.heap.size (fun k_ => k_ ≠ gb218) u219001 x219001_1) ∧ Aside0 (wc.heap[gb218]? = some (.cells #[u219000, u219001] 24 (0, 0))) ∧ Aside0 (Below w.heap.size w wc))
      case first =>
        have H := HC6.out
        clear HC6
        by_cases c7 : x5_1 < (l0.length : Int)
        · rw [if_pos c7] at H
          have c7b0 : decide (x5_1 < (l0.length : Int)) = true := decide_eq_true c7
          clear c7
          (first | rw [c7b0] | (simp only [i64_w, i32_w]; rw [c7b0]) | skip)
          have H' := Aside0.mk H
          clear H
          go_wp2
          go_meet
          case rel => exact ⟨_, (decide (x5_1 < 200)), (by first | rfl | (simp; done) | (simp [*]; done)), H', ⟨by have := HK1.out; first | omega | exact Nat.le_refl _⟩, ⟨by (with_reducible repeat (first | apply Kd.V_alloc | apply Kd.V_drewN | apply Kd.V_drew)); exact HO_219000.out⟩, ⟨by (with_reducible repeat (first | apply Kd.V_alloc | apply Kd.V_drewN | apply Kd.V_drew)); exact HO_219001.out⟩, ⟨by (with_reducible repeat (first | refine blk_drewN ?_ _ | refine blk_drew ?_ | refine blk_alloc ?_ _)); exact BK218.out⟩, ⟨by repeat (first | (with_reducible first | exact HB.out | apply below_alloc | apply pw_below_drewN | apply below_drew1 | refine below_set ?_ GE218.out) | exact HB.out)⟩⟩
        · rw [if_neg c7] at H
          have c7b0 : decide (x5_1 < (l0.length : Int)) = false := decide_eq_false c7
          clear c7
          (first | rw [c7b0] | (simp only [i64_w, i32_w]; rw [c7b0]) | skip)
          have H' := Aside0.mk H
          clear H
          go_wp2
          go_meet
          case rel => exact ⟨_, (false), (by first | rfl | (simp; done) | (simp [*]; done)), H', ⟨by have := HK1.out; first | omega | exact Nat.le_refl _⟩, ⟨by (with_reducible repeat (first | apply Kd.V_alloc | apply Kd.V_drewN | apply Kd.V_drew)); exact HO_219000.out⟩, ⟨by (with_reducible repeat (first | apply Kd.V_alloc | apply Kd.V_drewN | apply Kd.V_drew)); exact HO_219001.out⟩, ⟨by (with_reducible repeat (first | refine blk_drewN ?_ _ | refine blk_drew ?_ | refine blk_alloc ?_ _)); exact BK218.out⟩, ⟨by repeat (first | (with_reducible first | exact HB.out | apply below_alloc | apply pw_below_drewN | apply below_drew1 | refine below_set ?_ GE218.out) | exact HB.out)⟩⟩
      case rest =>
        clear HC6
        try clear c1
        try clear p2
        try clear c7
        try clear c7b0
        try clear hcz5_0
        try clear hcz5_1
        try clear hfz5_0
        try clear hfz5_1
        try clear p2
        obtain ⟨kq, x23_5, rfl, HA, HJ5, HO_219000, HO_219001, BK218, HB⟩ := hcut
        cases kq with
        | zero => exact absurd HA.out (by simp [stanchionlaw07_BatchOnce.j1])
        | succ kj5 =>
          have H := HA.out
          clear HA
          simp only [stanchionlaw07_BatchOnce.j1] at H
          by_cases c8 : x23_5 = true
          · subst c8
            have H1 : (if 0 ≤ x5_1 then (if x5_1 < (l0.length : Int) then ((batch_Decided.f x219000_1 x219001_1 ((rd_T37 l0 x5_1).f1)).bind fun bt220 => ((batch_Do.f kj5 x219000_1 x219001_1 ((rd_T37 l0 x5_1).f0) ((rd_T37 l0 x5_1).f1) ((rd_T37 l0 x5_1).f2)).bind fun bt223 => ((batch_Decided.f bt223.1 bt223.2.1 ((rd_T37 l0 x5_1).f1)).bind fun bt232 => (if bt220.2 = true then (if bt223.2.2 = 0 then (stanchionlaw07_BatchOnce.j2 kj5 l0 t217 x5_1 bt223.2.2 bt232.1 bt232.2 true bt223.1 bt223.2.1) else (if bt232.2 = true then (if bt232.1.toList = bt220.1.toList then ((batch_Same.f kj5 x219000_1 x219001_1 bt223.1 bt223.2.1).bind fun t234 => (stanchionlaw07_BatchOnce.j2 kj5 l0 t217 x5_1 bt223.2.2 bt232.1 bt232.2 (!t234) bt223.1 bt223.2.1)) else (stanchionlaw07_BatchOnce.j2 kj5 l0 t217 x5_1 bt223.2.2 bt232.1 bt232.2 true bt223.1 bt223.2.1)) else (stanchionlaw07_BatchOnce.j2 kj5 l0 t217 x5_1 bt223.2.2 bt232.1 bt232.2 true bt223.1 bt223.2.1))) else (stanchionlaw07_BatchOnce.j2 kj5 l0 t217 x5_1 bt223.2.2 bt232.1 bt232.2 false bt223.1 bt223.2.1))))) else (none)) else (none)) = some r := by rw [if_pos rfl] at H; exact H
            clear H
            have H := H1
            clear H1
            by_cases c9 : 0 ≤ x5_1
            · rw [if_pos c9] at H
              have c9b0 : decide (0 ≤ x5_1) = true := decide_eq_true c9
              clear c9
              by_cases c10 : x5_1 < (l0.length : Int)
              · rw [if_pos c10] at H
                have c10b0 : decide (x5_1 < (l0.length : Int)) = true := decide_eq_true c10
                clear c10
                replace H := Option.bind_eq_some_iff.mp H
                obtain ⟨⟨t220, t221⟩, A110, H⟩ := H
                replace H : ((batch_Do.f kj5 x219000_1 x219001_1 ((rd_T37 l0 x5_1).f0) ((rd_T37 l0 x5_1).f1) ((rd_T37 l0 x5_1).f2)).bind fun bt223 => ((batch_Decided.f bt223.1 bt223.2.1 ((rd_T37 l0 x5_1).f1)).bind fun bt232 => (if t221 = true then (if bt223.2.2 = 0 then (stanchionlaw07_BatchOnce.j2 kj5 l0 t217 x5_1 bt223.2.2 bt232.1 bt232.2 true bt223.1 bt223.2.1) else (if bt232.2 = true then (if bt232.1.toList = t220.toList then ((batch_Same.f kj5 x219000_1 x219001_1 bt223.1 bt223.2.1).bind fun t234 => (stanchionlaw07_BatchOnce.j2 kj5 l0 t217 x5_1 bt223.2.2 bt232.1 bt232.2 (!t234) bt223.1 bt223.2.1)) else (stanchionlaw07_BatchOnce.j2 kj5 l0 t217 x5_1 bt223.2.2 bt232.1 bt232.2 true bt223.1 bt223.2.1)) else (stanchionlaw07_BatchOnce.j2 kj5 l0 t217 x5_1 bt223.2.2 bt232.1 bt232.2 true bt223.1 bt223.2.1))) else (stanchionlaw07_BatchOnce.j2 kj5 l0 t217 x5_1 bt223.2.2 bt232.1 bt232.2 false bt223.1 bt223.2.1)))) = some r := H
                have A11 := Aside0.mk A110
                clear A110
                replace H := Option.bind_eq_some_iff.mp H
                obtain ⟨⟨t223, t226, t229⟩, A120, H⟩ := H
                replace H : ((batch_Decided.f t223 t226 ((rd_T37 l0 x5_1).f1)).bind fun bt232 => (if t221 = true then (if t229 = 0 then (stanchionlaw07_BatchOnce.j2 kj5 l0 t217 x5_1 t229 bt232.1 bt232.2 true t223 t226) else (if bt232.2 = true then (if bt232.1.toList = t220.toList then ((batch_Same.f kj5 x219000_1 x219001_1 t223 t226).bind fun t234 => (stanchionlaw07_BatchOnce.j2 kj5 l0 t217 x5_1 t229 bt232.1 bt232.2 (!t234) t223 t226)) else (stanchionlaw07_BatchOnce.j2 kj5 l0 t217 x5_1 t229 bt232.1 bt232.2 true t223 t226)) else (stanchionlaw07_BatchOnce.j2 kj5 l0 t217 x5_1 t229 bt232.1 bt232.2 true t223 t226))) else (stanchionlaw07_BatchOnce.j2 kj5 l0 t217 x5_1 t229 bt232.1 bt232.2 false t223 t226))) = some r := H
                have A12 := Aside0.mk A120
                clear A120
                replace H := Option.bind_eq_some_iff.mp H
                obtain ⟨⟨t232, t233⟩, A130, H⟩ := H
                replace H : (if t221 = true then (if t229 = 0 then (stanchionlaw07_BatchOnce.j2 kj5 l0 t217 x5_1 t229 t232 t233 true t223 t226) else (if t233 = true then (if t232.toList = t220.toList then ((batch_Same.f kj5 x219000_1 x219001_1 t223 t226).bind fun t234 => (stanchionlaw07_BatchOnce.j2 kj5 l0 t217 x5_1 t229 t232 t233 (!t234) t223 t226)) else (stanchionlaw07_BatchOnce.j2 kj5 l0 t217 x5_1 t229 t232 t233 true t223 t226)) else (stanchionlaw07_BatchOnce.j2 kj5 l0 t217 x5_1 t229 t232 t233 true t223 t226))) else (stanchionlaw07_BatchOnce.j2 kj5 l0 t217 x5_1 t229 t232 t233 false t223 t226)) = some r := H
                have A13 := Aside0.mk A130
                clear A130
                have HC14 := Aside0.mk H
                clear H
                try go_wp2
                have n0_ := Aside0.mk (Kd.V_drew HO_219000.out)
                have n1_ := Aside0.mk (Kd.V_drew HO_219001.out)
                have n2_ := Aside0.mk (blk_drew BK218.out)
                have n3_ := Aside0.mk (below_drew1 HB.out)
                clear HO_219000
                clear HO_219001
                clear BK218
                clear HB
                have HO_219000 := n0_
                have HO_219001 := n1_
                have BK218 := n2_
                have HB := n3_
                clear n0_ n1_ n2_ n3_
                have p219 : 0 ≤ (x5_1 : Int) := of_decide_eq_true (by first | (with_reducible assumption) | assumption)
                have q219 : x5_1 < (l0.length : Int) := of_decide_eq_true (by first | (with_reducible assumption) | assumption)
                obtain ⟨ad219, A219_2, c219_2, e219, hx219_0, hx219_1, hx219_2, hl219_2, hi219_2⟩ := at_T37 HR0.out x5_1 p219 q219
                have hw219_2 := hx219_2
                have hw219_1 := hx219_1
                have hw219_0 := hx219_0
                cases e219
                replace hx219_0 := (HB.out.cell (World.block_lt_of_cell? w _ hx219_0)).trans hx219_0
                replace hx219_1 := (HB.out.cell (World.block_lt_of_cell? w _ hx219_1)).trans hx219_1
                replace hx219_2 := (HB.out.cell (World.block_lt_of_cell? w _ hx219_2)).trans hx219_2
                have HR219_2 := Aside0.mk hi219_2
                have HC219_2 := Aside0.mk hl219_2
                clear hi219_2 hl219_2
                replace p219 := eq_true p219
                replace q219 := eq_true q219
                obtain ⟨Ao16, co16, eo16⟩ := Kd.V_slice HO_219000.out
                (first | subst eo16 | (injection eo16 with f1_ f2_ f3_; have f4_ := f1_.symm; have f5_ := f3_.symm; clear f1_ f2_ f3_; subst f4_; subst f5_))
                obtain ⟨Ao17, co17, eo17⟩ := Kd.V_slice HO_219001.out
                (first | subst eo17 | (injection eo17 with f1_ f2_ f3_; have f4_ := f1_.symm; have f5_ := f3_.symm; clear f1_ f2_ f3_; subst f4_; subst f5_))
                refine start_ (n := 12) (S := fun w' => w'.cell? ⟨gb218, 0, none⟩ = some (.slice Ao16 x219000_1.length co16) ∧ w'.cell? ⟨gb218, 1, none⟩ = some (.slice Ao17 x219001_1.length co17) ∧ w'.cell? (ad219.add ((x5_1).toNat * 3)) = some (.int .i64 ((rd_T37 l0 x5_1).f0)) ∧ w'.cell? ⟨(ad219.add ((x5_1).toNat * 3)).block, (ad219.add ((x5_1).toNat * 3)).off + 1, none⟩ = some (.string ((rd_T37 l0 x5_1).f1)) ∧ w'.cell? ⟨(ad219.add ((x5_1).toNat * 3)).block, (ad219.add ((x5_1).toNat * 3)).off + 2, none⟩ = some (.slice A219_2 ((rd_T37 l0 x5_1).f2).length c219_2)) (ds := []) #[false, false, false, false, false, false, false, false, false, false, false, false] (by kernel_rfl) rfl rfl ⟨(blk_cell BK218.out 0).trans rfl, (blk_cell BK218.out 1).trans rfl, ((HB.out.cell (World.block_lt_of_cell? w _ hw219_0)).trans hw219_0), ((HB.out.cell (World.block_lt_of_cell? w _ hw219_1)).trans hw219_1), ((HB.out.cell (World.block_lt_of_cell? w _ hw219_2)).trans hw219_2)⟩ (fun hHeld => ?_); refine with_tabW stanchionlaw07_BatchOnce.tab6 stanchionlaw07_BatchOnce.bits6 (fun HT_ HW_ => ?_)
                generalize wc.drew = w15 at HO_219000 HO_219001 BK218 HB HR219_2 hx219_0 hx219_1 hx219_2 hHeld ⊢
                refine pure_ (i := 1) (N := some 28) (v := ?_) (a' := ?_) #[false, true, false, false, false, false, false, false, false, false, false, false] rfl rfl (any_of HT_.out (by kernel_rfl)) (fun _ _ _ h => h) (Or.inl ⟨by rfl, ?_⟩) ?_ ?_
                rotate_left
                · intro w'
                  go_simp
                  with_reducible rfl
                rotate_left
                · simp only [Act.put, List.setIfInBounds_toArray, List.set_cons_zero, List.set_cons_succ, i64_w, i32_w]
                  rfl
                refine pure_ (i := 2) (N := some 29) (v := ?_) (a' := ?_) #[false, true, true, false, false, false, false, false, false, false, false, false] rfl rfl (any_of HT_.out (by kernel_rfl)) (fun _ _ _ h => h) (Or.inl ⟨by rfl, ?_⟩) ?_ ?_
                rotate_left
                · intro w'
                  go_simp
                  with_reducible rfl
                rotate_left
                · simp only [Act.put, List.setIfInBounds_toArray, List.set_cons_zero, List.set_cons_succ, i64_w, i32_w]
                  rfl
                refine pure_ (i := 3) (N := some 30) (v := ?_) (a' := ?_) #[false, true, true, true, false, false, false, false, false, false, false, false] rfl rfl (any_of HT_.out (by kernel_rfl)) (fun _ _ _ h => h) (Or.inl ⟨by rfl, ?_⟩) ?_ ?_
                rotate_left
                · intro w'
                  go_simp
                  with_reducible rfl
                rotate_left
                · simp only [Act.put, List.setIfInBounds_toArray, List.set_cons_zero, List.set_cons_succ, i64_w, i32_w]
                  rfl
                refine pure_ (i := 4) (N := some 31) (v := ?_) (a' := ?_) #[false, true, true, true, true, false, false, false, false, false, false, false] rfl rfl (any_of HT_.out (by kernel_rfl)) (fun _ _ _ h => h) (Or.inl ⟨by rfl, ?_⟩) ?_ ?_
                rotate_left
                · intro w'
                  go_simp
                  with_reducible rfl
                rotate_left
                · simp only [Act.put, List.setIfInBounds_toArray, List.set_cons_zero, List.set_cons_succ, i64_w, i32_w]
                  rfl
                refine take_ (i := 0) (N := some 27) (v := ?_) (a' := ?_) #[true, true, true, true, true, false, false, false, false, false, false, false] rfl rfl (take_ofW HT_.out HW_.out (by kernel_rfl)) (fun _ _ _ h => h) (Or.inl ⟨by rfl, ?_⟩) hHeld ?_ ?_
                rotate_left
                · rintro w' ⟨s0, s1, s2, s3, s4⟩
                  go_simp
                  with_reducible rfl
                rotate_left
                · simp only [Act.put, List.setIfInBounds_toArray, List.set_cons_zero, List.set_cons_succ, i64_w, i32_w]
                  rfl
                refine take_ (i := 5) (N := some 32) (v := ?_) (a' := ?_) #[true, true, true, true, true, true, false, false, false, false, false, false] rfl rfl (take_ofW HT_.out HW_.out (by kernel_rfl)) (fun _ _ _ h => h) (Or.inl ⟨by rfl, ?_⟩) hHeld ?_ ?_
                rotate_left
                · rintro w' ⟨s0, s1, s2, s3, s4⟩
                  go_simp
                  with_reducible rfl
                rotate_left
                · simp only [Act.put, List.setIfInBounds_toArray, List.set_cons_zero, List.set_cons_succ, i64_w, i32_w]
                  rfl
                refine one_ (i := 6) (N := some 33) #[true, true, true, true, true, true, true, false, false, false, false, false] rfl rfl (one_of HT_.out (by kernel_rfl)) (by decide) (fun K hK => ?_)
                refine goes_ Try.func27 (by kernel_rfl) rfl #[.agg #[.slice Ao16 x219000_1.length co16, .slice Ao17 x219001_1.length co17], .string ((rd_T37 l0 x5_1).f1)] (by rfl) rfl rfl (by (try simp only [List.map_toArray, List.map_cons, List.map_nil]); first | done | rfl | (simp only [List.length_drop, List.length_take]; rfl)) ?_
                with_reducible refine (batch_Decided.calls _ _ x219000_1 _ _ x219001_1 ((rd_T37 l0 x5_1).f1) t220 t221 _ ?side1 ?side2 ?side3 ?side4 A11.out).mono ?_
                (case side1 => repeat (first | exact (Kd.V_reads' HO_219000.out).2.2 | (with_reducible refine Kd.C_alloc ?_ _) | (with_reducible refine Kd.C_drewN ?_ _) | (with_reducible refine Kd.C_drew ?_)))
                (case side2 => exact (Kd.V_reads' HO_219000.out).2.1)
                (case side3 => repeat (first | exact (Kd.V_reads' HO_219001.out).2.2 | (with_reducible refine Kd.C_alloc ?_ _) | (with_reducible refine Kd.C_drewN ?_ _) | (with_reducible refine Kd.C_drew ?_)))
                (case side4 => exact (Kd.V_reads' HO_219001.out).2.1)
                rintro e w18 ⟨rfl, hb⟩
                refine ⟨_, rfl, ?_⟩
                have n0_ := Aside0.mk (Kd.V_below (by (with_reducible repeat (first | apply Kd.V_alloc | apply Kd.V_drewN | apply Kd.V_drew)); exact HO_219000.out) hb)
                have n1_ := Aside0.mk (Kd.V_below (by (with_reducible repeat (first | apply Kd.V_alloc | apply Kd.V_drewN | apply Kd.V_drew)); exact HO_219001.out) hb)
                have n2_ := Aside0.mk (blk_below (g := gb218) (o := .cells #[.slice Ao16 x219000_1.length co16, .slice Ao17 x219001_1.length co17] 24 (0, 0)) (by (with_reducible repeat (first | refine blk_drewN ?_ _ | refine blk_drew ?_ | refine blk_alloc ?_ _)); exact BK218.out) hb)
                have n3_ := Aside0.mk (below_step (by repeat (first | (with_reducible first | exact HB.out | apply below_alloc | apply pw_below_drewN | apply below_drew1 | refine below_set ?_ GE218.out) | exact HB.out)) hb)
                clear HO_219000
                clear HO_219001
                clear BK218
                clear HB
                have HO_219000 := n0_
                have HO_219001 := n1_
                have BK218 := n2_
                have HB := n3_
                clear n0_ n1_ n2_ n3_
                (try clear hb)
                (try clear hb2)
                (try clear hk)
                (try clear hi)
                refine hK.out _ _ ⟨(blk_cell BK218.out 0).trans rfl, (blk_cell BK218.out 1).trans rfl, ((HB.out.cell (World.block_lt_of_cell? w _ hw219_0)).trans hw219_0), ((HB.out.cell (World.block_lt_of_cell? w _ hw219_1)).trans hw219_1), ((HB.out.cell (World.block_lt_of_cell? w _ hw219_2)).trans hw219_2)⟩ (fun hHeld => ?_)
                clear hK K
                refine norm_ (a' := ?_) ?_ ?_
                rotate_left
                · show Act.put _ (some 33) _ = _
                  simp only [Act.put, List.setIfInBounds_toArray, List.set_cons_zero, List.set_cons_succ, i64_w, i32_w]
                  rfl
                refine pure_ (i := 7) (N := some 26) (v := ?_) (a' := ?_) #[true, true, true, true, true, true, true, true, false, false, false, false] rfl rfl (any_of HT_.out (by kernel_rfl)) (fun _ _ _ h => h) (Or.inl ⟨by rfl, ?_⟩) ?_ ?_
                rotate_left
                · intro w'
                  go_simp
                  with_reducible rfl
                rotate_left
                · simp only [Act.put, List.setIfInBounds_toArray, List.set_cons_zero, List.set_cons_succ, i64_w, i32_w]
                  rfl
                refine pure_ (i := 8) (N := some 34) (v := ?_) (a' := ?_) #[true, true, true, true, true, true, true, true, true, false, false, false] rfl rfl (any_of HT_.out (by kernel_rfl)) (fun _ _ _ h => h) (Or.inl ⟨by rfl, ?_⟩) ?_ ?_
                rotate_left
                · intro w'
                  go_simp
                  with_reducible rfl
                rotate_left
                · simp only [Act.put, List.setIfInBounds_toArray, List.set_cons_zero, List.set_cons_succ, i64_w, i32_w]
                  rfl
                refine pure_ (i := 9) (N := some 35) (v := ?_) (a' := ?_) #[true, true, true, true, true, true, true, true, true, true, false, false] rfl rfl (any_of HT_.out (by kernel_rfl)) (fun _ _ _ h => h) (Or.inl ⟨by rfl, ?_⟩) ?_ ?_
                rotate_left
                · intro w'
                  go_simp
                  with_reducible rfl
                rotate_left
                · simp only [Act.put, List.setIfInBounds_toArray, List.set_cons_zero, List.set_cons_succ, i64_w, i32_w]
                  rfl
                refine pure_ (i := 10) (N := some 6) (v := ?_) (a' := ?_) #[true, true, true, true, true, true, true, true, true, true, true, false] rfl rfl (any_of HT_.out (by kernel_rfl)) (fun _ _ _ h => h) (Or.inl ⟨by rfl, ?_⟩) ?_ ?_
                rotate_left
                · intro w'
                  go_simp
                  with_reducible rfl
                rotate_left
                · simp only [Act.put, List.setIfInBounds_toArray, List.set_cons_zero, List.set_cons_succ, i64_w, i32_w]
                  rfl
                refine pure_ (i := 11) (N := some 7) (v := ?_) (a' := ?_) #[true, true, true, true, true, true, true, true, true, true, true, true] rfl rfl (any_of HT_.out (by kernel_rfl)) (fun _ _ _ h => h) (Or.inl ⟨by rfl, ?_⟩) ?_ ?_
                rotate_left
                · intro w'
                  go_simp
                  with_reducible rfl
                rotate_left
                · simp only [Act.put, List.setIfInBounds_toArray, List.set_cons_zero, List.set_cons_succ, i64_w, i32_w]
                  rfl
                refine done_ (done_of HT_.out (by kernel_rfl)) ?_
                try go_wp2
                have n0_ := Aside0.mk (Kd.V_drew HO_219000.out)
                have n1_ := Aside0.mk (Kd.V_drew HO_219001.out)
                have n2_ := Aside0.mk (blk_drew BK218.out)
                have n3_ := Aside0.mk (below_drew1 HB.out)
                clear HO_219000
                clear HO_219001
                clear BK218
                clear HB
                have HO_219000 := n0_
                have HO_219001 := n1_
                have BK218 := n2_
                have HB := n3_
                clear n0_ n1_ n2_ n3_
                have p222 : 0 ≤ (x5_1 : Int) := of_decide_eq_true (by first | (with_reducible assumption) | assumption)
                have q222 : x5_1 < (l0.length : Int) := of_decide_eq_true (by first | (with_reducible assumption) | assumption)
                obtain ⟨ad222, A222_2, c222_2, e222, hx222_0, hx222_1, hx222_2, hl222_2, hi222_2⟩ := at_T37 HR0.out x5_1 p222 q222
                have hw222_2 := hx222_2
                have hw222_1 := hx222_1
                have hw222_0 := hx222_0
                obtain rfl : ad219 = ad222 := (by injection e222)
                replace hx222_0 := (HB.out.cell (World.block_lt_of_cell? w _ hx222_0)).trans hx222_0
                replace hx222_1 := (HB.out.cell (World.block_lt_of_cell? w _ hx222_1)).trans hx222_1
                replace hx222_2 := (HB.out.cell (World.block_lt_of_cell? w _ hx222_2)).trans hx222_2
                have HR222_2 := Aside0.mk hi222_2
                have HC222_2 := Aside0.mk hl222_2
                clear hi222_2 hl222_2
                replace p222 := eq_true p222
                replace q222 := eq_true q222
                refine start_ (n := 12) (S := fun w' => w'.cell? ⟨gb218, 0, none⟩ = some (.slice Ao16 x219000_1.length co16) ∧ w'.cell? ⟨gb218, 1, none⟩ = some (.slice Ao17 x219001_1.length co17) ∧ w'.cell? (ad219.add ((x5_1).toNat * 3)) = some (.int .i64 ((rd_T37 l0 x5_1).f0)) ∧ w'.cell? ⟨(ad219.add ((x5_1).toNat * 3)).block, (ad219.add ((x5_1).toNat * 3)).off + 1, none⟩ = some (.string ((rd_T37 l0 x5_1).f1)) ∧ w'.cell? ⟨(ad219.add ((x5_1).toNat * 3)).block, (ad219.add ((x5_1).toNat * 3)).off + 2, none⟩ = some (.slice A222_2 ((rd_T37 l0 x5_1).f2).length c222_2)) (ds := []) #[false, false, false, false, false, false, false, false, false, false, false, false] (by kernel_rfl) rfl rfl ⟨(blk_cell BK218.out 0).trans rfl, (blk_cell BK218.out 1).trans rfl, ((HB.out.cell (World.block_lt_of_cell? w _ hw222_0)).trans hw222_0), ((HB.out.cell (World.block_lt_of_cell? w _ hw222_1)).trans hw222_1), ((HB.out.cell (World.block_lt_of_cell? w _ hw222_2)).trans hw222_2)⟩ (fun hHeld => ?_); refine with_tabW stanchionlaw07_BatchOnce.tab7 stanchionlaw07_BatchOnce.bits7 (fun HT_ HW_ => ?_)
                generalize w18.drew = w19 at HO_219000 HO_219001 BK218 HB HR222_2 hx222_0 hx222_1 hx222_2 hHeld ⊢
                refine pure_ (i := 1) (N := some 38) (v := ?_) (a' := ?_) #[false, true, false, false, false, false, false, false, false, false, false, false] rfl rfl (any_of HT_.out (by kernel_rfl)) (fun _ _ _ h => h) (Or.inl ⟨by rfl, ?_⟩) ?_ ?_
                rotate_left
                · intro w'
                  go_simp
                  with_reducible rfl
                rotate_left
                · simp only [Act.put, List.setIfInBounds_toArray, List.set_cons_zero, List.set_cons_succ, i64_w, i32_w]
                  rfl
                refine pure_ (i := 2) (N := some 39) (v := ?_) (a' := ?_) #[false, true, true, false, false, false, false, false, false, false, false, false] rfl rfl (any_of HT_.out (by kernel_rfl)) (fun _ _ _ h => h) (Or.inl ⟨by rfl, ?_⟩) ?_ ?_
                rotate_left
                · intro w'
                  go_simp
                  with_reducible rfl
                rotate_left
                · simp only [Act.put, List.setIfInBounds_toArray, List.set_cons_zero, List.set_cons_succ, i64_w, i32_w]
                  rfl
                refine pure_ (i := 3) (N := some 40) (v := ?_) (a' := ?_) #[false, true, true, true, false, false, false, false, false, false, false, false] rfl rfl (any_of HT_.out (by kernel_rfl)) (fun _ _ _ h => h) (Or.inl ⟨by rfl, ?_⟩) ?_ ?_
                rotate_left
                · intro w'
                  go_simp
                  with_reducible rfl
                rotate_left
                · simp only [Act.put, List.setIfInBounds_toArray, List.set_cons_zero, List.set_cons_succ, i64_w, i32_w]
                  rfl
                refine take_ (i := 0) (N := some 37) (v := ?_) (a' := ?_) #[true, true, true, true, false, false, false, false, false, false, false, false] rfl rfl (take_ofW HT_.out HW_.out (by kernel_rfl)) (fun _ _ _ h => h) (Or.inl ⟨by rfl, ?_⟩) hHeld ?_ ?_
                rotate_left
                · rintro w' ⟨s0, s1, s2, s3, s4⟩
                  go_simp
                  with_reducible rfl
                rotate_left
                · simp only [Act.put, List.setIfInBounds_toArray, List.set_cons_zero, List.set_cons_succ, i64_w, i32_w]
                  rfl
                refine take_ (i := 4) (N := some 41) (v := ?_) (a' := ?_) #[true, true, true, true, true, false, false, false, false, false, false, false] rfl rfl (take_ofW HT_.out HW_.out (by kernel_rfl)) (fun _ _ _ h => h) (Or.inl ⟨by rfl, ?_⟩) hHeld ?_ ?_
                rotate_left
                · rintro w' ⟨s0, s1, s2, s3, s4⟩
                  go_simp
                  with_reducible rfl
                rotate_left
                · simp only [Act.put, List.setIfInBounds_toArray, List.set_cons_zero, List.set_cons_succ, i64_w, i32_w]
                  rfl
                refine join_ (σ := Value × Value × Nat) 2 #[true, true, true, true, true, true, true, true, true, true, false, false] (fun s_ => [(42, .tuple #[.agg #[s_.1, s_.2.1], .int .i64 t229]), (8, .pointer (some ⟨s_.2.2, 0, none⟩)), (36, .tuple #[.agg #[s_.1, s_.2.1], .int .i64 t229]), (43, .agg #[s_.1, s_.2.1]), (44, .int .i64 t229)]) (fun s_ w' => (w'.cell? ⟨gb218, 0, none⟩ = some (.slice Ao16 x219000_1.length co16) ∧ w'.cell? ⟨gb218, 1, none⟩ = some (.slice Ao17 x219001_1.length co17) ∧ w'.cell? (ad219.add ((x5_1).toNat * 3)) = some (.int .i64 ((rd_T37 l0 x5_1).f0)) ∧ w'.cell? ⟨(ad219.add ((x5_1).toNat * 3)).block, (ad219.add ((x5_1).toNat * 3)).off + 1, none⟩ = some (.string ((rd_T37 l0 x5_1).f1)) ∧ w'.cell? ⟨(ad219.add ((x5_1).toNat * 3)).block, (ad219.add ((x5_1).toNat * 3)).off + 2, none⟩ = some (.slice A222_2 ((rd_T37 l0 x5_1).f2).length c222_2)) ∧ (Kd.V k68 68 w' w.heap.size (fun k_ => k_ ≠ gb218 ∧ k_ ≠ s_.2.2) s_.1 t223) ∧ (Kd.V k68 68 w' w.heap.size (fun k_ => k_ ≠ gb218 ∧ k_ ≠ s_.2.2) s_.2.1 t226) ∧ (Kd.V k68 68 w' w.heap.size (fun k_ => k_ ≠ gb218 ∧ k_ ≠ s_.2.2) (.slice Ao16 x219000_1.length co16) x219000_1) ∧ (Kd.V k68 68 w' w.heap.size (fun k_ => k_ ≠ gb218 ∧ k_ ≠ s_.2.2) (.slice Ao17 x219001_1.length co17) x219001_1) ∧ (w'.heap[gb218]? = some (.cells #[.slice Ao16 x219000_1.length co16, .slice Ao17 x219001_1.length co17] 24 (0, 0))) ∧ (w'.heap[s_.2.2]? = some (.cells #[.slice none 0 0, .slice none 0 0] 24 (0, 0))) ∧ (w.heap.size ≤ s_.2.2) ∧ (w.heap.size ≤ s_.2.2) ∧ (gb218 ≠ s_.2.2) ∧ (s_.2.2 ≠ gb218) ∧ (Below w.heap.size w w')) ?_ ?_
                rotate_left
                · intro hCont
                  refine two_ (i := 5) (j := 9) (Ni := some 42) (Nj := some 8) #[true, true, true, true, true, true, false, false, false, false, false, false] #[true, true, true, true, true, false, false, false, false, true, false, false] rfl rfl rfl rfl (two_of HT_.out (by kernel_rfl)) (by decide) (by decide) (fun K hK => ?_) (fun K hK => ?_)
                  · skip
                    refine goes_ Try.func25 (by kernel_rfl) rfl #[.agg #[.slice Ao16 x219000_1.length co16, .slice Ao17 x219001_1.length co17], .agg #[.int .i64 ((rd_T37 l0 x5_1).f0), .string ((rd_T37 l0 x5_1).f1), .slice A222_2 ((rd_T37 l0 x5_1).f2).length c222_2]] (by rfl) rfl rfl (by (try simp only [List.map_toArray, List.map_cons, List.map_nil]); first | done | rfl | (simp only [List.length_drop, List.length_take]; rfl)) ?_
                    with_reducible refine (batch_Do.calls kj5 (fun k_ => k_ ≠ gb218) _ _ x219000_1 (fun k_ => k_ ≠ gb218) _ _ x219001_1 ((rd_T37 l0 x5_1).f0) ((rd_T37 l0 x5_1).f1) _ _ ((rd_T37 l0 x5_1).f2) t223 t226 t229 _ ?side1 ?side2 ?side3 ?side4 A12.out).mono ?_
                    (case side1 => exact HO_219000.out)
                    (case side2 => exact HO_219001.out)
                    (case side3 => repeat (first | exact (Kd.C_below HR222_2.out HB.out) | (with_reducible refine Kd.C_alloc ?_ _) | (with_reducible refine Kd.C_drewN ?_ _) | (with_reducible refine Kd.C_drew ?_)))
                    (case side4 => exact HC222_2.out)
                    rintro e w20 ⟨v224, v227, rfl, ho0, ho1, hb⟩
                    refine ⟨_, rfl, ?_⟩
                    have n0_ := Aside0.mk (Kd.V_below (by (with_reducible repeat (first | apply Kd.V_alloc | apply Kd.V_drewN | apply Kd.V_drew)); exact HO_219000.out) hb)
                    have n1_ := Aside0.mk (Kd.V_below (by (with_reducible repeat (first | apply Kd.V_alloc | apply Kd.V_drewN | apply Kd.V_drew)); exact HO_219001.out) hb)
                    have n2_ := Aside0.mk (Kd.V_lower (Kd.V_mono (ok' := fun k_ => k_ ≠ gb218) ho0 (fun k_ hk_ => Or.elim hk_ (fun hs_ => Or.elim hs_ (fun hs_ => hs_) (fun hs_ => hs_)) (fun hn_ => (Kd.freshB (g := gb218) (o := .cells #[.slice Ao16 x219000_1.length co16, .slice Ao17 x219001_1.length co17] 24 (0, 0)) (by (with_reducible repeat (first | refine blk_drewN ?_ _ | refine blk_drew ?_ | refine blk_alloc ?_ _)); exact BK218.out) k_ hn_)))) (below_size (by repeat (first | (with_reducible first | exact HB.out | apply below_alloc | apply pw_below_drewN | apply below_drew1 | refine below_set ?_ GE218.out) | exact HB.out))))
                    have n3_ := Aside0.mk (Kd.V_lower (Kd.V_mono (ok' := fun k_ => k_ ≠ gb218) ho1 (fun k_ hk_ => Or.elim hk_ (fun hs_ => Or.elim hs_ (fun hs_ => hs_) (fun hs_ => hs_)) (fun hn_ => (Kd.freshB (g := gb218) (o := .cells #[.slice Ao16 x219000_1.length co16, .slice Ao17 x219001_1.length co17] 24 (0, 0)) (by (with_reducible repeat (first | refine blk_drewN ?_ _ | refine blk_drew ?_ | refine blk_alloc ?_ _)); exact BK218.out) k_ hn_)))) (below_size (by repeat (first | (with_reducible first | exact HB.out | apply below_alloc | apply pw_below_drewN | apply below_drew1 | refine below_set ?_ GE218.out) | exact HB.out))))
                    have n4_ := Aside0.mk (blk_below (g := gb218) (o := .cells #[.slice Ao16 x219000_1.length co16, .slice Ao17 x219001_1.length co17] 24 (0, 0)) (by (with_reducible repeat (first | refine blk_drewN ?_ _ | refine blk_drew ?_ | refine blk_alloc ?_ _)); exact BK218.out) hb)
                    have n5_ := Aside0.mk (below_step (by repeat (first | (with_reducible first | exact HB.out | apply below_alloc | apply pw_below_drewN | apply below_drew1 | refine below_set ?_ GE218.out) | exact HB.out)) hb)
                    clear HO_219000
                    clear HO_219001
                    clear BK218
                    clear HB
                    have HO_219000 := n0_
                    have HO_219001 := n1_
                    have HO225 := n2_
                    have HO228 := n3_
                    have BK218 := n4_
                    have HB := n5_
                    clear n0_ n1_ n2_ n3_ n4_ n5_
                    (try clear hb)
                    (try clear hb2)
                    (try clear hk)
                    (try clear hi)
                    (try clear ho0)
                    (try clear ho1)
                    refine hK.out _ _ ⟨(blk_cell BK218.out 0).trans rfl, (blk_cell BK218.out 1).trans rfl, ((HB.out.cell (World.block_lt_of_cell? w _ hw222_0)).trans hw222_0), ((HB.out.cell (World.block_lt_of_cell? w _ hw222_1)).trans hw222_1), ((HB.out.cell (World.block_lt_of_cell? w _ hw222_2)).trans hw222_2)⟩ (fun hHeld => ?_)
                    clear hK K
                    refine norm_ (a' := ?_) ?_ ?_
                    rotate_left
                    · show Act.put _ (some 42) _ = _
                      simp only [Act.put, List.setIfInBounds_toArray, List.set_cons_zero, List.set_cons_succ, i64_w, i32_w]
                      rfl
                    refine pure_ (i := 6) (N := some 36) (v := ?_) (a' := ?_) #[true, true, true, true, true, true, true, false, false, false, false, false] rfl rfl (any_of HT_.out (by kernel_rfl)) (fun _ _ _ h => h) (Or.inl ⟨by rfl, ?_⟩) ?_ ?_
                    rotate_left
                    · intro w'
                      go_simp
                      with_reducible rfl
                    rotate_left
                    · simp only [Act.put, List.setIfInBounds_toArray, List.set_cons_zero, List.set_cons_succ, i64_w, i32_w]
                      rfl
                    refine pure_ (i := 7) (N := some 43) (v := ?_) (a' := ?_) #[true, true, true, true, true, true, true, true, false, false, false, false] rfl rfl (any_of HT_.out (by kernel_rfl)) (fun _ _ _ h => h) (Or.inl ⟨by rfl, ?_⟩) ?_ ?_
                    rotate_left
                    · intro w'
                      go_simp
                      with_reducible rfl
                    rotate_left
                    · simp only [Act.put, List.setIfInBounds_toArray, List.set_cons_zero, List.set_cons_succ, i64_w, i32_w]
                      rfl
                    refine pure_ (i := 8) (N := some 44) (v := ?_) (a' := ?_) #[true, true, true, true, true, true, true, true, true, false, false, false] rfl rfl (any_of HT_.out (by kernel_rfl)) (fun _ _ _ h => h) (Or.inl ⟨by rfl, ?_⟩) ?_ ?_
                    rotate_left
                    · intro w'
                      go_simp
                      with_reducible rfl
                    rotate_left
                    · simp only [Act.put, List.setIfInBounds_toArray, List.set_cons_zero, List.set_cons_succ, i64_w, i32_w]
                      rfl
                    refine one_ (i := 9) (N := some 8) #[true, true, true, true, true, true, true, true, true, true, false, false] rfl rfl (one_of HT_.out (by kernel_rfl)) (by decide) (fun K hK => ?_)
                    refine box_step ?hg (N := 8) ?hd (cs := #[.slice none 0 0, .slice none 0 0]) (t := 24) ?hr ?_; (case hd => rfl); (case hg => rfl); (case hr => first | (go_simp; done) | (go_simp; rfl))
                    intro gb230 hg w21 hbox hb
                    have n0_ := Aside0.mk (Kd.V_below (Kd.V_elderB (by (with_reducible repeat (first | apply Kd.V_alloc | apply Kd.V_drewN | apply Kd.V_drew)); exact HO_219000.out) gb230 (Nat.le_of_eq hg.symm)) hb)
                    have n1_ := Aside0.mk (Kd.V_below (Kd.V_elderB (by (with_reducible repeat (first | apply Kd.V_alloc | apply Kd.V_drewN | apply Kd.V_drew)); exact HO_219001.out) gb230 (Nat.le_of_eq hg.symm)) hb)
                    have n2_ := Aside0.mk (Kd.V_below (Kd.V_elderB (by (with_reducible repeat (first | apply Kd.V_alloc | apply Kd.V_drewN | apply Kd.V_drew)); exact HO225.out) gb230 (Nat.le_of_eq hg.symm)) hb)
                    have n3_ := Aside0.mk (Kd.V_below (Kd.V_elderB (by (with_reducible repeat (first | apply Kd.V_alloc | apply Kd.V_drewN | apply Kd.V_drew)); exact HO228.out) gb230 (Nat.le_of_eq hg.symm)) hb)
                    have n4_ := Aside0.mk (blk_below (g := gb218) (o := .cells #[.slice Ao16 x219000_1.length co16, .slice Ao17 x219001_1.length co17] 24 (0, 0)) (by (with_reducible repeat (first | refine blk_drewN ?_ _ | refine blk_drew ?_ | refine blk_alloc ?_ _)); exact BK218.out) hb)
                    have n5_ := Aside0.mk (below_step (by repeat (first | (with_reducible first | exact HB.out | apply below_alloc | apply pw_below_drewN | apply below_drew1 | refine below_set ?_ GE218.out) | exact HB.out)) hb)
                    have n6_ := Aside0.mk (hbox)
                    have n7_ := Aside0.mk ((by rw [hg]; exact (below_size (by repeat (first | (with_reducible first | exact HB.out | apply below_alloc | apply pw_below_drewN | apply below_drew1 | refine below_set ?_ GE218.out) | exact HB.out))) : w.heap.size ≤ gb230))
                    have n8_ := Aside0.mk ((by rw [hg]; exact (below_size (by repeat (first | (with_reducible first | exact HB.out | apply below_alloc | apply pw_below_drewN | apply below_drew1 | refine below_set ?_ GE218.out) | exact HB.out))) : w.heap.size ≤ gb230))
                    have n9_ := Aside0.mk ((by rw [hg]; exact Nat.ne_of_lt (blk_lt (g := gb218) (o := .cells #[.slice Ao16 x219000_1.length co16, .slice Ao17 x219001_1.length co17] 24 (0, 0)) (by (with_reducible repeat (first | refine blk_drewN ?_ _ | refine blk_drew ?_ | refine blk_alloc ?_ _)); exact BK218.out)) : gb218 ≠ gb230))
                    have n10_ := Aside0.mk ((by rw [hg]; exact Nat.ne_of_gt (blk_lt (g := gb218) (o := .cells #[.slice Ao16 x219000_1.length co16, .slice Ao17 x219001_1.length co17] 24 (0, 0)) (by (with_reducible repeat (first | refine blk_drewN ?_ _ | refine blk_drew ?_ | refine blk_alloc ?_ _)); exact BK218.out)) : gb230 ≠ gb218))
                    clear HO_219000
                    clear HO_219001
                    clear HO225
                    clear HO228
                    clear BK218
                    clear HB
                    have HO_219000 := n0_
                    have HO_219001 := n1_
                    have HO225 := n2_
                    have HO228 := n3_
                    have BK218 := n4_
                    have HB := n5_
                    have BK230 := n6_
                    have GW230 := n7_
                    have GE230 := n8_
                    have NB218_230 := n9_
                    have NB230_218 := n10_
                    clear n0_ n1_ n2_ n3_ n4_ n5_ n6_ n7_ n8_ n9_ n10_
                    clear hb hbox hg
                    refine hK.out _ _ ⟨(blk_cell BK218.out 0).trans rfl, (blk_cell BK218.out 1).trans rfl, ((HB.out.cell (World.block_lt_of_cell? w _ hw222_0)).trans hw222_0), ((HB.out.cell (World.block_lt_of_cell? w _ hw222_1)).trans hw222_1), ((HB.out.cell (World.block_lt_of_cell? w _ hw222_2)).trans hw222_2)⟩ (fun hHeld => ?_)
                    clear hK K
                    refine norm_ (a' := ?_) ?_ ?_
                    rotate_left
                    · show Act.put _ (some 8) _ = _
                      simp only [Act.put, List.setIfInBounds_toArray, List.set_cons_zero, List.set_cons_succ, i64_w, i32_w]
                      rfl
                    exact norm_ (by simp only [putAll, Act.put, List.setIfInBounds_toArray, List.set_cons_zero, List.set_cons_succ]) (hCont (v224, v227, gb230) _ ⟨hHeld, (by (with_reducible repeat (first | apply Kd.V_alloc | apply Kd.V_drewN | apply Kd.V_drew)); exact HO225.out), (by (with_reducible repeat (first | apply Kd.V_alloc | apply Kd.V_drewN | apply Kd.V_drew)); exact HO228.out), (by (with_reducible repeat (first | apply Kd.V_alloc | apply Kd.V_drewN | apply Kd.V_drew)); exact HO_219000.out), (by (with_reducible repeat (first | apply Kd.V_alloc | apply Kd.V_drewN | apply Kd.V_drew)); exact HO_219001.out), (by (with_reducible repeat (first | refine blk_drewN ?_ _ | refine blk_drew ?_ | refine blk_alloc ?_ _)); exact BK218.out), (by (with_reducible repeat (first | refine blk_drewN ?_ _ | refine blk_drew ?_ | refine blk_alloc ?_ _)); exact BK230.out), GW230.out, GE230.out, NB218_230.out, NB230_218.out, (by repeat (first | (with_reducible first | exact HB.out | apply below_alloc | apply pw_below_drewN | apply below_drew1 | refine below_set ?_ GE218.out | refine below_set ?_ GE230.out) | exact HB.out))⟩)
                  · skip
                    refine box_step ?hg (N := 8) ?hd (cs := #[.slice none 0 0, .slice none 0 0]) (t := 24) ?hr ?_; (case hd => rfl); (case hg => rfl); (case hr => first | (go_simp; done) | (go_simp; rfl))
                    intro gb230 hg w20 hbox hb
                    have n0_ := Aside0.mk (Kd.V_below (Kd.V_elderB (by (with_reducible repeat (first | apply Kd.V_alloc | apply Kd.V_drewN | apply Kd.V_drew)); exact HO_219000.out) gb230 (Nat.le_of_eq hg.symm)) hb)
                    have n1_ := Aside0.mk (Kd.V_below (Kd.V_elderB (by (with_reducible repeat (first | apply Kd.V_alloc | apply Kd.V_drewN | apply Kd.V_drew)); exact HO_219001.out) gb230 (Nat.le_of_eq hg.symm)) hb)
                    have n2_ := Aside0.mk (blk_below (g := gb218) (o := .cells #[.slice Ao16 x219000_1.length co16, .slice Ao17 x219001_1.length co17] 24 (0, 0)) (by (with_reducible repeat (first | refine blk_drewN ?_ _ | refine blk_drew ?_ | refine blk_alloc ?_ _)); exact BK218.out) hb)
                    have n3_ := Aside0.mk (below_step (by repeat (first | (with_reducible first | exact HB.out | apply below_alloc | apply pw_below_drewN | apply below_drew1 | refine below_set ?_ GE218.out) | exact HB.out)) hb)
                    have n4_ := Aside0.mk (hbox)
                    have n5_ := Aside0.mk ((by rw [hg]; exact (below_size (by repeat (first | (with_reducible first | exact HB.out | apply below_alloc | apply pw_below_drewN | apply below_drew1 | refine below_set ?_ GE218.out) | exact HB.out))) : w.heap.size ≤ gb230))
                    have n6_ := Aside0.mk ((by rw [hg]; exact (below_size (by repeat (first | (with_reducible first | exact HB.out | apply below_alloc | apply pw_below_drewN | apply below_drew1 | refine below_set ?_ GE218.out) | exact HB.out))) : w.heap.size ≤ gb230))
                    have n7_ := Aside0.mk ((by rw [hg]; exact Nat.ne_of_lt (blk_lt (g := gb218) (o := .cells #[.slice Ao16 x219000_1.length co16, .slice Ao17 x219001_1.length co17] 24 (0, 0)) (by (with_reducible repeat (first | refine blk_drewN ?_ _ | refine blk_drew ?_ | refine blk_alloc ?_ _)); exact BK218.out)) : gb218 ≠ gb230))
                    have n8_ := Aside0.mk ((by rw [hg]; exact Nat.ne_of_gt (blk_lt (g := gb218) (o := .cells #[.slice Ao16 x219000_1.length co16, .slice Ao17 x219001_1.length co17] 24 (0, 0)) (by (with_reducible repeat (first | refine blk_drewN ?_ _ | refine blk_drew ?_ | refine blk_alloc ?_ _)); exact BK218.out)) : gb230 ≠ gb218))
                    clear HO_219000
                    clear HO_219001
                    clear BK218
                    clear HB
                    have HO_219000 := n0_
                    have HO_219001 := n1_
                    have BK218 := n2_
                    have HB := n3_
                    have BK230 := n4_
                    have GW230 := n5_
                    have GE230 := n6_
                    have NB218_230 := n7_
                    have NB230_218 := n8_
                    clear n0_ n1_ n2_ n3_ n4_ n5_ n6_ n7_ n8_
                    clear hb hbox hg
                    refine hK.out _ _ ⟨(blk_cell BK218.out 0).trans rfl, (blk_cell BK218.out 1).trans rfl, ((HB.out.cell (World.block_lt_of_cell? w _ hw222_0)).trans hw222_0), ((HB.out.cell (World.block_lt_of_cell? w _ hw222_1)).trans hw222_1), ((HB.out.cell (World.block_lt_of_cell? w _ hw222_2)).trans hw222_2)⟩ (fun hHeld => ?_)
                    clear hK K
                    refine norm_ (a' := ?_) ?_ ?_
                    rotate_left
                    · show Act.put _ (some 8) _ = _
                      simp only [Act.put, List.setIfInBounds_toArray, List.set_cons_zero, List.set_cons_succ, i64_w, i32_w]
                      rfl
                    refine one_ (i := 5) (N := some 42) #[true, true, true, true, true, true, false, false, false, true, false, false] rfl rfl (one_of HT_.out (by kernel_rfl)) (by decide) (fun K hK => ?_)
                    refine goes_ Try.func25 (by kernel_rfl) rfl #[.agg #[.slice Ao16 x219000_1.length co16, .slice Ao17 x219001_1.length co17], .agg #[.int .i64 ((rd_T37 l0 x5_1).f0), .string ((rd_T37 l0 x5_1).f1), .slice A222_2 ((rd_T37 l0 x5_1).f2).length c222_2]] (by rfl) rfl rfl (by (try simp only [List.map_toArray, List.map_cons, List.map_nil]); first | done | rfl | (simp only [List.length_drop, List.length_take]; rfl)) ?_
                    with_reducible refine (batch_Do.calls kj5 (fun k_ => (k_ ≠ gb218 ∧ k_ ≠ gb230)) _ _ x219000_1 (fun k_ => (k_ ≠ gb218 ∧ k_ ≠ gb230)) _ _ x219001_1 ((rd_T37 l0 x5_1).f0) ((rd_T37 l0 x5_1).f1) _ _ ((rd_T37 l0 x5_1).f2) t223 t226 t229 _ ?side1 ?side2 ?side3 ?side4 A12.out).mono ?_
                    (case side1 => exact HO_219000.out)
                    (case side2 => exact HO_219001.out)
                    (case side3 => repeat (first | exact (Kd.C_below HR222_2.out HB.out) | (with_reducible refine Kd.C_alloc ?_ _) | (with_reducible refine Kd.C_drewN ?_ _) | (with_reducible refine Kd.C_drew ?_)))
                    (case side4 => exact HC222_2.out)
                    rintro e w21 ⟨v224, v227, rfl, ho0, ho1, hb⟩
                    refine ⟨_, rfl, ?_⟩
                    have n0_ := Aside0.mk (Kd.V_below (by (with_reducible repeat (first | apply Kd.V_alloc | apply Kd.V_drewN | apply Kd.V_drew)); exact HO_219000.out) hb)
                    have n1_ := Aside0.mk (Kd.V_below (by (with_reducible repeat (first | apply Kd.V_alloc | apply Kd.V_drewN | apply Kd.V_drew)); exact HO_219001.out) hb)
                    have n2_ := Aside0.mk (Kd.V_lower (Kd.V_mono (ok' := fun k_ => k_ ≠ gb218 ∧ k_ ≠ gb230) ho0 (fun k_ hk_ => ⟨Or.elim hk_ (fun hs_ => Or.elim hs_ (fun hs_ => hs_.1) (fun hs_ => hs_.1)) (fun hn_ => (Kd.freshB (g := gb218) (o := .cells #[.slice Ao16 x219000_1.length co16, .slice Ao17 x219001_1.length co17] 24 (0, 0)) (by (with_reducible repeat (first | refine blk_drewN ?_ _ | refine blk_drew ?_ | refine blk_alloc ?_ _)); exact BK218.out) k_ hn_)), Or.elim hk_ (fun hs_ => Or.elim hs_ (fun hs_ => hs_.2) (fun hs_ => hs_.2)) (fun hn_ => (Kd.freshB (g := gb230) (o := .cells #[.slice none 0 0, .slice none 0 0] 24 (0, 0)) (by (with_reducible repeat (first | refine blk_drewN ?_ _ | refine blk_drew ?_ | refine blk_alloc ?_ _)); exact BK230.out) k_ hn_))⟩)) (below_size (by repeat (first | (with_reducible first | exact HB.out | apply below_alloc | apply pw_below_drewN | apply below_drew1 | refine below_set ?_ GE218.out | refine below_set ?_ GE230.out) | exact HB.out))))
                    have n3_ := Aside0.mk (Kd.V_lower (Kd.V_mono (ok' := fun k_ => k_ ≠ gb218 ∧ k_ ≠ gb230) ho1 (fun k_ hk_ => ⟨Or.elim hk_ (fun hs_ => Or.elim hs_ (fun hs_ => hs_.1) (fun hs_ => hs_.1)) (fun hn_ => (Kd.freshB (g := gb218) (o := .cells #[.slice Ao16 x219000_1.length co16, .slice Ao17 x219001_1.length co17] 24 (0, 0)) (by (with_reducible repeat (first | refine blk_drewN ?_ _ | refine blk_drew ?_ | refine blk_alloc ?_ _)); exact BK218.out) k_ hn_)), Or.elim hk_ (fun hs_ => Or.elim hs_ (fun hs_ => hs_.2) (fun hs_ => hs_.2)) (fun hn_ => (Kd.freshB (g := gb230) (o := .cells #[.slice none 0 0, .slice none 0 0] 24 (0, 0)) (by (with_reducible repeat (first | refine blk_drewN ?_ _ | refine blk_drew ?_ | refine blk_alloc ?_ _)); exact BK230.out) k_ hn_))⟩)) (below_size (by repeat (first | (with_reducible first | exact HB.out | apply below_alloc | apply pw_below_drewN | apply below_drew1 | refine below_set ?_ GE218.out | refine below_set ?_ GE230.out) | exact HB.out))))
                    have n4_ := Aside0.mk (blk_below (g := gb218) (o := .cells #[.slice Ao16 x219000_1.length co16, .slice Ao17 x219001_1.length co17] 24 (0, 0)) (by (with_reducible repeat (first | refine blk_drewN ?_ _ | refine blk_drew ?_ | refine blk_alloc ?_ _)); exact BK218.out) hb)
                    have n5_ := Aside0.mk (blk_below (g := gb230) (o := .cells #[.slice none 0 0, .slice none 0 0] 24 (0, 0)) (by (with_reducible repeat (first | refine blk_drewN ?_ _ | refine blk_drew ?_ | refine blk_alloc ?_ _)); exact BK230.out) hb)
                    have n6_ := Aside0.mk (below_step (by repeat (first | (with_reducible first | exact HB.out | apply below_alloc | apply pw_below_drewN | apply below_drew1 | refine below_set ?_ GE218.out | refine below_set ?_ GE230.out) | exact HB.out)) hb)
                    clear HO_219000
                    clear HO_219001
                    clear BK218
                    clear BK230
                    clear HB
                    have HO_219000 := n0_
                    have HO_219001 := n1_
                    have HO225 := n2_
                    have HO228 := n3_
                    have BK218 := n4_
                    have BK230 := n5_
                    have HB := n6_
                    clear n0_ n1_ n2_ n3_ n4_ n5_ n6_
                    (try clear hb)
                    (try clear hb2)
                    (try clear hk)
                    (try clear hi)
                    (try clear ho0)
                    (try clear ho1)
                    refine hK.out _ _ ⟨(blk_cell BK218.out 0).trans rfl, (blk_cell BK218.out 1).trans rfl, ((HB.out.cell (World.block_lt_of_cell? w _ hw222_0)).trans hw222_0), ((HB.out.cell (World.block_lt_of_cell? w _ hw222_1)).trans hw222_1), ((HB.out.cell (World.block_lt_of_cell? w _ hw222_2)).trans hw222_2)⟩ (fun hHeld => ?_)
                    clear hK K
                    refine norm_ (a' := ?_) ?_ ?_
                    rotate_left
                    · show Act.put _ (some 42) _ = _
                      simp only [Act.put, List.setIfInBounds_toArray, List.set_cons_zero, List.set_cons_succ, i64_w, i32_w]
                      rfl
                    refine pure_ (i := 6) (N := some 36) (v := ?_) (a' := ?_) #[true, true, true, true, true, true, true, false, false, true, false, false] rfl rfl (any_of HT_.out (by kernel_rfl)) (fun _ _ _ h => h) (Or.inl ⟨by rfl, ?_⟩) ?_ ?_
                    rotate_left
                    · intro w'
                      go_simp
                      with_reducible rfl
                    rotate_left
                    · simp only [Act.put, List.setIfInBounds_toArray, List.set_cons_zero, List.set_cons_succ, i64_w, i32_w]
                      rfl
                    refine pure_ (i := 7) (N := some 43) (v := ?_) (a' := ?_) #[true, true, true, true, true, true, true, true, false, true, false, false] rfl rfl (any_of HT_.out (by kernel_rfl)) (fun _ _ _ h => h) (Or.inl ⟨by rfl, ?_⟩) ?_ ?_
                    rotate_left
                    · intro w'
                      go_simp
                      with_reducible rfl
                    rotate_left
                    · simp only [Act.put, List.setIfInBounds_toArray, List.set_cons_zero, List.set_cons_succ, i64_w, i32_w]
                      rfl
                    refine pure_ (i := 8) (N := some 44) (v := ?_) (a' := ?_) #[true, true, true, true, true, true, true, true, true, true, false, false] rfl rfl (any_of HT_.out (by kernel_rfl)) (fun _ _ _ h => h) (Or.inl ⟨by rfl, ?_⟩) ?_ ?_
                    rotate_left
                    · intro w'
                      go_simp
                      with_reducible rfl
                    rotate_left
                    · simp only [Act.put, List.setIfInBounds_toArray, List.set_cons_zero, List.set_cons_succ, i64_w, i32_w]
                      rfl
                    exact norm_ (by simp only [putAll, Act.put, List.setIfInBounds_toArray, List.set_cons_zero, List.set_cons_succ]) (hCont (v224, v227, gb230) _ ⟨hHeld, (by (with_reducible repeat (first | apply Kd.V_alloc | apply Kd.V_drewN | apply Kd.V_drew)); exact HO225.out), (by (with_reducible repeat (first | apply Kd.V_alloc | apply Kd.V_drewN | apply Kd.V_drew)); exact HO228.out), (by (with_reducible repeat (first | apply Kd.V_alloc | apply Kd.V_drewN | apply Kd.V_drew)); exact HO_219000.out), (by (with_reducible repeat (first | apply Kd.V_alloc | apply Kd.V_drewN | apply Kd.V_drew)); exact HO_219001.out), (by (with_reducible repeat (first | refine blk_drewN ?_ _ | refine blk_drew ?_ | refine blk_alloc ?_ _)); exact BK218.out), (by (with_reducible repeat (first | refine blk_drewN ?_ _ | refine blk_drew ?_ | refine blk_alloc ?_ _)); exact BK230.out), GW230.out, GE230.out, NB218_230.out, NB230_218.out, (by repeat (first | (with_reducible first | exact HB.out | apply below_alloc | apply pw_below_drewN | apply below_drew1 | refine below_set ?_ GE218.out | refine below_set ?_ GE230.out) | exact HB.out))⟩)
                rintro ⟨v224, v227, gb230⟩ w22 ⟨hS_, h0_, h1_, h2_, h3_, h4_, h5_, h6_, h7_, h8_, h9_, h10_⟩
                have n0_ : Aside0 (Kd.V k68 68 w22 w.heap.size (fun k_ => k_ ≠ gb218 ∧ k_ ≠ gb230) v224 t223) := ⟨h0_⟩
                have n1_ : Aside0 (Kd.V k68 68 w22 w.heap.size (fun k_ => k_ ≠ gb218 ∧ k_ ≠ gb230) v227 t226) := ⟨h1_⟩
                have n2_ : Aside0 (Kd.V k68 68 w22 w.heap.size (fun k_ => k_ ≠ gb218 ∧ k_ ≠ gb230) (.slice Ao16 x219000_1.length co16) x219000_1) := ⟨h2_⟩
                have n3_ : Aside0 (Kd.V k68 68 w22 w.heap.size (fun k_ => k_ ≠ gb218 ∧ k_ ≠ gb230) (.slice Ao17 x219001_1.length co17) x219001_1) := ⟨h3_⟩
                have n4_ : Aside0 (w22.heap[gb218]? = some (.cells #[.slice Ao16 x219000_1.length co16, .slice Ao17 x219001_1.length co17] 24 (0, 0))) := ⟨h4_⟩
                have n5_ : Aside0 (w22.heap[gb230]? = some (.cells #[.slice none 0 0, .slice none 0 0] 24 (0, 0))) := ⟨h5_⟩
                have n6_ : Aside0 (w.heap.size ≤ gb230) := ⟨h6_⟩
                have n7_ : Aside0 (w.heap.size ≤ gb230) := ⟨h7_⟩
                have n8_ : Aside0 (gb218 ≠ gb230) := ⟨h8_⟩
                have n9_ : Aside0 (gb230 ≠ gb218) := ⟨h9_⟩
                have n10_ : Aside0 (Below w.heap.size w w22) := ⟨h10_⟩
                clear HO_219000
                clear HO_219001
                clear BK218
                clear HB
                clear h0_ h1_ h2_ h3_ h4_ h5_ h6_ h7_ h8_ h9_ h10_
                have HO225 := n0_
                have HO228 := n1_
                have HO_219000 := n2_
                have HO_219001 := n3_
                have BK218 := n4_
                have BK230 := n5_
                have GW230 := n6_
                have GE230 := n7_
                have NB218_230 := n8_
                have NB230_218 := n9_
                have HB := n10_
                clear n0_ n1_ n2_ n3_ n4_ n5_ n6_ n7_ n8_ n9_ n10_
                have hHeld : w22.cell? ⟨gb218, 0, none⟩ = some (.slice Ao16 x219000_1.length co16) ∧ w22.cell? ⟨gb218, 1, none⟩ = some (.slice Ao17 x219001_1.length co17) ∧ w22.cell? (ad219.add ((x5_1).toNat * 3)) = some (.int .i64 ((rd_T37 l0 x5_1).f0)) ∧ w22.cell? ⟨(ad219.add ((x5_1).toNat * 3)).block, (ad219.add ((x5_1).toNat * 3)).off + 1, none⟩ = some (.string ((rd_T37 l0 x5_1).f1)) ∧ w22.cell? ⟨(ad219.add ((x5_1).toNat * 3)).block, (ad219.add ((x5_1).toNat * 3)).off + 2, none⟩ = some (.slice A222_2 ((rd_T37 l0 x5_1).f2).length c222_2) := hS_
                obtain ⟨Ao23, co23, eo23⟩ := Kd.V_slice HO225.out
                (first | subst eo23 | (injection eo23 with f1_ f2_ f3_; have f4_ := f1_.symm; have f5_ := f3_.symm; clear f1_ f2_ f3_; subst f4_; subst f5_))
                obtain ⟨Ao25, co25, eo25⟩ := Kd.V_slice HO228.out
                (first | subst eo25 | (injection eo25 with f1_ f2_ f3_; have f4_ := f1_.symm; have f5_ := f3_.symm; clear f1_ f2_ f3_; subst f4_; subst f5_))
                refine norm_ (a' := ?_) ?_ ?_
                rotate_left
                · simp only [putAll, Act.put, List.setIfInBounds_toArray, List.set_cons_zero, List.set_cons_succ]
                  rfl
                refine one_ (i := 10) (N := none) #[true, true, true, true, true, true, true, true, true, true, true, false] rfl rfl (one_of HT_.out (by kernel_rfl)) (by decide) (fun K hK => ?_)
                have hs24 : w22.cell? ⟨gb230, 0, none⟩ = some (.slice none 0 0) := (blk_cell BK230.out 0).trans rfl
                have hfs24 := blk_frozen BK230.out 0
                have hns24_0 := NB218_230.out
                have hms24_0 := NB230_218.out
                have hs26 : w22.cell? ⟨gb230, 1, none⟩ = some (.slice none 0 0) := (blk_cell BK230.out 1).trans rfl
                have hfs26 := blk_frozen BK230.out 1
                have hns26_0 := NB218_230.out
                have hms26_0 := NB230_218.out
                refine skip_ (w1 := ?_) (by rfl) rfl ?_ ?_
                rotate_left
                · go_simp
                  rfl
                refine hK.out _ _ ⟨((cell_far (p := ⟨gb230, _, none⟩) NB218_230.out _).trans (((cell_far (p := ⟨gb230, _, none⟩) NB218_230.out _).trans (hHeld.1)))), ((cell_far (p := ⟨gb230, _, none⟩) NB218_230.out _).trans (((cell_far (p := ⟨gb230, _, none⟩) NB218_230.out _).trans (hHeld.2.1)))), ((cell_far (p := ⟨gb230, _, none⟩) (by first | exact Nat.ne_of_lt (Nat.lt_of_lt_of_le (by have := World.block_lt_of_cell? _ _ hw222_0; first | rwa [add_block] at this | exact this) GW230.out) | (rw [add_block]; exact Nat.ne_of_lt (Nat.lt_of_lt_of_le (by have := World.block_lt_of_cell? _ _ hw222_0; first | rwa [add_block] at this | exact this) GW230.out)) | (show (Addr.add _ _).block ≠ _; rw [add_block]; exact Nat.ne_of_lt (Nat.lt_of_lt_of_le (by have := World.block_lt_of_cell? _ _ hw222_0; first | rwa [add_block] at this | exact this) GW230.out)) | (dsimp only; exact Nat.ne_of_lt (Nat.lt_of_lt_of_le (by have := World.block_lt_of_cell? _ _ hw222_0; first | rwa [add_block] at this | exact this) GW230.out))) _).trans (((cell_far (p := ⟨gb230, _, none⟩) (by first | exact Nat.ne_of_lt (Nat.lt_of_lt_of_le (by have := World.block_lt_of_cell? _ _ hw222_0; first | rwa [add_block] at this | exact this) GW230.out) | (rw [add_block]; exact Nat.ne_of_lt (Nat.lt_of_lt_of_le (by have := World.block_lt_of_cell? _ _ hw222_0; first | rwa [add_block] at this | exact this) GW230.out)) | (show (Addr.add _ _).block ≠ _; rw [add_block]; exact Nat.ne_of_lt (Nat.lt_of_lt_of_le (by have := World.block_lt_of_cell? _ _ hw222_0; first | rwa [add_block] at this | exact this) GW230.out)) | (dsimp only; exact Nat.ne_of_lt (Nat.lt_of_lt_of_le (by have := World.block_lt_of_cell? _ _ hw222_0; first | rwa [add_block] at this | exact this) GW230.out))) _).trans (hHeld.2.2.1)))), ((cell_far (p := ⟨gb230, _, none⟩) (by first | exact Nat.ne_of_lt (Nat.lt_of_lt_of_le (by have := World.block_lt_of_cell? _ _ hw222_1; first | rwa [add_block] at this | exact this) GW230.out) | (rw [add_block]; exact Nat.ne_of_lt (Nat.lt_of_lt_of_le (by have := World.block_lt_of_cell? _ _ hw222_1; first | rwa [add_block] at this | exact this) GW230.out)) | (show (Addr.add _ _).block ≠ _; rw [add_block]; exact Nat.ne_of_lt (Nat.lt_of_lt_of_le (by have := World.block_lt_of_cell? _ _ hw222_1; first | rwa [add_block] at this | exact this) GW230.out)) | (dsimp only; exact Nat.ne_of_lt (Nat.lt_of_lt_of_le (by have := World.block_lt_of_cell? _ _ hw222_1; first | rwa [add_block] at this | exact this) GW230.out))) _).trans (((cell_far (p := ⟨gb230, _, none⟩) (by first | exact Nat.ne_of_lt (Nat.lt_of_lt_of_le (by have := World.block_lt_of_cell? _ _ hw222_1; first | rwa [add_block] at this | exact this) GW230.out) | (rw [add_block]; exact Nat.ne_of_lt (Nat.lt_of_lt_of_le (by have := World.block_lt_of_cell? _ _ hw222_1; first | rwa [add_block] at this | exact this) GW230.out)) | (show (Addr.add _ _).block ≠ _; rw [add_block]; exact Nat.ne_of_lt (Nat.lt_of_lt_of_le (by have := World.block_lt_of_cell? _ _ hw222_1; first | rwa [add_block] at this | exact this) GW230.out)) | (dsimp only; exact Nat.ne_of_lt (Nat.lt_of_lt_of_le (by have := World.block_lt_of_cell? _ _ hw222_1; first | rwa [add_block] at this | exact this) GW230.out))) _).trans (hHeld.2.2.2.1)))), ((cell_far (p := ⟨gb230, _, none⟩) (by first | exact Nat.ne_of_lt (Nat.lt_of_lt_of_le (by have := World.block_lt_of_cell? _ _ hw222_2; first | rwa [add_block] at this | exact this) GW230.out) | (rw [add_block]; exact Nat.ne_of_lt (Nat.lt_of_lt_of_le (by have := World.block_lt_of_cell? _ _ hw222_2; first | rwa [add_block] at this | exact this) GW230.out)) | (show (Addr.add _ _).block ≠ _; rw [add_block]; exact Nat.ne_of_lt (Nat.lt_of_lt_of_le (by have := World.block_lt_of_cell? _ _ hw222_2; first | rwa [add_block] at this | exact this) GW230.out)) | (dsimp only; exact Nat.ne_of_lt (Nat.lt_of_lt_of_le (by have := World.block_lt_of_cell? _ _ hw222_2; first | rwa [add_block] at this | exact this) GW230.out))) _).trans (((cell_far (p := ⟨gb230, _, none⟩) (by first | exact Nat.ne_of_lt (Nat.lt_of_lt_of_le (by have := World.block_lt_of_cell? _ _ hw222_2; first | rwa [add_block] at this | exact this) GW230.out) | (rw [add_block]; exact Nat.ne_of_lt (Nat.lt_of_lt_of_le (by have := World.block_lt_of_cell? _ _ hw222_2; first | rwa [add_block] at this | exact this) GW230.out)) | (show (Addr.add _ _).block ≠ _; rw [add_block]; exact Nat.ne_of_lt (Nat.lt_of_lt_of_le (by have := World.block_lt_of_cell? _ _ hw222_2; first | rwa [add_block] at this | exact this) GW230.out)) | (dsimp only; exact Nat.ne_of_lt (Nat.lt_of_lt_of_le (by have := World.block_lt_of_cell? _ _ hw222_2; first | rwa [add_block] at this | exact this) GW230.out))) _).trans (hHeld.2.2.2.2))))⟩ (fun hHeld => ?_)
                clear hK K
                refine pure_ (i := 11) (N := some 9) (v := ?_) (a' := ?_) #[true, true, true, true, true, true, true, true, true, true, true, true] rfl rfl (any_of HT_.out (by kernel_rfl)) (fun _ _ _ h => h) (Or.inl ⟨by rfl, ?_⟩) ?_ ?_
                rotate_left
                · intro w'
                  go_simp
                  with_reducible rfl
                rotate_left
                · simp only [Act.put, List.setIfInBounds_toArray, List.set_cons_zero, List.set_cons_succ, i64_w, i32_w]
                  rfl
                refine done_ (done_of HT_.out (by kernel_rfl)) ?_
                try go_wp2
                have n0_ : Aside0 (Kd.V k68 68 ((w22.setCell ⟨gb230, 0, none⟩ (.slice Ao23 t223.length co23)).setCell ⟨gb230, 1, none⟩ (.slice Ao25 t226.length co25)) w.heap.size (fun k_ => k_ ≠ gb218 ∧ k_ ≠ gb230) (.slice Ao16 x219000_1.length co16) x219000_1) := ⟨by (with_reducible repeat (first | apply Kd.V_alloc | apply Kd.V_drewN | apply Kd.V_drew)); exact Kd.V_mono (Kd.V_far (p := ⟨gb230, 1, none⟩) (Kd.V_far (p := ⟨gb230, 0, none⟩) (Kd.V_mono HO_219000.out (fun k_ hk => (⟨hk, hk.2⟩ : _ ∧ k_ ≠ gb230))) (fun _ hk => hk.2) (.slice Ao23 t223.length co23)) (fun _ hk => hk.2) (.slice Ao25 t226.length co25)) (fun _ hk => ⟨hk.1.1, hk.1.2⟩)⟩
                have n1_ : Aside0 (Kd.V k68 68 ((w22.setCell ⟨gb230, 0, none⟩ (.slice Ao23 t223.length co23)).setCell ⟨gb230, 1, none⟩ (.slice Ao25 t226.length co25)) w.heap.size (fun k_ => k_ ≠ gb218 ∧ k_ ≠ gb230) (.slice Ao17 x219001_1.length co17) x219001_1) := ⟨by (with_reducible repeat (first | apply Kd.V_alloc | apply Kd.V_drewN | apply Kd.V_drew)); exact Kd.V_mono (Kd.V_far (p := ⟨gb230, 1, none⟩) (Kd.V_far (p := ⟨gb230, 0, none⟩) (Kd.V_mono HO_219001.out (fun k_ hk => (⟨hk, hk.2⟩ : _ ∧ k_ ≠ gb230))) (fun _ hk => hk.2) (.slice Ao23 t223.length co23)) (fun _ hk => hk.2) (.slice Ao25 t226.length co25)) (fun _ hk => ⟨hk.1.1, hk.1.2⟩)⟩
                have n2_ : Aside0 (Kd.V k68 68 ((w22.setCell ⟨gb230, 0, none⟩ (.slice Ao23 t223.length co23)).setCell ⟨gb230, 1, none⟩ (.slice Ao25 t226.length co25)) w.heap.size (fun k_ => k_ ≠ gb218 ∧ k_ ≠ gb230) (.slice Ao23 t223.length co23) t223) := ⟨by (with_reducible repeat (first | apply Kd.V_alloc | apply Kd.V_drewN | apply Kd.V_drew)); exact Kd.V_mono (Kd.V_far (p := ⟨gb230, 1, none⟩) (Kd.V_far (p := ⟨gb230, 0, none⟩) (Kd.V_mono HO225.out (fun k_ hk => (⟨hk, hk.2⟩ : _ ∧ k_ ≠ gb230))) (fun _ hk => hk.2) (.slice Ao23 t223.length co23)) (fun _ hk => hk.2) (.slice Ao25 t226.length co25)) (fun _ hk => ⟨hk.1.1, hk.1.2⟩)⟩
                have n3_ : Aside0 (Kd.V k68 68 ((w22.setCell ⟨gb230, 0, none⟩ (.slice Ao23 t223.length co23)).setCell ⟨gb230, 1, none⟩ (.slice Ao25 t226.length co25)) w.heap.size (fun k_ => k_ ≠ gb218 ∧ k_ ≠ gb230) (.slice Ao25 t226.length co25) t226) := ⟨by (with_reducible repeat (first | apply Kd.V_alloc | apply Kd.V_drewN | apply Kd.V_drew)); exact Kd.V_mono (Kd.V_far (p := ⟨gb230, 1, none⟩) (Kd.V_far (p := ⟨gb230, 0, none⟩) (Kd.V_mono HO228.out (fun k_ hk => (⟨hk, hk.2⟩ : _ ∧ k_ ≠ gb230))) (fun _ hk => hk.2) (.slice Ao23 t223.length co23)) (fun _ hk => hk.2) (.slice Ao25 t226.length co25)) (fun _ hk => ⟨hk.1.1, hk.1.2⟩)⟩
                have n4_ : Aside0 (((w22.setCell ⟨gb230, 0, none⟩ (.slice Ao23 t223.length co23)).setCell ⟨gb230, 1, none⟩ (.slice Ao25 t226.length co25)).heap[gb218]? = some (.cells #[.slice Ao16 x219000_1.length co16, .slice Ao17 x219001_1.length co17] 24 (0, 0))) := ⟨by (with_reducible repeat (first | refine blk_drewN ?_ _ | refine blk_drew ?_ | refine blk_alloc ?_ _)); refine blk_far ?_ NB218_230.out _; (with_reducible repeat (first | refine blk_drewN ?_ _ | refine blk_drew ?_ | refine blk_alloc ?_ _)); refine blk_far ?_ NB218_230.out _; (with_reducible repeat (first | refine blk_drewN ?_ _ | refine blk_drew ?_ | refine blk_alloc ?_ _)); exact BK218.out⟩
                have n5_ : Aside0 (((w22.setCell ⟨gb230, 0, none⟩ (.slice Ao23 t223.length co23)).setCell ⟨gb230, 1, none⟩ (.slice Ao25 t226.length co25)).heap[gb230]? = some (.cells #[.slice Ao23 t223.length co23, .slice Ao25 t226.length co25] 24 (0, 0))) := ⟨by (with_reducible repeat (first | refine blk_drewN ?_ _ | refine blk_drew ?_ | refine blk_alloc ?_ _)); refine blk_put (cs := #[.slice Ao23 t223.length co23, .slice none 0 0]) ?_ 1 _ rfl; (with_reducible repeat (first | refine blk_drewN ?_ _ | refine blk_drew ?_ | refine blk_alloc ?_ _)); refine blk_put (cs := #[.slice none 0 0, .slice none 0 0]) ?_ 0 _ rfl; (with_reducible repeat (first | refine blk_drewN ?_ _ | refine blk_drew ?_ | refine blk_alloc ?_ _)); exact BK230.out⟩
                have n6_ : Aside0 (Below w.heap.size w ((w22.setCell ⟨gb230, 0, none⟩ (.slice Ao23 t223.length co23)).setCell ⟨gb230, 1, none⟩ (.slice Ao25 t226.length co25))) := ⟨by repeat (first | (with_reducible first | exact HB.out | apply below_alloc | apply pw_below_drewN | apply below_drew1 | refine below_set ?_ GE218.out | refine below_set ?_ GE230.out) | exact HB.out)⟩
                (try clear HO_219000)
                (try clear HO_219001)
                (try clear HO225)
                (try clear HO228)
                (try clear BK218)
                (try clear BK230)
                (try clear HB)
                generalize ((w22.setCell ⟨gb230, 0, none⟩ (.slice Ao23 t223.length co23)).setCell ⟨gb230, 1, none⟩ (.slice Ao25 t226.length co25)) = w27 at n0_ n1_ n2_ n3_ n4_ n5_ n6_ ⊢
                have HO_219000 := n0_
                have HO_219001 := n1_
                have HO225 := n2_
                have HO228 := n3_
                have BK218 := n4_
                have BK230 := n5_
                have HB := n6_
                clear n0_ n1_ n2_ n3_ n4_ n5_ n6_
                have n0_ := Aside0.mk (Kd.V_drew HO_219000.out)
                have n1_ := Aside0.mk (Kd.V_drew HO_219001.out)
                have n2_ := Aside0.mk (Kd.V_drew HO225.out)
                have n3_ := Aside0.mk (Kd.V_drew HO228.out)
                have n4_ := Aside0.mk (blk_drew BK218.out)
                have n5_ := Aside0.mk (blk_drew BK230.out)
                have n6_ := Aside0.mk (below_drew1 HB.out)
                clear HO_219000
                clear HO_219001
                clear HO225
                clear HO228
                clear BK218
                clear BK230
                clear HB
                have HO_219000 := n0_
                have HO_219001 := n1_
                have HO225 := n2_
                have HO228 := n3_
                have BK218 := n4_
                have BK230 := n5_
                have HB := n6_
                clear n0_ n1_ n2_ n3_ n4_ n5_ n6_
                have p231 : 0 ≤ (x5_1 : Int) := of_decide_eq_true (by first | (with_reducible assumption) | assumption)
                have q231 : x5_1 < (l0.length : Int) := of_decide_eq_true (by first | (with_reducible assumption) | assumption)
                obtain ⟨ad231, A231_2, c231_2, e231, hx231_0, hx231_1, hx231_2, hl231_2, hi231_2⟩ := at_T37 HR0.out x5_1 p231 q231
                have hw231_2 := hx231_2
                have hw231_1 := hx231_1
                have hw231_0 := hx231_0
                obtain rfl : ad219 = ad231 := (by injection e231)
                replace hx231_0 := (HB.out.cell (World.block_lt_of_cell? w _ hx231_0)).trans hx231_0
                replace hx231_1 := (HB.out.cell (World.block_lt_of_cell? w _ hx231_1)).trans hx231_1
                replace hx231_2 := (HB.out.cell (World.block_lt_of_cell? w _ hx231_2)).trans hx231_2
                have HR231_2 := Aside0.mk hi231_2
                have HC231_2 := Aside0.mk hl231_2
                clear hi231_2 hl231_2
                replace p231 := eq_true p231
                replace q231 := eq_true q231
                refine start_ (n := 12) (S := fun w' => w'.cell? ⟨gb230, 0, none⟩ = some (.slice Ao23 t223.length co23) ∧ w'.cell? ⟨gb230, 1, none⟩ = some (.slice Ao25 t226.length co25) ∧ w'.cell? (ad219.add ((x5_1).toNat * 3)) = some (.int .i64 ((rd_T37 l0 x5_1).f0)) ∧ w'.cell? ⟨(ad219.add ((x5_1).toNat * 3)).block, (ad219.add ((x5_1).toNat * 3)).off + 1, none⟩ = some (.string ((rd_T37 l0 x5_1).f1)) ∧ w'.cell? ⟨(ad219.add ((x5_1).toNat * 3)).block, (ad219.add ((x5_1).toNat * 3)).off + 2, none⟩ = some (.slice A231_2 ((rd_T37 l0 x5_1).f2).length c231_2)) (ds := []) #[false, false, false, false, false, false, false, false, false, false, false, false] (by kernel_rfl) rfl rfl ⟨(blk_cell BK230.out 0).trans rfl, (blk_cell BK230.out 1).trans rfl, ((HB.out.cell (World.block_lt_of_cell? w _ hw231_0)).trans hw231_0), ((HB.out.cell (World.block_lt_of_cell? w _ hw231_1)).trans hw231_1), ((HB.out.cell (World.block_lt_of_cell? w _ hw231_2)).trans hw231_2)⟩ (fun hHeld => ?_); refine with_tabW stanchionlaw07_BatchOnce.tab8 stanchionlaw07_BatchOnce.bits8 (fun HT_ HW_ => ?_)
                generalize w27.drew = w28 at HO_219000 HO_219001 HO225 HO228 BK218 BK230 HB HR231_2 hx231_0 hx231_1 hx231_2 hHeld ⊢
                refine pure_ (i := 1) (N := some 47) (v := ?_) (a' := ?_) #[false, true, false, false, false, false, false, false, false, false, false, false] rfl rfl (any_of HT_.out (by kernel_rfl)) (fun _ _ _ h => h) (Or.inl ⟨by rfl, ?_⟩) ?_ ?_
                rotate_left
                · intro w'
                  go_simp
                  with_reducible rfl
                rotate_left
                · simp only [Act.put, List.setIfInBounds_toArray, List.set_cons_zero, List.set_cons_succ, i64_w, i32_w]
                  rfl
                refine pure_ (i := 2) (N := some 48) (v := ?_) (a' := ?_) #[false, true, true, false, false, false, false, false, false, false, false, false] rfl rfl (any_of HT_.out (by kernel_rfl)) (fun _ _ _ h => h) (Or.inl ⟨by rfl, ?_⟩) ?_ ?_
                rotate_left
                · intro w'
                  go_simp
                  with_reducible rfl
                rotate_left
                · simp only [Act.put, List.setIfInBounds_toArray, List.set_cons_zero, List.set_cons_succ, i64_w, i32_w]
                  rfl
                refine pure_ (i := 3) (N := some 49) (v := ?_) (a' := ?_) #[false, true, true, true, false, false, false, false, false, false, false, false] rfl rfl (any_of HT_.out (by kernel_rfl)) (fun _ _ _ h => h) (Or.inl ⟨by rfl, ?_⟩) ?_ ?_
                rotate_left
                · intro w'
                  go_simp
                  with_reducible rfl
                rotate_left
                · simp only [Act.put, List.setIfInBounds_toArray, List.set_cons_zero, List.set_cons_succ, i64_w, i32_w]
                  rfl
                refine pure_ (i := 4) (N := some 50) (v := ?_) (a' := ?_) #[false, true, true, true, true, false, false, false, false, false, false, false] rfl rfl (any_of HT_.out (by kernel_rfl)) (fun _ _ _ h => h) (Or.inl ⟨by rfl, ?_⟩) ?_ ?_
                rotate_left
                · intro w'
                  go_simp
                  with_reducible rfl
                rotate_left
                · simp only [Act.put, List.setIfInBounds_toArray, List.set_cons_zero, List.set_cons_succ, i64_w, i32_w]
                  rfl
                refine take_ (i := 0) (N := some 46) (v := ?_) (a' := ?_) #[true, true, true, true, true, false, false, false, false, false, false, false] rfl rfl (take_ofW HT_.out HW_.out (by kernel_rfl)) (fun _ _ _ h => h) (Or.inl ⟨by rfl, ?_⟩) hHeld ?_ ?_
                rotate_left
                · rintro w' ⟨s0, s1, s2, s3, s4⟩
                  go_simp
                  with_reducible rfl
                rotate_left
                · simp only [Act.put, List.setIfInBounds_toArray, List.set_cons_zero, List.set_cons_succ, i64_w, i32_w]
                  rfl
                refine take_ (i := 5) (N := some 51) (v := ?_) (a' := ?_) #[true, true, true, true, true, true, false, false, false, false, false, false] rfl rfl (take_ofW HT_.out HW_.out (by kernel_rfl)) (fun _ _ _ h => h) (Or.inl ⟨by rfl, ?_⟩) hHeld ?_ ?_
                rotate_left
                · rintro w' ⟨s0, s1, s2, s3, s4⟩
                  go_simp
                  with_reducible rfl
                rotate_left
                · simp only [Act.put, List.setIfInBounds_toArray, List.set_cons_zero, List.set_cons_succ, i64_w, i32_w]
                  rfl
                refine one_ (i := 6) (N := some 52) #[true, true, true, true, true, true, true, false, false, false, false, false] rfl rfl (one_of HT_.out (by kernel_rfl)) (by decide) (fun K hK => ?_)
                refine goes_ Try.func27 (by kernel_rfl) rfl #[.agg #[.slice Ao23 t223.length co23, .slice Ao25 t226.length co25], .string ((rd_T37 l0 x5_1).f1)] (by rfl) rfl rfl (by (try simp only [List.map_toArray, List.map_cons, List.map_nil]); first | done | rfl | (simp only [List.length_drop, List.length_take]; rfl)) ?_
                with_reducible refine (batch_Decided.calls _ _ t223 _ _ t226 ((rd_T37 l0 x5_1).f1) t232 t233 _ ?side1 ?side2 ?side3 ?side4 A13.out).mono ?_
                (case side1 => repeat (first | exact (Kd.V_reads' HO225.out).2.2 | (with_reducible refine Kd.C_alloc ?_ _) | (with_reducible refine Kd.C_drewN ?_ _) | (with_reducible refine Kd.C_drew ?_)))
                (case side2 => exact (Kd.V_reads' HO225.out).2.1)
                (case side3 => repeat (first | exact (Kd.V_reads' HO228.out).2.2 | (with_reducible refine Kd.C_alloc ?_ _) | (with_reducible refine Kd.C_drewN ?_ _) | (with_reducible refine Kd.C_drew ?_)))
                (case side4 => exact (Kd.V_reads' HO228.out).2.1)
                rintro e w29 ⟨rfl, hb⟩
                refine ⟨_, rfl, ?_⟩
                have n0_ := Aside0.mk (Kd.V_below (by (with_reducible repeat (first | apply Kd.V_alloc | apply Kd.V_drewN | apply Kd.V_drew)); exact HO_219000.out) hb)
                have n1_ := Aside0.mk (Kd.V_below (by (with_reducible repeat (first | apply Kd.V_alloc | apply Kd.V_drewN | apply Kd.V_drew)); exact HO_219001.out) hb)
                have n2_ := Aside0.mk (Kd.V_below (by (with_reducible repeat (first | apply Kd.V_alloc | apply Kd.V_drewN | apply Kd.V_drew)); exact HO225.out) hb)
                have n3_ := Aside0.mk (Kd.V_below (by (with_reducible repeat (first | apply Kd.V_alloc | apply Kd.V_drewN | apply Kd.V_drew)); exact HO228.out) hb)
                have n4_ := Aside0.mk (blk_below (g := gb218) (o := .cells #[.slice Ao16 x219000_1.length co16, .slice Ao17 x219001_1.length co17] 24 (0, 0)) (by (with_reducible repeat (first | refine blk_drewN ?_ _ | refine blk_drew ?_ | refine blk_alloc ?_ _)); exact BK218.out) hb)
                have n5_ := Aside0.mk (blk_below (g := gb230) (o := .cells #[.slice Ao23 t223.length co23, .slice Ao25 t226.length co25] 24 (0, 0)) (by (with_reducible repeat (first | refine blk_drewN ?_ _ | refine blk_drew ?_ | refine blk_alloc ?_ _)); exact BK230.out) hb)
                have n6_ := Aside0.mk (below_step (by repeat (first | (with_reducible first | exact HB.out | apply below_alloc | apply pw_below_drewN | apply below_drew1 | refine below_set ?_ GE218.out | refine below_set ?_ GE230.out) | exact HB.out)) hb)
                clear HO_219000
                clear HO_219001
                clear HO225
                clear HO228
                clear BK218
                clear BK230
                clear HB
                have HO_219000 := n0_
                have HO_219001 := n1_
                have HO225 := n2_
                have HO228 := n3_
                have BK218 := n4_
                have BK230 := n5_
                have HB := n6_
                clear n0_ n1_ n2_ n3_ n4_ n5_ n6_
                (try clear hb)
                (try clear hb2)
                (try clear hk)
                (try clear hi)
                refine hK.out _ _ ⟨(blk_cell BK230.out 0).trans rfl, (blk_cell BK230.out 1).trans rfl, ((HB.out.cell (World.block_lt_of_cell? w _ hw231_0)).trans hw231_0), ((HB.out.cell (World.block_lt_of_cell? w _ hw231_1)).trans hw231_1), ((HB.out.cell (World.block_lt_of_cell? w _ hw231_2)).trans hw231_2)⟩ (fun hHeld => ?_)
                clear hK K
                refine norm_ (a' := ?_) ?_ ?_
                rotate_left
                · show Act.put _ (some 52) _ = _
                  simp only [Act.put, List.setIfInBounds_toArray, List.set_cons_zero, List.set_cons_succ, i64_w, i32_w]
                  rfl
                refine pure_ (i := 7) (N := some 45) (v := ?_) (a' := ?_) #[true, true, true, true, true, true, true, true, false, false, false, false] rfl rfl (any_of HT_.out (by kernel_rfl)) (fun _ _ _ h => h) (Or.inl ⟨by rfl, ?_⟩) ?_ ?_
                rotate_left
                · intro w'
                  go_simp
                  with_reducible rfl
                rotate_left
                · simp only [Act.put, List.setIfInBounds_toArray, List.set_cons_zero, List.set_cons_succ, i64_w, i32_w]
                  rfl
                refine pure_ (i := 8) (N := some 53) (v := ?_) (a' := ?_) #[true, true, true, true, true, true, true, true, true, false, false, false] rfl rfl (any_of HT_.out (by kernel_rfl)) (fun _ _ _ h => h) (Or.inl ⟨by rfl, ?_⟩) ?_ ?_
                rotate_left
                · intro w'
                  go_simp
                  with_reducible rfl
                rotate_left
                · simp only [Act.put, List.setIfInBounds_toArray, List.set_cons_zero, List.set_cons_succ, i64_w, i32_w]
                  rfl
                refine pure_ (i := 9) (N := some 54) (v := ?_) (a' := ?_) #[true, true, true, true, true, true, true, true, true, true, false, false] rfl rfl (any_of HT_.out (by kernel_rfl)) (fun _ _ _ h => h) (Or.inl ⟨by rfl, ?_⟩) ?_ ?_
                rotate_left
                · intro w'
                  go_simp
                  with_reducible rfl
                rotate_left
                · simp only [Act.put, List.setIfInBounds_toArray, List.set_cons_zero, List.set_cons_succ, i64_w, i32_w]
                  rfl
                refine pure_ (i := 10) (N := some 10) (v := ?_) (a' := ?_) #[true, true, true, true, true, true, true, true, true, true, true, false] rfl rfl (any_of HT_.out (by kernel_rfl)) (fun _ _ _ h => h) (Or.inl ⟨by rfl, ?_⟩) ?_ ?_
                rotate_left
                · intro w'
                  go_simp
                  with_reducible rfl
                rotate_left
                · simp only [Act.put, List.setIfInBounds_toArray, List.set_cons_zero, List.set_cons_succ, i64_w, i32_w]
                  rfl
                refine pure_ (i := 11) (N := some 11) (v := ?_) (a' := ?_) #[true, true, true, true, true, true, true, true, true, true, true, true] rfl rfl (any_of HT_.out (by kernel_rfl)) (fun _ _ _ h => h) (Or.inl ⟨by rfl, ?_⟩) ?_ ?_
                rotate_left
                · intro w'
                  go_simp
                  with_reducible rfl
                rotate_left
                · simp only [Act.put, List.setIfInBounds_toArray, List.set_cons_zero, List.set_cons_succ, i64_w, i32_w]
                  rfl
                refine done_ (done_of HT_.out (by kernel_rfl)) ?_
                go_upto_region 9 with (fail)
                go_cut [74] (fun v74 wc => ∃ (kq : Nat) (x74_13 : Bool), v74 = .bool x74_13 ∧ Aside0 (stanchionlaw07_BatchOnce.j2 kq l0 t217 x5_1 t229 t232 t233 x74_13 t223 t226 = some r) ∧ Aside0 (kq ≤ kj5) ∧ Aside0 (Kd.V k68 68 wc w.heap.size (fun k_ => k_ ≠ gb218 ∧ k_ ≠ gb230) (.slice Ao16 x219000_1.length co16) x219000_1) ∧ Aside0 (Kd.V k68 68 wc w.heap.size (fun k_ => k_ ≠ gb218 ∧ k_ ≠ gb230) (.slice Ao17 x219001_1.length co17) x219001_1) ∧ Aside0 (Kd.V k68 68 wc w.heap.size (fun k_ => k_ ≠ gb218 ∧ k_ ≠ gb230) (.slice Ao23 t223.length co23) t223) ∧ Aside0 (Kd.V k68 68 wc w.heap.size (fun k_ => k_ ≠ gb218 ∧ k_ ≠ gb230) (.slice Ao25 t226.length co25) t226) ∧ Aside0 (wc.heap[gb218]? = some (.cells #[(.slice Ao16 x219000_1.length co16), (.slice Ao17 x219001_1.length co17)] 24 (0, 0))) ∧ Aside0 (wc.heap[gb230]? = some (.cells #[(.slice Ao23 t223.length co23), (.slice Ao25 t226.length co25)] 24 (0, 0))) ∧ Aside0 (Below w.heap.size w wc))
                case first =>
                  have H := HC14.out
                  clear HC14
                  by_cases c30 : t221 = true
                  · subst c30
                    have H1 : (if t229 = 0 then (stanchionlaw07_BatchOnce.j2 kj5 l0 t217 x5_1 t229 t232 t233 true t223 t226) else (if t233 = true then (if t232.toList = t220.toList then ((batch_Same.f kj5 x219000_1 x219001_1 t223 t226).bind fun t234 => (stanchionlaw07_BatchOnce.j2 kj5 l0 t217 x5_1 t229 t232 t233 (!t234) t223 t226)) else (stanchionlaw07_BatchOnce.j2 kj5 l0 t217 x5_1 t229 t232 t233 true t223 t226)) else (stanchionlaw07_BatchOnce.j2 kj5 l0 t217 x5_1 t229 t232 t233 true t223 t226))) = some r := by rw [if_pos rfl] at H; exact H
                    clear H
                    have H := H1
                    clear H1
                    by_cases c31 : t229 = 0
                    · rw [if_pos c31] at H
                      have c31b0 : (t229 == 0) = true := beq_iff_eq.mpr c31
                      have c31b1 : (t229 != 0) = false := bne_eq_false_iff_eq.mpr c31
                      clear c31
                      (first | rw [c31b0] | (simp only [i64_w, i32_w]; rw [c31b0]) | skip)
                      have H' := Aside0.mk H
                      clear H
                      go_wp2
                      go_meet
                      case rel => exact ⟨_, (true), (by first | rfl | (simp; done) | (simp [*]; done)), H', ⟨by have := HK1.out; have := HJ5.out; first | omega | exact Nat.le_refl _⟩, ⟨by (with_reducible repeat (first | apply Kd.V_alloc | apply Kd.V_drewN | apply Kd.V_drew)); exact HO_219000.out⟩, ⟨by (with_reducible repeat (first | apply Kd.V_alloc | apply Kd.V_drewN | apply Kd.V_drew)); exact HO_219001.out⟩, ⟨by (with_reducible repeat (first | apply Kd.V_alloc | apply Kd.V_drewN | apply Kd.V_drew)); exact HO225.out⟩, ⟨by (with_reducible repeat (first | apply Kd.V_alloc | apply Kd.V_drewN | apply Kd.V_drew)); exact HO228.out⟩, ⟨by (with_reducible repeat (first | refine blk_drewN ?_ _ | refine blk_drew ?_ | refine blk_alloc ?_ _)); exact BK218.out⟩, ⟨by (with_reducible repeat (first | refine blk_drewN ?_ _ | refine blk_drew ?_ | refine blk_alloc ?_ _)); exact BK230.out⟩, ⟨by repeat (first | (with_reducible first | exact HB.out | apply below_alloc | apply pw_below_drewN | apply below_drew1 | refine below_set ?_ GE218.out | refine below_set ?_ GE230.out) | exact HB.out)⟩⟩
                    · rw [if_neg c31] at H
                      have c31b0 : (t229 == 0) = false := beq_eq_false_iff_ne.mpr c31
                      have c31b1 : (t229 != 0) = true := bne_iff_ne.mpr c31
                      (first | rw [c31b0] | (simp only [i64_w, i32_w]; rw [c31b0]) | skip)
                      by_cases c32 : t233 = true
                      · subst c32
                        have H1 : (if t232.toList = t220.toList then ((batch_Same.f kj5 x219000_1 x219001_1 t223 t226).bind fun t234 => (stanchionlaw07_BatchOnce.j2 kj5 l0 t217 x5_1 t229 t232 true (!t234) t223 t226)) else (stanchionlaw07_BatchOnce.j2 kj5 l0 t217 x5_1 t229 t232 true true t223 t226)) = some r := by rw [if_pos rfl] at H; exact H
                        clear H
                        have H := H1
                        clear H1
                        by_cases c33 : t232.toList = t220.toList
                        · rw [if_pos c33] at H
                          have c33b0 : (t232.toList == t220.toList) = true := beq_iff_eq.mpr c33
                          have c33b1 : (t232.toList != t220.toList) = false := bne_eq_false_iff_eq.mpr c33
                          clear c33
                          replace H := Option.bind_eq_some_iff.mp H
                          obtain ⟨t234, A340, H⟩ := H
                          replace H : (stanchionlaw07_BatchOnce.j2 kj5 l0 t217 x5_1 t229 t232 true (!t234) t223 t226) = some r := H
                          have A34 := Aside0.mk A340
                          clear A340
                          have H' := Aside0.mk H
                          clear H
                          have hnb35 := NB218_230.out
                          have hnc35 := NB230_218.out
                          have hcz36_0 : w29.cell? ⟨gb218, 0, none⟩ = some (.slice Ao16 x219000_1.length co16) := (blk_cell BK218.out 0).trans rfl
                          have hcz36_1 : w29.cell? ⟨gb218, 1, none⟩ = some (.slice Ao17 x219001_1.length co17) := (blk_cell BK218.out 1).trans rfl
                          have hfz36_0 := blk_frozen BK218.out 0
                          have hfz36_1 := blk_frozen BK218.out 1
                          have hcz37_0 : w29.cell? ⟨gb230, 0, none⟩ = some (.slice Ao23 t223.length co23) := (blk_cell BK230.out 0).trans rfl
                          have hcz37_1 : w29.cell? ⟨gb230, 1, none⟩ = some (.slice Ao25 t226.length co25) := (blk_cell BK230.out 1).trans rfl
                          have hfz37_0 := blk_frozen BK230.out 0
                          have hfz37_1 := blk_frozen BK230.out 1
                          go_wp2_with (first | (go_at_call 31; (with_reducible refine (batch_Same.calls kj5 _ _ x219000_1 _ _ x219001_1 _ _ t223 _ _ t226 t234 _ ?side1 ?side2 ?side3 ?side4 ?side5 ?side6 ?side7 ?side8 A34.out).mono ?_); (case side1 => repeat (first | exact (Kd.V_reads' HO_219000.out).2.2 | (with_reducible refine Kd.C_alloc ?_ _) | (with_reducible refine Kd.C_drewN ?_ _) | (with_reducible refine Kd.C_drew ?_))); (case side2 => exact (Kd.V_reads' HO_219000.out).2.1); (case side3 => repeat (first | exact (Kd.V_reads' HO_219001.out).2.2 | (with_reducible refine Kd.C_alloc ?_ _) | (with_reducible refine Kd.C_drewN ?_ _) | (with_reducible refine Kd.C_drew ?_))); (case side4 => exact (Kd.V_reads' HO_219001.out).2.1); (case side5 => repeat (first | exact (Kd.V_reads' HO225.out).2.2 | (with_reducible refine Kd.C_alloc ?_ _) | (with_reducible refine Kd.C_drewN ?_ _) | (with_reducible refine Kd.C_drew ?_))); (case side6 => exact (Kd.V_reads' HO225.out).2.1); (case side7 => repeat (first | exact (Kd.V_reads' HO228.out).2.2 | (with_reducible refine Kd.C_alloc ?_ _) | (with_reducible refine Kd.C_drewN ?_ _) | (with_reducible refine Kd.C_drew ?_))); (case side8 => exact (Kd.V_reads' HO228.out).2.1); rintro e w38 ⟨rfl, hb⟩; have n0_ := Aside0.mk (Kd.V_below (by (with_reducible repeat (first | apply Kd.V_alloc | apply Kd.V_drewN | apply Kd.V_drew)); exact HO_219000.out) hb); have n1_ := Aside0.mk (Kd.V_below (by (with_reducible repeat (first | apply Kd.V_alloc | apply Kd.V_drewN | apply Kd.V_drew)); exact HO_219001.out) hb); have n2_ := Aside0.mk (Kd.V_below (by (with_reducible repeat (first | apply Kd.V_alloc | apply Kd.V_drewN | apply Kd.V_drew)); exact HO225.out) hb); have n3_ := Aside0.mk (Kd.V_below (by (with_reducible repeat (first | apply Kd.V_alloc | apply Kd.V_drewN | apply Kd.V_drew)); exact HO228.out) hb); have n4_ := Aside0.mk (blk_below (g := gb218) (o := .cells #[.slice Ao16 x219000_1.length co16, .slice Ao17 x219001_1.length co17] 24 (0, 0)) (by (with_reducible repeat (first | refine blk_drewN ?_ _ | refine blk_drew ?_ | refine blk_alloc ?_ _)); exact BK218.out) hb); have n5_ := Aside0.mk (blk_below (g := gb230) (o := .cells #[.slice Ao23 t223.length co23, .slice Ao25 t226.length co25] 24 (0, 0)) (by (with_reducible repeat (first | refine blk_drewN ?_ _ | refine blk_drew ?_ | refine blk_alloc ?_ _)); exact BK230.out) hb); have n6_ := Aside0.mk (below_step (by repeat (first | (with_reducible first | exact HB.out | apply below_alloc | apply pw_below_drewN | apply below_drew1 | refine below_set ?_ GE218.out | refine below_set ?_ GE230.out) | exact HB.out)) hb); clear HO_219000; clear HO_219001; clear HO225; clear HO228; clear BK218; clear BK230; clear HB; have HO_219000 := n0_; have HO_219001 := n1_; have HO225 := n2_; have HO228 := n3_; have BK218 := n4_; have BK230 := n5_; have HB := n6_; clear n0_ n1_ n2_ n3_ n4_ n5_ n6_; (try clear hb); (try clear hb2); (try clear hk); (try clear hi)))
                          go_meet
                          case rel => exact ⟨_, (!t234), (by first | rfl | (simp; done) | (simp [*]; done)), H', ⟨by have := HK1.out; have := HJ5.out; first | omega | exact Nat.le_refl _⟩, ⟨by (with_reducible repeat (first | apply Kd.V_alloc | apply Kd.V_drewN | apply Kd.V_drew)); exact HO_219000.out⟩, ⟨by (with_reducible repeat (first | apply Kd.V_alloc | apply Kd.V_drewN | apply Kd.V_drew)); exact HO_219001.out⟩, ⟨by (with_reducible repeat (first | apply Kd.V_alloc | apply Kd.V_drewN | apply Kd.V_drew)); exact HO225.out⟩, ⟨by (with_reducible repeat (first | apply Kd.V_alloc | apply Kd.V_drewN | apply Kd.V_drew)); exact HO228.out⟩, ⟨by (with_reducible repeat (first | refine blk_drewN ?_ _ | refine blk_drew ?_ | refine blk_alloc ?_ _)); exact BK218.out⟩, ⟨by (with_reducible repeat (first | refine blk_drewN ?_ _ | refine blk_drew ?_ | refine blk_alloc ?_ _)); exact BK230.out⟩, ⟨by repeat (first | (with_reducible first | exact HB.out | apply below_alloc | apply pw_below_drewN | apply below_drew1 | refine below_set ?_ GE218.out | refine below_set ?_ GE230.out) | exact HB.out)⟩⟩
                        · rw [if_neg c33] at H
                          have c33b0 : (t232.toList == t220.toList) = false := beq_eq_false_iff_ne.mpr c33
                          have c33b1 : (t232.toList != t220.toList) = true := bne_iff_ne.mpr c33
                          have H' := Aside0.mk H
                          clear H
                          go_wp2
                          go_meet
                          case rel => exact ⟨_, (true), (by first | rfl | (simp; done) | (simp [*]; done)), H', ⟨by have := HK1.out; have := HJ5.out; first | omega | exact Nat.le_refl _⟩, ⟨by (with_reducible repeat (first | apply Kd.V_alloc | apply Kd.V_drewN | apply Kd.V_drew)); exact HO_219000.out⟩, ⟨by (with_reducible repeat (first | apply Kd.V_alloc | apply Kd.V_drewN | apply Kd.V_drew)); exact HO_219001.out⟩, ⟨by (with_reducible repeat (first | apply Kd.V_alloc | apply Kd.V_drewN | apply Kd.V_drew)); exact HO225.out⟩, ⟨by (with_reducible repeat (first | apply Kd.V_alloc | apply Kd.V_drewN | apply Kd.V_drew)); exact HO228.out⟩, ⟨by (with_reducible repeat (first | refine blk_drewN ?_ _ | refine blk_drew ?_ | refine blk_alloc ?_ _)); exact BK218.out⟩, ⟨by (with_reducible repeat (first | refine blk_drewN ?_ _ | refine blk_drew ?_ | refine blk_alloc ?_ _)); exact BK230.out⟩, ⟨by repeat (first | (with_reducible first | exact HB.out | apply below_alloc | apply pw_below_drewN | apply below_drew1 | refine below_set ?_ GE218.out | refine below_set ?_ GE230.out) | exact HB.out)⟩⟩
                      · replace c32 := Bool.eq_false_iff.mpr c32
                        subst c32
                        have H1 : (stanchionlaw07_BatchOnce.j2 kj5 l0 t217 x5_1 t229 t232 false true t223 t226) = some r := by rw [if_neg (show ¬ (false = true) by decide)] at H; exact H
                        clear H
                        have H := H1
                        clear H1
                        have H' := Aside0.mk H
                        clear H
                        go_wp2
                        go_meet
                        case rel => exact ⟨_, (true), (by first | rfl | (simp; done) | (simp [*]; done)), H', ⟨by have := HK1.out; have := HJ5.out; first | omega | exact Nat.le_refl _⟩, ⟨by (with_reducible repeat (first | apply Kd.V_alloc | apply Kd.V_drewN | apply Kd.V_drew)); exact HO_219000.out⟩, ⟨by (with_reducible repeat (first | apply Kd.V_alloc | apply Kd.V_drewN | apply Kd.V_drew)); exact HO_219001.out⟩, ⟨by (with_reducible repeat (first | apply Kd.V_alloc | apply Kd.V_drewN | apply Kd.V_drew)); exact HO225.out⟩, ⟨by (with_reducible repeat (first | apply Kd.V_alloc | apply Kd.V_drewN | apply Kd.V_drew)); exact HO228.out⟩, ⟨by (with_reducible repeat (first | refine blk_drewN ?_ _ | refine blk_drew ?_ | refine blk_alloc ?_ _)); exact BK218.out⟩, ⟨by (with_reducible repeat (first | refine blk_drewN ?_ _ | refine blk_drew ?_ | refine blk_alloc ?_ _)); exact BK230.out⟩, ⟨by repeat (first | (with_reducible first | exact HB.out | apply below_alloc | apply pw_below_drewN | apply below_drew1 | refine below_set ?_ GE218.out | refine below_set ?_ GE230.out) | exact HB.out)⟩⟩
                  · replace c30 := Bool.eq_false_iff.mpr c30
                    subst c30
                    have H1 : (stanchionlaw07_BatchOnce.j2 kj5 l0 t217 x5_1 t229 t232 t233 false t223 t226) = some r := by rw [if_neg (show ¬ (false = true) by decide)] at H; exact H
                    clear H
                    have H := H1
                    clear H1
                    have H' := Aside0.mk H
                    clear H
                    go_wp2
                    go_meet
                    case rel => exact ⟨_, (false), (by first | rfl | (simp; done) | (simp [*]; done)), H', ⟨by have := HK1.out; have := HJ5.out; first | omega | exact Nat.le_refl _⟩, ⟨by (with_reducible repeat (first | apply Kd.V_alloc | apply Kd.V_drewN | apply Kd.V_drew)); exact HO_219000.out⟩, ⟨by (with_reducible repeat (first | apply Kd.V_alloc | apply Kd.V_drewN | apply Kd.V_drew)); exact HO_219001.out⟩, ⟨by (with_reducible repeat (first | apply Kd.V_alloc | apply Kd.V_drewN | apply Kd.V_drew)); exact HO225.out⟩, ⟨by (with_reducible repeat (first | apply Kd.V_alloc | apply Kd.V_drewN | apply Kd.V_drew)); exact HO228.out⟩, ⟨by (with_reducible repeat (first | refine blk_drewN ?_ _ | refine blk_drew ?_ | refine blk_alloc ?_ _)); exact BK218.out⟩, ⟨by (with_reducible repeat (first | refine blk_drewN ?_ _ | refine blk_drew ?_ | refine blk_alloc ?_ _)); exact BK230.out⟩, ⟨by repeat (first | (with_reducible first | exact HB.out | apply below_alloc | apply pw_below_drewN | apply below_drew1 | refine below_set ?_ GE218.out | refine below_set ?_ GE230.out) | exact HB.out)⟩⟩
                case rest =>
                  clear HC14
                  try clear c2
                  try clear p2
                  try clear q2
                  try clear hx2
                  try clear c3
                  try clear c22
                  try clear p22
                  try clear q22
                  try clear hx22
                  try clear c23
                  try clear p23
                  try clear q23
                  try clear hx23
                  try clear c25
                  try clear c27
                  try clear c30
                  try clear c31
                  try clear c31b0
                  try clear c31b1
                  try clear c32
                  try clear c33
                  try clear c33b0
                  try clear c33b1
                  try clear c35
                  try clear hcz36_0
                  try clear hcz36_1
                  try clear hcz37_0
                  try clear hcz37_1
                  try clear hfz36_0
                  try clear hfz36_1
                  try clear hfz37_0
                  try clear hfz37_1
                  try clear hx222_0
                  try clear hx222_1
                  try clear hx222_2
                  try clear hx231_0
                  try clear hx231_1
                  try clear hx231_2
                  try clear p222
                  try clear p231
                  try clear q222
                  try clear q231
                  obtain ⟨kq, x74_13, rfl, HA, HJ13, HO_219000, HO_219001, HO_231000, HO_231001, BK218, BK230, HB⟩ := hcut
                  cases kq with
                  | zero => exact absurd HA.out (by simp [stanchionlaw07_BatchOnce.j2])
                  | succ kj13 =>
                    have H := HA.out
                    clear HA
                    simp only [stanchionlaw07_BatchOnce.j2] at H
                    by_cases c39 : x74_13 = true
                    · subst c39
                      have H1 : (some false) = some r := by rw [if_pos rfl] at H; exact H
                      clear H
                      have H := H1
                      clear H1
                      obtain rfl := Option.some.inj H
                      exact absurd hr_ (by decide)
                    · replace c39 := Bool.eq_false_iff.mpr c39
                      subst c39
                      have H1 : (if t229 = 0 then (if t233 = true then (if 0 ≤ x5_1 then (if x5_1 < (l0.length : Int) then (stanchionlaw07_BatchOnce.j3 kj13 l0 t217 x5_1 t229 ((t232.toList == ([99] : List UInt8)) != (((rd_T37 l0 x5_1).f0) == 1)) t223 t226) else (none)) else (none)) else (stanchionlaw07_BatchOnce.j3 kj13 l0 t217 x5_1 t229 true t223 t226)) else (stanchionlaw07_BatchOnce.j3 kj13 l0 t217 x5_1 t229 false t223 t226)) = some r := by rw [if_neg (show ¬ (false = true) by decide)] at H; exact H
                      clear H
                      have H := H1
                      clear H1
                      have HC40 := Aside0.mk H
                      clear H
                      go_upto_region 11 with (fail)
                      go_cut [91] (fun v91 wc => ∃ (kq : Nat) (x91_39 : Bool), v91 = .bool x91_39 ∧ Aside0 (stanchionlaw07_BatchOnce.j3 kq l0 t217 x5_1 t229 x91_39 t223 t226 = some r) ∧ Aside0 (kq ≤ kj13) ∧ Aside0 (Kd.V k68 68 wc w.heap.size (fun k_ => k_ ≠ gb218 ∧ k_ ≠ gb230) (.slice Ao16 x219000_1.length co16) x219000_1) ∧ Aside0 (Kd.V k68 68 wc w.heap.size (fun k_ => k_ ≠ gb218 ∧ k_ ≠ gb230) (.slice Ao17 x219001_1.length co17) x219001_1) ∧ Aside0 (Kd.V k68 68 wc w.heap.size (fun k_ => k_ ≠ gb218 ∧ k_ ≠ gb230) (.slice Ao23 t223.length co23) t223) ∧ Aside0 (Kd.V k68 68 wc w.heap.size (fun k_ => k_ ≠ gb218 ∧ k_ ≠ gb230) (.slice Ao25 t226.length co25) t226) ∧ Aside0 (wc.heap[gb218]? = some (.cells #[(.slice Ao16 x219000_1.length co16), (.slice Ao17 x219001_1.length co17)] 24 (0, 0))) ∧ Aside0 (wc.heap[gb230]? = some (.cells #[(.slice Ao23 t223.length co23), (.slice Ao25 t226.length co25)] 24 (0, 0))) ∧ Aside0 (Below w.heap.size w wc))
                      case first =>
                        have H := HC40.out
                        clear HC40
                        by_cases c41 : t229 = 0
                        · rw [if_pos c41] at H
                          have c41b0 : (t229 == 0) = true := beq_iff_eq.mpr c41
                          have c41b1 : (t229 != 0) = false := bne_eq_false_iff_eq.mpr c41
                          clear c41
                          (first | rw [c41b0] | (simp only [i64_w, i32_w]; rw [c41b0]) | skip)
                          by_cases c42 : t233 = true
                          · subst c42
                            have H1 : (if 0 ≤ x5_1 then (if x5_1 < (l0.length : Int) then (stanchionlaw07_BatchOnce.j3 kj13 l0 t217 x5_1 t229 ((t232.toList == ([99] : List UInt8)) != (((rd_T37 l0 x5_1).f0) == 1)) t223 t226) else (none)) else (none)) = some r := by rw [if_pos rfl] at H; exact H
                            clear H
                            have H := H1
                            clear H1
                            by_cases c43 : 0 ≤ x5_1
                            · rw [if_pos c43] at H
                              have c43b0 : decide (0 ≤ x5_1) = true := decide_eq_true c43
                              clear c43
                              by_cases c44 : x5_1 < (l0.length : Int)
                              · rw [if_pos c44] at H
                                have c44b0 : decide (x5_1 < (l0.length : Int)) = true := decide_eq_true c44
                                clear c44
                                have H' := Aside0.mk H
                                clear H
                                have p235 : 0 ≤ (x5_1 : Int) := of_decide_eq_true (by first | (with_reducible assumption) | assumption)
                                have q235 : x5_1 < (l0.length : Int) := of_decide_eq_true (by first | (with_reducible assumption) | assumption)
                                obtain ⟨ad235, A235_2, c235_2, e235, hx235_0, hx235_1, hx235_2, hl235_2, hi235_2⟩ := at_T37 HR0.out x5_1 p235 q235
                                obtain rfl : ad219 = ad235 := (by injection e235)
                                replace hx235_0 := (HB.out.cell (World.block_lt_of_cell? w _ hx235_0)).trans hx235_0
                                replace hx235_1 := (HB.out.cell (World.block_lt_of_cell? w _ hx235_1)).trans hx235_1
                                replace hx235_2 := (HB.out.cell (World.block_lt_of_cell? w _ hx235_2)).trans hx235_2
                                have HR235_2 := Aside0.mk hi235_2
                                have HC235_2 := Aside0.mk hl235_2
                                clear hi235_2 hl235_2
                                replace p235 := eq_true p235
                                replace q235 := eq_true q235
                                go_wp2
                                go_meet
                                case rel => exact ⟨_, (((t232.toList == ([99] : List UInt8)) != (((rd_T37 l0 x5_1).f0) == 1))), (by first | rfl | (simp; done) | (simp [*]; done)), H', ⟨by have := HK1.out; have := HJ5.out; have := HJ13.out; first | omega | exact Nat.le_refl _⟩, ⟨by (with_reducible repeat (first | apply Kd.V_alloc | apply Kd.V_drewN | apply Kd.V_drew)); exact HO_219000.out⟩, ⟨by (with_reducible repeat (first | apply Kd.V_alloc | apply Kd.V_drewN | apply Kd.V_drew)); exact HO_219001.out⟩, ⟨by (with_reducible repeat (first | apply Kd.V_alloc | apply Kd.V_drewN | apply Kd.V_drew)); exact HO_231000.out⟩, ⟨by (with_reducible repeat (first | apply Kd.V_alloc | apply Kd.V_drewN | apply Kd.V_drew)); exact HO_231001.out⟩, ⟨by (with_reducible repeat (first | refine blk_drewN ?_ _ | refine blk_drew ?_ | refine blk_alloc ?_ _)); exact BK218.out⟩, ⟨by (with_reducible repeat (first | refine blk_drewN ?_ _ | refine blk_drew ?_ | refine blk_alloc ?_ _)); exact BK230.out⟩, ⟨by repeat (first | (with_reducible first | exact HB.out | apply below_alloc | apply pw_below_drewN | apply below_drew1 | refine below_set ?_ GE218.out | refine below_set ?_ GE230.out) | exact HB.out)⟩⟩
                              · rw [if_neg c44] at H
                                exact absurd H (by simp)
                            · rw [if_neg c43] at H
                              exact absurd H (by simp)
                          · replace c42 := Bool.eq_false_iff.mpr c42
                            subst c42
                            have H1 : (stanchionlaw07_BatchOnce.j3 kj13 l0 t217 x5_1 t229 true t223 t226) = some r := by rw [if_neg (show ¬ (false = true) by decide)] at H; exact H
                            clear H
                            have H := H1
                            clear H1
                            have H' := Aside0.mk H
                            clear H
                            go_wp2
                            go_meet
                            case rel => exact ⟨_, (true), (by first | rfl | (simp; done) | (simp [*]; done)), H', ⟨by have := HK1.out; have := HJ5.out; have := HJ13.out; first | omega | exact Nat.le_refl _⟩, ⟨by (with_reducible repeat (first | apply Kd.V_alloc | apply Kd.V_drewN | apply Kd.V_drew)); exact HO_219000.out⟩, ⟨by (with_reducible repeat (first | apply Kd.V_alloc | apply Kd.V_drewN | apply Kd.V_drew)); exact HO_219001.out⟩, ⟨by (with_reducible repeat (first | apply Kd.V_alloc | apply Kd.V_drewN | apply Kd.V_drew)); exact HO_231000.out⟩, ⟨by (with_reducible repeat (first | apply Kd.V_alloc | apply Kd.V_drewN | apply Kd.V_drew)); exact HO_231001.out⟩, ⟨by (with_reducible repeat (first | refine blk_drewN ?_ _ | refine blk_drew ?_ | refine blk_alloc ?_ _)); exact BK218.out⟩, ⟨by (with_reducible repeat (first | refine blk_drewN ?_ _ | refine blk_drew ?_ | refine blk_alloc ?_ _)); exact BK230.out⟩, ⟨by repeat (first | (with_reducible first | exact HB.out | apply below_alloc | apply pw_below_drewN | apply below_drew1 | refine below_set ?_ GE218.out | refine below_set ?_ GE230.out) | exact HB.out)⟩⟩
                        · rw [if_neg c41] at H
                          have c41b0 : (t229 == 0) = false := beq_eq_false_iff_ne.mpr c41
                          have c41b1 : (t229 != 0) = true := bne_iff_ne.mpr c41
                          (first | rw [c41b0] | (simp only [i64_w, i32_w]; rw [c41b0]) | skip)
                          have H' := Aside0.mk H
                          clear H
                          go_wp2
                          go_meet
                          case rel => exact ⟨_, (false), (by first | rfl | (simp; done) | (simp [*]; done)), H', ⟨by have := HK1.out; have := HJ5.out; have := HJ13.out; first | omega | exact Nat.le_refl _⟩, ⟨by (with_reducible repeat (first | apply Kd.V_alloc | apply Kd.V_drewN | apply Kd.V_drew)); exact HO_219000.out⟩, ⟨by (with_reducible repeat (first | apply Kd.V_alloc | apply Kd.V_drewN | apply Kd.V_drew)); exact HO_219001.out⟩, ⟨by (with_reducible repeat (first | apply Kd.V_alloc | apply Kd.V_drewN | apply Kd.V_drew)); exact HO_231000.out⟩, ⟨by (with_reducible repeat (first | apply Kd.V_alloc | apply Kd.V_drewN | apply Kd.V_drew)); exact HO_231001.out⟩, ⟨by (with_reducible repeat (first | refine blk_drewN ?_ _ | refine blk_drew ?_ | refine blk_alloc ?_ _)); exact BK218.out⟩, ⟨by (with_reducible repeat (first | refine blk_drewN ?_ _ | refine blk_drew ?_ | refine blk_alloc ?_ _)); exact BK230.out⟩, ⟨by repeat (first | (with_reducible first | exact HB.out | apply below_alloc | apply pw_below_drewN | apply below_drew1 | refine below_set ?_ GE218.out | refine below_set ?_ GE230.out) | exact HB.out)⟩⟩
                      case rest =>
                        clear HC40
                        try clear c2
                        try clear p2
                        try clear q2
                        try clear hx2
                        try clear c3
                        try clear c4
                        try clear c22
                        try clear p22
                        try clear q22
                        try clear hx22
                        try clear c23
                        try clear p23
                        try clear q23
                        try clear hx23
                        try clear c25
                        try clear c27
                        try clear c30
                        try clear c31
                        try clear c31b0
                        try clear c31b1
                        try clear c32
                        try clear c33
                        try clear c33b0
                        try clear c33b1
                        try clear c35
                        try clear c39
                        try clear c41
                        try clear c41b0
                        try clear c41b1
                        try clear c42
                        try clear c43
                        try clear c43b0
                        try clear c44
                        try clear c44b0
                        try clear hcz36_0
                        try clear hcz36_1
                        try clear hcz37_0
                        try clear hcz37_1
                        try clear hfz36_0
                        try clear hfz36_1
                        try clear hfz37_0
                        try clear hfz37_1
                        try clear hx222_0
                        try clear hx222_1
                        try clear hx222_2
                        try clear hx231_0
                        try clear hx231_1
                        try clear hx231_2
                        try clear hx235_0
                        try clear hx235_1
                        try clear hx235_2
                        try clear p2
                        try clear p22
                        try clear p222
                        try clear p23
                        try clear p231
                        try clear p235
                        try clear q2
                        try clear q22
                        try clear q222
                        try clear q23
                        try clear q231
                        try clear q235
                        obtain ⟨kq, x91_39, rfl, HA, HJ39, HO_219000, HO_219001, HO_231000, HO_231001, BK218, BK230, HB⟩ := hcut
                        cases kq with
                        | zero => exact absurd HA.out (by simp [stanchionlaw07_BatchOnce.j3])
                        | succ kj39 =>
                          have H := HA.out
                          clear HA
                          simp only [stanchionlaw07_BatchOnce.j3] at H
                          by_cases c45 : x91_39 = true
                          · subst c45
                            have H1 : (some false) = some r := by rw [if_pos rfl] at H; exact H
                            clear H
                            have H := H1
                            clear H1
                            obtain rfl := Option.some.inj H
                            exact absurd hr_ (by decide)
                          · replace c45 := Bool.eq_false_iff.mpr c45
                            subst c45
                            have H1 : (if 0 ≤ x5_1 then (if x5_1 < (l0.length : Int) then ((batch_Do.f kj39 t223 t226 ((rd_T37 l0 x5_1).f0) ((rd_T37 l0 x5_1).f1) ((rd_T37 l0 x5_1).f2)).bind fun bt237 => (if t229 = 0 then (if bt237.2.2 = 8 then ((batch_Same.f kj39 t223 t226 bt237.1 bt237.2.1).bind fun t245 => (if t245 = true then (stanchionlaw07_BatchOnce.l0 kj39 l0 t217 (wrap64 (x5_1 + 1)) t223 t226) else (some false))) else (some false)) else (stanchionlaw07_BatchOnce.l0 kj39 l0 t217 (wrap64 (x5_1 + 1)) t223 t226))) else (none)) else (none)) = some r := by rw [if_neg (show ¬ (false = true) by decide)] at H; exact H
                            clear H
                            have H := H1
                            clear H1
                            by_cases c46 : 0 ≤ x5_1
                            · rw [if_pos c46] at H
                              have c46b0 : decide (0 ≤ x5_1) = true := decide_eq_true c46
                              clear c46
                              by_cases c47 : x5_1 < (l0.length : Int)
                              · rw [if_pos c47] at H
                                have c47b0 : decide (x5_1 < (l0.length : Int)) = true := decide_eq_true c47
                                clear c47
                                replace H := Option.bind_eq_some_iff.mp H
                                obtain ⟨⟨t237, t240, t243⟩, A480, H⟩ := H
                                replace H : (if t229 = 0 then (if t243 = 8 then ((batch_Same.f kj39 t223 t226 t237 t240).bind fun t245 => (if t245 = true then (stanchionlaw07_BatchOnce.l0 kj39 l0 t217 (wrap64 (x5_1 + 1)) t223 t226) else (some false))) else (some false)) else (stanchionlaw07_BatchOnce.l0 kj39 l0 t217 (wrap64 (x5_1 + 1)) t223 t226)) = some r := H
                                have A48 := Aside0.mk A480
                                clear A480
                                by_cases c49 : t229 = 0
                                · rw [if_pos c49] at H
                                  have c49b0 : (t229 == 0) = true := beq_iff_eq.mpr c49
                                  have c49b1 : (t229 != 0) = false := bne_eq_false_iff_eq.mpr c49
                                  clear c49
                                  by_cases c50 : t243 = 8
                                  · rw [if_pos c50] at H
                                    have c50b0 : (t243 == 8) = true := beq_iff_eq.mpr c50
                                    have c50b1 : (t243 != 8) = false := bne_eq_false_iff_eq.mpr c50
                                    clear c50
                                    replace H := Option.bind_eq_some_iff.mp H
                                    obtain ⟨t245, A510, H⟩ := H
                                    replace H : (if t245 = true then (stanchionlaw07_BatchOnce.l0 kj39 l0 t217 (wrap64 (x5_1 + 1)) t223 t226) else (some false)) = some r := H
                                    have A51 := Aside0.mk A510
                                    clear A510
                                    by_cases c52 : t245 = true
                                    · subst c52
                                      have H1 : (stanchionlaw07_BatchOnce.l0 kj39 l0 t217 (wrap64 (x5_1 + 1)) t223 t226) = some r := by rw [if_pos rfl] at H; exact H
                                      clear H
                                      have H := H1
                                      clear H1
                                      have H' := Aside0.mk H
                                      clear H
                                      try go_wp2
                                      have n0_ := Aside0.mk (Kd.V_drew HO_219000.out)
                                      have n1_ := Aside0.mk (Kd.V_drew HO_219001.out)
                                      have n2_ := Aside0.mk (Kd.V_drew HO_231000.out)
                                      have n3_ := Aside0.mk (Kd.V_drew HO_231001.out)
                                      have n4_ := Aside0.mk (blk_drew BK218.out)
                                      have n5_ := Aside0.mk (blk_drew BK230.out)
                                      have n6_ := Aside0.mk (below_drew1 HB.out)
                                      clear HO_219000
                                      clear HO_219001
                                      clear HO_231000
                                      clear HO_231001
                                      clear BK218
                                      clear BK230
                                      clear HB
                                      have HO_219000 := n0_
                                      have HO_219001 := n1_
                                      have HO_231000 := n2_
                                      have HO_231001 := n3_
                                      have BK218 := n4_
                                      have BK230 := n5_
                                      have HB := n6_
                                      clear n0_ n1_ n2_ n3_ n4_ n5_ n6_
                                      have p236 : 0 ≤ (x5_1 : Int) := of_decide_eq_true (by first | (with_reducible assumption) | assumption)
                                      have q236 : x5_1 < (l0.length : Int) := of_decide_eq_true (by first | (with_reducible assumption) | assumption)
                                      obtain ⟨ad236, A236_2, c236_2, e236, hx236_0, hx236_1, hx236_2, hl236_2, hi236_2⟩ := at_T37 HR0.out x5_1 p236 q236
                                      have hw236_2 := hx236_2
                                      have hw236_1 := hx236_1
                                      have hw236_0 := hx236_0
                                      obtain rfl : ad219 = ad236 := (by injection e236)
                                      replace hx236_0 := (HB.out.cell (World.block_lt_of_cell? w _ hx236_0)).trans hx236_0
                                      replace hx236_1 := (HB.out.cell (World.block_lt_of_cell? w _ hx236_1)).trans hx236_1
                                      replace hx236_2 := (HB.out.cell (World.block_lt_of_cell? w _ hx236_2)).trans hx236_2
                                      have HR236_2 := Aside0.mk hi236_2
                                      have HC236_2 := Aside0.mk hl236_2
                                      clear hi236_2 hl236_2
                                      replace p236 := eq_true p236
                                      replace q236 := eq_true q236
                                      refine start_ (n := 12) (S := fun w' => w'.cell? ⟨gb230, 0, none⟩ = some (.slice Ao23 t223.length co23) ∧ w'.cell? ⟨gb230, 1, none⟩ = some (.slice Ao25 t226.length co25) ∧ w'.cell? (ad219.add ((x5_1).toNat * 3)) = some (.int .i64 ((rd_T37 l0 x5_1).f0)) ∧ w'.cell? ⟨(ad219.add ((x5_1).toNat * 3)).block, (ad219.add ((x5_1).toNat * 3)).off + 1, none⟩ = some (.string ((rd_T37 l0 x5_1).f1)) ∧ w'.cell? ⟨(ad219.add ((x5_1).toNat * 3)).block, (ad219.add ((x5_1).toNat * 3)).off + 2, none⟩ = some (.slice A236_2 ((rd_T37 l0 x5_1).f2).length c236_2)) (ds := []) #[false, false, false, false, false, false, false, false, false, false, false, false] (by kernel_rfl) rfl rfl ⟨(blk_cell BK230.out 0).trans rfl, (blk_cell BK230.out 1).trans rfl, ((HB.out.cell (World.block_lt_of_cell? w _ hw236_0)).trans hw236_0), ((HB.out.cell (World.block_lt_of_cell? w _ hw236_1)).trans hw236_1), ((HB.out.cell (World.block_lt_of_cell? w _ hw236_2)).trans hw236_2)⟩ (fun hHeld => ?_); refine with_tabW stanchionlaw07_BatchOnce.tab13 stanchionlaw07_BatchOnce.bits13 (fun HT_ HW_ => ?_)
                                      generalize wc.drew = w53 at HO_219000 HO_219001 HO_231000 HO_231001 BK218 BK230 HB HR236_2 hx236_0 hx236_1 hx236_2 hHeld ⊢
                                      refine pure_ (i := 1) (N := some 94) (v := ?_) (a' := ?_) #[false, true, false, false, false, false, false, false, false, false, false, false] rfl rfl (any_of HT_.out (by kernel_rfl)) (fun _ _ _ h => h) (Or.inl ⟨by rfl, ?_⟩) ?_ ?_
                                      rotate_left
                                      · intro w'
                                        go_simp
                                        with_reducible rfl
                                      rotate_left
                                      · simp only [Act.put, List.setIfInBounds_toArray, List.set_cons_zero, List.set_cons_succ, i64_w, i32_w]
                                        rfl
                                      refine pure_ (i := 2) (N := some 95) (v := ?_) (a' := ?_) #[false, true, true, false, false, false, false, false, false, false, false, false] rfl rfl (any_of HT_.out (by kernel_rfl)) (fun _ _ _ h => h) (Or.inl ⟨by rfl, ?_⟩) ?_ ?_
                                      rotate_left
                                      · intro w'
                                        go_simp
                                        with_reducible rfl
                                      rotate_left
                                      · simp only [Act.put, List.setIfInBounds_toArray, List.set_cons_zero, List.set_cons_succ, i64_w, i32_w]
                                        rfl
                                      refine pure_ (i := 3) (N := some 96) (v := ?_) (a' := ?_) #[false, true, true, true, false, false, false, false, false, false, false, false] rfl rfl (any_of HT_.out (by kernel_rfl)) (fun _ _ _ h => h) (Or.inl ⟨by rfl, ?_⟩) ?_ ?_
                                      rotate_left
                                      · intro w'
                                        go_simp
                                        with_reducible rfl
                                      rotate_left
                                      · simp only [Act.put, List.setIfInBounds_toArray, List.set_cons_zero, List.set_cons_succ, i64_w, i32_w]
                                        rfl
                                      refine take_ (i := 0) (N := some 93) (v := ?_) (a' := ?_) #[true, true, true, true, false, false, false, false, false, false, false, false] rfl rfl (take_ofW HT_.out HW_.out (by kernel_rfl)) (fun _ _ _ h => h) (Or.inl ⟨by rfl, ?_⟩) hHeld ?_ ?_
                                      rotate_left
                                      · rintro w' ⟨s0, s1, s2, s3, s4⟩
                                        go_simp
                                        with_reducible rfl
                                      rotate_left
                                      · simp only [Act.put, List.setIfInBounds_toArray, List.set_cons_zero, List.set_cons_succ, i64_w, i32_w]
                                        rfl
                                      refine take_ (i := 4) (N := some 97) (v := ?_) (a' := ?_) #[true, true, true, true, true, false, false, false, false, false, false, false] rfl rfl (take_ofW HT_.out HW_.out (by kernel_rfl)) (fun _ _ _ h => h) (Or.inl ⟨by rfl, ?_⟩) hHeld ?_ ?_
                                      rotate_left
                                      · rintro w' ⟨s0, s1, s2, s3, s4⟩
                                        go_simp
                                        with_reducible rfl
                                      rotate_left
                                      · simp only [Act.put, List.setIfInBounds_toArray, List.set_cons_zero, List.set_cons_succ, i64_w, i32_w]
                                        rfl
                                      refine join_ (σ := Value × Value × Nat) 2 #[true, true, true, true, true, true, true, true, true, true, false, false] (fun s_ => [(98, .tuple #[.agg #[s_.1, s_.2.1], .int .i64 t243]), (12, .pointer (some ⟨s_.2.2, 0, none⟩)), (92, .tuple #[.agg #[s_.1, s_.2.1], .int .i64 t243]), (99, .agg #[s_.1, s_.2.1]), (100, .int .i64 t243)]) (fun s_ w' => (w'.cell? ⟨gb230, 0, none⟩ = some (.slice Ao23 t223.length co23) ∧ w'.cell? ⟨gb230, 1, none⟩ = some (.slice Ao25 t226.length co25) ∧ w'.cell? (ad219.add ((x5_1).toNat * 3)) = some (.int .i64 ((rd_T37 l0 x5_1).f0)) ∧ w'.cell? ⟨(ad219.add ((x5_1).toNat * 3)).block, (ad219.add ((x5_1).toNat * 3)).off + 1, none⟩ = some (.string ((rd_T37 l0 x5_1).f1)) ∧ w'.cell? ⟨(ad219.add ((x5_1).toNat * 3)).block, (ad219.add ((x5_1).toNat * 3)).off + 2, none⟩ = some (.slice A236_2 ((rd_T37 l0 x5_1).f2).length c236_2)) ∧ (Kd.V k68 68 w' w.heap.size (fun k_ => k_ ≠ gb218 ∧ k_ ≠ gb230 ∧ k_ ≠ s_.2.2) s_.1 t237) ∧ (Kd.V k68 68 w' w.heap.size (fun k_ => k_ ≠ gb218 ∧ k_ ≠ gb230 ∧ k_ ≠ s_.2.2) s_.2.1 t240) ∧ (Kd.V k68 68 w' w.heap.size (fun k_ => k_ ≠ gb218 ∧ k_ ≠ gb230 ∧ k_ ≠ s_.2.2) (.slice Ao16 x219000_1.length co16) x219000_1) ∧ (Kd.V k68 68 w' w.heap.size (fun k_ => k_ ≠ gb218 ∧ k_ ≠ gb230 ∧ k_ ≠ s_.2.2) (.slice Ao17 x219001_1.length co17) x219001_1) ∧ (Kd.V k68 68 w' w.heap.size (fun k_ => k_ ≠ gb218 ∧ k_ ≠ gb230 ∧ k_ ≠ s_.2.2) (.slice Ao23 t223.length co23) t223) ∧ (Kd.V k68 68 w' w.heap.size (fun k_ => k_ ≠ gb218 ∧ k_ ≠ gb230 ∧ k_ ≠ s_.2.2) (.slice Ao25 t226.length co25) t226) ∧ (w'.heap[gb218]? = some (.cells #[.slice Ao16 x219000_1.length co16, .slice Ao17 x219001_1.length co17] 24 (0, 0))) ∧ (w'.heap[gb230]? = some (.cells #[.slice Ao23 t223.length co23, .slice Ao25 t226.length co25] 24 (0, 0))) ∧ (w'.heap[s_.2.2]? = some (.cells #[.slice none 0 0, .slice none 0 0] 24 (0, 0))) ∧ (w.heap.size ≤ s_.2.2) ∧ (w.heap.size ≤ s_.2.2) ∧ (gb218 ≠ s_.2.2) ∧ (s_.2.2 ≠ gb218) ∧ (gb230 ≠ s_.2.2) ∧ (s_.2.2 ≠ gb230) ∧ (Below w.heap.size w w')) ?_ ?_
                                      rotate_left
                                      · intro hCont
                                        refine two_ (i := 5) (j := 9) (Ni := some 98) (Nj := some 12) #[true, true, true, true, true, true, false, false, false, false, false, false] #[true, true, true, true, true, false, false, false, false, true, false, false] rfl rfl rfl rfl (two_of HT_.out (by kernel_rfl)) (by decide) (by decide) (fun K hK => ?_) (fun K hK => ?_)
                                        · skip
                                          refine goes_ Try.func25 (by kernel_rfl) rfl #[.agg #[.slice Ao23 t223.length co23, .slice Ao25 t226.length co25], .agg #[.int .i64 ((rd_T37 l0 x5_1).f0), .string ((rd_T37 l0 x5_1).f1), .slice A236_2 ((rd_T37 l0 x5_1).f2).length c236_2]] (by rfl) rfl rfl (by (try simp only [List.map_toArray, List.map_cons, List.map_nil]); first | done | rfl | (simp only [List.length_drop, List.length_take]; rfl)) ?_
                                          with_reducible refine (batch_Do.calls kj39 (fun k_ => (k_ ≠ gb218 ∧ k_ ≠ gb230)) _ _ t223 (fun k_ => (k_ ≠ gb218 ∧ k_ ≠ gb230)) _ _ t226 ((rd_T37 l0 x5_1).f0) ((rd_T37 l0 x5_1).f1) _ _ ((rd_T37 l0 x5_1).f2) t237 t240 t243 _ ?side1 ?side2 ?side3 ?side4 A48.out).mono ?_
                                          (case side1 => exact HO_231000.out)
                                          (case side2 => exact HO_231001.out)
                                          (case side3 => repeat (first | exact (Kd.C_below HR236_2.out HB.out) | (with_reducible refine Kd.C_alloc ?_ _) | (with_reducible refine Kd.C_drewN ?_ _) | (with_reducible refine Kd.C_drew ?_)))
                                          (case side4 => exact HC236_2.out)
                                          rintro e w54 ⟨v238, v241, rfl, ho0, ho1, hb⟩
                                          refine ⟨_, rfl, ?_⟩
                                          have n0_ := Aside0.mk (Kd.V_below (by (with_reducible repeat (first | apply Kd.V_alloc | apply Kd.V_drewN | apply Kd.V_drew)); exact HO_219000.out) hb)
                                          have n1_ := Aside0.mk (Kd.V_below (by (with_reducible repeat (first | apply Kd.V_alloc | apply Kd.V_drewN | apply Kd.V_drew)); exact HO_219001.out) hb)
                                          have n2_ := Aside0.mk (Kd.V_below (by (with_reducible repeat (first | apply Kd.V_alloc | apply Kd.V_drewN | apply Kd.V_drew)); exact HO_231000.out) hb)
                                          have n3_ := Aside0.mk (Kd.V_below (by (with_reducible repeat (first | apply Kd.V_alloc | apply Kd.V_drewN | apply Kd.V_drew)); exact HO_231001.out) hb)
                                          have n4_ := Aside0.mk (Kd.V_lower (Kd.V_mono (ok' := fun k_ => k_ ≠ gb218 ∧ k_ ≠ gb230) ho0 (fun k_ hk_ => ⟨Or.elim hk_ (fun hs_ => Or.elim hs_ (fun hs_ => hs_.1) (fun hs_ => hs_.1)) (fun hn_ => (Kd.freshB (g := gb218) (o := .cells #[.slice Ao16 x219000_1.length co16, .slice Ao17 x219001_1.length co17] 24 (0, 0)) (by (with_reducible repeat (first | refine blk_drewN ?_ _ | refine blk_drew ?_ | refine blk_alloc ?_ _)); exact BK218.out) k_ hn_)), Or.elim hk_ (fun hs_ => Or.elim hs_ (fun hs_ => hs_.2) (fun hs_ => hs_.2)) (fun hn_ => (Kd.freshB (g := gb230) (o := .cells #[.slice Ao23 t223.length co23, .slice Ao25 t226.length co25] 24 (0, 0)) (by (with_reducible repeat (first | refine blk_drewN ?_ _ | refine blk_drew ?_ | refine blk_alloc ?_ _)); exact BK230.out) k_ hn_))⟩)) (below_size (by repeat (first | (with_reducible first | exact HB.out | apply below_alloc | apply pw_below_drewN | apply below_drew1 | refine below_set ?_ GE218.out | refine below_set ?_ GE230.out) | exact HB.out))))
                                          have n5_ := Aside0.mk (Kd.V_lower (Kd.V_mono (ok' := fun k_ => k_ ≠ gb218 ∧ k_ ≠ gb230) ho1 (fun k_ hk_ => ⟨Or.elim hk_ (fun hs_ => Or.elim hs_ (fun hs_ => hs_.1) (fun hs_ => hs_.1)) (fun hn_ => (Kd.freshB (g := gb218) (o := .cells #[.slice Ao16 x219000_1.length co16, .slice Ao17 x219001_1.length co17] 24 (0, 0)) (by (with_reducible repeat (first | refine blk_drewN ?_ _ | refine blk_drew ?_ | refine blk_alloc ?_ _)); exact BK218.out) k_ hn_)), Or.elim hk_ (fun hs_ => Or.elim hs_ (fun hs_ => hs_.2) (fun hs_ => hs_.2)) (fun hn_ => (Kd.freshB (g := gb230) (o := .cells #[.slice Ao23 t223.length co23, .slice Ao25 t226.length co25] 24 (0, 0)) (by (with_reducible repeat (first | refine blk_drewN ?_ _ | refine blk_drew ?_ | refine blk_alloc ?_ _)); exact BK230.out) k_ hn_))⟩)) (below_size (by repeat (first | (with_reducible first | exact HB.out | apply below_alloc | apply pw_below_drewN | apply below_drew1 | refine below_set ?_ GE218.out | refine below_set ?_ GE230.out) | exact HB.out))))
                                          have n6_ := Aside0.mk (blk_below (g := gb218) (o := .cells #[.slice Ao16 x219000_1.length co16, .slice Ao17 x219001_1.length co17] 24 (0, 0)) (by (with_reducible repeat (first | refine blk_drewN ?_ _ | refine blk_drew ?_ | refine blk_alloc ?_ _)); exact BK218.out) hb)
                                          have n7_ := Aside0.mk (blk_below (g := gb230) (o := .cells #[.slice Ao23 t223.length co23, .slice Ao25 t226.length co25] 24 (0, 0)) (by (with_reducible repeat (first | refine blk_drewN ?_ _ | refine blk_drew ?_ | refine blk_alloc ?_ _)); exact BK230.out) hb)
                                          have n8_ := Aside0.mk (below_step (by repeat (first | (with_reducible first | exact HB.out | apply below_alloc | apply pw_below_drewN | apply below_drew1 | refine below_set ?_ GE218.out | refine below_set ?_ GE230.out) | exact HB.out)) hb)
                                          clear HO_219000
                                          clear HO_219001
                                          clear HO_231000
                                          clear HO_231001
                                          clear BK218
                                          clear BK230
                                          clear HB
                                          have HO_219000 := n0_
                                          have HO_219001 := n1_
                                          have HO_231000 := n2_
                                          have HO_231001 := n3_
                                          have HO239 := n4_
                                          have HO242 := n5_
                                          have BK218 := n6_
                                          have BK230 := n7_
                                          have HB := n8_
                                          clear n0_ n1_ n2_ n3_ n4_ n5_ n6_ n7_ n8_
                                          (try clear hb)
                                          (try clear hb2)
                                          (try clear hk)
                                          (try clear hi)
                                          (try clear ho0)
                                          (try clear ho1)
                                          refine hK.out _ _ ⟨(blk_cell BK230.out 0).trans rfl, (blk_cell BK230.out 1).trans rfl, ((HB.out.cell (World.block_lt_of_cell? w _ hw236_0)).trans hw236_0), ((HB.out.cell (World.block_lt_of_cell? w _ hw236_1)).trans hw236_1), ((HB.out.cell (World.block_lt_of_cell? w _ hw236_2)).trans hw236_2)⟩ (fun hHeld => ?_)
                                          clear hK K
                                          refine norm_ (a' := ?_) ?_ ?_
                                          rotate_left
                                          · show Act.put _ (some 98) _ = _
                                            simp only [Act.put, List.setIfInBounds_toArray, List.set_cons_zero, List.set_cons_succ, i64_w, i32_w]
                                            rfl
                                          refine pure_ (i := 6) (N := some 92) (v := ?_) (a' := ?_) #[true, true, true, true, true, true, true, false, false, false, false, false] rfl rfl (any_of HT_.out (by kernel_rfl)) (fun _ _ _ h => h) (Or.inl ⟨by rfl, ?_⟩) ?_ ?_
                                          rotate_left
                                          · intro w'
                                            go_simp
                                            with_reducible rfl
                                          rotate_left
                                          · simp only [Act.put, List.setIfInBounds_toArray, List.set_cons_zero, List.set_cons_succ, i64_w, i32_w]
                                            rfl
                                          refine pure_ (i := 7) (N := some 99) (v := ?_) (a' := ?_) #[true, true, true, true, true, true, true, true, false, false, false, false] rfl rfl (any_of HT_.out (by kernel_rfl)) (fun _ _ _ h => h) (Or.inl ⟨by rfl, ?_⟩) ?_ ?_
                                          rotate_left
                                          · intro w'
                                            go_simp
                                            with_reducible rfl
                                          rotate_left
                                          · simp only [Act.put, List.setIfInBounds_toArray, List.set_cons_zero, List.set_cons_succ, i64_w, i32_w]
                                            rfl
                                          refine pure_ (i := 8) (N := some 100) (v := ?_) (a' := ?_) #[true, true, true, true, true, true, true, true, true, false, false, false] rfl rfl (any_of HT_.out (by kernel_rfl)) (fun _ _ _ h => h) (Or.inl ⟨by rfl, ?_⟩) ?_ ?_
                                          rotate_left
                                          · intro w'
                                            go_simp
                                            with_reducible rfl
                                          rotate_left
                                          · simp only [Act.put, List.setIfInBounds_toArray, List.set_cons_zero, List.set_cons_succ, i64_w, i32_w]
                                            rfl
                                          refine one_ (i := 9) (N := some 12) #[true, true, true, true, true, true, true, true, true, true, false, false] rfl rfl (one_of HT_.out (by kernel_rfl)) (by decide) (fun K hK => ?_)
                                          refine box_step ?hg (N := 12) ?hd (cs := #[.slice none 0 0, .slice none 0 0]) (t := 24) ?hr ?_; (case hd => rfl); (case hg => rfl); (case hr => first | (go_simp; done) | (go_simp; rfl))
                                          intro gb244 hg w55 hbox hb
                                          have n0_ := Aside0.mk (Kd.V_below (Kd.V_elderB (by (with_reducible repeat (first | apply Kd.V_alloc | apply Kd.V_drewN | apply Kd.V_drew)); exact HO_219000.out) gb244 (Nat.le_of_eq hg.symm)) hb)
                                          have n1_ := Aside0.mk (Kd.V_below (Kd.V_elderB (by (with_reducible repeat (first | apply Kd.V_alloc | apply Kd.V_drewN | apply Kd.V_drew)); exact HO_219001.out) gb244 (Nat.le_of_eq hg.symm)) hb)
                                          have n2_ := Aside0.mk (Kd.V_below (Kd.V_elderB (by (with_reducible repeat (first | apply Kd.V_alloc | apply Kd.V_drewN | apply Kd.V_drew)); exact HO_231000.out) gb244 (Nat.le_of_eq hg.symm)) hb)
                                          have n3_ := Aside0.mk (Kd.V_below (Kd.V_elderB (by (with_reducible repeat (first | apply Kd.V_alloc | apply Kd.V_drewN | apply Kd.V_drew)); exact HO_231001.out) gb244 (Nat.le_of_eq hg.symm)) hb)
                                          have n4_ := Aside0.mk (Kd.V_below (Kd.V_elderB (by (with_reducible repeat (first | apply Kd.V_alloc | apply Kd.V_drewN | apply Kd.V_drew)); exact HO239.out) gb244 (Nat.le_of_eq hg.symm)) hb)
                                          have n5_ := Aside0.mk (Kd.V_below (Kd.V_elderB (by (with_reducible repeat (first | apply Kd.V_alloc | apply Kd.V_drewN | apply Kd.V_drew)); exact HO242.out) gb244 (Nat.le_of_eq hg.symm)) hb)
                                          have n6_ := Aside0.mk (blk_below (g := gb218) (o := .cells #[.slice Ao16 x219000_1.length co16, .slice Ao17 x219001_1.length co17] 24 (0, 0)) (by (with_reducible repeat (first | refine blk_drewN ?_ _ | refine blk_drew ?_ | refine blk_alloc ?_ _)); exact BK218.out) hb)
                                          have n7_ := Aside0.mk (blk_below (g := gb230) (o := .cells #[.slice Ao23 t223.length co23, .slice Ao25 t226.length co25] 24 (0, 0)) (by (with_reducible repeat (first | refine blk_drewN ?_ _ | refine blk_drew ?_ | refine blk_alloc ?_ _)); exact BK230.out) hb)
                                          have n8_ := Aside0.mk (below_step (by repeat (first | (with_reducible first | exact HB.out | apply below_alloc | apply pw_below_drewN | apply below_drew1 | refine below_set ?_ GE218.out | refine below_set ?_ GE230.out) | exact HB.out)) hb)
                                          have n9_ := Aside0.mk (hbox)
                                          have n10_ := Aside0.mk ((by rw [hg]; exact (below_size (by repeat (first | (with_reducible first | exact HB.out | apply below_alloc | apply pw_below_drewN | apply below_drew1 | refine below_set ?_ GE218.out | refine below_set ?_ GE230.out) | exact HB.out))) : w.heap.size ≤ gb244))
                                          have n11_ := Aside0.mk ((by rw [hg]; exact (below_size (by repeat (first | (with_reducible first | exact HB.out | apply below_alloc | apply pw_below_drewN | apply below_drew1 | refine below_set ?_ GE218.out | refine below_set ?_ GE230.out) | exact HB.out))) : w.heap.size ≤ gb244))
                                          have n12_ := Aside0.mk ((by rw [hg]; exact Nat.ne_of_lt (blk_lt (g := gb218) (o := .cells #[.slice Ao16 x219000_1.length co16, .slice Ao17 x219001_1.length co17] 24 (0, 0)) (by (with_reducible repeat (first | refine blk_drewN ?_ _ | refine blk_drew ?_ | refine blk_alloc ?_ _)); exact BK218.out)) : gb218 ≠ gb244))
                                          have n13_ := Aside0.mk ((by rw [hg]; exact Nat.ne_of_gt (blk_lt (g := gb218) (o := .cells #[.slice Ao16 x219000_1.length co16, .slice Ao17 x219001_1.length co17] 24 (0, 0)) (by (with_reducible repeat (first | refine blk_drewN ?_ _ | refine blk_drew ?_ | refine blk_alloc ?_ _)); exact BK218.out)) : gb244 ≠ gb218))
                                          have n14_ := Aside0.mk ((by rw [hg]; exact Nat.ne_of_lt (blk_lt (g := gb230) (o := .cells #[.slice Ao23 t223.length co23, .slice Ao25 t226.length co25] 24 (0, 0)) (by (with_reducible repeat (first | refine blk_drewN ?_ _ | refine blk_drew ?_ | refine blk_alloc ?_ _)); exact BK230.out)) : gb230 ≠ gb244))
                                          have n15_ := Aside0.mk ((by rw [hg]; exact Nat.ne_of_gt (blk_lt (g := gb230) (o := .cells #[.slice Ao23 t223.length co23, .slice Ao25 t226.length co25] 24 (0, 0)) (by (with_reducible repeat (first | refine blk_drewN ?_ _ | refine blk_drew ?_ | refine blk_alloc ?_ _)); exact BK230.out)) : gb244 ≠ gb230))
                                          clear HO_219000
                                          clear HO_219001
                                          clear HO_231000
                                          clear HO_231001
                                          clear HO239
                                          clear HO242
                                          clear BK218
                                          clear BK230
                                          clear HB
                                          have HO_219000 := n0_
                                          have HO_219001 := n1_
                                          have HO_231000 := n2_
                                          have HO_231001 := n3_
                                          have HO239 := n4_
                                          have HO242 := n5_
                                          have BK218 := n6_
                                          have BK230 := n7_
                                          have HB := n8_
                                          have BK244 := n9_
                                          have GW244 := n10_
                                          have GE244 := n11_
                                          have NB218_244 := n12_
                                          have NB244_218 := n13_
                                          have NB230_244 := n14_
                                          have NB244_230 := n15_
                                          clear n0_ n1_ n2_ n3_ n4_ n5_ n6_ n7_ n8_ n9_ n10_ n11_ n12_ n13_ n14_ n15_
                                          clear hb hbox hg
                                          refine hK.out _ _ ⟨(blk_cell BK230.out 0).trans rfl, (blk_cell BK230.out 1).trans rfl, ((HB.out.cell (World.block_lt_of_cell? w _ hw236_0)).trans hw236_0), ((HB.out.cell (World.block_lt_of_cell? w _ hw236_1)).trans hw236_1), ((HB.out.cell (World.block_lt_of_cell? w _ hw236_2)).trans hw236_2)⟩ (fun hHeld => ?_)
                                          clear hK K
                                          refine norm_ (a' := ?_) ?_ ?_
                                          rotate_left
                                          · show Act.put _ (some 12) _ = _
                                            simp only [Act.put, List.setIfInBounds_toArray, List.set_cons_zero, List.set_cons_succ, i64_w, i32_w]
                                            rfl
                                          exact norm_ (by simp only [putAll, Act.put, List.setIfInBounds_toArray, List.set_cons_zero, List.set_cons_succ]) (hCont (v238, v241, gb244) _ ⟨hHeld, (by (with_reducible repeat (first | apply Kd.V_alloc | apply Kd.V_drewN | apply Kd.V_drew)); exact Kd.V_mono HO239.out (fun _ hk => ⟨hk.1.1, ⟨hk.1.2, hk.2⟩⟩)), (by (with_reducible repeat (first | apply Kd.V_alloc | apply Kd.V_drewN | apply Kd.V_drew)); exact Kd.V_mono HO242.out (fun _ hk => ⟨hk.1.1, ⟨hk.1.2, hk.2⟩⟩)), (by (with_reducible repeat (first | apply Kd.V_alloc | apply Kd.V_drewN | apply Kd.V_drew)); exact Kd.V_mono HO_219000.out (fun _ hk => ⟨hk.1.1, ⟨hk.1.2, hk.2⟩⟩)), (by (with_reducible repeat (first | apply Kd.V_alloc | apply Kd.V_drewN | apply Kd.V_drew)); exact Kd.V_mono HO_219001.out (fun _ hk => ⟨hk.1.1, ⟨hk.1.2, hk.2⟩⟩)), (by (with_reducible repeat (first | apply Kd.V_alloc | apply Kd.V_drewN | apply Kd.V_drew)); exact Kd.V_mono HO_231000.out (fun _ hk => ⟨hk.1.1, ⟨hk.1.2, hk.2⟩⟩)), (by (with_reducible repeat (first | apply Kd.V_alloc | apply Kd.V_drewN | apply Kd.V_drew)); exact Kd.V_mono HO_231001.out (fun _ hk => ⟨hk.1.1, ⟨hk.1.2, hk.2⟩⟩)), (by (with_reducible repeat (first | refine blk_drewN ?_ _ | refine blk_drew ?_ | refine blk_alloc ?_ _)); exact BK218.out), (by (with_reducible repeat (first | refine blk_drewN ?_ _ | refine blk_drew ?_ | refine blk_alloc ?_ _)); exact BK230.out), (by (with_reducible repeat (first | refine blk_drewN ?_ _ | refine blk_drew ?_ | refine blk_alloc ?_ _)); exact BK244.out), GW244.out, GE244.out, NB218_244.out, NB244_218.out, NB230_244.out, NB244_230.out, (by repeat (first | (with_reducible first | exact HB.out | apply below_alloc | apply pw_below_drewN | apply below_drew1 | refine below_set ?_ GE218.out | refine below_set ?_ GE230.out | refine below_set ?_ GE244.out) | exact HB.out))⟩)
                                        · skip
                                          refine box_step ?hg (N := 12) ?hd (cs := #[.slice none 0 0, .slice none 0 0]) (t := 24) ?hr ?_; (case hd => rfl); (case hg => rfl); (case hr => first | (go_simp; done) | (go_simp; rfl))
                                          intro gb244 hg w54 hbox hb
                                          have n0_ := Aside0.mk (Kd.V_below (Kd.V_elderB (by (with_reducible repeat (first | apply Kd.V_alloc | apply Kd.V_drewN | apply Kd.V_drew)); exact HO_219000.out) gb244 (Nat.le_of_eq hg.symm)) hb)
                                          have n1_ := Aside0.mk (Kd.V_below (Kd.V_elderB (by (with_reducible repeat (first | apply Kd.V_alloc | apply Kd.V_drewN | apply Kd.V_drew)); exact HO_219001.out) gb244 (Nat.le_of_eq hg.symm)) hb)
                                          have n2_ := Aside0.mk (Kd.V_below (Kd.V_elderB (by (with_reducible repeat (first | apply Kd.V_alloc | apply Kd.V_drewN | apply Kd.V_drew)); exact HO_231000.out) gb244 (Nat.le_of_eq hg.symm)) hb)
                                          have n3_ := Aside0.mk (Kd.V_below (Kd.V_elderB (by (with_reducible repeat (first | apply Kd.V_alloc | apply Kd.V_drewN | apply Kd.V_drew)); exact HO_231001.out) gb244 (Nat.le_of_eq hg.symm)) hb)
                                          have n4_ := Aside0.mk (blk_below (g := gb218) (o := .cells #[.slice Ao16 x219000_1.length co16, .slice Ao17 x219001_1.length co17] 24 (0, 0)) (by (with_reducible repeat (first | refine blk_drewN ?_ _ | refine blk_drew ?_ | refine blk_alloc ?_ _)); exact BK218.out) hb)
                                          have n5_ := Aside0.mk (blk_below (g := gb230) (o := .cells #[.slice Ao23 t223.length co23, .slice Ao25 t226.length co25] 24 (0, 0)) (by (with_reducible repeat (first | refine blk_drewN ?_ _ | refine blk_drew ?_ | refine blk_alloc ?_ _)); exact BK230.out) hb)
                                          have n6_ := Aside0.mk (below_step (by repeat (first | (with_reducible first | exact HB.out | apply below_alloc | apply pw_below_drewN | apply below_drew1 | refine below_set ?_ GE218.out | refine below_set ?_ GE230.out) | exact HB.out)) hb)
                                          have n7_ := Aside0.mk (hbox)
                                          have n8_ := Aside0.mk ((by rw [hg]; exact (below_size (by repeat (first | (with_reducible first | exact HB.out | apply below_alloc | apply pw_below_drewN | apply below_drew1 | refine below_set ?_ GE218.out | refine below_set ?_ GE230.out) | exact HB.out))) : w.heap.size ≤ gb244))
                                          have n9_ := Aside0.mk ((by rw [hg]; exact (below_size (by repeat (first | (with_reducible first | exact HB.out | apply below_alloc | apply pw_below_drewN | apply below_drew1 | refine below_set ?_ GE218.out | refine below_set ?_ GE230.out) | exact HB.out))) : w.heap.size ≤ gb244))
                                          have n10_ := Aside0.mk ((by rw [hg]; exact Nat.ne_of_lt (blk_lt (g := gb218) (o := .cells #[.slice Ao16 x219000_1.length co16, .slice Ao17 x219001_1.length co17] 24 (0, 0)) (by (with_reducible repeat (first | refine blk_drewN ?_ _ | refine blk_drew ?_ | refine blk_alloc ?_ _)); exact BK218.out)) : gb218 ≠ gb244))
                                          have n11_ := Aside0.mk ((by rw [hg]; exact Nat.ne_of_gt (blk_lt (g := gb218) (o := .cells #[.slice Ao16 x219000_1.length co16, .slice Ao17 x219001_1.length co17] 24 (0, 0)) (by (with_reducible repeat (first | refine blk_drewN ?_ _ | refine blk_drew ?_ | refine blk_alloc ?_ _)); exact BK218.out)) : gb244 ≠ gb218))
                                          have n12_ := Aside0.mk ((by rw [hg]; exact Nat.ne_of_lt (blk_lt (g := gb230) (o := .cells #[.slice Ao23 t223.length co23, .slice Ao25 t226.length co25] 24 (0, 0)) (by (with_reducible repeat (first | refine blk_drewN ?_ _ | refine blk_drew ?_ | refine blk_alloc ?_ _)); exact BK230.out)) : gb230 ≠ gb244))
                                          have n13_ := Aside0.mk ((by rw [hg]; exact Nat.ne_of_gt (blk_lt (g := gb230) (o := .cells #[.slice Ao23 t223.length co23, .slice Ao25 t226.length co25] 24 (0, 0)) (by (with_reducible repeat (first | refine blk_drewN ?_ _ | refine blk_drew ?_ | refine blk_alloc ?_ _)); exact BK230.out)) : gb244 ≠ gb230))
                                          clear HO_219000
                                          clear HO_219001
                                          clear HO_231000
                                          clear HO_231001
                                          clear BK218
                                          clear BK230
                                          clear HB
                                          have HO_219000 := n0_
                                          have HO_219001 := n1_
                                          have HO_231000 := n2_
                                          have HO_231001 := n3_
                                          have BK218 := n4_
                                          have BK230 := n5_
                                          have HB := n6_
                                          have BK244 := n7_
                                          have GW244 := n8_
                                          have GE244 := n9_
                                          have NB218_244 := n10_
                                          have NB244_218 := n11_
                                          have NB230_244 := n12_
                                          have NB244_230 := n13_
                                          clear n0_ n1_ n2_ n3_ n4_ n5_ n6_ n7_ n8_ n9_ n10_ n11_ n12_ n13_
                                          clear hb hbox hg
                                          refine hK.out _ _ ⟨(blk_cell BK230.out 0).trans rfl, (blk_cell BK230.out 1).trans rfl, ((HB.out.cell (World.block_lt_of_cell? w _ hw236_0)).trans hw236_0), ((HB.out.cell (World.block_lt_of_cell? w _ hw236_1)).trans hw236_1), ((HB.out.cell (World.block_lt_of_cell? w _ hw236_2)).trans hw236_2)⟩ (fun hHeld => ?_)
                                          clear hK K
                                          refine norm_ (a' := ?_) ?_ ?_
                                          rotate_left
                                          · show Act.put _ (some 12) _ = _
                                            simp only [Act.put, List.setIfInBounds_toArray, List.set_cons_zero, List.set_cons_succ, i64_w, i32_w]
                                            rfl
                                          refine one_ (i := 5) (N := some 98) #[true, true, true, true, true, true, false, false, false, true, false, false] rfl rfl (one_of HT_.out (by kernel_rfl)) (by decide) (fun K hK => ?_)
                                          refine goes_ Try.func25 (by kernel_rfl) rfl #[.agg #[.slice Ao23 t223.length co23, .slice Ao25 t226.length co25], .agg #[.int .i64 ((rd_T37 l0 x5_1).f0), .string ((rd_T37 l0 x5_1).f1), .slice A236_2 ((rd_T37 l0 x5_1).f2).length c236_2]] (by rfl) rfl rfl (by (try simp only [List.map_toArray, List.map_cons, List.map_nil]); first | done | rfl | (simp only [List.length_drop, List.length_take]; rfl)) ?_
                                          with_reducible refine (batch_Do.calls kj39 (fun k_ => ((k_ ≠ gb218 ∧ k_ ≠ gb230) ∧ k_ ≠ gb244)) _ _ t223 (fun k_ => ((k_ ≠ gb218 ∧ k_ ≠ gb230) ∧ k_ ≠ gb244)) _ _ t226 ((rd_T37 l0 x5_1).f0) ((rd_T37 l0 x5_1).f1) _ _ ((rd_T37 l0 x5_1).f2) t237 t240 t243 _ ?side1 ?side2 ?side3 ?side4 A48.out).mono ?_
                                          (case side1 => exact HO_231000.out)
                                          (case side2 => exact HO_231001.out)
                                          (case side3 => repeat (first | exact (Kd.C_below HR236_2.out HB.out) | (with_reducible refine Kd.C_alloc ?_ _) | (with_reducible refine Kd.C_drewN ?_ _) | (with_reducible refine Kd.C_drew ?_)))
                                          (case side4 => exact HC236_2.out)
                                          rintro e w55 ⟨v238, v241, rfl, ho0, ho1, hb⟩
                                          refine ⟨_, rfl, ?_⟩
                                          have n0_ := Aside0.mk (Kd.V_below (by (with_reducible repeat (first | apply Kd.V_alloc | apply Kd.V_drewN | apply Kd.V_drew)); exact HO_219000.out) hb)
                                          have n1_ := Aside0.mk (Kd.V_below (by (with_reducible repeat (first | apply Kd.V_alloc | apply Kd.V_drewN | apply Kd.V_drew)); exact HO_219001.out) hb)
                                          have n2_ := Aside0.mk (Kd.V_below (by (with_reducible repeat (first | apply Kd.V_alloc | apply Kd.V_drewN | apply Kd.V_drew)); exact HO_231000.out) hb)
                                          have n3_ := Aside0.mk (Kd.V_below (by (with_reducible repeat (first | apply Kd.V_alloc | apply Kd.V_drewN | apply Kd.V_drew)); exact HO_231001.out) hb)
                                          have n4_ := Aside0.mk (Kd.V_lower (Kd.V_mono (ok' := fun k_ => k_ ≠ gb218 ∧ k_ ≠ gb230 ∧ k_ ≠ gb244) ho0 (fun k_ hk_ => ⟨Or.elim hk_ (fun hs_ => Or.elim hs_ (fun hs_ => hs_.1.1) (fun hs_ => hs_.1.1)) (fun hn_ => (Kd.freshB (g := gb218) (o := .cells #[.slice Ao16 x219000_1.length co16, .slice Ao17 x219001_1.length co17] 24 (0, 0)) (by (with_reducible repeat (first | refine blk_drewN ?_ _ | refine blk_drew ?_ | refine blk_alloc ?_ _)); exact BK218.out) k_ hn_)), Or.elim hk_ (fun hs_ => Or.elim hs_ (fun hs_ => hs_.1.2) (fun hs_ => hs_.1.2)) (fun hn_ => (Kd.freshB (g := gb230) (o := .cells #[.slice Ao23 t223.length co23, .slice Ao25 t226.length co25] 24 (0, 0)) (by (with_reducible repeat (first | refine blk_drewN ?_ _ | refine blk_drew ?_ | refine blk_alloc ?_ _)); exact BK230.out) k_ hn_)), Or.elim hk_ (fun hs_ => Or.elim hs_ (fun hs_ => hs_.2) (fun hs_ => hs_.2)) (fun hn_ => (Kd.freshB (g := gb244) (o := .cells #[.slice none 0 0, .slice none 0 0] 24 (0, 0)) (by (with_reducible repeat (first | refine blk_drewN ?_ _ | refine blk_drew ?_ | refine blk_alloc ?_ _)); exact BK244.out) k_ hn_))⟩)) (below_size (by repeat (first | (with_reducible first | exact HB.out | apply below_alloc | apply pw_below_drewN | apply below_drew1 | refine below_set ?_ GE218.out | refine below_set ?_ GE230.out | refine below_set ?_ GE244.out) | exact HB.out))))
                                          have n5_ := Aside0.mk (Kd.V_lower (Kd.V_mono (ok' := fun k_ => k_ ≠ gb218 ∧ k_ ≠ gb230 ∧ k_ ≠ gb244) ho1 (fun k_ hk_ => ⟨Or.elim hk_ (fun hs_ => Or.elim hs_ (fun hs_ => hs_.1.1) (fun hs_ => hs_.1.1)) (fun hn_ => (Kd.freshB (g := gb218) (o := .cells #[.slice Ao16 x219000_1.length co16, .slice Ao17 x219001_1.length co17] 24 (0, 0)) (by (with_reducible repeat (first | refine blk_drewN ?_ _ | refine blk_drew ?_ | refine blk_alloc ?_ _)); exact BK218.out) k_ hn_)), Or.elim hk_ (fun hs_ => Or.elim hs_ (fun hs_ => hs_.1.2) (fun hs_ => hs_.1.2)) (fun hn_ => (Kd.freshB (g := gb230) (o := .cells #[.slice Ao23 t223.length co23, .slice Ao25 t226.length co25] 24 (0, 0)) (by (with_reducible repeat (first | refine blk_drewN ?_ _ | refine blk_drew ?_ | refine blk_alloc ?_ _)); exact BK230.out) k_ hn_)), Or.elim hk_ (fun hs_ => Or.elim hs_ (fun hs_ => hs_.2) (fun hs_ => hs_.2)) (fun hn_ => (Kd.freshB (g := gb244) (o := .cells #[.slice none 0 0, .slice none 0 0] 24 (0, 0)) (by (with_reducible repeat (first | refine blk_drewN ?_ _ | refine blk_drew ?_ | refine blk_alloc ?_ _)); exact BK244.out) k_ hn_))⟩)) (below_size (by repeat (first | (with_reducible first | exact HB.out | apply below_alloc | apply pw_below_drewN | apply below_drew1 | refine below_set ?_ GE218.out | refine below_set ?_ GE230.out | refine below_set ?_ GE244.out) | exact HB.out))))
                                          have n6_ := Aside0.mk (blk_below (g := gb218) (o := .cells #[.slice Ao16 x219000_1.length co16, .slice Ao17 x219001_1.length co17] 24 (0, 0)) (by (with_reducible repeat (first | refine blk_drewN ?_ _ | refine blk_drew ?_ | refine blk_alloc ?_ _)); exact BK218.out) hb)
                                          have n7_ := Aside0.mk (blk_below (g := gb230) (o := .cells #[.slice Ao23 t223.length co23, .slice Ao25 t226.length co25] 24 (0, 0)) (by (with_reducible repeat (first | refine blk_drewN ?_ _ | refine blk_drew ?_ | refine blk_alloc ?_ _)); exact BK230.out) hb)
                                          have n8_ := Aside0.mk (blk_below (g := gb244) (o := .cells #[.slice none 0 0, .slice none 0 0] 24 (0, 0)) (by (with_reducible repeat (first | refine blk_drewN ?_ _ | refine blk_drew ?_ | refine blk_alloc ?_ _)); exact BK244.out) hb)
                                          have n9_ := Aside0.mk (below_step (by repeat (first | (with_reducible first | exact HB.out | apply below_alloc | apply pw_below_drewN | apply below_drew1 | refine below_set ?_ GE218.out | refine below_set ?_ GE230.out | refine below_set ?_ GE244.out) | exact HB.out)) hb)
                                          clear HO_219000
                                          clear HO_219001
                                          clear HO_231000
                                          clear HO_231001
                                          clear BK218
                                          clear BK230
                                          clear BK244
                                          clear HB
                                          have HO_219000 := n0_
                                          have HO_219001 := n1_
                                          have HO_231000 := n2_
                                          have HO_231001 := n3_
                                          have HO239 := n4_
                                          have HO242 := n5_
                                          have BK218 := n6_
                                          have BK230 := n7_
                                          have BK244 := n8_
                                          have HB := n9_
                                          clear n0_ n1_ n2_ n3_ n4_ n5_ n6_ n7_ n8_ n9_
                                          (try clear hb)
                                          (try clear hb2)
                                          (try clear hk)
                                          (try clear hi)
                                          (try clear ho0)
                                          (try clear ho1)
                                          refine hK.out _ _ ⟨(blk_cell BK230.out 0).trans rfl, (blk_cell BK230.out 1).trans rfl, ((HB.out.cell (World.block_lt_of_cell? w _ hw236_0)).trans hw236_0), ((HB.out.cell (World.block_lt_of_cell? w _ hw236_1)).trans hw236_1), ((HB.out.cell (World.block_lt_of_cell? w _ hw236_2)).trans hw236_2)⟩ (fun hHeld => ?_)
                                          clear hK K
                                          refine norm_ (a' := ?_) ?_ ?_
                                          rotate_left
                                          · show Act.put _ (some 98) _ = _
                                            simp only [Act.put, List.setIfInBounds_toArray, List.set_cons_zero, List.set_cons_succ, i64_w, i32_w]
                                            rfl
                                          refine pure_ (i := 6) (N := some 92) (v := ?_) (a' := ?_) #[true, true, true, true, true, true, true, false, false, true, false, false] rfl rfl (any_of HT_.out (by kernel_rfl)) (fun _ _ _ h => h) (Or.inl ⟨by rfl, ?_⟩) ?_ ?_
                                          rotate_left
                                          · intro w'
                                            go_simp
                                            with_reducible rfl
                                          rotate_left
                                          · simp only [Act.put, List.setIfInBounds_toArray, List.set_cons_zero, List.set_cons_succ, i64_w, i32_w]
                                            rfl
                                          refine pure_ (i := 7) (N := some 99) (v := ?_) (a' := ?_) #[true, true, true, true, true, true, true, true, false, true, false, false] rfl rfl (any_of HT_.out (by kernel_rfl)) (fun _ _ _ h => h) (Or.inl ⟨by rfl, ?_⟩) ?_ ?_
                                          rotate_left
                                          · intro w'
                                            go_simp
                                            with_reducible rfl
                                          rotate_left
                                          · simp only [Act.put, List.setIfInBounds_toArray, List.set_cons_zero, List.set_cons_succ, i64_w, i32_w]
                                            rfl
                                          refine pure_ (i := 8) (N := some 100) (v := ?_) (a' := ?_) #[true, true, true, true, true, true, true, true, true, true, false, false] rfl rfl (any_of HT_.out (by kernel_rfl)) (fun _ _ _ h => h) (Or.inl ⟨by rfl, ?_⟩) ?_ ?_
                                          rotate_left
                                          · intro w'
                                            go_simp
                                            with_reducible rfl
                                          rotate_left
                                          · simp only [Act.put, List.setIfInBounds_toArray, List.set_cons_zero, List.set_cons_succ, i64_w, i32_w]
                                            rfl
                                          exact norm_ (by simp only [putAll, Act.put, List.setIfInBounds_toArray, List.set_cons_zero, List.set_cons_succ]) (hCont (v238, v241, gb244) _ ⟨hHeld, (by (with_reducible repeat (first | apply Kd.V_alloc | apply Kd.V_drewN | apply Kd.V_drew)); exact HO239.out), (by (with_reducible repeat (first | apply Kd.V_alloc | apply Kd.V_drewN | apply Kd.V_drew)); exact HO242.out), (by (with_reducible repeat (first | apply Kd.V_alloc | apply Kd.V_drewN | apply Kd.V_drew)); exact Kd.V_mono HO_219000.out (fun _ hk => ⟨hk.1.1, ⟨hk.1.2, hk.2⟩⟩)), (by (with_reducible repeat (first | apply Kd.V_alloc | apply Kd.V_drewN | apply Kd.V_drew)); exact Kd.V_mono HO_219001.out (fun _ hk => ⟨hk.1.1, ⟨hk.1.2, hk.2⟩⟩)), (by (with_reducible repeat (first | apply Kd.V_alloc | apply Kd.V_drewN | apply Kd.V_drew)); exact Kd.V_mono HO_231000.out (fun _ hk => ⟨hk.1.1, ⟨hk.1.2, hk.2⟩⟩)), (by (with_reducible repeat (first | apply Kd.V_alloc | apply Kd.V_drewN | apply Kd.V_drew)); exact Kd.V_mono HO_231001.out (fun _ hk => ⟨hk.1.1, ⟨hk.1.2, hk.2⟩⟩)), (by (with_reducible repeat (first | refine blk_drewN ?_ _ | refine blk_drew ?_ | refine blk_alloc ?_ _)); exact BK218.out), (by (with_reducible repeat (first | refine blk_drewN ?_ _ | refine blk_drew ?_ | refine blk_alloc ?_ _)); exact BK230.out), (by (with_reducible repeat (first | refine blk_drewN ?_ _ | refine blk_drew ?_ | refine blk_alloc ?_ _)); exact BK244.out), GW244.out, GE244.out, NB218_244.out, NB244_218.out, NB230_244.out, NB244_230.out, (by repeat (first | (with_reducible first | exact HB.out | apply below_alloc | apply pw_below_drewN | apply below_drew1 | refine below_set ?_ GE218.out | refine below_set ?_ GE230.out | refine below_set ?_ GE244.out) | exact HB.out))⟩)
                                      rintro ⟨v238, v241, gb244⟩ w56 ⟨hS_, h0_, h1_, h2_, h3_, h4_, h5_, h6_, h7_, h8_, h9_, h10_, h11_, h12_, h13_, h14_, h15_⟩
                                      have n0_ : Aside0 (Kd.V k68 68 w56 w.heap.size (fun k_ => k_ ≠ gb218 ∧ k_ ≠ gb230 ∧ k_ ≠ gb244) v238 t237) := ⟨h0_⟩
                                      have n1_ : Aside0 (Kd.V k68 68 w56 w.heap.size (fun k_ => k_ ≠ gb218 ∧ k_ ≠ gb230 ∧ k_ ≠ gb244) v241 t240) := ⟨h1_⟩
                                      have n2_ : Aside0 (Kd.V k68 68 w56 w.heap.size (fun k_ => k_ ≠ gb218 ∧ k_ ≠ gb230 ∧ k_ ≠ gb244) (.slice Ao16 x219000_1.length co16) x219000_1) := ⟨h2_⟩
                                      have n3_ : Aside0 (Kd.V k68 68 w56 w.heap.size (fun k_ => k_ ≠ gb218 ∧ k_ ≠ gb230 ∧ k_ ≠ gb244) (.slice Ao17 x219001_1.length co17) x219001_1) := ⟨h3_⟩
                                      have n4_ : Aside0 (Kd.V k68 68 w56 w.heap.size (fun k_ => k_ ≠ gb218 ∧ k_ ≠ gb230 ∧ k_ ≠ gb244) (.slice Ao23 t223.length co23) t223) := ⟨h4_⟩
                                      have n5_ : Aside0 (Kd.V k68 68 w56 w.heap.size (fun k_ => k_ ≠ gb218 ∧ k_ ≠ gb230 ∧ k_ ≠ gb244) (.slice Ao25 t226.length co25) t226) := ⟨h5_⟩
                                      have n6_ : Aside0 (w56.heap[gb218]? = some (.cells #[.slice Ao16 x219000_1.length co16, .slice Ao17 x219001_1.length co17] 24 (0, 0))) := ⟨h6_⟩
                                      have n7_ : Aside0 (w56.heap[gb230]? = some (.cells #[.slice Ao23 t223.length co23, .slice Ao25 t226.length co25] 24 (0, 0))) := ⟨h7_⟩
                                      have n8_ : Aside0 (w56.heap[gb244]? = some (.cells #[.slice none 0 0, .slice none 0 0] 24 (0, 0))) := ⟨h8_⟩
                                      have n9_ : Aside0 (w.heap.size ≤ gb244) := ⟨h9_⟩
                                      have n10_ : Aside0 (w.heap.size ≤ gb244) := ⟨h10_⟩
                                      have n11_ : Aside0 (gb218 ≠ gb244) := ⟨h11_⟩
                                      have n12_ : Aside0 (gb244 ≠ gb218) := ⟨h12_⟩
                                      have n13_ : Aside0 (gb230 ≠ gb244) := ⟨h13_⟩
                                      have n14_ : Aside0 (gb244 ≠ gb230) := ⟨h14_⟩
                                      have n15_ : Aside0 (Below w.heap.size w w56) := ⟨h15_⟩
                                      clear HO_219000
                                      clear HO_219001
                                      clear HO_231000
                                      clear HO_231001
                                      clear BK218
                                      clear BK230
                                      clear HB
                                      clear h0_ h1_ h2_ h3_ h4_ h5_ h6_ h7_ h8_ h9_ h10_ h11_ h12_ h13_ h14_ h15_
                                      have HO239 := n0_
                                      have HO242 := n1_
                                      have HO_219000 := n2_
                                      have HO_219001 := n3_
                                      have HO_231000 := n4_
                                      have HO_231001 := n5_
                                      have BK218 := n6_
                                      have BK230 := n7_
                                      have BK244 := n8_
                                      have GW244 := n9_
                                      have GE244 := n10_
                                      have NB218_244 := n11_
                                      have NB244_218 := n12_
                                      have NB230_244 := n13_
                                      have NB244_230 := n14_
                                      have HB := n15_
                                      clear n0_ n1_ n2_ n3_ n4_ n5_ n6_ n7_ n8_ n9_ n10_ n11_ n12_ n13_ n14_ n15_
                                      have hHeld : w56.cell? ⟨gb230, 0, none⟩ = some (.slice Ao23 t223.length co23) ∧ w56.cell? ⟨gb230, 1, none⟩ = some (.slice Ao25 t226.length co25) ∧ w56.cell? (ad219.add ((x5_1).toNat * 3)) = some (.int .i64 ((rd_T37 l0 x5_1).f0)) ∧ w56.cell? ⟨(ad219.add ((x5_1).toNat * 3)).block, (ad219.add ((x5_1).toNat * 3)).off + 1, none⟩ = some (.string ((rd_T37 l0 x5_1).f1)) ∧ w56.cell? ⟨(ad219.add ((x5_1).toNat * 3)).block, (ad219.add ((x5_1).toNat * 3)).off + 2, none⟩ = some (.slice A236_2 ((rd_T37 l0 x5_1).f2).length c236_2) := hS_
                                      obtain ⟨Ao57, co57, eo57⟩ := Kd.V_slice HO239.out
                                      (first | subst eo57 | (injection eo57 with f1_ f2_ f3_; have f4_ := f1_.symm; have f5_ := f3_.symm; clear f1_ f2_ f3_; subst f4_; subst f5_))
                                      obtain ⟨Ao59, co59, eo59⟩ := Kd.V_slice HO242.out
                                      (first | subst eo59 | (injection eo59 with f1_ f2_ f3_; have f4_ := f1_.symm; have f5_ := f3_.symm; clear f1_ f2_ f3_; subst f4_; subst f5_))
                                      refine norm_ (a' := ?_) ?_ ?_
                                      rotate_left
                                      · simp only [putAll, Act.put, List.setIfInBounds_toArray, List.set_cons_zero, List.set_cons_succ]
                                        rfl
                                      refine one_ (i := 10) (N := none) #[true, true, true, true, true, true, true, true, true, true, true, false] rfl rfl (one_of HT_.out (by kernel_rfl)) (by decide) (fun K hK => ?_)
                                      have hs58 : w56.cell? ⟨gb244, 0, none⟩ = some (.slice none 0 0) := (blk_cell BK244.out 0).trans rfl
                                      have hfs58 := blk_frozen BK244.out 0
                                      have hns58_0 := NB218_244.out
                                      have hns58_1 := NB230_244.out
                                      have hms58_0 := NB244_218.out
                                      have hms58_1 := NB244_230.out
                                      have hs60 : w56.cell? ⟨gb244, 1, none⟩ = some (.slice none 0 0) := (blk_cell BK244.out 1).trans rfl
                                      have hfs60 := blk_frozen BK244.out 1
                                      have hns60_0 := NB218_244.out
                                      have hns60_1 := NB230_244.out
                                      have hms60_0 := NB244_218.out
                                      have hms60_1 := NB244_230.out
                                      refine skip_ (w1 := ?_) (by rfl) rfl ?_ ?_
                                      rotate_left
                                      · go_simp
                                        rfl
                                      refine hK.out _ _ ⟨((cell_far (p := ⟨gb244, _, none⟩) NB230_244.out _).trans (((cell_far (p := ⟨gb244, _, none⟩) NB230_244.out _).trans (hHeld.1)))), ((cell_far (p := ⟨gb244, _, none⟩) NB230_244.out _).trans (((cell_far (p := ⟨gb244, _, none⟩) NB230_244.out _).trans (hHeld.2.1)))), ((cell_far (p := ⟨gb244, _, none⟩) (by first | exact Nat.ne_of_lt (Nat.lt_of_lt_of_le (by have := World.block_lt_of_cell? _ _ hw236_0; first | rwa [add_block] at this | exact this) GW244.out) | (rw [add_block]; exact Nat.ne_of_lt (Nat.lt_of_lt_of_le (by have := World.block_lt_of_cell? _ _ hw236_0; first | rwa [add_block] at this | exact this) GW244.out)) | (show (Addr.add _ _).block ≠ _; rw [add_block]; exact Nat.ne_of_lt (Nat.lt_of_lt_of_le (by have := World.block_lt_of_cell? _ _ hw236_0; first | rwa [add_block] at this | exact this) GW244.out)) | (dsimp only; exact Nat.ne_of_lt (Nat.lt_of_lt_of_le (by have := World.block_lt_of_cell? _ _ hw236_0; first | rwa [add_block] at this | exact this) GW244.out))) _).trans (((cell_far (p := ⟨gb244, _, none⟩) (by first | exact Nat.ne_of_lt (Nat.lt_of_lt_of_le (by have := World.block_lt_of_cell? _ _ hw236_0; first | rwa [add_block] at this | exact this) GW244.out) | (rw [add_block]; exact Nat.ne_of_lt (Nat.lt_of_lt_of_le (by have := World.block_lt_of_cell? _ _ hw236_0; first | rwa [add_block] at this | exact this) GW244.out)) | (show (Addr.add _ _).block ≠ _; rw [add_block]; exact Nat.ne_of_lt (Nat.lt_of_lt_of_le (by have := World.block_lt_of_cell? _ _ hw236_0; first | rwa [add_block] at this | exact this) GW244.out)) | (dsimp only; exact Nat.ne_of_lt (Nat.lt_of_lt_of_le (by have := World.block_lt_of_cell? _ _ hw236_0; first | rwa [add_block] at this | exact this) GW244.out))) _).trans (hHeld.2.2.1)))), ((cell_far (p := ⟨gb244, _, none⟩) (by first | exact Nat.ne_of_lt (Nat.lt_of_lt_of_le (by have := World.block_lt_of_cell? _ _ hw236_1; first | rwa [add_block] at this | exact this) GW244.out) | (rw [add_block]; exact Nat.ne_of_lt (Nat.lt_of_lt_of_le (by have := World.block_lt_of_cell? _ _ hw236_1; first | rwa [add_block] at this | exact this) GW244.out)) | (show (Addr.add _ _).block ≠ _; rw [add_block]; exact Nat.ne_of_lt (Nat.lt_of_lt_of_le (by have := World.block_lt_of_cell? _ _ hw236_1; first | rwa [add_block] at this | exact this) GW244.out)) | (dsimp only; exact Nat.ne_of_lt (Nat.lt_of_lt_of_le (by have := World.block_lt_of_cell? _ _ hw236_1; first | rwa [add_block] at this | exact this) GW244.out))) _).trans (((cell_far (p := ⟨gb244, _, none⟩) (by first | exact Nat.ne_of_lt (Nat.lt_of_lt_of_le (by have := World.block_lt_of_cell? _ _ hw236_1; first | rwa [add_block] at this | exact this) GW244.out) | (rw [add_block]; exact Nat.ne_of_lt (Nat.lt_of_lt_of_le (by have := World.block_lt_of_cell? _ _ hw236_1; first | rwa [add_block] at this | exact this) GW244.out)) | (show (Addr.add _ _).block ≠ _; rw [add_block]; exact Nat.ne_of_lt (Nat.lt_of_lt_of_le (by have := World.block_lt_of_cell? _ _ hw236_1; first | rwa [add_block] at this | exact this) GW244.out)) | (dsimp only; exact Nat.ne_of_lt (Nat.lt_of_lt_of_le (by have := World.block_lt_of_cell? _ _ hw236_1; first | rwa [add_block] at this | exact this) GW244.out))) _).trans (hHeld.2.2.2.1)))), ((cell_far (p := ⟨gb244, _, none⟩) (by first | exact Nat.ne_of_lt (Nat.lt_of_lt_of_le (by have := World.block_lt_of_cell? _ _ hw236_2; first | rwa [add_block] at this | exact this) GW244.out) | (rw [add_block]; exact Nat.ne_of_lt (Nat.lt_of_lt_of_le (by have := World.block_lt_of_cell? _ _ hw236_2; first | rwa [add_block] at this | exact this) GW244.out)) | (show (Addr.add _ _).block ≠ _; rw [add_block]; exact Nat.ne_of_lt (Nat.lt_of_lt_of_le (by have := World.block_lt_of_cell? _ _ hw236_2; first | rwa [add_block] at this | exact this) GW244.out)) | (dsimp only; exact Nat.ne_of_lt (Nat.lt_of_lt_of_le (by have := World.block_lt_of_cell? _ _ hw236_2; first | rwa [add_block] at this | exact this) GW244.out))) _).trans (((cell_far (p := ⟨gb244, _, none⟩) (by first | exact Nat.ne_of_lt (Nat.lt_of_lt_of_le (by have := World.block_lt_of_cell? _ _ hw236_2; first | rwa [add_block] at this | exact this) GW244.out) | (rw [add_block]; exact Nat.ne_of_lt (Nat.lt_of_lt_of_le (by have := World.block_lt_of_cell? _ _ hw236_2; first | rwa [add_block] at this | exact this) GW244.out)) | (show (Addr.add _ _).block ≠ _; rw [add_block]; exact Nat.ne_of_lt (Nat.lt_of_lt_of_le (by have := World.block_lt_of_cell? _ _ hw236_2; first | rwa [add_block] at this | exact this) GW244.out)) | (dsimp only; exact Nat.ne_of_lt (Nat.lt_of_lt_of_le (by have := World.block_lt_of_cell? _ _ hw236_2; first | rwa [add_block] at this | exact this) GW244.out))) _).trans (hHeld.2.2.2.2))))⟩ (fun hHeld => ?_)
                                      clear hK K
                                      refine pure_ (i := 11) (N := some 13) (v := ?_) (a' := ?_) #[true, true, true, true, true, true, true, true, true, true, true, true] rfl rfl (any_of HT_.out (by kernel_rfl)) (fun _ _ _ h => h) (Or.inl ⟨by rfl, ?_⟩) ?_ ?_
                                      rotate_left
                                      · intro w'
                                        go_simp
                                        with_reducible rfl
                                      rotate_left
                                      · simp only [Act.put, List.setIfInBounds_toArray, List.set_cons_zero, List.set_cons_succ, i64_w, i32_w]
                                        rfl
                                      refine done_ (done_of HT_.out (by kernel_rfl)) ?_
                                      have hnb61 := NB230_218.out
                                      have hnc61 := NB218_230.out
                                      have hnb62 := NB230_244.out
                                      have hnc62 := NB244_230.out
                                      have hcz63_0 : w56.cell? ⟨gb230, 0, none⟩ = some (.slice Ao23 t223.length co23) := (blk_cell BK230.out 0).trans rfl
                                      have hcz63_1 : w56.cell? ⟨gb230, 1, none⟩ = some (.slice Ao25 t226.length co25) := (blk_cell BK230.out 1).trans rfl
                                      have hfz63_0 := blk_frozen BK230.out 0
                                      have hfz63_1 := blk_frozen BK230.out 1
                                      have hnb64 := NB244_218.out
                                      have hnc64 := NB218_244.out
                                      have hcz65_0 : w56.cell? ⟨gb244, 0, none⟩ = some (.slice none 0 0) := (blk_cell BK244.out 0).trans rfl
                                      have hcz65_1 : w56.cell? ⟨gb244, 1, none⟩ = some (.slice none 0 0) := (blk_cell BK244.out 1).trans rfl
                                      have hfz65_0 := blk_frozen BK244.out 0
                                      have hfz65_1 := blk_frozen BK244.out 1
                                      try go_wp2_with (first | (go_at_call 31; (with_reducible refine (batch_Same.calls kj39 _ _ t223 _ _ t226 _ _ t237 _ _ t240 true _ ?side1 ?side2 ?side3 ?side4 ?side5 ?side6 ?side7 ?side8 A51.out).mono ?_); (case side1 => refine (Kd.V_reads' (e := 68) (base := w.heap.size) (ok := fun k_ => (k_ ≠ gb218 ∧ (k_ ≠ gb230 ∧ k_ ≠ gb244))) (n := t223.length) (c := co23) ?_).2.2; exact (by (with_reducible repeat (first | apply Kd.V_alloc | apply Kd.V_drewN | apply Kd.V_drew)); exact (Kd.V_mono (Kd.V_far (p := ⟨gb244, 1, none⟩) (Kd.V_far (p := ⟨gb244, 0, none⟩) (Kd.V_mono HO_231000.out (fun k_ hk => (⟨hk, hk.2.2⟩ : _ ∧ k_ ≠ gb244))) (fun _ hk => hk.2) (.slice Ao57 t237.length co57)) (fun _ hk => hk.2) (.slice Ao59 t240.length co59)) (fun _ h_ => h_.1)))); (case side2 => exact (Kd.V_reads' HO_231000.out).2.1); (case side3 => refine (Kd.V_reads' (e := 68) (base := w.heap.size) (ok := fun k_ => (k_ ≠ gb218 ∧ (k_ ≠ gb230 ∧ k_ ≠ gb244))) (n := t226.length) (c := co25) ?_).2.2; exact (by (with_reducible repeat (first | apply Kd.V_alloc | apply Kd.V_drewN | apply Kd.V_drew)); exact (Kd.V_mono (Kd.V_far (p := ⟨gb244, 1, none⟩) (Kd.V_far (p := ⟨gb244, 0, none⟩) (Kd.V_mono HO_231001.out (fun k_ hk => (⟨hk, hk.2.2⟩ : _ ∧ k_ ≠ gb244))) (fun _ hk => hk.2) (.slice Ao57 t237.length co57)) (fun _ hk => hk.2) (.slice Ao59 t240.length co59)) (fun _ h_ => h_.1)))); (case side4 => exact (Kd.V_reads' HO_231001.out).2.1); (case side5 => refine (Kd.V_reads' (e := 68) (base := w.heap.size) (ok := fun k_ => (k_ ≠ gb218 ∧ (k_ ≠ gb230 ∧ k_ ≠ gb244))) (n := t237.length) (c := co57) ?_).2.2; exact (by (with_reducible repeat (first | apply Kd.V_alloc | apply Kd.V_drewN | apply Kd.V_drew)); exact (Kd.V_mono (Kd.V_far (p := ⟨gb244, 1, none⟩) (Kd.V_far (p := ⟨gb244, 0, none⟩) (Kd.V_mono HO239.out (fun k_ hk => (⟨hk, hk.2.2⟩ : _ ∧ k_ ≠ gb244))) (fun _ hk => hk.2) (.slice Ao57 t237.length co57)) (fun _ hk => hk.2) (.slice Ao59 t240.length co59)) (fun _ h_ => h_.1)))); (case side6 => exact (Kd.V_reads' HO239.out).2.1); (case side7 => refine (Kd.V_reads' (e := 68) (base := w.heap.size) (ok := fun k_ => (k_ ≠ gb218 ∧ (k_ ≠ gb230 ∧ k_ ≠ gb244))) (n := t240.length) (c := co59) ?_).2.2; exact (by (with_reducible repeat (first | apply Kd.V_alloc | apply Kd.V_drewN | apply Kd.V_drew)); exact (Kd.V_mono (Kd.V_far (p := ⟨gb244, 1, none⟩) (Kd.V_far (p := ⟨gb244, 0, none⟩) (Kd.V_mono HO242.out (fun k_ hk => (⟨hk, hk.2.2⟩ : _ ∧ k_ ≠ gb244))) (fun _ hk => hk.2) (.slice Ao57 t237.length co57)) (fun _ hk => hk.2) (.slice Ao59 t240.length co59)) (fun _ h_ => h_.1)))); (case side8 => exact (Kd.V_reads' HO242.out).2.1); rintro e w66 ⟨rfl, hb⟩; have n0_ := Aside0.mk (Kd.V_below (by (with_reducible repeat (first | apply Kd.V_alloc | apply Kd.V_drewN | apply Kd.V_drew)); exact (Kd.V_mono (Kd.V_far (p := ⟨gb244, 1, none⟩) (Kd.V_far (p := ⟨gb244, 0, none⟩) (Kd.V_mono HO_219000.out (fun k_ hk => (⟨hk, hk.2.2⟩ : _ ∧ k_ ≠ gb244))) (fun _ hk => hk.2) (.slice Ao57 t237.length co57)) (fun _ hk => hk.2) (.slice Ao59 t240.length co59)) (fun _ h_ => h_.1))) hb); have n1_ := Aside0.mk (Kd.V_below (by (with_reducible repeat (first | apply Kd.V_alloc | apply Kd.V_drewN | apply Kd.V_drew)); exact (Kd.V_mono (Kd.V_far (p := ⟨gb244, 1, none⟩) (Kd.V_far (p := ⟨gb244, 0, none⟩) (Kd.V_mono HO_219001.out (fun k_ hk => (⟨hk, hk.2.2⟩ : _ ∧ k_ ≠ gb244))) (fun _ hk => hk.2) (.slice Ao57 t237.length co57)) (fun _ hk => hk.2) (.slice Ao59 t240.length co59)) (fun _ h_ => h_.1))) hb); have n2_ := Aside0.mk (Kd.V_below (by (with_reducible repeat (first | apply Kd.V_alloc | apply Kd.V_drewN | apply Kd.V_drew)); exact (Kd.V_mono (Kd.V_far (p := ⟨gb244, 1, none⟩) (Kd.V_far (p := ⟨gb244, 0, none⟩) (Kd.V_mono HO_231000.out (fun k_ hk => (⟨hk, hk.2.2⟩ : _ ∧ k_ ≠ gb244))) (fun _ hk => hk.2) (.slice Ao57 t237.length co57)) (fun _ hk => hk.2) (.slice Ao59 t240.length co59)) (fun _ h_ => h_.1))) hb); have n3_ := Aside0.mk (Kd.V_below (by (with_reducible repeat (first | apply Kd.V_alloc | apply Kd.V_drewN | apply Kd.V_drew)); exact (Kd.V_mono (Kd.V_far (p := ⟨gb244, 1, none⟩) (Kd.V_far (p := ⟨gb244, 0, none⟩) (Kd.V_mono HO_231001.out (fun k_ hk => (⟨hk, hk.2.2⟩ : _ ∧ k_ ≠ gb244))) (fun _ hk => hk.2) (.slice Ao57 t237.length co57)) (fun _ hk => hk.2) (.slice Ao59 t240.length co59)) (fun _ h_ => h_.1))) hb); have n4_ := Aside0.mk (Kd.V_below (by (with_reducible repeat (first | apply Kd.V_alloc | apply Kd.V_drewN | apply Kd.V_drew)); exact (Kd.V_mono (Kd.V_far (p := ⟨gb244, 1, none⟩) (Kd.V_far (p := ⟨gb244, 0, none⟩) (Kd.V_mono HO239.out (fun k_ hk => (⟨hk, hk.2.2⟩ : _ ∧ k_ ≠ gb244))) (fun _ hk => hk.2) (.slice Ao57 t237.length co57)) (fun _ hk => hk.2) (.slice Ao59 t240.length co59)) (fun _ h_ => h_.1))) hb); have n5_ := Aside0.mk (Kd.V_below (by (with_reducible repeat (first | apply Kd.V_alloc | apply Kd.V_drewN | apply Kd.V_drew)); exact (Kd.V_mono (Kd.V_far (p := ⟨gb244, 1, none⟩) (Kd.V_far (p := ⟨gb244, 0, none⟩) (Kd.V_mono HO242.out (fun k_ hk => (⟨hk, hk.2.2⟩ : _ ∧ k_ ≠ gb244))) (fun _ hk => hk.2) (.slice Ao57 t237.length co57)) (fun _ hk => hk.2) (.slice Ao59 t240.length co59)) (fun _ h_ => h_.1))) hb); have n6_ := Aside0.mk (blk_below (g := gb218) (o := .cells #[.slice Ao16 x219000_1.length co16, .slice Ao17 x219001_1.length co17] 24 (0, 0)) (by (with_reducible repeat (first | refine blk_drewN ?_ _ | refine blk_drew ?_ | refine blk_alloc ?_ _)); refine blk_far ?_ NB218_244.out _; (with_reducible repeat (first | refine blk_drewN ?_ _ | refine blk_drew ?_ | refine blk_alloc ?_ _)); refine blk_far ?_ NB218_244.out _; (with_reducible repeat (first | refine blk_drewN ?_ _ | refine blk_drew ?_ | refine blk_alloc ?_ _)); exact BK218.out) hb); have n7_ := Aside0.mk (blk_below (g := gb230) (o := .cells #[.slice Ao23 t223.length co23, .slice Ao25 t226.length co25] 24 (0, 0)) (by (with_reducible repeat (first | refine blk_drewN ?_ _ | refine blk_drew ?_ | refine blk_alloc ?_ _)); refine blk_far ?_ NB230_244.out _; (with_reducible repeat (first | refine blk_drewN ?_ _ | refine blk_drew ?_ | refine blk_alloc ?_ _)); refine blk_far ?_ NB230_244.out _; (with_reducible repeat (first | refine blk_drewN ?_ _ | refine blk_drew ?_ | refine blk_alloc ?_ _)); exact BK230.out) hb); have n8_ := Aside0.mk (blk_below (g := gb244) (o := .cells #[.slice Ao57 t237.length co57, .slice Ao59 t240.length co59] 24 (0, 0)) (by (with_reducible repeat (first | refine blk_drewN ?_ _ | refine blk_drew ?_ | refine blk_alloc ?_ _)); refine blk_put (cs := #[.slice Ao57 t237.length co57, .slice none 0 0]) ?_ 1 _ rfl; (with_reducible repeat (first | refine blk_drewN ?_ _ | refine blk_drew ?_ | refine blk_alloc ?_ _)); refine blk_put (cs := #[.slice none 0 0, .slice none 0 0]) ?_ 0 _ rfl; (with_reducible repeat (first | refine blk_drewN ?_ _ | refine blk_drew ?_ | refine blk_alloc ?_ _)); exact BK244.out) hb); have n9_ := Aside0.mk (below_step (by repeat (first | (with_reducible first | exact HB.out | apply below_alloc | apply pw_below_drewN | apply below_drew1 | refine below_set ?_ GE218.out | refine below_set ?_ GE230.out | refine below_set ?_ GE244.out) | exact HB.out)) hb); clear HO_219000; clear HO_219001; clear HO_231000; clear HO_231001; clear HO239; clear HO242; clear BK218; clear BK230; clear BK244; clear HB; have HO_219000 := n0_; have HO_219001 := n1_; have HO_231000 := n2_; have HO_231001 := n3_; have HO239 := n4_; have HO242 := n5_; have BK218 := n6_; have BK230 := n7_; have BK244 := n8_; have HB := n9_; clear n0_ n1_ n2_ n3_ n4_ n5_ n6_ n7_ n8_ n9_; (try clear hb); (try clear hb2); (try clear hk); (try clear hi); have hcz67_0 : w66.cell? ⟨gb230, 0, none⟩ = some (.slice Ao23 t223.length co23) := (blk_cell BK230.out 0).trans rfl; have hcz67_1 : w66.cell? ⟨gb230, 1, none⟩ = some (.slice Ao25 t226.length co25) := (blk_cell BK230.out 1).trans rfl; have hfz67_0 := blk_frozen BK230.out 0; have hfz67_1 := blk_frozen BK230.out 1; have hcz68_0 : w66.cell? ⟨gb218, 0, none⟩ = some (.slice Ao16 x219000_1.length co16) := (blk_cell BK218.out 0).trans rfl; have hcz68_1 : w66.cell? ⟨gb218, 1, none⟩ = some (.slice Ao17 x219001_1.length co17) := (blk_cell BK218.out 1).trans rfl; have hfz68_0 := blk_frozen BK218.out 0; have hfz68_1 := blk_frozen BK218.out 1))
                                      go_roundg kj39
                                      case measure => have := HK1.out; have := HJ5.out; have := HJ13.out; have := HJ39.out; omega
                                      case rel => exact ⟨(wrap64 (x5_1 + 1)), (t223), (t226), (.slice Ao23 t223.length co23), (.slice Ao25 t226.length co25), (by first | rfl | (simp; done) | (simp [*]; done)), H', ⟨by have := HK1.out; have := HJ5.out; have := HJ13.out; have := HJ39.out; omega⟩, ⟨by (with_reducible repeat (first | apply Kd.V_alloc | apply Kd.V_drewN | apply Kd.V_drew)); exact Kd.V_mono (Kd.V_far (p := ⟨gb218, 1, none⟩) (Kd.V_far (p := ⟨gb218, 0, none⟩) (Kd.V_mono HO_231000.out (fun k_ hk => (⟨hk, hk.1⟩ : _ ∧ k_ ≠ gb218))) (fun _ hk => hk.2) (.slice Ao23 t223.length co23)) (fun _ hk => hk.2) (.slice Ao25 t226.length co25)) (fun _ hk => hk.1.1)⟩, ⟨by (with_reducible repeat (first | apply Kd.V_alloc | apply Kd.V_drewN | apply Kd.V_drew)); exact Kd.V_mono (Kd.V_far (p := ⟨gb218, 1, none⟩) (Kd.V_far (p := ⟨gb218, 0, none⟩) (Kd.V_mono HO_231001.out (fun k_ hk => (⟨hk, hk.1⟩ : _ ∧ k_ ≠ gb218))) (fun _ hk => hk.2) (.slice Ao23 t223.length co23)) (fun _ hk => hk.2) (.slice Ao25 t226.length co25)) (fun _ hk => hk.1.1)⟩, ⟨by (with_reducible repeat (first | refine blk_drewN ?_ _ | refine blk_drew ?_ | refine blk_alloc ?_ _)); refine blk_put (cs := #[.slice Ao23 t223.length co23, .slice Ao17 x219001_1.length co17]) ?_ 1 _ rfl; (with_reducible repeat (first | refine blk_drewN ?_ _ | refine blk_drew ?_ | refine blk_alloc ?_ _)); refine blk_put (cs := #[.slice Ao16 x219000_1.length co16, .slice Ao17 x219001_1.length co17]) ?_ 0 _ rfl; (with_reducible repeat (first | refine blk_drewN ?_ _ | refine blk_drew ?_ | refine blk_alloc ?_ _)); exact BK218.out⟩, ⟨by repeat (first | (with_reducible first | exact HB.out | apply below_alloc | apply pw_below_drewN | apply below_drew1 | refine below_set ?_ GE218.out | refine below_set ?_ GE230.out | refine below_set ?_ GE244.out) | exact HB.out)⟩⟩
                                    · replace c52 := Bool.eq_false_iff.mpr c52
                                      subst c52
                                      have H1 : (some false) = some r := by rw [if_neg (show ¬ (false = true) by decide)] at H; exact H
                                      clear H
                                      have H := H1
                                      clear H1
                                      obtain rfl := Option.some.inj H
                                      exact absurd hr_ (by decide)
                                  · rw [if_neg c50] at H
                                    have c50b0 : (t243 == 8) = false := beq_eq_false_iff_ne.mpr c50
                                    have c50b1 : (t243 != 8) = true := bne_iff_ne.mpr c50
                                    obtain rfl := Option.some.inj H
                                    exact absurd hr_ (by decide)
                                · rw [if_neg c49] at H
                                  have c49b0 : (t229 == 0) = false := beq_eq_false_iff_ne.mpr c49
                                  have c49b1 : (t229 != 0) = true := bne_iff_ne.mpr c49
                                  have H' := Aside0.mk H
                                  clear H
                                  try go_wp2
                                  have n0_ := Aside0.mk (Kd.V_drew HO_219000.out)
                                  have n1_ := Aside0.mk (Kd.V_drew HO_219001.out)
                                  have n2_ := Aside0.mk (Kd.V_drew HO_231000.out)
                                  have n3_ := Aside0.mk (Kd.V_drew HO_231001.out)
                                  have n4_ := Aside0.mk (blk_drew BK218.out)
                                  have n5_ := Aside0.mk (blk_drew BK230.out)
                                  have n6_ := Aside0.mk (below_drew1 HB.out)
                                  clear HO_219000
                                  clear HO_219001
                                  clear HO_231000
                                  clear HO_231001
                                  clear BK218
                                  clear BK230
                                  clear HB
                                  have HO_219000 := n0_
                                  have HO_219001 := n1_
                                  have HO_231000 := n2_
                                  have HO_231001 := n3_
                                  have BK218 := n4_
                                  have BK230 := n5_
                                  have HB := n6_
                                  clear n0_ n1_ n2_ n3_ n4_ n5_ n6_
                                  have p236 : 0 ≤ (x5_1 : Int) := of_decide_eq_true (by first | (with_reducible assumption) | assumption)
                                  have q236 : x5_1 < (l0.length : Int) := of_decide_eq_true (by first | (with_reducible assumption) | assumption)
                                  obtain ⟨ad236, A236_2, c236_2, e236, hx236_0, hx236_1, hx236_2, hl236_2, hi236_2⟩ := at_T37 HR0.out x5_1 p236 q236
                                  have hw236_2 := hx236_2
                                  have hw236_1 := hx236_1
                                  have hw236_0 := hx236_0
                                  obtain rfl : ad219 = ad236 := (by injection e236)
                                  replace hx236_0 := (HB.out.cell (World.block_lt_of_cell? w _ hx236_0)).trans hx236_0
                                  replace hx236_1 := (HB.out.cell (World.block_lt_of_cell? w _ hx236_1)).trans hx236_1
                                  replace hx236_2 := (HB.out.cell (World.block_lt_of_cell? w _ hx236_2)).trans hx236_2
                                  have HR236_2 := Aside0.mk hi236_2
                                  have HC236_2 := Aside0.mk hl236_2
                                  clear hi236_2 hl236_2
                                  replace p236 := eq_true p236
                                  replace q236 := eq_true q236
                                  refine start_ (n := 12) (S := fun w' => w'.cell? ⟨gb230, 0, none⟩ = some (.slice Ao23 t223.length co23) ∧ w'.cell? ⟨gb230, 1, none⟩ = some (.slice Ao25 t226.length co25) ∧ w'.cell? (ad219.add ((x5_1).toNat * 3)) = some (.int .i64 ((rd_T37 l0 x5_1).f0)) ∧ w'.cell? ⟨(ad219.add ((x5_1).toNat * 3)).block, (ad219.add ((x5_1).toNat * 3)).off + 1, none⟩ = some (.string ((rd_T37 l0 x5_1).f1)) ∧ w'.cell? ⟨(ad219.add ((x5_1).toNat * 3)).block, (ad219.add ((x5_1).toNat * 3)).off + 2, none⟩ = some (.slice A236_2 ((rd_T37 l0 x5_1).f2).length c236_2)) (ds := []) #[false, false, false, false, false, false, false, false, false, false, false, false] (by kernel_rfl) rfl rfl ⟨(blk_cell BK230.out 0).trans rfl, (blk_cell BK230.out 1).trans rfl, ((HB.out.cell (World.block_lt_of_cell? w _ hw236_0)).trans hw236_0), ((HB.out.cell (World.block_lt_of_cell? w _ hw236_1)).trans hw236_1), ((HB.out.cell (World.block_lt_of_cell? w _ hw236_2)).trans hw236_2)⟩ (fun hHeld => ?_); refine with_tabW stanchionlaw07_BatchOnce.tab13 stanchionlaw07_BatchOnce.bits13 (fun HT_ HW_ => ?_)
                                  generalize wc.drew = w91 at HO_219000 HO_219001 HO_231000 HO_231001 BK218 BK230 HB HR236_2 hx236_0 hx236_1 hx236_2 hHeld ⊢
                                  refine pure_ (i := 1) (N := some 94) (v := ?_) (a' := ?_) #[false, true, false, false, false, false, false, false, false, false, false, false] rfl rfl (any_of HT_.out (by kernel_rfl)) (fun _ _ _ h => h) (Or.inl ⟨by rfl, ?_⟩) ?_ ?_
                                  rotate_left
                                  · intro w'
                                    go_simp
                                    with_reducible rfl
                                  rotate_left
                                  · simp only [Act.put, List.setIfInBounds_toArray, List.set_cons_zero, List.set_cons_succ, i64_w, i32_w]
                                    rfl
                                  refine pure_ (i := 2) (N := some 95) (v := ?_) (a' := ?_) #[false, true, true, false, false, false, false, false, false, false, false, false] rfl rfl (any_of HT_.out (by kernel_rfl)) (fun _ _ _ h => h) (Or.inl ⟨by rfl, ?_⟩) ?_ ?_
                                  rotate_left
                                  · intro w'
                                    go_simp
                                    with_reducible rfl
                                  rotate_left
                                  · simp only [Act.put, List.setIfInBounds_toArray, List.set_cons_zero, List.set_cons_succ, i64_w, i32_w]
                                    rfl
                                  refine pure_ (i := 3) (N := some 96) (v := ?_) (a' := ?_) #[false, true, true, true, false, false, false, false, false, false, false, false] rfl rfl (any_of HT_.out (by kernel_rfl)) (fun _ _ _ h => h) (Or.inl ⟨by rfl, ?_⟩) ?_ ?_
                                  rotate_left
                                  · intro w'
                                    go_simp
                                    with_reducible rfl
                                  rotate_left
                                  · simp only [Act.put, List.setIfInBounds_toArray, List.set_cons_zero, List.set_cons_succ, i64_w, i32_w]
                                    rfl
                                  refine take_ (i := 0) (N := some 93) (v := ?_) (a' := ?_) #[true, true, true, true, false, false, false, false, false, false, false, false] rfl rfl (take_ofW HT_.out HW_.out (by kernel_rfl)) (fun _ _ _ h => h) (Or.inl ⟨by rfl, ?_⟩) hHeld ?_ ?_
                                  rotate_left
                                  · rintro w' ⟨s0, s1, s2, s3, s4⟩
                                    go_simp
                                    with_reducible rfl
                                  rotate_left
                                  · simp only [Act.put, List.setIfInBounds_toArray, List.set_cons_zero, List.set_cons_succ, i64_w, i32_w]
                                    rfl
                                  refine take_ (i := 4) (N := some 97) (v := ?_) (a' := ?_) #[true, true, true, true, true, false, false, false, false, false, false, false] rfl rfl (take_ofW HT_.out HW_.out (by kernel_rfl)) (fun _ _ _ h => h) (Or.inl ⟨by rfl, ?_⟩) hHeld ?_ ?_
                                  rotate_left
                                  · rintro w' ⟨s0, s1, s2, s3, s4⟩
                                    go_simp
                                    with_reducible rfl
                                  rotate_left
                                  · simp only [Act.put, List.setIfInBounds_toArray, List.set_cons_zero, List.set_cons_succ, i64_w, i32_w]
                                    rfl
                                  refine join_ (σ := Value × Value × Nat) 2 #[true, true, true, true, true, true, true, true, true, true, false, false] (fun s_ => [(98, .tuple #[.agg #[s_.1, s_.2.1], .int .i64 t243]), (12, .pointer (some ⟨s_.2.2, 0, none⟩)), (92, .tuple #[.agg #[s_.1, s_.2.1], .int .i64 t243]), (99, .agg #[s_.1, s_.2.1]), (100, .int .i64 t243)]) (fun s_ w' => (w'.cell? ⟨gb230, 0, none⟩ = some (.slice Ao23 t223.length co23) ∧ w'.cell? ⟨gb230, 1, none⟩ = some (.slice Ao25 t226.length co25) ∧ w'.cell? (ad219.add ((x5_1).toNat * 3)) = some (.int .i64 ((rd_T37 l0 x5_1).f0)) ∧ w'.cell? ⟨(ad219.add ((x5_1).toNat * 3)).block, (ad219.add ((x5_1).toNat * 3)).off + 1, none⟩ = some (.string ((rd_T37 l0 x5_1).f1)) ∧ w'.cell? ⟨(ad219.add ((x5_1).toNat * 3)).block, (ad219.add ((x5_1).toNat * 3)).off + 2, none⟩ = some (.slice A236_2 ((rd_T37 l0 x5_1).f2).length c236_2)) ∧ (Kd.V k68 68 w' w.heap.size (fun k_ => k_ ≠ gb218 ∧ k_ ≠ gb230 ∧ k_ ≠ s_.2.2) s_.1 t237) ∧ (Kd.V k68 68 w' w.heap.size (fun k_ => k_ ≠ gb218 ∧ k_ ≠ gb230 ∧ k_ ≠ s_.2.2) s_.2.1 t240) ∧ (Kd.V k68 68 w' w.heap.size (fun k_ => k_ ≠ gb218 ∧ k_ ≠ gb230 ∧ k_ ≠ s_.2.2) (.slice Ao16 x219000_1.length co16) x219000_1) ∧ (Kd.V k68 68 w' w.heap.size (fun k_ => k_ ≠ gb218 ∧ k_ ≠ gb230 ∧ k_ ≠ s_.2.2) (.slice Ao17 x219001_1.length co17) x219001_1) ∧ (Kd.V k68 68 w' w.heap.size (fun k_ => k_ ≠ gb218 ∧ k_ ≠ gb230 ∧ k_ ≠ s_.2.2) (.slice Ao23 t223.length co23) t223) ∧ (Kd.V k68 68 w' w.heap.size (fun k_ => k_ ≠ gb218 ∧ k_ ≠ gb230 ∧ k_ ≠ s_.2.2) (.slice Ao25 t226.length co25) t226) ∧ (w'.heap[gb218]? = some (.cells #[.slice Ao16 x219000_1.length co16, .slice Ao17 x219001_1.length co17] 24 (0, 0))) ∧ (w'.heap[gb230]? = some (.cells #[.slice Ao23 t223.length co23, .slice Ao25 t226.length co25] 24 (0, 0))) ∧ (w'.heap[s_.2.2]? = some (.cells #[.slice none 0 0, .slice none 0 0] 24 (0, 0))) ∧ (w.heap.size ≤ s_.2.2) ∧ (w.heap.size ≤ s_.2.2) ∧ (gb218 ≠ s_.2.2) ∧ (s_.2.2 ≠ gb218) ∧ (gb230 ≠ s_.2.2) ∧ (s_.2.2 ≠ gb230) ∧ (Below w.heap.size w w')) ?_ ?_
                                  rotate_left
                                  · intro hCont
                                    refine two_ (i := 5) (j := 9) (Ni := some 98) (Nj := some 12) #[true, true, true, true, true, true, false, false, false, false, false, false] #[true, true, true, true, true, false, false, false, false, true, false, false] rfl rfl rfl rfl (two_of HT_.out (by kernel_rfl)) (by decide) (by decide) (fun K hK => ?_) (fun K hK => ?_)
                                    · skip
                                      refine goes_ Try.func25 (by kernel_rfl) rfl #[.agg #[.slice Ao23 t223.length co23, .slice Ao25 t226.length co25], .agg #[.int .i64 ((rd_T37 l0 x5_1).f0), .string ((rd_T37 l0 x5_1).f1), .slice A236_2 ((rd_T37 l0 x5_1).f2).length c236_2]] (by rfl) rfl rfl (by (try simp only [List.map_toArray, List.map_cons, List.map_nil]); first | done | rfl | (simp only [List.length_drop, List.length_take]; rfl)) ?_
                                      with_reducible refine (batch_Do.calls kj39 (fun k_ => (k_ ≠ gb218 ∧ k_ ≠ gb230)) _ _ t223 (fun k_ => (k_ ≠ gb218 ∧ k_ ≠ gb230)) _ _ t226 ((rd_T37 l0 x5_1).f0) ((rd_T37 l0 x5_1).f1) _ _ ((rd_T37 l0 x5_1).f2) t237 t240 t243 _ ?side1 ?side2 ?side3 ?side4 A48.out).mono ?_
                                      (case side1 => exact HO_231000.out)
                                      (case side2 => exact HO_231001.out)
                                      (case side3 => repeat (first | exact (Kd.C_below HR236_2.out HB.out) | (with_reducible refine Kd.C_alloc ?_ _) | (with_reducible refine Kd.C_drewN ?_ _) | (with_reducible refine Kd.C_drew ?_)))
                                      (case side4 => exact HC236_2.out)
                                      rintro e w92 ⟨v238, v241, rfl, ho0, ho1, hb⟩
                                      refine ⟨_, rfl, ?_⟩
                                      have n0_ := Aside0.mk (Kd.V_below (by (with_reducible repeat (first | apply Kd.V_alloc | apply Kd.V_drewN | apply Kd.V_drew)); exact HO_219000.out) hb)
                                      have n1_ := Aside0.mk (Kd.V_below (by (with_reducible repeat (first | apply Kd.V_alloc | apply Kd.V_drewN | apply Kd.V_drew)); exact HO_219001.out) hb)
                                      have n2_ := Aside0.mk (Kd.V_below (by (with_reducible repeat (first | apply Kd.V_alloc | apply Kd.V_drewN | apply Kd.V_drew)); exact HO_231000.out) hb)
                                      have n3_ := Aside0.mk (Kd.V_below (by (with_reducible repeat (first | apply Kd.V_alloc | apply Kd.V_drewN | apply Kd.V_drew)); exact HO_231001.out) hb)
                                      have n4_ := Aside0.mk (Kd.V_lower (Kd.V_mono (ok' := fun k_ => k_ ≠ gb218 ∧ k_ ≠ gb230) ho0 (fun k_ hk_ => ⟨Or.elim hk_ (fun hs_ => Or.elim hs_ (fun hs_ => hs_.1) (fun hs_ => hs_.1)) (fun hn_ => (Kd.freshB (g := gb218) (o := .cells #[.slice Ao16 x219000_1.length co16, .slice Ao17 x219001_1.length co17] 24 (0, 0)) (by (with_reducible repeat (first | refine blk_drewN ?_ _ | refine blk_drew ?_ | refine blk_alloc ?_ _)); exact BK218.out) k_ hn_)), Or.elim hk_ (fun hs_ => Or.elim hs_ (fun hs_ => hs_.2) (fun hs_ => hs_.2)) (fun hn_ => (Kd.freshB (g := gb230) (o := .cells #[.slice Ao23 t223.length co23, .slice Ao25 t226.length co25] 24 (0, 0)) (by (with_reducible repeat (first | refine blk_drewN ?_ _ | refine blk_drew ?_ | refine blk_alloc ?_ _)); exact BK230.out) k_ hn_))⟩)) (below_size (by repeat (first | (with_reducible first | exact HB.out | apply below_alloc | apply pw_below_drewN | apply below_drew1 | refine below_set ?_ GE218.out | refine below_set ?_ GE230.out) | exact HB.out))))
                                      have n5_ := Aside0.mk (Kd.V_lower (Kd.V_mono (ok' := fun k_ => k_ ≠ gb218 ∧ k_ ≠ gb230) ho1 (fun k_ hk_ => ⟨Or.elim hk_ (fun hs_ => Or.elim hs_ (fun hs_ => hs_.1) (fun hs_ => hs_.1)) (fun hn_ => (Kd.freshB (g := gb218) (o := .cells #[.slice Ao16 x219000_1.length co16, .slice Ao17 x219001_1.length co17] 24 (0, 0)) (by (with_reducible repeat (first | refine blk_drewN ?_ _ | refine blk_drew ?_ | refine blk_alloc ?_ _)); exact BK218.out) k_ hn_)), Or.elim hk_ (fun hs_ => Or.elim hs_ (fun hs_ => hs_.2) (fun hs_ => hs_.2)) (fun hn_ => (Kd.freshB (g := gb230) (o := .cells #[.slice Ao23 t223.length co23, .slice Ao25 t226.length co25] 24 (0, 0)) (by (with_reducible repeat (first | refine blk_drewN ?_ _ | refine blk_drew ?_ | refine blk_alloc ?_ _)); exact BK230.out) k_ hn_))⟩)) (below_size (by repeat (first | (with_reducible first | exact HB.out | apply below_alloc | apply pw_below_drewN | apply below_drew1 | refine below_set ?_ GE218.out | refine below_set ?_ GE230.out) | exact HB.out))))
                                      have n6_ := Aside0.mk (blk_below (g := gb218) (o := .cells #[.slice Ao16 x219000_1.length co16, .slice Ao17 x219001_1.length co17] 24 (0, 0)) (by (with_reducible repeat (first | refine blk_drewN ?_ _ | refine blk_drew ?_ | refine blk_alloc ?_ _)); exact BK218.out) hb)
                                      have n7_ := Aside0.mk (blk_below (g := gb230) (o := .cells #[.slice Ao23 t223.length co23, .slice Ao25 t226.length co25] 24 (0, 0)) (by (with_reducible repeat (first | refine blk_drewN ?_ _ | refine blk_drew ?_ | refine blk_alloc ?_ _)); exact BK230.out) hb)
                                      have n8_ := Aside0.mk (below_step (by repeat (first | (with_reducible first | exact HB.out | apply below_alloc | apply pw_below_drewN | apply below_drew1 | refine below_set ?_ GE218.out | refine below_set ?_ GE230.out) | exact HB.out)) hb)
                                      clear HO_219000
                                      clear HO_219001
                                      clear HO_231000
                                      clear HO_231001
                                      clear BK218
                                      clear BK230
                                      clear HB
                                      have HO_219000 := n0_
                                      have HO_219001 := n1_
                                      have HO_231000 := n2_
                                      have HO_231001 := n3_
                                      have HO239 := n4_
                                      have HO242 := n5_
                                      have BK218 := n6_
                                      have BK230 := n7_
                                      have HB := n8_
                                      clear n0_ n1_ n2_ n3_ n4_ n5_ n6_ n7_ n8_
                                      (try clear hb)
                                      (try clear hb2)
                                      (try clear hk)
                                      (try clear hi)
                                      (try clear ho0)
                                      (try clear ho1)
                                      refine hK.out _ _ ⟨(blk_cell BK230.out 0).trans rfl, (blk_cell BK230.out 1).trans rfl, ((HB.out.cell (World.block_lt_of_cell? w _ hw236_0)).trans hw236_0), ((HB.out.cell (World.block_lt_of_cell? w _ hw236_1)).trans hw236_1), ((HB.out.cell (World.block_lt_of_cell? w _ hw236_2)).trans hw236_2)⟩ (fun hHeld => ?_)
                                      clear hK K
                                      refine norm_ (a' := ?_) ?_ ?_
                                      rotate_left
                                      · show Act.put _ (some 98) _ = _
                                        simp only [Act.put, List.setIfInBounds_toArray, List.set_cons_zero, List.set_cons_succ, i64_w, i32_w]
                                        rfl
                                      refine pure_ (i := 6) (N := some 92) (v := ?_) (a' := ?_) #[true, true, true, true, true, true, true, false, false, false, false, false] rfl rfl (any_of HT_.out (by kernel_rfl)) (fun _ _ _ h => h) (Or.inl ⟨by rfl, ?_⟩) ?_ ?_
                                      rotate_left
                                      · intro w'
                                        go_simp
                                        with_reducible rfl
                                      rotate_left
                                      · simp only [Act.put, List.setIfInBounds_toArray, List.set_cons_zero, List.set_cons_succ, i64_w, i32_w]
                                        rfl
                                      refine pure_ (i := 7) (N := some 99) (v := ?_) (a' := ?_) #[true, true, true, true, true, true, true, true, false, false, false, false] rfl rfl (any_of HT_.out (by kernel_rfl)) (fun _ _ _ h => h) (Or.inl ⟨by rfl, ?_⟩) ?_ ?_
                                      rotate_left
                                      · intro w'
                                        go_simp
                                        with_reducible rfl
                                      rotate_left
                                      · simp only [Act.put, List.setIfInBounds_toArray, List.set_cons_zero, List.set_cons_succ, i64_w, i32_w]
                                        rfl
                                      refine pure_ (i := 8) (N := some 100) (v := ?_) (a' := ?_) #[true, true, true, true, true, true, true, true, true, false, false, false] rfl rfl (any_of HT_.out (by kernel_rfl)) (fun _ _ _ h => h) (Or.inl ⟨by rfl, ?_⟩) ?_ ?_
                                      rotate_left
                                      · intro w'
                                        go_simp
                                        with_reducible rfl
                                      rotate_left
                                      · simp only [Act.put, List.setIfInBounds_toArray, List.set_cons_zero, List.set_cons_succ, i64_w, i32_w]
                                        rfl
                                      refine one_ (i := 9) (N := some 12) #[true, true, true, true, true, true, true, true, true, true, false, false] rfl rfl (one_of HT_.out (by kernel_rfl)) (by decide) (fun K hK => ?_)
                                      refine box_step ?hg (N := 12) ?hd (cs := #[.slice none 0 0, .slice none 0 0]) (t := 24) ?hr ?_; (case hd => rfl); (case hg => rfl); (case hr => first | (go_simp; done) | (go_simp; rfl))
                                      intro gb244 hg w93 hbox hb
                                      have n0_ := Aside0.mk (Kd.V_below (Kd.V_elderB (by (with_reducible repeat (first | apply Kd.V_alloc | apply Kd.V_drewN | apply Kd.V_drew)); exact HO_219000.out) gb244 (Nat.le_of_eq hg.symm)) hb)
                                      have n1_ := Aside0.mk (Kd.V_below (Kd.V_elderB (by (with_reducible repeat (first | apply Kd.V_alloc | apply Kd.V_drewN | apply Kd.V_drew)); exact HO_219001.out) gb244 (Nat.le_of_eq hg.symm)) hb)
                                      have n2_ := Aside0.mk (Kd.V_below (Kd.V_elderB (by (with_reducible repeat (first | apply Kd.V_alloc | apply Kd.V_drewN | apply Kd.V_drew)); exact HO_231000.out) gb244 (Nat.le_of_eq hg.symm)) hb)
                                      have n3_ := Aside0.mk (Kd.V_below (Kd.V_elderB (by (with_reducible repeat (first | apply Kd.V_alloc | apply Kd.V_drewN | apply Kd.V_drew)); exact HO_231001.out) gb244 (Nat.le_of_eq hg.symm)) hb)
                                      have n4_ := Aside0.mk (Kd.V_below (Kd.V_elderB (by (with_reducible repeat (first | apply Kd.V_alloc | apply Kd.V_drewN | apply Kd.V_drew)); exact HO239.out) gb244 (Nat.le_of_eq hg.symm)) hb)
                                      have n5_ := Aside0.mk (Kd.V_below (Kd.V_elderB (by (with_reducible repeat (first | apply Kd.V_alloc | apply Kd.V_drewN | apply Kd.V_drew)); exact HO242.out) gb244 (Nat.le_of_eq hg.symm)) hb)
                                      have n6_ := Aside0.mk (blk_below (g := gb218) (o := .cells #[.slice Ao16 x219000_1.length co16, .slice Ao17 x219001_1.length co17] 24 (0, 0)) (by (with_reducible repeat (first | refine blk_drewN ?_ _ | refine blk_drew ?_ | refine blk_alloc ?_ _)); exact BK218.out) hb)
                                      have n7_ := Aside0.mk (blk_below (g := gb230) (o := .cells #[.slice Ao23 t223.length co23, .slice Ao25 t226.length co25] 24 (0, 0)) (by (with_reducible repeat (first | refine blk_drewN ?_ _ | refine blk_drew ?_ | refine blk_alloc ?_ _)); exact BK230.out) hb)
                                      have n8_ := Aside0.mk (below_step (by repeat (first | (with_reducible first | exact HB.out | apply below_alloc | apply pw_below_drewN | apply below_drew1 | refine below_set ?_ GE218.out | refine below_set ?_ GE230.out) | exact HB.out)) hb)
                                      have n9_ := Aside0.mk (hbox)
                                      have n10_ := Aside0.mk ((by rw [hg]; exact (below_size (by repeat (first | (with_reducible first | exact HB.out | apply below_alloc | apply pw_below_drewN | apply below_drew1 | refine below_set ?_ GE218.out | refine below_set ?_ GE230.out) | exact HB.out))) : w.heap.size ≤ gb244))
                                      have n11_ := Aside0.mk ((by rw [hg]; exact (below_size (by repeat (first | (with_reducible first | exact HB.out | apply below_alloc | apply pw_below_drewN | apply below_drew1 | refine below_set ?_ GE218.out | refine below_set ?_ GE230.out) | exact HB.out))) : w.heap.size ≤ gb244))
                                      have n12_ := Aside0.mk ((by rw [hg]; exact Nat.ne_of_lt (blk_lt (g := gb218) (o := .cells #[.slice Ao16 x219000_1.length co16, .slice Ao17 x219001_1.length co17] 24 (0, 0)) (by (with_reducible repeat (first | refine blk_drewN ?_ _ | refine blk_drew ?_ | refine blk_alloc ?_ _)); exact BK218.out)) : gb218 ≠ gb244))
                                      have n13_ := Aside0.mk ((by rw [hg]; exact Nat.ne_of_gt (blk_lt (g := gb218) (o := .cells #[.slice Ao16 x219000_1.length co16, .slice Ao17 x219001_1.length co17] 24 (0, 0)) (by (with_reducible repeat (first | refine blk_drewN ?_ _ | refine blk_drew ?_ | refine blk_alloc ?_ _)); exact BK218.out)) : gb244 ≠ gb218))
                                      have n14_ := Aside0.mk ((by rw [hg]; exact Nat.ne_of_lt (blk_lt (g := gb230) (o := .cells #[.slice Ao23 t223.length co23, .slice Ao25 t226.length co25] 24 (0, 0)) (by (with_reducible repeat (first | refine blk_drewN ?_ _ | refine blk_drew ?_ | refine blk_alloc ?_ _)); exact BK230.out)) : gb230 ≠ gb244))
                                      have n15_ := Aside0.mk ((by rw [hg]; exact Nat.ne_of_gt (blk_lt (g := gb230) (o := .cells #[.slice Ao23 t223.length co23, .slice Ao25 t226.length co25] 24 (0, 0)) (by (with_reducible repeat (first | refine blk_drewN ?_ _ | refine blk_drew ?_ | refine blk_alloc ?_ _)); exact BK230.out)) : gb244 ≠ gb230))
                                      clear HO_219000
                                      clear HO_219001
                                      clear HO_231000
                                      clear HO_231001
                                      clear HO239
                                      clear HO242
                                      clear BK218
                                      clear BK230
                                      clear HB
                                      have HO_219000 := n0_
                                      have HO_219001 := n1_
                                      have HO_231000 := n2_
                                      have HO_231001 := n3_
                                      have HO239 := n4_
                                      have HO242 := n5_
                                      have BK218 := n6_
                                      have BK230 := n7_
                                      have HB := n8_
                                      have BK244 := n9_
                                      have GW244 := n10_
                                      have GE244 := n11_
                                      have NB218_244 := n12_
                                      have NB244_218 := n13_
                                      have NB230_244 := n14_
                                      have NB244_230 := n15_
                                      clear n0_ n1_ n2_ n3_ n4_ n5_ n6_ n7_ n8_ n9_ n10_ n11_ n12_ n13_ n14_ n15_
                                      clear hb hbox hg
                                      refine hK.out _ _ ⟨(blk_cell BK230.out 0).trans rfl, (blk_cell BK230.out 1).trans rfl, ((HB.out.cell (World.block_lt_of_cell? w _ hw236_0)).trans hw236_0), ((HB.out.cell (World.block_lt_of_cell? w _ hw236_1)).trans hw236_1), ((HB.out.cell (World.block_lt_of_cell? w _ hw236_2)).trans hw236_2)⟩ (fun hHeld => ?_)
                                      clear hK K
                                      refine norm_ (a' := ?_) ?_ ?_
                                      rotate_left
                                      · show Act.put _ (some 12) _ = _
                                        simp only [Act.put, List.setIfInBounds_toArray, List.set_cons_zero, List.set_cons_succ, i64_w, i32_w]
                                        rfl
                                      exact norm_ (by simp only [putAll, Act.put, List.setIfInBounds_toArray, List.set_cons_zero, List.set_cons_succ]) (hCont (v238, v241, gb244) _ ⟨hHeld, (by (with_reducible repeat (first | apply Kd.V_alloc | apply Kd.V_drewN | apply Kd.V_drew)); exact Kd.V_mono HO239.out (fun _ hk => ⟨hk.1.1, ⟨hk.1.2, hk.2⟩⟩)), (by (with_reducible repeat (first | apply Kd.V_alloc | apply Kd.V_drewN | apply Kd.V_drew)); exact Kd.V_mono HO242.out (fun _ hk => ⟨hk.1.1, ⟨hk.1.2, hk.2⟩⟩)), (by (with_reducible repeat (first | apply Kd.V_alloc | apply Kd.V_drewN | apply Kd.V_drew)); exact Kd.V_mono HO_219000.out (fun _ hk => ⟨hk.1.1, ⟨hk.1.2, hk.2⟩⟩)), (by (with_reducible repeat (first | apply Kd.V_alloc | apply Kd.V_drewN | apply Kd.V_drew)); exact Kd.V_mono HO_219001.out (fun _ hk => ⟨hk.1.1, ⟨hk.1.2, hk.2⟩⟩)), (by (with_reducible repeat (first | apply Kd.V_alloc | apply Kd.V_drewN | apply Kd.V_drew)); exact Kd.V_mono HO_231000.out (fun _ hk => ⟨hk.1.1, ⟨hk.1.2, hk.2⟩⟩)), (by (with_reducible repeat (first | apply Kd.V_alloc | apply Kd.V_drewN | apply Kd.V_drew)); exact Kd.V_mono HO_231001.out (fun _ hk => ⟨hk.1.1, ⟨hk.1.2, hk.2⟩⟩)), (by (with_reducible repeat (first | refine blk_drewN ?_ _ | refine blk_drew ?_ | refine blk_alloc ?_ _)); exact BK218.out), (by (with_reducible repeat (first | refine blk_drewN ?_ _ | refine blk_drew ?_ | refine blk_alloc ?_ _)); exact BK230.out), (by (with_reducible repeat (first | refine blk_drewN ?_ _ | refine blk_drew ?_ | refine blk_alloc ?_ _)); exact BK244.out), GW244.out, GE244.out, NB218_244.out, NB244_218.out, NB230_244.out, NB244_230.out, (by repeat (first | (with_reducible first | exact HB.out | apply below_alloc | apply pw_below_drewN | apply below_drew1 | refine below_set ?_ GE218.out | refine below_set ?_ GE230.out | refine below_set ?_ GE244.out) | exact HB.out))⟩)
                                    · skip
                                      refine box_step ?hg (N := 12) ?hd (cs := #[.slice none 0 0, .slice none 0 0]) (t := 24) ?hr ?_; (case hd => rfl); (case hg => rfl); (case hr => first | (go_simp; done) | (go_simp; rfl))
                                      intro gb244 hg w92 hbox hb
                                      have n0_ := Aside0.mk (Kd.V_below (Kd.V_elderB (by (with_reducible repeat (first | apply Kd.V_alloc | apply Kd.V_drewN | apply Kd.V_drew)); exact HO_219000.out) gb244 (Nat.le_of_eq hg.symm)) hb)
                                      have n1_ := Aside0.mk (Kd.V_below (Kd.V_elderB (by (with_reducible repeat (first | apply Kd.V_alloc | apply Kd.V_drewN | apply Kd.V_drew)); exact HO_219001.out) gb244 (Nat.le_of_eq hg.symm)) hb)
                                      have n2_ := Aside0.mk (Kd.V_below (Kd.V_elderB (by (with_reducible repeat (first | apply Kd.V_alloc | apply Kd.V_drewN | apply Kd.V_drew)); exact HO_231000.out) gb244 (Nat.le_of_eq hg.symm)) hb)
                                      have n3_ := Aside0.mk (Kd.V_below (Kd.V_elderB (by (with_reducible repeat (first | apply Kd.V_alloc | apply Kd.V_drewN | apply Kd.V_drew)); exact HO_231001.out) gb244 (Nat.le_of_eq hg.symm)) hb)
                                      have n4_ := Aside0.mk (blk_below (g := gb218) (o := .cells #[.slice Ao16 x219000_1.length co16, .slice Ao17 x219001_1.length co17] 24 (0, 0)) (by (with_reducible repeat (first | refine blk_drewN ?_ _ | refine blk_drew ?_ | refine blk_alloc ?_ _)); exact BK218.out) hb)
                                      have n5_ := Aside0.mk (blk_below (g := gb230) (o := .cells #[.slice Ao23 t223.length co23, .slice Ao25 t226.length co25] 24 (0, 0)) (by (with_reducible repeat (first | refine blk_drewN ?_ _ | refine blk_drew ?_ | refine blk_alloc ?_ _)); exact BK230.out) hb)
                                      have n6_ := Aside0.mk (below_step (by repeat (first | (with_reducible first | exact HB.out | apply below_alloc | apply pw_below_drewN | apply below_drew1 | refine below_set ?_ GE218.out | refine below_set ?_ GE230.out) | exact HB.out)) hb)
                                      have n7_ := Aside0.mk (hbox)
                                      have n8_ := Aside0.mk ((by rw [hg]; exact (below_size (by repeat (first | (with_reducible first | exact HB.out | apply below_alloc | apply pw_below_drewN | apply below_drew1 | refine below_set ?_ GE218.out | refine below_set ?_ GE230.out) | exact HB.out))) : w.heap.size ≤ gb244))
                                      have n9_ := Aside0.mk ((by rw [hg]; exact (below_size (by repeat (first | (with_reducible first | exact HB.out | apply below_alloc | apply pw_below_drewN | apply below_drew1 | refine below_set ?_ GE218.out | refine below_set ?_ GE230.out) | exact HB.out))) : w.heap.size ≤ gb244))
                                      have n10_ := Aside0.mk ((by rw [hg]; exact Nat.ne_of_lt (blk_lt (g := gb218) (o := .cells #[.slice Ao16 x219000_1.length co16, .slice Ao17 x219001_1.length co17] 24 (0, 0)) (by (with_reducible repeat (first | refine blk_drewN ?_ _ | refine blk_drew ?_ | refine blk_alloc ?_ _)); exact BK218.out)) : gb218 ≠ gb244))
                                      have n11_ := Aside0.mk ((by rw [hg]; exact Nat.ne_of_gt (blk_lt (g := gb218) (o := .cells #[.slice Ao16 x219000_1.length co16, .slice Ao17 x219001_1.length co17] 24 (0, 0)) (by (with_reducible repeat (first | refine blk_drewN ?_ _ | refine blk_drew ?_ | refine blk_alloc ?_ _)); exact BK218.out)) : gb244 ≠ gb218))
                                      have n12_ := Aside0.mk ((by rw [hg]; exact Nat.ne_of_lt (blk_lt (g := gb230) (o := .cells #[.slice Ao23 t223.length co23, .slice Ao25 t226.length co25] 24 (0, 0)) (by (with_reducible repeat (first | refine blk_drewN ?_ _ | refine blk_drew ?_ | refine blk_alloc ?_ _)); exact BK230.out)) : gb230 ≠ gb244))
                                      have n13_ := Aside0.mk ((by rw [hg]; exact Nat.ne_of_gt (blk_lt (g := gb230) (o := .cells #[.slice Ao23 t223.length co23, .slice Ao25 t226.length co25] 24 (0, 0)) (by (with_reducible repeat (first | refine blk_drewN ?_ _ | refine blk_drew ?_ | refine blk_alloc ?_ _)); exact BK230.out)) : gb244 ≠ gb230))
                                      clear HO_219000
                                      clear HO_219001
                                      clear HO_231000
                                      clear HO_231001
                                      clear BK218
                                      clear BK230
                                      clear HB
                                      have HO_219000 := n0_
                                      have HO_219001 := n1_
                                      have HO_231000 := n2_
                                      have HO_231001 := n3_
                                      have BK218 := n4_
                                      have BK230 := n5_
                                      have HB := n6_
                                      have BK244 := n7_
                                      have GW244 := n8_
                                      have GE244 := n9_
                                      have NB218_244 := n10_
                                      have NB244_218 := n11_
                                      have NB230_244 := n12_
                                      have NB244_230 := n13_
                                      clear n0_ n1_ n2_ n3_ n4_ n5_ n6_ n7_ n8_ n9_ n10_ n11_ n12_ n13_
                                      clear hb hbox hg
                                      refine hK.out _ _ ⟨(blk_cell BK230.out 0).trans rfl, (blk_cell BK230.out 1).trans rfl, ((HB.out.cell (World.block_lt_of_cell? w _ hw236_0)).trans hw236_0), ((HB.out.cell (World.block_lt_of_cell? w _ hw236_1)).trans hw236_1), ((HB.out.cell (World.block_lt_of_cell? w _ hw236_2)).trans hw236_2)⟩ (fun hHeld => ?_)
                                      clear hK K
                                      refine norm_ (a' := ?_) ?_ ?_
                                      rotate_left
                                      · show Act.put _ (some 12) _ = _
                                        simp only [Act.put, List.setIfInBounds_toArray, List.set_cons_zero, List.set_cons_succ, i64_w, i32_w]
                                        rfl
                                      refine one_ (i := 5) (N := some 98) #[true, true, true, true, true, true, false, false, false, true, false, false] rfl rfl (one_of HT_.out (by kernel_rfl)) (by decide) (fun K hK => ?_)
                                      refine goes_ Try.func25 (by kernel_rfl) rfl #[.agg #[.slice Ao23 t223.length co23, .slice Ao25 t226.length co25], .agg #[.int .i64 ((rd_T37 l0 x5_1).f0), .string ((rd_T37 l0 x5_1).f1), .slice A236_2 ((rd_T37 l0 x5_1).f2).length c236_2]] (by rfl) rfl rfl (by (try simp only [List.map_toArray, List.map_cons, List.map_nil]); first | done | rfl | (simp only [List.length_drop, List.length_take]; rfl)) ?_
                                      with_reducible refine (batch_Do.calls kj39 (fun k_ => ((k_ ≠ gb218 ∧ k_ ≠ gb230) ∧ k_ ≠ gb244)) _ _ t223 (fun k_ => ((k_ ≠ gb218 ∧ k_ ≠ gb230) ∧ k_ ≠ gb244)) _ _ t226 ((rd_T37 l0 x5_1).f0) ((rd_T37 l0 x5_1).f1) _ _ ((rd_T37 l0 x5_1).f2) t237 t240 t243 _ ?side1 ?side2 ?side3 ?side4 A48.out).mono ?_
                                      (case side1 => exact HO_231000.out)
                                      (case side2 => exact HO_231001.out)
                                      (case side3 => repeat (first | exact (Kd.C_below HR236_2.out HB.out) | (with_reducible refine Kd.C_alloc ?_ _) | (with_reducible refine Kd.C_drewN ?_ _) | (with_reducible refine Kd.C_drew ?_)))
                                      (case side4 => exact HC236_2.out)
                                      rintro e w93 ⟨v238, v241, rfl, ho0, ho1, hb⟩
                                      refine ⟨_, rfl, ?_⟩
                                      have n0_ := Aside0.mk (Kd.V_below (by (with_reducible repeat (first | apply Kd.V_alloc | apply Kd.V_drewN | apply Kd.V_drew)); exact HO_219000.out) hb)
                                      have n1_ := Aside0.mk (Kd.V_below (by (with_reducible repeat (first | apply Kd.V_alloc | apply Kd.V_drewN | apply Kd.V_drew)); exact HO_219001.out) hb)
                                      have n2_ := Aside0.mk (Kd.V_below (by (with_reducible repeat (first | apply Kd.V_alloc | apply Kd.V_drewN | apply Kd.V_drew)); exact HO_231000.out) hb)
                                      have n3_ := Aside0.mk (Kd.V_below (by (with_reducible repeat (first | apply Kd.V_alloc | apply Kd.V_drewN | apply Kd.V_drew)); exact HO_231001.out) hb)
                                      have n4_ := Aside0.mk (Kd.V_lower (Kd.V_mono (ok' := fun k_ => k_ ≠ gb218 ∧ k_ ≠ gb230 ∧ k_ ≠ gb244) ho0 (fun k_ hk_ => ⟨Or.elim hk_ (fun hs_ => Or.elim hs_ (fun hs_ => hs_.1.1) (fun hs_ => hs_.1.1)) (fun hn_ => (Kd.freshB (g := gb218) (o := .cells #[.slice Ao16 x219000_1.length co16, .slice Ao17 x219001_1.length co17] 24 (0, 0)) (by (with_reducible repeat (first | refine blk_drewN ?_ _ | refine blk_drew ?_ | refine blk_alloc ?_ _)); exact BK218.out) k_ hn_)), Or.elim hk_ (fun hs_ => Or.elim hs_ (fun hs_ => hs_.1.2) (fun hs_ => hs_.1.2)) (fun hn_ => (Kd.freshB (g := gb230) (o := .cells #[.slice Ao23 t223.length co23, .slice Ao25 t226.length co25] 24 (0, 0)) (by (with_reducible repeat (first | refine blk_drewN ?_ _ | refine blk_drew ?_ | refine blk_alloc ?_ _)); exact BK230.out) k_ hn_)), Or.elim hk_ (fun hs_ => Or.elim hs_ (fun hs_ => hs_.2) (fun hs_ => hs_.2)) (fun hn_ => (Kd.freshB (g := gb244) (o := .cells #[.slice none 0 0, .slice none 0 0] 24 (0, 0)) (by (with_reducible repeat (first | refine blk_drewN ?_ _ | refine blk_drew ?_ | refine blk_alloc ?_ _)); exact BK244.out) k_ hn_))⟩)) (below_size (by repeat (first | (with_reducible first | exact HB.out | apply below_alloc | apply pw_below_drewN | apply below_drew1 | refine below_set ?_ GE218.out | refine below_set ?_ GE230.out | refine below_set ?_ GE244.out) | exact HB.out))))
                                      have n5_ := Aside0.mk (Kd.V_lower (Kd.V_mono (ok' := fun k_ => k_ ≠ gb218 ∧ k_ ≠ gb230 ∧ k_ ≠ gb244) ho1 (fun k_ hk_ => ⟨Or.elim hk_ (fun hs_ => Or.elim hs_ (fun hs_ => hs_.1.1) (fun hs_ => hs_.1.1)) (fun hn_ => (Kd.freshB (g := gb218) (o := .cells #[.slice Ao16 x219000_1.length co16, .slice Ao17 x219001_1.length co17] 24 (0, 0)) (by (with_reducible repeat (first | refine blk_drewN ?_ _ | refine blk_drew ?_ | refine blk_alloc ?_ _)); exact BK218.out) k_ hn_)), Or.elim hk_ (fun hs_ => Or.elim hs_ (fun hs_ => hs_.1.2) (fun hs_ => hs_.1.2)) (fun hn_ => (Kd.freshB (g := gb230) (o := .cells #[.slice Ao23 t223.length co23, .slice Ao25 t226.length co25] 24 (0, 0)) (by (with_reducible repeat (first | refine blk_drewN ?_ _ | refine blk_drew ?_ | refine blk_alloc ?_ _)); exact BK230.out) k_ hn_)), Or.elim hk_ (fun hs_ => Or.elim hs_ (fun hs_ => hs_.2) (fun hs_ => hs_.2)) (fun hn_ => (Kd.freshB (g := gb244) (o := .cells #[.slice none 0 0, .slice none 0 0] 24 (0, 0)) (by (with_reducible repeat (first | refine blk_drewN ?_ _ | refine blk_drew ?_ | refine blk_alloc ?_ _)); exact BK244.out) k_ hn_))⟩)) (below_size (by repeat (first | (with_reducible first | exact HB.out | apply below_alloc | apply pw_below_drewN | apply below_drew1 | refine below_set ?_ GE218.out | refine below_set ?_ GE230.out | refine below_set ?_ GE244.out) | exact HB.out))))
                                      have n6_ := Aside0.mk (blk_below (g := gb218) (o := .cells #[.slice Ao16 x219000_1.length co16, .slice Ao17 x219001_1.length co17] 24 (0, 0)) (by (with_reducible repeat (first | refine blk_drewN ?_ _ | refine blk_drew ?_ | refine blk_alloc ?_ _)); exact BK218.out) hb)
                                      have n7_ := Aside0.mk (blk_below (g := gb230) (o := .cells #[.slice Ao23 t223.length co23, .slice Ao25 t226.length co25] 24 (0, 0)) (by (with_reducible repeat (first | refine blk_drewN ?_ _ | refine blk_drew ?_ | refine blk_alloc ?_ _)); exact BK230.out) hb)
                                      have n8_ := Aside0.mk (blk_below (g := gb244) (o := .cells #[.slice none 0 0, .slice none 0 0] 24 (0, 0)) (by (with_reducible repeat (first | refine blk_drewN ?_ _ | refine blk_drew ?_ | refine blk_alloc ?_ _)); exact BK244.out) hb)
                                      have n9_ := Aside0.mk (below_step (by repeat (first | (with_reducible first | exact HB.out | apply below_alloc | apply pw_below_drewN | apply below_drew1 | refine below_set ?_ GE218.out | refine below_set ?_ GE230.out | refine below_set ?_ GE244.out) | exact HB.out)) hb)
                                      clear HO_219000
                                      clear HO_219001
                                      clear HO_231000
                                      clear HO_231001
                                      clear BK218
                                      clear BK230
                                      clear BK244
                                      clear HB
                                      have HO_219000 := n0_
                                      have HO_219001 := n1_
                                      have HO_231000 := n2_
                                      have HO_231001 := n3_
                                      have HO239 := n4_
                                      have HO242 := n5_
                                      have BK218 := n6_
                                      have BK230 := n7_
                                      have BK244 := n8_
                                      have HB := n9_
                                      clear n0_ n1_ n2_ n3_ n4_ n5_ n6_ n7_ n8_ n9_
                                      (try clear hb)
                                      (try clear hb2)
                                      (try clear hk)
                                      (try clear hi)
                                      (try clear ho0)
                                      (try clear ho1)
                                      refine hK.out _ _ ⟨(blk_cell BK230.out 0).trans rfl, (blk_cell BK230.out 1).trans rfl, ((HB.out.cell (World.block_lt_of_cell? w _ hw236_0)).trans hw236_0), ((HB.out.cell (World.block_lt_of_cell? w _ hw236_1)).trans hw236_1), ((HB.out.cell (World.block_lt_of_cell? w _ hw236_2)).trans hw236_2)⟩ (fun hHeld => ?_)
                                      clear hK K
                                      refine norm_ (a' := ?_) ?_ ?_
                                      rotate_left
                                      · show Act.put _ (some 98) _ = _
                                        simp only [Act.put, List.setIfInBounds_toArray, List.set_cons_zero, List.set_cons_succ, i64_w, i32_w]
                                        rfl
                                      refine pure_ (i := 6) (N := some 92) (v := ?_) (a' := ?_) #[true, true, true, true, true, true, true, false, false, true, false, false] rfl rfl (any_of HT_.out (by kernel_rfl)) (fun _ _ _ h => h) (Or.inl ⟨by rfl, ?_⟩) ?_ ?_
                                      rotate_left
                                      · intro w'
                                        go_simp
                                        with_reducible rfl
                                      rotate_left
                                      · simp only [Act.put, List.setIfInBounds_toArray, List.set_cons_zero, List.set_cons_succ, i64_w, i32_w]
                                        rfl
                                      refine pure_ (i := 7) (N := some 99) (v := ?_) (a' := ?_) #[true, true, true, true, true, true, true, true, false, true, false, false] rfl rfl (any_of HT_.out (by kernel_rfl)) (fun _ _ _ h => h) (Or.inl ⟨by rfl, ?_⟩) ?_ ?_
                                      rotate_left
                                      · intro w'
                                        go_simp
                                        with_reducible rfl
                                      rotate_left
                                      · simp only [Act.put, List.setIfInBounds_toArray, List.set_cons_zero, List.set_cons_succ, i64_w, i32_w]
                                        rfl
                                      refine pure_ (i := 8) (N := some 100) (v := ?_) (a' := ?_) #[true, true, true, true, true, true, true, true, true, true, false, false] rfl rfl (any_of HT_.out (by kernel_rfl)) (fun _ _ _ h => h) (Or.inl ⟨by rfl, ?_⟩) ?_ ?_
                                      rotate_left
                                      · intro w'
                                        go_simp
                                        with_reducible rfl
                                      rotate_left
                                      · simp only [Act.put, List.setIfInBounds_toArray, List.set_cons_zero, List.set_cons_succ, i64_w, i32_w]
                                        rfl
                                      exact norm_ (by simp only [putAll, Act.put, List.setIfInBounds_toArray, List.set_cons_zero, List.set_cons_succ]) (hCont (v238, v241, gb244) _ ⟨hHeld, (by (with_reducible repeat (first | apply Kd.V_alloc | apply Kd.V_drewN | apply Kd.V_drew)); exact HO239.out), (by (with_reducible repeat (first | apply Kd.V_alloc | apply Kd.V_drewN | apply Kd.V_drew)); exact HO242.out), (by (with_reducible repeat (first | apply Kd.V_alloc | apply Kd.V_drewN | apply Kd.V_drew)); exact Kd.V_mono HO_219000.out (fun _ hk => ⟨hk.1.1, ⟨hk.1.2, hk.2⟩⟩)), (by (with_reducible repeat (first | apply Kd.V_alloc | apply Kd.V_drewN | apply Kd.V_drew)); exact Kd.V_mono HO_219001.out (fun _ hk => ⟨hk.1.1, ⟨hk.1.2, hk.2⟩⟩)), (by (with_reducible repeat (first | apply Kd.V_alloc | apply Kd.V_drewN | apply Kd.V_drew)); exact Kd.V_mono HO_231000.out (fun _ hk => ⟨hk.1.1, ⟨hk.1.2, hk.2⟩⟩)), (by (with_reducible repeat (first | apply Kd.V_alloc | apply Kd.V_drewN | apply Kd.V_drew)); exact Kd.V_mono HO_231001.out (fun _ hk => ⟨hk.1.1, ⟨hk.1.2, hk.2⟩⟩)), (by (with_reducible repeat (first | refine blk_drewN ?_ _ | refine blk_drew ?_ | refine blk_alloc ?_ _)); exact BK218.out), (by (with_reducible repeat (first | refine blk_drewN ?_ _ | refine blk_drew ?_ | refine blk_alloc ?_ _)); exact BK230.out), (by (with_reducible repeat (first | refine blk_drewN ?_ _ | refine blk_drew ?_ | refine blk_alloc ?_ _)); exact BK244.out), GW244.out, GE244.out, NB218_244.out, NB244_218.out, NB230_244.out, NB244_230.out, (by repeat (first | (with_reducible first | exact HB.out | apply below_alloc | apply pw_below_drewN | apply below_drew1 | refine below_set ?_ GE218.out | refine below_set ?_ GE230.out | refine below_set ?_ GE244.out) | exact HB.out))⟩)
                                  rintro ⟨v238, v241, gb244⟩ w94 ⟨hS_, h0_, h1_, h2_, h3_, h4_, h5_, h6_, h7_, h8_, h9_, h10_, h11_, h12_, h13_, h14_, h15_⟩
                                  have n0_ : Aside0 (Kd.V k68 68 w94 w.heap.size (fun k_ => k_ ≠ gb218 ∧ k_ ≠ gb230 ∧ k_ ≠ gb244) v238 t237) := ⟨h0_⟩
                                  have n1_ : Aside0 (Kd.V k68 68 w94 w.heap.size (fun k_ => k_ ≠ gb218 ∧ k_ ≠ gb230 ∧ k_ ≠ gb244) v241 t240) := ⟨h1_⟩
                                  have n2_ : Aside0 (Kd.V k68 68 w94 w.heap.size (fun k_ => k_ ≠ gb218 ∧ k_ ≠ gb230 ∧ k_ ≠ gb244) (.slice Ao16 x219000_1.length co16) x219000_1) := ⟨h2_⟩
                                  have n3_ : Aside0 (Kd.V k68 68 w94 w.heap.size (fun k_ => k_ ≠ gb218 ∧ k_ ≠ gb230 ∧ k_ ≠ gb244) (.slice Ao17 x219001_1.length co17) x219001_1) := ⟨h3_⟩
                                  have n4_ : Aside0 (Kd.V k68 68 w94 w.heap.size (fun k_ => k_ ≠ gb218 ∧ k_ ≠ gb230 ∧ k_ ≠ gb244) (.slice Ao23 t223.length co23) t223) := ⟨h4_⟩
                                  have n5_ : Aside0 (Kd.V k68 68 w94 w.heap.size (fun k_ => k_ ≠ gb218 ∧ k_ ≠ gb230 ∧ k_ ≠ gb244) (.slice Ao25 t226.length co25) t226) := ⟨h5_⟩
                                  have n6_ : Aside0 (w94.heap[gb218]? = some (.cells #[.slice Ao16 x219000_1.length co16, .slice Ao17 x219001_1.length co17] 24 (0, 0))) := ⟨h6_⟩
                                  have n7_ : Aside0 (w94.heap[gb230]? = some (.cells #[.slice Ao23 t223.length co23, .slice Ao25 t226.length co25] 24 (0, 0))) := ⟨h7_⟩
                                  have n8_ : Aside0 (w94.heap[gb244]? = some (.cells #[.slice none 0 0, .slice none 0 0] 24 (0, 0))) := ⟨h8_⟩
                                  have n9_ : Aside0 (w.heap.size ≤ gb244) := ⟨h9_⟩
                                  have n10_ : Aside0 (w.heap.size ≤ gb244) := ⟨h10_⟩
                                  have n11_ : Aside0 (gb218 ≠ gb244) := ⟨h11_⟩
                                  have n12_ : Aside0 (gb244 ≠ gb218) := ⟨h12_⟩
                                  have n13_ : Aside0 (gb230 ≠ gb244) := ⟨h13_⟩
                                  have n14_ : Aside0 (gb244 ≠ gb230) := ⟨h14_⟩
                                  have n15_ : Aside0 (Below w.heap.size w w94) := ⟨h15_⟩
                                  clear HO_219000
                                  clear HO_219001
                                  clear HO_231000
                                  clear HO_231001
                                  clear BK218
                                  clear BK230
                                  clear HB
                                  clear h0_ h1_ h2_ h3_ h4_ h5_ h6_ h7_ h8_ h9_ h10_ h11_ h12_ h13_ h14_ h15_
                                  have HO239 := n0_
                                  have HO242 := n1_
                                  have HO_219000 := n2_
                                  have HO_219001 := n3_
                                  have HO_231000 := n4_
                                  have HO_231001 := n5_
                                  have BK218 := n6_
                                  have BK230 := n7_
                                  have BK244 := n8_
                                  have GW244 := n9_
                                  have GE244 := n10_
                                  have NB218_244 := n11_
                                  have NB244_218 := n12_
                                  have NB230_244 := n13_
                                  have NB244_230 := n14_
                                  have HB := n15_
                                  clear n0_ n1_ n2_ n3_ n4_ n5_ n6_ n7_ n8_ n9_ n10_ n11_ n12_ n13_ n14_ n15_
                                  have hHeld : w94.cell? ⟨gb230, 0, none⟩ = some (.slice Ao23 t223.length co23) ∧ w94.cell? ⟨gb230, 1, none⟩ = some (.slice Ao25 t226.length co25) ∧ w94.cell? (ad219.add ((x5_1).toNat * 3)) = some (.int .i64 ((rd_T37 l0 x5_1).f0)) ∧ w94.cell? ⟨(ad219.add ((x5_1).toNat * 3)).block, (ad219.add ((x5_1).toNat * 3)).off + 1, none⟩ = some (.string ((rd_T37 l0 x5_1).f1)) ∧ w94.cell? ⟨(ad219.add ((x5_1).toNat * 3)).block, (ad219.add ((x5_1).toNat * 3)).off + 2, none⟩ = some (.slice A236_2 ((rd_T37 l0 x5_1).f2).length c236_2) := hS_
                                  obtain ⟨Ao95, co95, eo95⟩ := Kd.V_slice HO239.out
                                  (first | subst eo95 | (injection eo95 with f1_ f2_ f3_; have f4_ := f1_.symm; have f5_ := f3_.symm; clear f1_ f2_ f3_; subst f4_; subst f5_))
                                  obtain ⟨Ao97, co97, eo97⟩ := Kd.V_slice HO242.out
                                  (first | subst eo97 | (injection eo97 with f1_ f2_ f3_; have f4_ := f1_.symm; have f5_ := f3_.symm; clear f1_ f2_ f3_; subst f4_; subst f5_))
                                  refine norm_ (a' := ?_) ?_ ?_
                                  rotate_left
                                  · simp only [putAll, Act.put, List.setIfInBounds_toArray, List.set_cons_zero, List.set_cons_succ]
                                    rfl
                                  refine one_ (i := 10) (N := none) #[true, true, true, true, true, true, true, true, true, true, true, false] rfl rfl (one_of HT_.out (by kernel_rfl)) (by decide) (fun K hK => ?_)
                                  have hs96 : w94.cell? ⟨gb244, 0, none⟩ = some (.slice none 0 0) := (blk_cell BK244.out 0).trans rfl
                                  have hfs96 := blk_frozen BK244.out 0
                                  have hns96_0 := NB218_244.out
                                  have hns96_1 := NB230_244.out
                                  have hms96_0 := NB244_218.out
                                  have hms96_1 := NB244_230.out
                                  have hs98 : w94.cell? ⟨gb244, 1, none⟩ = some (.slice none 0 0) := (blk_cell BK244.out 1).trans rfl
                                  have hfs98 := blk_frozen BK244.out 1
                                  have hns98_0 := NB218_244.out
                                  have hns98_1 := NB230_244.out
                                  have hms98_0 := NB244_218.out
                                  have hms98_1 := NB244_230.out
                                  refine skip_ (w1 := ?_) (by rfl) rfl ?_ ?_
                                  rotate_left
                                  · go_simp
                                    rfl
                                  refine hK.out _ _ ⟨((cell_far (p := ⟨gb244, _, none⟩) NB230_244.out _).trans (((cell_far (p := ⟨gb244, _, none⟩) NB230_244.out _).trans (hHeld.1)))), ((cell_far (p := ⟨gb244, _, none⟩) NB230_244.out _).trans (((cell_far (p := ⟨gb244, _, none⟩) NB230_244.out _).trans (hHeld.2.1)))), ((cell_far (p := ⟨gb244, _, none⟩) (by first | exact Nat.ne_of_lt (Nat.lt_of_lt_of_le (by have := World.block_lt_of_cell? _ _ hw236_0; first | rwa [add_block] at this | exact this) GW244.out) | (rw [add_block]; exact Nat.ne_of_lt (Nat.lt_of_lt_of_le (by have := World.block_lt_of_cell? _ _ hw236_0; first | rwa [add_block] at this | exact this) GW244.out)) | (show (Addr.add _ _).block ≠ _; rw [add_block]; exact Nat.ne_of_lt (Nat.lt_of_lt_of_le (by have := World.block_lt_of_cell? _ _ hw236_0; first | rwa [add_block] at this | exact this) GW244.out)) | (dsimp only; exact Nat.ne_of_lt (Nat.lt_of_lt_of_le (by have := World.block_lt_of_cell? _ _ hw236_0; first | rwa [add_block] at this | exact this) GW244.out))) _).trans (((cell_far (p := ⟨gb244, _, none⟩) (by first | exact Nat.ne_of_lt (Nat.lt_of_lt_of_le (by have := World.block_lt_of_cell? _ _ hw236_0; first | rwa [add_block] at this | exact this) GW244.out) | (rw [add_block]; exact Nat.ne_of_lt (Nat.lt_of_lt_of_le (by have := World.block_lt_of_cell? _ _ hw236_0; first | rwa [add_block] at this | exact this) GW244.out)) | (show (Addr.add _ _).block ≠ _; rw [add_block]; exact Nat.ne_of_lt (Nat.lt_of_lt_of_le (by have := World.block_lt_of_cell? _ _ hw236_0; first | rwa [add_block] at this | exact this) GW244.out)) | (dsimp only; exact Nat.ne_of_lt (Nat.lt_of_lt_of_le (by have := World.block_lt_of_cell? _ _ hw236_0; first | rwa [add_block] at this | exact this) GW244.out))) _).trans (hHeld.2.2.1)))), ((cell_far (p := ⟨gb244, _, none⟩) (by first | exact Nat.ne_of_lt (Nat.lt_of_lt_of_le (by have := World.block_lt_of_cell? _ _ hw236_1; first | rwa [add_block] at this | exact this) GW244.out) | (rw [add_block]; exact Nat.ne_of_lt (Nat.lt_of_lt_of_le (by have := World.block_lt_of_cell? _ _ hw236_1; first | rwa [add_block] at this | exact this) GW244.out)) | (show (Addr.add _ _).block ≠ _; rw [add_block]; exact Nat.ne_of_lt (Nat.lt_of_lt_of_le (by have := World.block_lt_of_cell? _ _ hw236_1; first | rwa [add_block] at this | exact this) GW244.out)) | (dsimp only; exact Nat.ne_of_lt (Nat.lt_of_lt_of_le (by have := World.block_lt_of_cell? _ _ hw236_1; first | rwa [add_block] at this | exact this) GW244.out))) _).trans (((cell_far (p := ⟨gb244, _, none⟩) (by first | exact Nat.ne_of_lt (Nat.lt_of_lt_of_le (by have := World.block_lt_of_cell? _ _ hw236_1; first | rwa [add_block] at this | exact this) GW244.out) | (rw [add_block]; exact Nat.ne_of_lt (Nat.lt_of_lt_of_le (by have := World.block_lt_of_cell? _ _ hw236_1; first | rwa [add_block] at this | exact this) GW244.out)) | (show (Addr.add _ _).block ≠ _; rw [add_block]; exact Nat.ne_of_lt (Nat.lt_of_lt_of_le (by have := World.block_lt_of_cell? _ _ hw236_1; first | rwa [add_block] at this | exact this) GW244.out)) | (dsimp only; exact Nat.ne_of_lt (Nat.lt_of_lt_of_le (by have := World.block_lt_of_cell? _ _ hw236_1; first | rwa [add_block] at this | exact this) GW244.out))) _).trans (hHeld.2.2.2.1)))), ((cell_far (p := ⟨gb244, _, none⟩) (by first | exact Nat.ne_of_lt (Nat.lt_of_lt_of_le (by have := World.block_lt_of_cell? _ _ hw236_2; first | rwa [add_block] at this | exact this) GW244.out) | (rw [add_block]; exact Nat.ne_of_lt (Nat.lt_of_lt_of_le (by have := World.block_lt_of_cell? _ _ hw236_2; first | rwa [add_block] at this | exact this) GW244.out)) | (show (Addr.add _ _).block ≠ _; rw [add_block]; exact Nat.ne_of_lt (Nat.lt_of_lt_of_le (by have := World.block_lt_of_cell? _ _ hw236_2; first | rwa [add_block] at this | exact this) GW244.out)) | (dsimp only; exact Nat.ne_of_lt (Nat.lt_of_lt_of_le (by have := World.block_lt_of_cell? _ _ hw236_2; first | rwa [add_block] at this | exact this) GW244.out))) _).trans (((cell_far (p := ⟨gb244, _, none⟩) (by first | exact Nat.ne_of_lt (Nat.lt_of_lt_of_le (by have := World.block_lt_of_cell? _ _ hw236_2; first | rwa [add_block] at this | exact this) GW244.out) | (rw [add_block]; exact Nat.ne_of_lt (Nat.lt_of_lt_of_le (by have := World.block_lt_of_cell? _ _ hw236_2; first | rwa [add_block] at this | exact this) GW244.out)) | (show (Addr.add _ _).block ≠ _; rw [add_block]; exact Nat.ne_of_lt (Nat.lt_of_lt_of_le (by have := World.block_lt_of_cell? _ _ hw236_2; first | rwa [add_block] at this | exact this) GW244.out)) | (dsimp only; exact Nat.ne_of_lt (Nat.lt_of_lt_of_le (by have := World.block_lt_of_cell? _ _ hw236_2; first | rwa [add_block] at this | exact this) GW244.out))) _).trans (hHeld.2.2.2.2))))⟩ (fun hHeld => ?_)
                                  clear hK K
                                  refine pure_ (i := 11) (N := some 13) (v := ?_) (a' := ?_) #[true, true, true, true, true, true, true, true, true, true, true, true] rfl rfl (any_of HT_.out (by kernel_rfl)) (fun _ _ _ h => h) (Or.inl ⟨by rfl, ?_⟩) ?_ ?_
                                  rotate_left
                                  · intro w'
                                    go_simp
                                    with_reducible rfl
                                  rotate_left
                                  · simp only [Act.put, List.setIfInBounds_toArray, List.set_cons_zero, List.set_cons_succ, i64_w, i32_w]
                                    rfl
                                  refine done_ (done_of HT_.out (by kernel_rfl)) ?_
                                  have hnb99 := NB230_218.out
                                  have hnc99 := NB218_230.out
                                  have hnb100 := NB230_244.out
                                  have hnc100 := NB244_230.out
                                  have hcz101_0 : w94.cell? ⟨gb230, 0, none⟩ = some (.slice Ao23 t223.length co23) := (blk_cell BK230.out 0).trans rfl
                                  have hcz101_1 : w94.cell? ⟨gb230, 1, none⟩ = some (.slice Ao25 t226.length co25) := (blk_cell BK230.out 1).trans rfl
                                  have hfz101_0 := blk_frozen BK230.out 0
                                  have hfz101_1 := blk_frozen BK230.out 1
                                  have hnb102 := NB218_244.out
                                  have hnc102 := NB244_218.out
                                  have hcz103_0 : w94.cell? ⟨gb218, 0, none⟩ = some (.slice Ao16 x219000_1.length co16) := (blk_cell BK218.out 0).trans rfl
                                  have hcz103_1 : w94.cell? ⟨gb218, 1, none⟩ = some (.slice Ao17 x219001_1.length co17) := (blk_cell BK218.out 1).trans rfl
                                  have hfz103_0 := blk_frozen BK218.out 0
                                  have hfz103_1 := blk_frozen BK218.out 1
                                  try go_wp2
                                  go_roundg kj39
                                  case measure => have := HK1.out; have := HJ5.out; have := HJ13.out; have := HJ39.out; omega
                                  case rel => exact ⟨(wrap64 (x5_1 + 1)), (t223), (t226), (.slice Ao23 t223.length co23), (.slice Ao25 t226.length co25), (by first | rfl | (simp; done) | (simp [*]; done)), H', ⟨by have := HK1.out; have := HJ5.out; have := HJ13.out; have := HJ39.out; omega⟩, ⟨by (with_reducible repeat (first | apply Kd.V_alloc | apply Kd.V_drewN | apply Kd.V_drew)); exact Kd.V_mono (Kd.V_far (p := ⟨gb218, 1, none⟩) (Kd.V_far (p := ⟨gb218, 0, none⟩) (Kd.V_far (p := ⟨gb244, 1, none⟩) (Kd.V_far (p := ⟨gb244, 0, none⟩) (Kd.V_mono (Kd.V_mono HO_231000.out (fun k_ hk => (⟨hk, hk.2.2⟩ : _ ∧ k_ ≠ gb244))) (fun k_ hk => (⟨hk, hk.1.1⟩ : _ ∧ k_ ≠ gb218))) (fun _ hk => hk.1.2) (.slice Ao95 t237.length co95)) (fun _ hk => hk.1.2) (.slice Ao97 t240.length co97)) (fun _ hk => hk.2) (.slice Ao23 t223.length co23)) (fun _ hk => hk.2) (.slice Ao25 t226.length co25)) (fun _ hk => hk.1.1.1)⟩, ⟨by (with_reducible repeat (first | apply Kd.V_alloc | apply Kd.V_drewN | apply Kd.V_drew)); exact Kd.V_mono (Kd.V_far (p := ⟨gb218, 1, none⟩) (Kd.V_far (p := ⟨gb218, 0, none⟩) (Kd.V_far (p := ⟨gb244, 1, none⟩) (Kd.V_far (p := ⟨gb244, 0, none⟩) (Kd.V_mono (Kd.V_mono HO_231001.out (fun k_ hk => (⟨hk, hk.2.2⟩ : _ ∧ k_ ≠ gb244))) (fun k_ hk => (⟨hk, hk.1.1⟩ : _ ∧ k_ ≠ gb218))) (fun _ hk => hk.1.2) (.slice Ao95 t237.length co95)) (fun _ hk => hk.1.2) (.slice Ao97 t240.length co97)) (fun _ hk => hk.2) (.slice Ao23 t223.length co23)) (fun _ hk => hk.2) (.slice Ao25 t226.length co25)) (fun _ hk => hk.1.1.1)⟩, ⟨by (with_reducible repeat (first | refine blk_drewN ?_ _ | refine blk_drew ?_ | refine blk_alloc ?_ _)); refine blk_put (cs := #[.slice Ao23 t223.length co23, .slice Ao17 x219001_1.length co17]) ?_ 1 _ rfl; (with_reducible repeat (first | refine blk_drewN ?_ _ | refine blk_drew ?_ | refine blk_alloc ?_ _)); refine blk_put (cs := #[.slice Ao16 x219000_1.length co16, .slice Ao17 x219001_1.length co17]) ?_ 0 _ rfl; (with_reducible repeat (first | refine blk_drewN ?_ _ | refine blk_drew ?_ | refine blk_alloc ?_ _)); refine blk_far ?_ NB218_244.out _; (with_reducible repeat (first | refine blk_drewN ?_ _ | refine blk_drew ?_ | refine blk_alloc ?_ _)); refine blk_far ?_ NB218_244.out _; (with_reducible repeat (first | refine blk_drewN ?_ _ | refine blk_drew ?_ | refine blk_alloc ?_ _)); exact BK218.out⟩, ⟨by repeat (first | (with_reducible first | exact HB.out | apply below_alloc | apply pw_below_drewN | apply below_drew1 | refine below_set ?_ GE218.out | refine below_set ?_ GE230.out | refine below_set ?_ GE244.out) | exact HB.out)⟩⟩
                              · rw [if_neg c47] at H
                                exact absurd H (by simp)
                            · rw [if_neg c46] at H
                              exact absurd H (by simp)
              · rw [if_neg c10] at H
                exact absurd H (by simp)
            · rw [if_neg c9] at H
              exact absurd H (by simp)
          · replace c8 := Bool.eq_false_iff.mpr c8
            subst c8
            have H1 : (some t217) = some r := by rw [if_neg (show ¬ (false = true) by decide)] at H; exact H
            clear H
            have H := H1
            clear H1
            obtain rfl := Option.some.inj H
            go_wp2
            first | go_ret | ((try simp only [Exit.inBlock, Exit.then]); refine bodyPost_ret (results_tmp rfl _ _ _) ?hd_ ?hR_; (case hd_ => rfl))
            exact ⟨by first | rfl | (simp [errW_none, errW_some] <;> rfl) | (simp [*, errW_none, errW_some] <;> rfl), by repeat (first | (with_reducible first | exact HB.out | apply below_alloc | apply pw_below_drewN | apply below_drew1 | refine below_set ?_ GE218.out) | exact HB.out)⟩

end Go.Proofs.Ythcdlgphabaidaa.PO
