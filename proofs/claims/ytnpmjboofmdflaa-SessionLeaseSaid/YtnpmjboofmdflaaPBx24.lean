-- Made by a program of this workplace out of the translation (wip/tools in the repo). Not trusted: Lean checks it.
import Derived.Test.YtnpmjboofmdflaaPBx0
import Derived.Test.YtnpmjboofmdflaaPBx3
import Derived.Test.YtnpmjboofmdflaaPBx4
import Derived.Test.YtnpmjboofmdflaaPBx5
import Derived.Test.YtnpmjboofmdflaaPBx10
import Derived.Test.YtnpmjboofmdflaaPBx12
import Derived.Test.YtnpmjboofmdflaaPBx13
import Derived.Test.YtnpmjboofmdflaaPBx14
import Derived.Test.YtnpmjboofmdflaaPBx21
import Derived.Test.YtnpmjboofmdflaaPBx23
namespace Go.Proofs.Ytnpmjboofmdflaa.PB
open Go.RowKit Go.Proofs.YtnpmjboofmdflaaW.PrintWords Go.Proofs.YtnpmjboofmdflaaW.PrintLast Go.Proofs.YtnpmjboofmdflaaW.PrintMore
attribute [local go_sem] max2_int min2_int max_two min_two max_three min_three max_four min_four   -- for this text's walks alone
set_option linter.unusedVariables false
set_option linter.unusedSimpArgs false

/-! ### stanchionlaw17_SessionLease: function 8 -/
set_option maxHeartbeats 8000000 in
set_option maxRecDepth 100000 in
theorem stanchionlaw17_SessionLease.calls (k : Nat) (a0_0 : Int) (A0_1 : Option Addr) (c0_1 : Nat) (l0_1 : List (S42)) (A0_2 : Option Addr) (c0_2 : Nat) (l0_2 : List (S85)) (a0_3 : Int) (a0_4 : Int) (a1 : Int) (a2 : Int) (r : Bool) (w : World) (hr0_1 : Kd.C k42 w A0_1 l0_1.length l0_1) (hc0_1 : l0_1.length ≤ c0_1) (hr0_2 : Kd.C k85 w A0_2 l0_2.length l0_2) (hc0_2 : l0_2.length ≤ c0_2) (h : stanchionlaw17_SessionLease.f k a0_0 l0_1 l0_2 a0_3 a0_4 a1 a2 = some r) (hr_ : r = true) :
    Calls Try.prog 8 #[.agg #[.int .i64 a0_0, .slice A0_1 l0_1.length c0_1, .slice A0_2 l0_2.length c0_2, .int .i64 a0_3, .int .u64 a0_4], .int .i64 a1, .int .u64 a2] w fun e w' => e = .returned (.bool r) ∧ Below w.heap.size w w' := by
  have hu26 := Try.underlying26
  have hu42 := Try.underlying42
  have HR0_1 := Aside0.mk hr0_1
  have HC0_1 := Aside0.mk hc0_1
  clear hr0_1 hc0_1
  have HR0_2 := Aside0.mk hr0_2
  have HC0_2 := Aside0.mk hc0_2
  clear hr0_2 hc0_2
  have HB := Aside0.mk (Below.refl w.heap.size w)
  have H : ((stanchionlaw17_shown.f k).bind fun t814 => ((stanchionlaw17_few.f a0_0 l0_1 l0_2 a0_3 a0_4).bind fun t815 => ((stanchionref15_Heap.f k l0_2).bind fun t816 => (if t814 = true then (if t815 = true then (if t816 = true then (if a0_4 > 4611686018427387904 then (stanchionlaw17_SessionLease.j0 k a1 a2 t814 true a0_0 l0_1 l0_2 a0_3 a0_4) else (stanchionlaw17_SessionLease.j0 k a1 a2 t814 (decide (a2 > 4611686018427387904)) a0_0 l0_1 l0_2 a0_3 a0_4)) else (stanchionlaw17_SessionLease.j0 k a1 a2 t814 true a0_0 l0_1 l0_2 a0_3 a0_4)) else (stanchionlaw17_SessionLease.j0 k a1 a2 t814 true a0_0 l0_1 l0_2 a0_3 a0_4)) else (stanchionlaw17_SessionLease.j0 k a1 a2 t814 true a0_0 l0_1 l0_2 a0_3 a0_4))))) = some r := h
  clear h
  replace H := Option.bind_eq_some_iff.mp H
  obtain ⟨t814, A40, H⟩ := H
  replace H : ((stanchionlaw17_few.f a0_0 l0_1 l0_2 a0_3 a0_4).bind fun t815 => ((stanchionref15_Heap.f k l0_2).bind fun t816 => (if t814 = true then (if t815 = true then (if t816 = true then (if a0_4 > 4611686018427387904 then (stanchionlaw17_SessionLease.j0 k a1 a2 t814 true a0_0 l0_1 l0_2 a0_3 a0_4) else (stanchionlaw17_SessionLease.j0 k a1 a2 t814 (decide (a2 > 4611686018427387904)) a0_0 l0_1 l0_2 a0_3 a0_4)) else (stanchionlaw17_SessionLease.j0 k a1 a2 t814 true a0_0 l0_1 l0_2 a0_3 a0_4)) else (stanchionlaw17_SessionLease.j0 k a1 a2 t814 true a0_0 l0_1 l0_2 a0_3 a0_4)) else (stanchionlaw17_SessionLease.j0 k a1 a2 t814 true a0_0 l0_1 l0_2 a0_3 a0_4)))) = some r := H
  have A4 := Aside0.mk A40
  clear A40
  replace H := Option.bind_eq_some_iff.mp H
  obtain ⟨t815, A50, H⟩ := H
  replace H : ((stanchionref15_Heap.f k l0_2).bind fun t816 => (if t814 = true then (if t815 = true then (if t816 = true then (if a0_4 > 4611686018427387904 then (stanchionlaw17_SessionLease.j0 k a1 a2 t814 true a0_0 l0_1 l0_2 a0_3 a0_4) else (stanchionlaw17_SessionLease.j0 k a1 a2 t814 (decide (a2 > 4611686018427387904)) a0_0 l0_1 l0_2 a0_3 a0_4)) else (stanchionlaw17_SessionLease.j0 k a1 a2 t814 true a0_0 l0_1 l0_2 a0_3 a0_4)) else (stanchionlaw17_SessionLease.j0 k a1 a2 t814 true a0_0 l0_1 l0_2 a0_3 a0_4)) else (stanchionlaw17_SessionLease.j0 k a1 a2 t814 true a0_0 l0_1 l0_2 a0_3 a0_4))) = some r := H
  have A5 := Aside0.mk A50
  clear A50
  replace H := Option.bind_eq_some_iff.mp H
  obtain ⟨t816, A60, H⟩ := H
  replace H : (if t814 = true then (if t815 = true then (if t816 = true then (if a0_4 > 4611686018427387904 then (stanchionlaw17_SessionLease.j0 k a1 a2 t814 true a0_0 l0_1 l0_2 a0_3 a0_4) else (stanchionlaw17_SessionLease.j0 k a1 a2 t814 (decide (a2 > 4611686018427387904)) a0_0 l0_1 l0_2 a0_3 a0_4)) else (stanchionlaw17_SessionLease.j0 k a1 a2 t814 true a0_0 l0_1 l0_2 a0_3 a0_4)) else (stanchionlaw17_SessionLease.j0 k a1 a2 t814 true a0_0 l0_1 l0_2 a0_3 a0_4)) else (stanchionlaw17_SessionLease.j0 k a1 a2 t814 true a0_0 l0_1 l0_2 a0_3 a0_4)) = some r := H
  have A6 := Aside0.mk A60
  clear A60
  have HC7 := Aside0.mk H
  clear H
  go_enter Try.func8, Try.ntmps8
  go_upto_region 4 with (first | ((with_reducible refine gate_dst (N := 3) rfl ?_); refine box_event ?hg (N := 3) ?hd (cs := #[.int .i64 a0_0, .slice A0_1 l0_1.length c0_1, .slice A0_2 l0_2.length c0_2, .int .i64 a0_3, .int .u64 a0_4]) (t := 26) ?hr ?_; (case hd => rfl); (case hg => rfl); (case hr => first | (go_simp; done) | (go_simp; rfl)); intro gb813 hg w8 hbox hb; have n0_ := Aside0.mk (below_step (by repeat (first | (with_reducible first | exact HB.out | apply below_alloc | apply pw_below_drewN | apply below_drew1) | exact HB.out)) hb); have n1_ := Aside0.mk (hbox); have n2_ := Aside0.mk ((by rw [hg]; exact (below_size (by repeat (first | (with_reducible first | exact HB.out | apply below_alloc | apply pw_below_drewN | apply below_drew1) | exact HB.out))) : w.heap.size ≤ gb813)); have n3_ := Aside0.mk ((by rw [hg]; exact (below_size (by repeat (first | (with_reducible first | exact HB.out | apply below_alloc | apply pw_below_drewN | apply below_drew1) | exact HB.out))) : w.heap.size ≤ gb813)); clear HB; have HB := n0_; have BK813 := n1_; have GW813 := n2_; have GE813 := n3_; clear n0_ n1_ n2_ n3_; clear hb hbox hg) | ((with_reducible refine gate_callee (f := 10) rfl ?_); refine goesL_ (some 18) rfl rfl Try.func10 (by kernel_rfl) rfl #[] rfl (by (try simp only [List.map_toArray, List.map_cons, List.map_nil]); first | done | rfl | (simp only [List.length_drop, List.length_take]; rfl)) ?_; (with_reducible refine (stanchionlaw17_shown.calls k  t814 _ A4.out).mono ?_); rintro e w9 ⟨rfl, hb⟩; refine ⟨_, rfl, ?_⟩; have n0_ := Aside0.mk (blk_below (g := gb813) (o := .cells #[.int .i64 a0_0, .slice A0_1 l0_1.length c0_1, .slice A0_2 l0_2.length c0_2, .int .i64 a0_3, .int .u64 a0_4] 26 (0, 0)) (by (with_reducible repeat (first | refine blk_drewN ?_ _ | refine blk_drew ?_ | refine blk_alloc ?_ _)); exact BK813.out) hb); have n1_ := Aside0.mk (below_step (by repeat (first | (with_reducible first | exact HB.out | apply below_alloc | apply pw_below_drewN | apply below_drew1 | refine below_set ?_ GE813.out) | exact HB.out)) hb); clear BK813; clear HB; have BK813 := n0_; have HB := n1_; clear n0_ n1_; (try clear hb); (try clear hb2); (try clear hk); (try clear hi); have hcz10_0 : w9.cell? ⟨gb813, 0, none⟩ = some (.int .i64 a0_0) := (blk_cell BK813.out 0).trans rfl; have hcz10_1 : w9.cell? ⟨gb813, 1, none⟩ = some (.slice A0_1 l0_1.length c0_1) := (blk_cell BK813.out 1).trans rfl; have hcz10_2 : w9.cell? ⟨gb813, 2, none⟩ = some (.slice A0_2 l0_2.length c0_2) := (blk_cell BK813.out 2).trans rfl; have hcz10_3 : w9.cell? ⟨gb813, 3, none⟩ = some (.int .i64 a0_3) := (blk_cell BK813.out 3).trans rfl; have hcz10_4 : w9.cell? ⟨gb813, 4, none⟩ = some (.int .u64 a0_4) := (blk_cell BK813.out 4).trans rfl; have hfz10_0 := blk_frozen BK813.out 0; have hfz10_1 := blk_frozen BK813.out 1; have hfz10_2 := blk_frozen BK813.out 2; have hfz10_3 := blk_frozen BK813.out 3; have hfz10_4 := blk_frozen BK813.out 4) | ((with_reducible refine gate_callee (f := 15) rfl ?_); refine goesL_ (some 20) rfl rfl Try.func15 (by kernel_rfl) rfl #[.agg #[.int .i64 a0_0, .slice A0_1 l0_1.length c0_1, .slice A0_2 l0_2.length c0_2, .int .i64 a0_3, .int .u64 a0_4]] rfl (by (try simp only [List.map_toArray, List.map_cons, List.map_nil]); first | done | rfl | (simp only [List.length_drop, List.length_take]; rfl)) ?_; (with_reducible refine (stanchionlaw17_few.calls a0_0 _ _ l0_1 _ _ l0_2 a0_3 a0_4 t815 _ ?side1 ?side2 ?side3 ?side4 A5.out).mono ?_); (case side1 => repeat (first | exact (Kd.C_below HR0_1.out HB.out) | (with_reducible refine Kd.C_alloc ?_ _) | (with_reducible refine Kd.C_drewN ?_ _) | (with_reducible refine Kd.C_drew ?_))); (case side2 => exact HC0_1.out); (case side3 => repeat (first | exact (Kd.C_below HR0_2.out HB.out) | (with_reducible refine Kd.C_alloc ?_ _) | (with_reducible refine Kd.C_drewN ?_ _) | (with_reducible refine Kd.C_drew ?_))); (case side4 => exact HC0_2.out); rintro e w11 ⟨rfl, hb⟩; refine ⟨_, rfl, ?_⟩; have n0_ := Aside0.mk (blk_below (g := gb813) (o := .cells #[.int .i64 a0_0, .slice A0_1 l0_1.length c0_1, .slice A0_2 l0_2.length c0_2, .int .i64 a0_3, .int .u64 a0_4] 26 (0, 0)) (by (with_reducible repeat (first | refine blk_drewN ?_ _ | refine blk_drew ?_ | refine blk_alloc ?_ _)); exact BK813.out) hb); have n1_ := Aside0.mk (below_step (by repeat (first | (with_reducible first | exact HB.out | apply below_alloc | apply pw_below_drewN | apply below_drew1 | refine below_set ?_ GE813.out) | exact HB.out)) hb); clear BK813; clear HB; have BK813 := n0_; have HB := n1_; clear n0_ n1_; (try clear hb); (try clear hb2); (try clear hk); (try clear hi); have hcz12_0 : w11.cell? ⟨gb813, 0, none⟩ = some (.int .i64 a0_0) := (blk_cell BK813.out 0).trans rfl; have hcz12_1 : w11.cell? ⟨gb813, 1, none⟩ = some (.slice A0_1 l0_1.length c0_1) := (blk_cell BK813.out 1).trans rfl; have hcz12_2 : w11.cell? ⟨gb813, 2, none⟩ = some (.slice A0_2 l0_2.length c0_2) := (blk_cell BK813.out 2).trans rfl; have hcz12_3 : w11.cell? ⟨gb813, 3, none⟩ = some (.int .i64 a0_3) := (blk_cell BK813.out 3).trans rfl; have hcz12_4 : w11.cell? ⟨gb813, 4, none⟩ = some (.int .u64 a0_4) := (blk_cell BK813.out 4).trans rfl; have hfz12_0 := blk_frozen BK813.out 0; have hfz12_1 := blk_frozen BK813.out 1; have hfz12_2 := blk_frozen BK813.out 2; have hfz12_3 := blk_frozen BK813.out 3; have hfz12_4 := blk_frozen BK813.out 4) | ((with_reducible refine gate_callee (f := 25) rfl ?_); refine goesL_ (some 23) rfl rfl Try.func25 (by kernel_rfl) rfl #[.slice A0_2 l0_2.length c0_2] rfl (by (try simp only [List.map_toArray, List.map_cons, List.map_nil]); first | done | rfl | (simp only [List.length_drop, List.length_take]; rfl)) ?_; (with_reducible refine (stanchionref15_Heap.calls k _ _ l0_2 t816 _ ?side1 ?side2 A6.out).mono ?_); (case side1 => repeat (first | exact (Kd.C_below HR0_2.out HB.out) | (with_reducible refine Kd.C_alloc ?_ _) | (with_reducible refine Kd.C_drewN ?_ _) | (with_reducible refine Kd.C_drew ?_))); (case side2 => exact HC0_2.out); rintro e w13 ⟨rfl, hb⟩; refine ⟨_, rfl, ?_⟩; have n0_ := Aside0.mk (blk_below (g := gb813) (o := .cells #[.int .i64 a0_0, .slice A0_1 l0_1.length c0_1, .slice A0_2 l0_2.length c0_2, .int .i64 a0_3, .int .u64 a0_4] 26 (0, 0)) (by (with_reducible repeat (first | refine blk_drewN ?_ _ | refine blk_drew ?_ | refine blk_alloc ?_ _)); exact BK813.out) hb); have n1_ := Aside0.mk (below_step (by repeat (first | (with_reducible first | exact HB.out | apply below_alloc | apply pw_below_drewN | apply below_drew1 | refine below_set ?_ GE813.out) | exact HB.out)) hb); clear BK813; clear HB; have BK813 := n0_; have HB := n1_; clear n0_ n1_; (try clear hb); (try clear hb2); (try clear hk); (try clear hi)))
  (try simp only [Act.put, List.setIfInBounds_toArray, List.set_cons_zero, List.set_cons_succ])
  go_cut [42] (fun v42 wc => ∃ (kq : Nat) (x42_6 : Bool), v42 = .bool x42_6 ∧ Aside0 (stanchionlaw17_SessionLease.j0 kq a1 a2 t814 x42_6 a0_0 l0_1 l0_2 a0_3 a0_4 = some r) ∧ Aside0 (kq ≤ k) ∧ Aside0 (wc.heap[gb813]? = some (.cells #[.int .i64 a0_0, (.slice A0_1 l0_1.length c0_1), (.slice A0_2 l0_2.length c0_2), .int .i64 a0_3, .int .u64 a0_4] 26 (0, 0))) ∧ Aside0 (Below w.heap.size w wc))
  case first =>
    have H := HC7.out
    clear HC7
    by_cases c14 : t814 = true
    · subst c14
      have H1 : (if t815 = true then (if t816 = true then (if a0_4 > 4611686018427387904 then (stanchionlaw17_SessionLease.j0 k a1 a2 true true a0_0 l0_1 l0_2 a0_3 a0_4) else (stanchionlaw17_SessionLease.j0 k a1 a2 true (decide (a2 > 4611686018427387904)) a0_0 l0_1 l0_2 a0_3 a0_4)) else (stanchionlaw17_SessionLease.j0 k a1 a2 true true a0_0 l0_1 l0_2 a0_3 a0_4)) else (stanchionlaw17_SessionLease.j0 k a1 a2 true true a0_0 l0_1 l0_2 a0_3 a0_4)) = some r := by rw [if_pos rfl] at H; exact H
      clear H
      have H := H1
      clear H1
      by_cases c15 : t815 = true
      · subst c15
        have H1 : (if t816 = true then (if a0_4 > 4611686018427387904 then (stanchionlaw17_SessionLease.j0 k a1 a2 true true a0_0 l0_1 l0_2 a0_3 a0_4) else (stanchionlaw17_SessionLease.j0 k a1 a2 true (decide (a2 > 4611686018427387904)) a0_0 l0_1 l0_2 a0_3 a0_4)) else (stanchionlaw17_SessionLease.j0 k a1 a2 true true a0_0 l0_1 l0_2 a0_3 a0_4)) = some r := by rw [if_pos rfl] at H; exact H
        clear H
        have H := H1
        clear H1
        by_cases c16 : t816 = true
        · subst c16
          have H1 : (if a0_4 > 4611686018427387904 then (stanchionlaw17_SessionLease.j0 k a1 a2 true true a0_0 l0_1 l0_2 a0_3 a0_4) else (stanchionlaw17_SessionLease.j0 k a1 a2 true (decide (a2 > 4611686018427387904)) a0_0 l0_1 l0_2 a0_3 a0_4)) = some r := by rw [if_pos rfl] at H; exact H
          clear H
          have H := H1
          clear H1
          by_cases c17 : a0_4 > 4611686018427387904
          · rw [if_pos c17] at H
            have c17b0 : decide (4611686018427387904 < a0_4) = true := decide_eq_true c17
            clear c17
            (first | rw [c17b0] | (simp only [i64_w, i32_w]; rw [c17b0]) | skip)
            have H' := Aside0.mk H
            clear H
            have hcz18_0 : w13.cell? ⟨gb813, 0, none⟩ = some (.int .i64 a0_0) := (blk_cell BK813.out 0).trans rfl
            have hcz18_1 : w13.cell? ⟨gb813, 1, none⟩ = some (.slice A0_1 l0_1.length c0_1) := (blk_cell BK813.out 1).trans rfl
            have hcz18_2 : w13.cell? ⟨gb813, 2, none⟩ = some (.slice A0_2 l0_2.length c0_2) := (blk_cell BK813.out 2).trans rfl
            have hcz18_3 : w13.cell? ⟨gb813, 3, none⟩ = some (.int .i64 a0_3) := (blk_cell BK813.out 3).trans rfl
            have hcz18_4 : w13.cell? ⟨gb813, 4, none⟩ = some (.int .u64 a0_4) := (blk_cell BK813.out 4).trans rfl
            have hfz18_0 := blk_frozen BK813.out 0
            have hfz18_1 := blk_frozen BK813.out 1
            have hfz18_2 := blk_frozen BK813.out 2
            have hfz18_3 := blk_frozen BK813.out 3
            have hfz18_4 := blk_frozen BK813.out 4
            go_wp2
            go_meet
            case rel => exact ⟨_, (true), (by first | rfl | (simp; done) | (simp [*]; done)), H', ⟨by first | omega | exact Nat.le_refl _⟩, ⟨by (with_reducible repeat (first | refine blk_drewN ?_ _ | refine blk_drew ?_ | refine blk_alloc ?_ _)); exact BK813.out⟩, ⟨by repeat (first | (with_reducible first | exact HB.out | apply below_alloc | apply pw_below_drewN | apply below_drew1 | refine below_set ?_ GE813.out) | exact HB.out)⟩⟩
          · rw [if_neg c17] at H
            have c17b0 : decide (4611686018427387904 < a0_4) = false := decide_eq_false c17
            clear c17
            (first | rw [c17b0] | (simp only [i64_w, i32_w]; rw [c17b0]) | skip)
            have H' := Aside0.mk H
            clear H
            have hcz19_0 : w13.cell? ⟨gb813, 0, none⟩ = some (.int .i64 a0_0) := (blk_cell BK813.out 0).trans rfl
            have hcz19_1 : w13.cell? ⟨gb813, 1, none⟩ = some (.slice A0_1 l0_1.length c0_1) := (blk_cell BK813.out 1).trans rfl
            have hcz19_2 : w13.cell? ⟨gb813, 2, none⟩ = some (.slice A0_2 l0_2.length c0_2) := (blk_cell BK813.out 2).trans rfl
            have hcz19_3 : w13.cell? ⟨gb813, 3, none⟩ = some (.int .i64 a0_3) := (blk_cell BK813.out 3).trans rfl
            have hcz19_4 : w13.cell? ⟨gb813, 4, none⟩ = some (.int .u64 a0_4) := (blk_cell BK813.out 4).trans rfl
            have hfz19_0 := blk_frozen BK813.out 0
            have hfz19_1 := blk_frozen BK813.out 1
            have hfz19_2 := blk_frozen BK813.out 2
            have hfz19_3 := blk_frozen BK813.out 3
            have hfz19_4 := blk_frozen BK813.out 4
            go_wp2
            go_meet
            case rel => exact ⟨_, (decide (a2 > 4611686018427387904)), (by first | rfl | (simp; done) | (simp [*]; done)), H', ⟨by first | omega | exact Nat.le_refl _⟩, ⟨by (with_reducible repeat (first | refine blk_drewN ?_ _ | refine blk_drew ?_ | refine blk_alloc ?_ _)); exact BK813.out⟩, ⟨by repeat (first | (with_reducible first | exact HB.out | apply below_alloc | apply pw_below_drewN | apply below_drew1 | refine below_set ?_ GE813.out) | exact HB.out)⟩⟩
        · replace c16 := Bool.eq_false_iff.mpr c16
          subst c16
          have H1 : (stanchionlaw17_SessionLease.j0 k a1 a2 true true a0_0 l0_1 l0_2 a0_3 a0_4) = some r := by rw [if_neg (show ¬ (false = true) by decide)] at H; exact H
          clear H
          have H := H1
          clear H1
          have H' := Aside0.mk H
          clear H
          go_wp2
          go_meet
          case rel => exact ⟨_, (true), (by first | rfl | (simp; done) | (simp [*]; done)), H', ⟨by first | omega | exact Nat.le_refl _⟩, ⟨by (with_reducible repeat (first | refine blk_drewN ?_ _ | refine blk_drew ?_ | refine blk_alloc ?_ _)); exact BK813.out⟩, ⟨by repeat (first | (with_reducible first | exact HB.out | apply below_alloc | apply pw_below_drewN | apply below_drew1 | refine below_set ?_ GE813.out) | exact HB.out)⟩⟩
      · replace c15 := Bool.eq_false_iff.mpr c15
        subst c15
        have H1 : (stanchionlaw17_SessionLease.j0 k a1 a2 true true a0_0 l0_1 l0_2 a0_3 a0_4) = some r := by rw [if_neg (show ¬ (false = true) by decide)] at H; exact H
        clear H
        have H := H1
        clear H1
        have H' := Aside0.mk H
        clear H
        go_wp2
        go_meet
        case rel => exact ⟨_, (true), (by first | rfl | (simp; done) | (simp [*]; done)), H', ⟨by first | omega | exact Nat.le_refl _⟩, ⟨by (with_reducible repeat (first | refine blk_drewN ?_ _ | refine blk_drew ?_ | refine blk_alloc ?_ _)); exact BK813.out⟩, ⟨by repeat (first | (with_reducible first | exact HB.out | apply below_alloc | apply pw_below_drewN | apply below_drew1 | refine below_set ?_ GE813.out) | exact HB.out)⟩⟩
    · replace c14 := Bool.eq_false_iff.mpr c14
      subst c14
      have H1 : (stanchionlaw17_SessionLease.j0 k a1 a2 false true a0_0 l0_1 l0_2 a0_3 a0_4) = some r := by rw [if_neg (show ¬ (false = true) by decide)] at H; exact H
      clear H
      have H := H1
      clear H1
      have H' := Aside0.mk H
      clear H
      go_wp2
      go_meet
      case rel => exact ⟨_, (true), (by first | rfl | (simp; done) | (simp [*]; done)), H', ⟨by first | omega | exact Nat.le_refl _⟩, ⟨by (with_reducible repeat (first | refine blk_drewN ?_ _ | refine blk_drew ?_ | refine blk_alloc ?_ _)); exact BK813.out⟩, ⟨by repeat (first | (with_reducible first | exact HB.out | apply below_alloc | apply pw_below_drewN | apply below_drew1 | refine below_set ?_ GE813.out) | exact HB.out)⟩⟩
  case rest =>
    clear HC7
    try clear c1
    try clear c2
    try clear p2
    try clear c8
    try clear c10
    try clear c14
    try clear c15
    try clear c16
    try clear c17
    try clear c17b0
    try clear hcz10_0
    try clear hcz10_1
    try clear hcz10_2
    try clear hcz10_3
    try clear hcz10_4
    try clear hcz12_0
    try clear hcz12_1
    try clear hcz12_2
    try clear hcz12_3
    try clear hcz12_4
    try clear hcz18_0
    try clear hcz18_1
    try clear hcz18_2
    try clear hcz18_3
    try clear hcz18_4
    try clear hcz19_0
    try clear hcz19_1
    try clear hcz19_2
    try clear hcz19_3
    try clear hcz19_4
    try clear hfz10_0
    try clear hfz10_1
    try clear hfz10_2
    try clear hfz10_3
    try clear hfz10_4
    try clear hfz12_0
    try clear hfz12_1
    try clear hfz12_2
    try clear hfz12_3
    try clear hfz12_4
    try clear hfz18_0
    try clear hfz18_1
    try clear hfz18_2
    try clear hfz18_3
    try clear hfz18_4
    try clear hfz19_0
    try clear hfz19_1
    try clear hfz19_2
    try clear hfz19_3
    try clear hfz19_4
    obtain ⟨kq, x42_6, rfl, HA, HJ6, BK813, HB⟩ := hcut
    cases kq with
    | zero => exact absurd HA.out (by simp [stanchionlaw17_SessionLease.j0])
    | succ kj6 =>
      have H := HA.out
      clear HA
      simp only [stanchionlaw17_SessionLease.j0] at H
      by_cases c20 : x42_6 = true
      · subst c20
        have H1 : (some t814) = some r := by rw [if_pos rfl] at H; exact H
        clear H
        have H := H1
        clear H1
        obtain rfl := Option.some.inj H
        go_wp2
        first | go_ret | ((try simp only [Exit.inBlock, Exit.then]); refine bodyPost_ret (results_tmp rfl _ _ _) ?hd_ ?hR_; (case hd_ => rfl))
        exact ⟨by first | rfl | (simp [errW_none, errW_some] <;> rfl) | (simp [*, errW_none, errW_some] <;> rfl), by repeat (first | (with_reducible first | exact HB.out | apply below_alloc | apply pw_below_drewN | apply below_drew1 | refine below_set ?_ GE813.out) | exact HB.out)⟩
      · replace c20 := Bool.eq_false_iff.mpr c20
        subst c20
        have H1 : ((session_Renew.f kj6 a0_0 l0_1 l0_2 a0_3 a0_4 a1).bind fun bt817 => (if bt817.2.2.2.2.2 = 0 then ((session_Tick.f kj6 bt817.1 bt817.2.1 bt817.2.2.1 bt817.2.2.2.1 bt817.2.2.2.2.1 (IntKind.u64.wrap (bt817.2.2.2.2.1 + a2))).bind fun bt828 => ((session_Find.f bt828.1 bt828.2.1 bt828.2.2.1 bt828.2.2.2.1 bt828.2.2.2.2.1 a1).bind fun bt841 => (stanchionlaw17_SessionLease.l0 kj6 a1 a2 bt828.2.2.2.2.2 bt841.2.2.2.2.2.2 false 0))) else (some t814))) = some r := by rw [if_neg (show ¬ (false = true) by decide)] at H; exact H
        clear H
        have H := H1
        clear H1
        replace H := Option.bind_eq_some_iff.mp H
        obtain ⟨⟨t817, t818, t821, t824, t825, t826⟩, A210, H⟩ := H
        replace H : (if t826 = 0 then ((session_Tick.f kj6 t817 t818 t821 t824 t825 (IntKind.u64.wrap (t825 + a2))).bind fun bt828 => ((session_Find.f bt828.1 bt828.2.1 bt828.2.2.1 bt828.2.2.2.1 bt828.2.2.2.2.1 a1).bind fun bt841 => (stanchionlaw17_SessionLease.l0 kj6 a1 a2 bt828.2.2.2.2.2 bt841.2.2.2.2.2.2 false 0))) else (some t814)) = some r := H
        have A21 := Aside0.mk A210
        clear A210
        by_cases c22 : t826 = 0
        · rw [if_pos c22] at H
          have c22b0 : (t826 == 0) = true := beq_iff_eq.mpr c22
          have c22b1 : (t826 != 0) = false := bne_eq_false_iff_eq.mpr c22
          clear c22
          replace H := Option.bind_eq_some_iff.mp H
          obtain ⟨⟨t828, t829, t832, t835, t836, t837⟩, A230, H⟩ := H
          replace H : ((session_Find.f t828 t829 t832 t835 t836 a1).bind fun bt841 => (stanchionlaw17_SessionLease.l0 kj6 a1 a2 t837 bt841.2.2.2.2.2.2 false 0)) = some r := H
          have A23 := Aside0.mk A230
          clear A230
          replace H := Option.bind_eq_some_iff.mp H
          obtain ⟨⟨t841, t842, t843, t844, t845, t846, t847⟩, A240, H⟩ := H
          replace H : (stanchionlaw17_SessionLease.l0 kj6 a1 a2 t837 t847 false 0) = some r := H
          have A24 := Aside0.mk A240
          clear A240
          have H' := Aside0.mk H
          clear H
          have hcz25_0 : wc.cell? ⟨gb813, 0, none⟩ = some (.int .i64 a0_0) := (blk_cell BK813.out 0).trans rfl
          have hcz25_1 : wc.cell? ⟨gb813, 1, none⟩ = some (.slice A0_1 l0_1.length c0_1) := (blk_cell BK813.out 1).trans rfl
          have hcz25_2 : wc.cell? ⟨gb813, 2, none⟩ = some (.slice A0_2 l0_2.length c0_2) := (blk_cell BK813.out 2).trans rfl
          have hcz25_3 : wc.cell? ⟨gb813, 3, none⟩ = some (.int .i64 a0_3) := (blk_cell BK813.out 3).trans rfl
          have hcz25_4 : wc.cell? ⟨gb813, 4, none⟩ = some (.int .u64 a0_4) := (blk_cell BK813.out 4).trans rfl
          have hfz25_0 := blk_frozen BK813.out 0
          have hfz25_1 := blk_frozen BK813.out 1
          have hfz25_2 := blk_frozen BK813.out 2
          have hfz25_3 := blk_frozen BK813.out 3
          have hfz25_4 := blk_frozen BK813.out 4
          go_wp2_with (first | ((with_reducible refine gate_callee (f := 26) rfl ?_); refine goesL_ (some 47) rfl rfl Try.func26 (by kernel_rfl) rfl #[.agg #[.int .i64 a0_0, .slice A0_1 l0_1.length c0_1, .slice A0_2 l0_2.length c0_2, .int .i64 a0_3, .int .u64 a0_4], .int .i64 a1] rfl (by (try simp only [List.map_toArray, List.map_cons, List.map_nil]); first | done | rfl | (simp only [List.length_drop, List.length_take]; rfl)) ?_; (with_reducible refine (session_Renew.calls kj6 a0_0 (fun k_ => k_ < w.heap.size) _ _ l0_1 (fun k_ => k_ < w.heap.size) _ _ l0_2 a0_3 a0_4 a1 t817 t818 t821 t824 t825 t826 _ ?side1 ?side2 A21.out).mono ?_); (case side1 => exact Kd.V_mk HC0_1.out (Kd.F_below (Kd.C_F k42_heap HR0_1.out) (by repeat (first | (with_reducible first | exact HB.out | apply below_alloc | apply pw_below_drewN | apply below_drew1 | refine below_set ?_ GE813.out) | exact HB.out)))); (case side2 => exact Kd.V_mk HC0_2.out (Kd.F_below (Kd.C_F k85_heap HR0_2.out) (by repeat (first | (with_reducible first | exact HB.out | apply below_alloc | apply pw_below_drewN | apply below_drew1 | refine below_set ?_ GE813.out) | exact HB.out)))); rintro e w26 ⟨v819, v822, rfl, ho0, ho1, hb⟩; refine ⟨_, rfl, ?_⟩; have n0_ := Aside0.mk (Kd.V_lower (Kd.V_mono (ok' := fun k_ => k_ ≠ gb813) ho0 (fun k_ hk_ => Or.elim hk_ (fun hs_ => Or.elim hs_ (fun hs_ => fun e_ => Nat.not_le.2 hs_ (by rw [e_]; exact GW813.out)) (fun hs_ => fun e_ => Nat.not_le.2 hs_ (by rw [e_]; exact GW813.out))) (fun hn_ => (Kd.freshB (g := gb813) (o := .cells #[.int .i64 a0_0, .slice A0_1 l0_1.length c0_1, .slice A0_2 l0_2.length c0_2, .int .i64 a0_3, .int .u64 a0_4] 26 (0, 0)) (by (with_reducible repeat (first | refine blk_drewN ?_ _ | refine blk_drew ?_ | refine blk_alloc ?_ _)); exact BK813.out) k_ hn_)))) (below_size (by repeat (first | (with_reducible first | exact HB.out | apply below_alloc | apply pw_below_drewN | apply below_drew1 | refine below_set ?_ GE813.out) | exact HB.out)))); have n1_ := Aside0.mk (Kd.V_lower (Kd.V_mono (ok' := fun k_ => k_ ≠ gb813) ho1 (fun k_ hk_ => Or.elim hk_ (fun hs_ => Or.elim hs_ (fun hs_ => fun e_ => Nat.not_le.2 hs_ (by rw [e_]; exact GW813.out)) (fun hs_ => fun e_ => Nat.not_le.2 hs_ (by rw [e_]; exact GW813.out))) (fun hn_ => (Kd.freshB (g := gb813) (o := .cells #[.int .i64 a0_0, .slice A0_1 l0_1.length c0_1, .slice A0_2 l0_2.length c0_2, .int .i64 a0_3, .int .u64 a0_4] 26 (0, 0)) (by (with_reducible repeat (first | refine blk_drewN ?_ _ | refine blk_drew ?_ | refine blk_alloc ?_ _)); exact BK813.out) k_ hn_)))) (below_size (by repeat (first | (with_reducible first | exact HB.out | apply below_alloc | apply pw_below_drewN | apply below_drew1 | refine below_set ?_ GE813.out) | exact HB.out)))); have n2_ := Aside0.mk (blk_below (g := gb813) (o := .cells #[.int .i64 a0_0, .slice A0_1 l0_1.length c0_1, .slice A0_2 l0_2.length c0_2, .int .i64 a0_3, .int .u64 a0_4] 26 (0, 0)) (by (with_reducible repeat (first | refine blk_drewN ?_ _ | refine blk_drew ?_ | refine blk_alloc ?_ _)); exact BK813.out) hb); have n3_ := Aside0.mk (below_step (by repeat (first | (with_reducible first | exact HB.out | apply below_alloc | apply pw_below_drewN | apply below_drew1 | refine below_set ?_ GE813.out) | exact HB.out)) hb); clear BK813; clear HB; have HO820 := n0_; have HO823 := n1_; have BK813 := n2_; have HB := n3_; clear n0_ n1_ n2_ n3_; (try clear hb); (try clear hb2); (try clear hk); (try clear hi); (try clear ho0); (try clear ho1)) | ((with_reducible refine gate_dst (N := 10) rfl ?_); refine box_event ?hg (N := 10) ?hd (cs := #[.int .i64 0, .slice none 0 0, .slice none 0 0, .int .i64 0, .int .u64 0]) (t := 26) ?hr ?_; (case hd => rfl); (case hg => rfl); (case hr => first | (go_simp; done) | (go_simp; rfl)); intro gb827 hg w27 hbox hb; have n0_ := Aside0.mk (Kd.V_below (Kd.V_elderB (by (with_reducible repeat (first | apply Kd.V_alloc | apply Kd.V_drewN | apply Kd.V_drew)); exact HO820.out) gb827 (Nat.le_of_eq hg.symm)) hb); have n1_ := Aside0.mk (Kd.V_below (Kd.V_elderB (by (with_reducible repeat (first | apply Kd.V_alloc | apply Kd.V_drewN | apply Kd.V_drew)); exact HO823.out) gb827 (Nat.le_of_eq hg.symm)) hb); have n2_ := Aside0.mk (blk_below (g := gb813) (o := .cells #[.int .i64 a0_0, .slice A0_1 l0_1.length c0_1, .slice A0_2 l0_2.length c0_2, .int .i64 a0_3, .int .u64 a0_4] 26 (0, 0)) (by (with_reducible repeat (first | refine blk_drewN ?_ _ | refine blk_drew ?_ | refine blk_alloc ?_ _)); exact BK813.out) hb); have n3_ := Aside0.mk (below_step (by repeat (first | (with_reducible first | exact HB.out | apply below_alloc | apply pw_below_drewN | apply below_drew1 | refine below_set ?_ GE813.out) | exact HB.out)) hb); have n4_ := Aside0.mk (hbox); have n5_ := Aside0.mk ((by rw [hg]; exact (below_size (by repeat (first | (with_reducible first | exact HB.out | apply below_alloc | apply pw_below_drewN | apply below_drew1 | refine below_set ?_ GE813.out) | exact HB.out))) : w.heap.size ≤ gb827)); have n6_ := Aside0.mk ((by rw [hg]; exact (below_size (by repeat (first | (with_reducible first | exact HB.out | apply below_alloc | apply pw_below_drewN | apply below_drew1 | refine below_set ?_ GE813.out) | exact HB.out))) : w.heap.size ≤ gb827)); have n7_ := Aside0.mk ((by rw [hg]; exact Nat.ne_of_lt (blk_lt (g := gb813) (o := .cells #[.int .i64 a0_0, .slice A0_1 l0_1.length c0_1, .slice A0_2 l0_2.length c0_2, .int .i64 a0_3, .int .u64 a0_4] 26 (0, 0)) (by (with_reducible repeat (first | refine blk_drewN ?_ _ | refine blk_drew ?_ | refine blk_alloc ?_ _)); exact BK813.out)) : gb813 ≠ gb827)); have n8_ := Aside0.mk ((by rw [hg]; exact Nat.ne_of_gt (blk_lt (g := gb813) (o := .cells #[.int .i64 a0_0, .slice A0_1 l0_1.length c0_1, .slice A0_2 l0_2.length c0_2, .int .i64 a0_3, .int .u64 a0_4] 26 (0, 0)) (by (with_reducible repeat (first | refine blk_drewN ?_ _ | refine blk_drew ?_ | refine blk_alloc ?_ _)); exact BK813.out)) : gb827 ≠ gb813)); clear HO820; clear HO823; clear BK813; clear HB; have HO820 := n0_; have HO823 := n1_; have BK813 := n2_; have HB := n3_; have BK827 := n4_; have GW827 := n5_; have GE827 := n6_; have NB813_827 := n7_; have NB827_813 := n8_; clear n0_ n1_ n2_ n3_ n4_ n5_ n6_ n7_ n8_; clear hb hbox hg; have hnb28 := NB827_813.out; have hnc28 := NB813_827.out; have hcz29_0 : w27.cell? ⟨gb827, 0, none⟩ = some (.int .i64 0) := (blk_cell BK827.out 0).trans rfl; have hcz29_1 : w27.cell? ⟨gb827, 1, none⟩ = some (.slice none 0 0) := (blk_cell BK827.out 1).trans rfl; have hcz29_2 : w27.cell? ⟨gb827, 2, none⟩ = some (.slice none 0 0) := (blk_cell BK827.out 2).trans rfl; have hcz29_3 : w27.cell? ⟨gb827, 3, none⟩ = some (.int .i64 0) := (blk_cell BK827.out 3).trans rfl; have hcz29_4 : w27.cell? ⟨gb827, 4, none⟩ = some (.int .u64 0) := (blk_cell BK827.out 4).trans rfl; have hfz29_0 := blk_frozen BK827.out 0; have hfz29_1 := blk_frozen BK827.out 1; have hfz29_2 := blk_frozen BK827.out 2; have hfz29_3 := blk_frozen BK827.out 3; have hfz29_4 := blk_frozen BK827.out 4; obtain ⟨Ao30, co30, eo30⟩ := Kd.V_slice HO820.out; subst eo30; obtain ⟨Ao31, co31, eo31⟩ := Kd.V_slice HO823.out; subst eo31) | ((with_reducible refine gate_store (t := 26) (p := 10) rfl ?_); refine store_event (t := 26) (p := 10) (v := ?vo_w32) (w1 := (((((w27.setCell ⟨gb827, 0, none⟩ (.int .i64 t817)).setCell ⟨gb827, 1, none⟩ (.slice Ao30 t818.length co30)).setCell ⟨gb827, 2, none⟩ (.slice Ao31 t821.length co31)).setCell ⟨gb827, 3, none⟩ (.int .i64 t824)).setCell ⟨gb827, 4, none⟩ (.int .u64 t825))) ?hg ?ho ?hn ?hr ?_; (case ho => rfl); (case hg => rfl); (case hn => rfl); (case hr => first | (go_simp; done) | (go_simp; rfl)); intro w32 hw; have n0_ : Aside0 (Kd.V k42 42 w32 w.heap.size (fun k_ => k_ ≠ gb813 ∧ k_ ≠ gb827) (.slice Ao30 t818.length co30) t818) := ⟨(by rw [hw]; exact (by (with_reducible repeat (first | apply Kd.V_alloc | apply Kd.V_drewN | apply Kd.V_drew)); exact Kd.V_mono (Kd.V_far (p := ⟨gb827, 4, none⟩) (Kd.V_far (p := ⟨gb827, 3, none⟩) (Kd.V_far (p := ⟨gb827, 2, none⟩) (Kd.V_far (p := ⟨gb827, 1, none⟩) (Kd.V_far (p := ⟨gb827, 0, none⟩) (Kd.V_mono HO820.out (fun k_ hk => (⟨hk, hk.2⟩ : _ ∧ k_ ≠ gb827))) (fun _ hk => hk.2) (.int .i64 t817)) (fun _ hk => hk.2) (.slice Ao30 t818.length co30)) (fun _ hk => hk.2) (.slice Ao31 t821.length co31)) (fun _ hk => hk.2) (.int .i64 t824)) (fun _ hk => hk.2) (.int .u64 t825)) (fun _ hk => ⟨hk.1.1, hk.1.2⟩)))⟩; have n1_ : Aside0 (Kd.V k85 85 w32 w.heap.size (fun k_ => k_ ≠ gb813 ∧ k_ ≠ gb827) (.slice Ao31 t821.length co31) t821) := ⟨(by rw [hw]; exact (by (with_reducible repeat (first | apply Kd.V_alloc | apply Kd.V_drewN | apply Kd.V_drew)); exact Kd.V_mono (Kd.V_far (p := ⟨gb827, 4, none⟩) (Kd.V_far (p := ⟨gb827, 3, none⟩) (Kd.V_far (p := ⟨gb827, 2, none⟩) (Kd.V_far (p := ⟨gb827, 1, none⟩) (Kd.V_far (p := ⟨gb827, 0, none⟩) (Kd.V_mono HO823.out (fun k_ hk => (⟨hk, hk.2⟩ : _ ∧ k_ ≠ gb827))) (fun _ hk => hk.2) (.int .i64 t817)) (fun _ hk => hk.2) (.slice Ao30 t818.length co30)) (fun _ hk => hk.2) (.slice Ao31 t821.length co31)) (fun _ hk => hk.2) (.int .i64 t824)) (fun _ hk => hk.2) (.int .u64 t825)) (fun _ hk => ⟨hk.1.1, hk.1.2⟩)))⟩; have n2_ : Aside0 (w32.heap[gb813]? = some (.cells #[.int .i64 a0_0, .slice A0_1 l0_1.length c0_1, .slice A0_2 l0_2.length c0_2, .int .i64 a0_3, .int .u64 a0_4] 26 (0, 0))) := ⟨(by rw [hw]; exact (by (with_reducible repeat (first | refine blk_drewN ?_ _ | refine blk_drew ?_ | refine blk_alloc ?_ _)); refine blk_far ?_ NB813_827.out _; (with_reducible repeat (first | refine blk_drewN ?_ _ | refine blk_drew ?_ | refine blk_alloc ?_ _)); refine blk_far ?_ NB813_827.out _; (with_reducible repeat (first | refine blk_drewN ?_ _ | refine blk_drew ?_ | refine blk_alloc ?_ _)); refine blk_far ?_ NB813_827.out _; (with_reducible repeat (first | refine blk_drewN ?_ _ | refine blk_drew ?_ | refine blk_alloc ?_ _)); refine blk_far ?_ NB813_827.out _; (with_reducible repeat (first | refine blk_drewN ?_ _ | refine blk_drew ?_ | refine blk_alloc ?_ _)); refine blk_far ?_ NB813_827.out _; (with_reducible repeat (first | refine blk_drewN ?_ _ | refine blk_drew ?_ | refine blk_alloc ?_ _)); exact BK813.out))⟩; have n3_ : Aside0 (w32.heap[gb827]? = some (.cells #[.int .i64 t817, .slice Ao30 t818.length co30, .slice Ao31 t821.length co31, .int .i64 t824, .int .u64 t825] 26 (0, 0))) := ⟨(by rw [hw]; exact (by (with_reducible repeat (first | refine blk_drewN ?_ _ | refine blk_drew ?_ | refine blk_alloc ?_ _)); refine blk_put (cs := #[.int .i64 t817, .slice Ao30 t818.length co30, .slice Ao31 t821.length co31, .int .i64 t824, .int .u64 0]) ?_ 4 _ rfl; (with_reducible repeat (first | refine blk_drewN ?_ _ | refine blk_drew ?_ | refine blk_alloc ?_ _)); refine blk_put (cs := #[.int .i64 t817, .slice Ao30 t818.length co30, .slice Ao31 t821.length co31, .int .i64 0, .int .u64 0]) ?_ 3 _ rfl; (with_reducible repeat (first | refine blk_drewN ?_ _ | refine blk_drew ?_ | refine blk_alloc ?_ _)); refine blk_put (cs := #[.int .i64 t817, .slice Ao30 t818.length co30, .slice none 0 0, .int .i64 0, .int .u64 0]) ?_ 2 _ rfl; (with_reducible repeat (first | refine blk_drewN ?_ _ | refine blk_drew ?_ | refine blk_alloc ?_ _)); refine blk_put (cs := #[.int .i64 t817, .slice none 0 0, .slice none 0 0, .int .i64 0, .int .u64 0]) ?_ 1 _ rfl; (with_reducible repeat (first | refine blk_drewN ?_ _ | refine blk_drew ?_ | refine blk_alloc ?_ _)); refine blk_put (cs := #[.int .i64 0, .slice none 0 0, .slice none 0 0, .int .i64 0, .int .u64 0]) ?_ 0 _ rfl; (with_reducible repeat (first | refine blk_drewN ?_ _ | refine blk_drew ?_ | refine blk_alloc ?_ _)); exact BK827.out))⟩; have n4_ : Aside0 (Below w.heap.size w w32) := ⟨(by rw [hw]; exact (by repeat (first | (with_reducible first | exact HB.out | apply below_alloc | apply pw_below_drewN | apply below_drew1 | refine below_set ?_ GE813.out | refine below_set ?_ GE827.out) | exact HB.out)))⟩; clear hw; clear HO820; clear HO823; clear BK813; clear BK827; clear HB; have HO820 := n0_; have HO823 := n1_; have BK813 := n2_; have BK827 := n3_; have HB := n4_; clear n0_ n1_ n2_ n3_ n4_; have hcz33_0 : w32.cell? ⟨gb827, 0, none⟩ = some (.int .i64 t817) := (blk_cell BK827.out 0).trans rfl; have hcz33_1 : w32.cell? ⟨gb827, 1, none⟩ = some (.slice Ao30 t818.length co30) := (blk_cell BK827.out 1).trans rfl; have hcz33_2 : w32.cell? ⟨gb827, 2, none⟩ = some (.slice Ao31 t821.length co31) := (blk_cell BK827.out 2).trans rfl; have hcz33_3 : w32.cell? ⟨gb827, 3, none⟩ = some (.int .i64 t824) := (blk_cell BK827.out 3).trans rfl; have hcz33_4 : w32.cell? ⟨gb827, 4, none⟩ = some (.int .u64 t825) := (blk_cell BK827.out 4).trans rfl; have hfz33_0 := blk_frozen BK827.out 0; have hfz33_1 := blk_frozen BK827.out 1; have hfz33_2 := blk_frozen BK827.out 2; have hfz33_3 := blk_frozen BK827.out 3; have hfz33_4 := blk_frozen BK827.out 4) | ((with_reducible refine gate_callee (f := 27) rfl ?_); refine goesL_ (some 59) rfl rfl Try.func27 (by kernel_rfl) rfl #[.agg #[.int .i64 t817, .slice Ao30 t818.length co30, .slice Ao31 t821.length co31, .int .i64 t824, .int .u64 t825], .int .u64 (IntKind.u64.wrap (t825 + a2))] rfl (by (try simp only [List.map_toArray, List.map_cons, List.map_nil]); first | done | rfl | (simp only [List.length_drop, List.length_take]; rfl)) ?_; (with_reducible refine (session_Tick.calls kj6 t817 (fun k_ => (k_ ≠ gb813 ∧ k_ ≠ gb827)) _ _ t818 (fun k_ => (k_ ≠ gb813 ∧ k_ ≠ gb827)) _ _ t821 t824 t825 (IntKind.u64.wrap (t825 + a2)) t828 t829 t832 t835 t836 t837 _ ?side1 ?side2 A23.out).mono ?_); (case side1 => exact HO820.out); (case side2 => exact HO823.out); rintro e w34 ⟨v830, v833, v838, rfl, ho0, ho1, ho2, hb⟩; refine ⟨_, rfl, ?_⟩; have n0_ := Aside0.mk (Kd.V_elder' (by (with_reducible repeat (first | apply Kd.V_alloc | apply Kd.V_drewN | apply Kd.V_drew)); exact HO820.out) (Kd.R_base ho2) hb); have n1_ := Aside0.mk (Kd.V_elder' (by (with_reducible repeat (first | apply Kd.V_alloc | apply Kd.V_drewN | apply Kd.V_drew)); exact HO823.out) (Kd.R_base ho2) hb); have n2_ := Aside0.mk (Kd.V_lower (Kd.V_mono (ok' := fun k_ => some k_ ≠ (v838 : Value).ownBlock ∧ k_ ≠ gb813 ∧ k_ ≠ gb827) ho0 (fun k_ hk_ => ⟨hk_.2, Or.elim hk_.1 (fun hs_ => Or.elim hs_ (fun hs_ => hs_.1) (fun hs_ => hs_.1)) (fun hn_ => (Kd.freshB (g := gb813) (o := .cells #[.int .i64 a0_0, .slice A0_1 l0_1.length c0_1, .slice A0_2 l0_2.length c0_2, .int .i64 a0_3, .int .u64 a0_4] 26 (0, 0)) (by (with_reducible repeat (first | refine blk_drewN ?_ _ | refine blk_drew ?_ | refine blk_alloc ?_ _)); exact BK813.out) k_ hn_)), Or.elim hk_.1 (fun hs_ => Or.elim hs_ (fun hs_ => hs_.2) (fun hs_ => hs_.2)) (fun hn_ => (Kd.freshB (g := gb827) (o := .cells #[.int .i64 t817, .slice Ao30 t818.length co30, .slice Ao31 t821.length co31, .int .i64 t824, .int .u64 t825] 26 (0, 0)) (by (with_reducible repeat (first | refine blk_drewN ?_ _ | refine blk_drew ?_ | refine blk_alloc ?_ _)); exact BK827.out) k_ hn_))⟩)) (below_size (by repeat (first | (with_reducible first | exact HB.out | apply below_alloc | apply pw_below_drewN | apply below_drew1 | refine below_set ?_ GE813.out | refine below_set ?_ GE827.out) | exact HB.out)))); have n3_ := Aside0.mk (Kd.V_lower (Kd.V_mono (ok' := fun k_ => some k_ ≠ (v838 : Value).ownBlock ∧ k_ ≠ gb813 ∧ k_ ≠ gb827) ho1 (fun k_ hk_ => ⟨hk_.2, Or.elim hk_.1 (fun hs_ => Or.elim hs_ (fun hs_ => hs_.1) (fun hs_ => hs_.1)) (fun hn_ => (Kd.freshB (g := gb813) (o := .cells #[.int .i64 a0_0, .slice A0_1 l0_1.length c0_1, .slice A0_2 l0_2.length c0_2, .int .i64 a0_3, .int .u64 a0_4] 26 (0, 0)) (by (with_reducible repeat (first | refine blk_drewN ?_ _ | refine blk_drew ?_ | refine blk_alloc ?_ _)); exact BK813.out) k_ hn_)), Or.elim hk_.1 (fun hs_ => Or.elim hs_ (fun hs_ => hs_.2) (fun hs_ => hs_.2)) (fun hn_ => (Kd.freshB (g := gb827) (o := .cells #[.int .i64 t817, .slice Ao30 t818.length co30, .slice Ao31 t821.length co31, .int .i64 t824, .int .u64 t825] 26 (0, 0)) (by (with_reducible repeat (first | refine blk_drewN ?_ _ | refine blk_drew ?_ | refine blk_alloc ?_ _)); exact BK827.out) k_ hn_))⟩)) (below_size (by repeat (first | (with_reducible first | exact HB.out | apply below_alloc | apply pw_below_drewN | apply below_drew1 | refine below_set ?_ GE813.out | refine below_set ?_ GE827.out) | exact HB.out)))); have n4_ := Aside0.mk (Kd.R_lower (Kd.R_mono (ok' := fun k_ => True) ho2 (fun _ hk_ => trivial)) (below_size (by repeat (first | (with_reducible first | exact HB.out | apply below_alloc | apply pw_below_drewN | apply below_drew1 | refine below_set ?_ GE813.out | refine below_set ?_ GE827.out) | exact HB.out)))); have n5_ := Aside0.mk (blk_below (g := gb813) (o := .cells #[.int .i64 a0_0, .slice A0_1 l0_1.length c0_1, .slice A0_2 l0_2.length c0_2, .int .i64 a0_3, .int .u64 a0_4] 26 (0, 0)) (by (with_reducible repeat (first | refine blk_drewN ?_ _ | refine blk_drew ?_ | refine blk_alloc ?_ _)); exact BK813.out) hb); have n6_ := Aside0.mk (blk_below (g := gb827) (o := .cells #[.int .i64 t817, .slice Ao30 t818.length co30, .slice Ao31 t821.length co31, .int .i64 t824, .int .u64 t825] 26 (0, 0)) (by (with_reducible repeat (first | refine blk_drewN ?_ _ | refine blk_drew ?_ | refine blk_alloc ?_ _)); exact BK827.out) hb); have n7_ := Aside0.mk (below_step (by repeat (first | (with_reducible first | exact HB.out | apply below_alloc | apply pw_below_drewN | apply below_drew1 | refine below_set ?_ GE813.out | refine below_set ?_ GE827.out) | exact HB.out)) hb); clear HO820; clear HO823; clear BK813; clear BK827; clear HB; have HO820 := n0_; have HO823 := n1_; have HO831 := n2_; have HO834 := n3_; have HO839 := n4_; have BK813 := n5_; have BK827 := n6_; have HB := n7_; clear n0_ n1_ n2_ n3_ n4_ n5_ n6_ n7_; (try clear hb); (try clear hb2); (try clear hk); (try clear hi); (try clear ho0); (try clear ho1); (try clear ho2)) | ((with_reducible refine gate_dst (N := 12) rfl ?_); refine box_event ?hg (N := 12) ?hd (cs := #[.int .i64 0, .slice none 0 0, .slice none 0 0, .int .i64 0, .int .u64 0]) (t := 26) ?hr ?_; (case hd => rfl); (case hg => rfl); (case hr => first | (go_simp; done) | (go_simp; rfl)); intro gb840 hg w35 hbox hb; have n0_ := Aside0.mk (Kd.V_below (Kd.V_elderB (by (with_reducible repeat (first | apply Kd.V_alloc | apply Kd.V_drewN | apply Kd.V_drew)); exact HO820.out) gb840 (Nat.le_of_eq hg.symm)) hb); have n1_ := Aside0.mk (Kd.V_below (Kd.V_elderB (by (with_reducible repeat (first | apply Kd.V_alloc | apply Kd.V_drewN | apply Kd.V_drew)); exact HO823.out) gb840 (Nat.le_of_eq hg.symm)) hb); have n2_ := Aside0.mk (Kd.V_below (Kd.V_elderB (by (with_reducible repeat (first | apply Kd.V_alloc | apply Kd.V_drewN | apply Kd.V_drew)); exact HO831.out) gb840 (Nat.le_of_eq hg.symm)) hb); have n3_ := Aside0.mk (Kd.V_below (Kd.V_elderB (by (with_reducible repeat (first | apply Kd.V_alloc | apply Kd.V_drewN | apply Kd.V_drew)); exact HO834.out) gb840 (Nat.le_of_eq hg.symm)) hb); have n4_ := Aside0.mk (Kd.R_below (by (with_reducible repeat (first | apply Kd.R_alloc | apply Kd.R_drewN | apply Kd.R_drew)); exact HO839.out) hb); have n5_ := Aside0.mk (blk_below (g := gb813) (o := .cells #[.int .i64 a0_0, .slice A0_1 l0_1.length c0_1, .slice A0_2 l0_2.length c0_2, .int .i64 a0_3, .int .u64 a0_4] 26 (0, 0)) (by (with_reducible repeat (first | refine blk_drewN ?_ _ | refine blk_drew ?_ | refine blk_alloc ?_ _)); exact BK813.out) hb); have n6_ := Aside0.mk (blk_below (g := gb827) (o := .cells #[.int .i64 t817, .slice Ao30 t818.length co30, .slice Ao31 t821.length co31, .int .i64 t824, .int .u64 t825] 26 (0, 0)) (by (with_reducible repeat (first | refine blk_drewN ?_ _ | refine blk_drew ?_ | refine blk_alloc ?_ _)); exact BK827.out) hb); have n7_ := Aside0.mk (below_step (by repeat (first | (with_reducible first | exact HB.out | apply below_alloc | apply pw_below_drewN | apply below_drew1 | refine below_set ?_ GE813.out | refine below_set ?_ GE827.out) | exact HB.out)) hb); have n8_ := Aside0.mk (hbox); have n9_ := Aside0.mk ((by rw [hg]; exact (below_size (by repeat (first | (with_reducible first | exact HB.out | apply below_alloc | apply pw_below_drewN | apply below_drew1 | refine below_set ?_ GE813.out | refine below_set ?_ GE827.out) | exact HB.out))) : w.heap.size ≤ gb840)); have n10_ := Aside0.mk ((by rw [hg]; exact (below_size (by repeat (first | (with_reducible first | exact HB.out | apply below_alloc | apply pw_below_drewN | apply below_drew1 | refine below_set ?_ GE813.out | refine below_set ?_ GE827.out) | exact HB.out))) : w.heap.size ≤ gb840)); have n11_ := Aside0.mk ((by rw [hg]; exact Nat.ne_of_lt (blk_lt (g := gb813) (o := .cells #[.int .i64 a0_0, .slice A0_1 l0_1.length c0_1, .slice A0_2 l0_2.length c0_2, .int .i64 a0_3, .int .u64 a0_4] 26 (0, 0)) (by (with_reducible repeat (first | refine blk_drewN ?_ _ | refine blk_drew ?_ | refine blk_alloc ?_ _)); exact BK813.out)) : gb813 ≠ gb840)); have n12_ := Aside0.mk ((by rw [hg]; exact Nat.ne_of_gt (blk_lt (g := gb813) (o := .cells #[.int .i64 a0_0, .slice A0_1 l0_1.length c0_1, .slice A0_2 l0_2.length c0_2, .int .i64 a0_3, .int .u64 a0_4] 26 (0, 0)) (by (with_reducible repeat (first | refine blk_drewN ?_ _ | refine blk_drew ?_ | refine blk_alloc ?_ _)); exact BK813.out)) : gb840 ≠ gb813)); have n13_ := Aside0.mk ((by rw [hg]; exact Nat.ne_of_lt (blk_lt (g := gb827) (o := .cells #[.int .i64 t817, .slice Ao30 t818.length co30, .slice Ao31 t821.length co31, .int .i64 t824, .int .u64 t825] 26 (0, 0)) (by (with_reducible repeat (first | refine blk_drewN ?_ _ | refine blk_drew ?_ | refine blk_alloc ?_ _)); exact BK827.out)) : gb827 ≠ gb840)); have n14_ := Aside0.mk ((by rw [hg]; exact Nat.ne_of_gt (blk_lt (g := gb827) (o := .cells #[.int .i64 t817, .slice Ao30 t818.length co30, .slice Ao31 t821.length co31, .int .i64 t824, .int .u64 t825] 26 (0, 0)) (by (with_reducible repeat (first | refine blk_drewN ?_ _ | refine blk_drew ?_ | refine blk_alloc ?_ _)); exact BK827.out)) : gb840 ≠ gb827)); clear HO820; clear HO823; clear HO831; clear HO834; clear HO839; clear BK813; clear BK827; clear HB; have HO820 := n0_; have HO823 := n1_; have HO831 := n2_; have HO834 := n3_; have HO839 := n4_; have BK813 := n5_; have BK827 := n6_; have HB := n7_; have BK840 := n8_; have GW840 := n9_; have GE840 := n10_; have NB813_840 := n11_; have NB840_813 := n12_; have NB827_840 := n13_; have NB840_827 := n14_; clear n0_ n1_ n2_ n3_ n4_ n5_ n6_ n7_ n8_ n9_ n10_ n11_ n12_ n13_ n14_; clear hb hbox hg; have hnb36 := NB840_813.out; have hnc36 := NB813_840.out; have hnb37 := NB840_827.out; have hnc37 := NB827_840.out; have hcz38_0 : w35.cell? ⟨gb840, 0, none⟩ = some (.int .i64 0) := (blk_cell BK840.out 0).trans rfl; have hcz38_1 : w35.cell? ⟨gb840, 1, none⟩ = some (.slice none 0 0) := (blk_cell BK840.out 1).trans rfl; have hcz38_2 : w35.cell? ⟨gb840, 2, none⟩ = some (.slice none 0 0) := (blk_cell BK840.out 2).trans rfl; have hcz38_3 : w35.cell? ⟨gb840, 3, none⟩ = some (.int .i64 0) := (blk_cell BK840.out 3).trans rfl; have hcz38_4 : w35.cell? ⟨gb840, 4, none⟩ = some (.int .u64 0) := (blk_cell BK840.out 4).trans rfl; have hfz38_0 := blk_frozen BK840.out 0; have hfz38_1 := blk_frozen BK840.out 1; have hfz38_2 := blk_frozen BK840.out 2; have hfz38_3 := blk_frozen BK840.out 3; have hfz38_4 := blk_frozen BK840.out 4; obtain ⟨Ao39, co39, eo39⟩ := Kd.V_slice HO831.out; subst eo39; obtain ⟨Ao40, co40, eo40⟩ := Kd.V_slice HO834.out; subst eo40) | ((with_reducible refine gate_callee (f := 14) rfl ?_); refine goesL_ (some 65) rfl rfl Try.func14 (by kernel_rfl) rfl #[.agg #[.int .i64 t828, .slice Ao39 t829.length co39, .slice Ao40 t832.length co40, .int .i64 t835, .int .u64 t836], .int .i64 a1] rfl (by (try simp only [List.map_toArray, List.map_cons, List.map_nil]); first | done | rfl | (simp only [List.length_drop, List.length_take]; rfl)) ?_; (with_reducible refine (session_Find.calls t828 _ _ t829 _ _ t832 t835 t836 a1 t841 t842 t843 t844 t845 t846 t847 _ ?side1 ?side2 ?side3 ?side4 A24.out).mono ?_); (case side1 => refine (Kd.V_reads' (e := 42) (base := w.heap.size) (ok := fun k_ => ((some k_ ≠ (v838 : Value).ownBlock ∧ (k_ ≠ gb813 ∧ k_ ≠ gb827)) ∧ k_ ≠ gb840)) (n := t829.length) (c := co39) ?_).2.2; exact (by (with_reducible repeat (first | apply Kd.V_alloc | apply Kd.V_drewN | apply Kd.V_drew)); exact (Kd.V_mono (Kd.V_far (p := ⟨gb840, 4, none⟩) (Kd.V_far (p := ⟨gb840, 3, none⟩) (Kd.V_far (p := ⟨gb840, 2, none⟩) (Kd.V_far (p := ⟨gb840, 1, none⟩) (Kd.V_far (p := ⟨gb840, 0, none⟩) (Kd.V_mono HO831.out (fun k_ hk => (⟨hk, hk.2⟩ : _ ∧ k_ ≠ gb840))) (fun _ hk => hk.2) (.int .i64 t828)) (fun _ hk => hk.2) (.slice Ao39 t829.length co39)) (fun _ hk => hk.2) (.slice Ao40 t832.length co40)) (fun _ hk => hk.2) (.int .i64 t835)) (fun _ hk => hk.2) (.int .u64 t836)) (fun _ h_ => h_.1)))); (case side2 => exact (Kd.V_reads' HO831.out).2.1); (case side3 => refine (Kd.V_reads' (e := 85) (base := w.heap.size) (ok := fun k_ => ((some k_ ≠ (v838 : Value).ownBlock ∧ (k_ ≠ gb813 ∧ k_ ≠ gb827)) ∧ k_ ≠ gb840)) (n := t832.length) (c := co40) ?_).2.2; exact (by (with_reducible repeat (first | apply Kd.V_alloc | apply Kd.V_drewN | apply Kd.V_drew)); exact (Kd.V_mono (Kd.V_far (p := ⟨gb840, 4, none⟩) (Kd.V_far (p := ⟨gb840, 3, none⟩) (Kd.V_far (p := ⟨gb840, 2, none⟩) (Kd.V_far (p := ⟨gb840, 1, none⟩) (Kd.V_far (p := ⟨gb840, 0, none⟩) (Kd.V_mono HO834.out (fun k_ hk => (⟨hk, hk.2⟩ : _ ∧ k_ ≠ gb840))) (fun _ hk => hk.2) (.int .i64 t828)) (fun _ hk => hk.2) (.slice Ao39 t829.length co39)) (fun _ hk => hk.2) (.slice Ao40 t832.length co40)) (fun _ hk => hk.2) (.int .i64 t835)) (fun _ hk => hk.2) (.int .u64 t836)) (fun _ h_ => h_.1)))); (case side4 => exact (Kd.V_reads' HO834.out).2.1); rintro e w41 ⟨rfl, hb⟩; refine ⟨_, rfl, ?_⟩; have n0_ := Aside0.mk (Kd.V_below (by (with_reducible repeat (first | apply Kd.V_alloc | apply Kd.V_drewN | apply Kd.V_drew)); exact (Kd.V_mono (Kd.V_far (p := ⟨gb840, 4, none⟩) (Kd.V_far (p := ⟨gb840, 3, none⟩) (Kd.V_far (p := ⟨gb840, 2, none⟩) (Kd.V_far (p := ⟨gb840, 1, none⟩) (Kd.V_far (p := ⟨gb840, 0, none⟩) (Kd.V_mono HO820.out (fun k_ hk => (⟨hk, hk.2⟩ : _ ∧ k_ ≠ gb840))) (fun _ hk => hk.2) (.int .i64 t828)) (fun _ hk => hk.2) (.slice Ao39 t829.length co39)) (fun _ hk => hk.2) (.slice Ao40 t832.length co40)) (fun _ hk => hk.2) (.int .i64 t835)) (fun _ hk => hk.2) (.int .u64 t836)) (fun _ h_ => h_.1))) hb); have n1_ := Aside0.mk (Kd.V_below (by (with_reducible repeat (first | apply Kd.V_alloc | apply Kd.V_drewN | apply Kd.V_drew)); exact (Kd.V_mono (Kd.V_far (p := ⟨gb840, 4, none⟩) (Kd.V_far (p := ⟨gb840, 3, none⟩) (Kd.V_far (p := ⟨gb840, 2, none⟩) (Kd.V_far (p := ⟨gb840, 1, none⟩) (Kd.V_far (p := ⟨gb840, 0, none⟩) (Kd.V_mono HO823.out (fun k_ hk => (⟨hk, hk.2⟩ : _ ∧ k_ ≠ gb840))) (fun _ hk => hk.2) (.int .i64 t828)) (fun _ hk => hk.2) (.slice Ao39 t829.length co39)) (fun _ hk => hk.2) (.slice Ao40 t832.length co40)) (fun _ hk => hk.2) (.int .i64 t835)) (fun _ hk => hk.2) (.int .u64 t836)) (fun _ h_ => h_.1))) hb); have n2_ := Aside0.mk (Kd.V_below (by (with_reducible repeat (first | apply Kd.V_alloc | apply Kd.V_drewN | apply Kd.V_drew)); exact (Kd.V_mono (Kd.V_far (p := ⟨gb840, 4, none⟩) (Kd.V_far (p := ⟨gb840, 3, none⟩) (Kd.V_far (p := ⟨gb840, 2, none⟩) (Kd.V_far (p := ⟨gb840, 1, none⟩) (Kd.V_far (p := ⟨gb840, 0, none⟩) (Kd.V_mono HO831.out (fun k_ hk => (⟨hk, hk.2⟩ : _ ∧ k_ ≠ gb840))) (fun _ hk => hk.2) (.int .i64 t828)) (fun _ hk => hk.2) (.slice Ao39 t829.length co39)) (fun _ hk => hk.2) (.slice Ao40 t832.length co40)) (fun _ hk => hk.2) (.int .i64 t835)) (fun _ hk => hk.2) (.int .u64 t836)) (fun _ h_ => h_.1))) hb); have n3_ := Aside0.mk (Kd.V_below (by (with_reducible repeat (first | apply Kd.V_alloc | apply Kd.V_drewN | apply Kd.V_drew)); exact (Kd.V_mono (Kd.V_far (p := ⟨gb840, 4, none⟩) (Kd.V_far (p := ⟨gb840, 3, none⟩) (Kd.V_far (p := ⟨gb840, 2, none⟩) (Kd.V_far (p := ⟨gb840, 1, none⟩) (Kd.V_far (p := ⟨gb840, 0, none⟩) (Kd.V_mono HO834.out (fun k_ hk => (⟨hk, hk.2⟩ : _ ∧ k_ ≠ gb840))) (fun _ hk => hk.2) (.int .i64 t828)) (fun _ hk => hk.2) (.slice Ao39 t829.length co39)) (fun _ hk => hk.2) (.slice Ao40 t832.length co40)) (fun _ hk => hk.2) (.int .i64 t835)) (fun _ hk => hk.2) (.int .u64 t836)) (fun _ h_ => h_.1))) hb); have n4_ := Aside0.mk (Kd.R_below (by (with_reducible repeat (first | apply Kd.R_alloc | apply Kd.R_drewN | apply Kd.R_drew)); exact (Kd.R_mono (Kd.R_far (p := ⟨gb840, 4, none⟩) (Kd.R_far (p := ⟨gb840, 3, none⟩) (Kd.R_far (p := ⟨gb840, 2, none⟩) (Kd.R_far (p := ⟨gb840, 1, none⟩) (Kd.R_far (p := ⟨gb840, 0, none⟩) (Kd.R_types HO839.out BK840.out (by decide)) (fun _ hk => hk.2) (.int .i64 t828)) (fun _ hk => hk.2) (.slice Ao39 t829.length co39)) (fun _ hk => hk.2) (.slice Ao40 t832.length co40)) (fun _ hk => hk.2) (.int .i64 t835)) (fun _ hk => hk.2) (.int .u64 t836)) (fun _ h_ => h_.1))) hb); have n5_ := Aside0.mk (blk_below (g := gb813) (o := .cells #[.int .i64 a0_0, .slice A0_1 l0_1.length c0_1, .slice A0_2 l0_2.length c0_2, .int .i64 a0_3, .int .u64 a0_4] 26 (0, 0)) (by (with_reducible repeat (first | refine blk_drewN ?_ _ | refine blk_drew ?_ | refine blk_alloc ?_ _)); refine blk_far ?_ NB813_840.out _; (with_reducible repeat (first | refine blk_drewN ?_ _ | refine blk_drew ?_ | refine blk_alloc ?_ _)); refine blk_far ?_ NB813_840.out _; (with_reducible repeat (first | refine blk_drewN ?_ _ | refine blk_drew ?_ | refine blk_alloc ?_ _)); refine blk_far ?_ NB813_840.out _; (with_reducible repeat (first | refine blk_drewN ?_ _ | refine blk_drew ?_ | refine blk_alloc ?_ _)); refine blk_far ?_ NB813_840.out _; (with_reducible repeat (first | refine blk_drewN ?_ _ | refine blk_drew ?_ | refine blk_alloc ?_ _)); refine blk_far ?_ NB813_840.out _; (with_reducible repeat (first | refine blk_drewN ?_ _ | refine blk_drew ?_ | refine blk_alloc ?_ _)); exact BK813.out) hb); have n6_ := Aside0.mk (blk_below (g := gb827) (o := .cells #[.int .i64 t817, .slice Ao30 t818.length co30, .slice Ao31 t821.length co31, .int .i64 t824, .int .u64 t825] 26 (0, 0)) (by (with_reducible repeat (first | refine blk_drewN ?_ _ | refine blk_drew ?_ | refine blk_alloc ?_ _)); refine blk_far ?_ NB827_840.out _; (with_reducible repeat (first | refine blk_drewN ?_ _ | refine blk_drew ?_ | refine blk_alloc ?_ _)); refine blk_far ?_ NB827_840.out _; (with_reducible repeat (first | refine blk_drewN ?_ _ | refine blk_drew ?_ | refine blk_alloc ?_ _)); refine blk_far ?_ NB827_840.out _; (with_reducible repeat (first | refine blk_drewN ?_ _ | refine blk_drew ?_ | refine blk_alloc ?_ _)); refine blk_far ?_ NB827_840.out _; (with_reducible repeat (first | refine blk_drewN ?_ _ | refine blk_drew ?_ | refine blk_alloc ?_ _)); refine blk_far ?_ NB827_840.out _; (with_reducible repeat (first | refine blk_drewN ?_ _ | refine blk_drew ?_ | refine blk_alloc ?_ _)); exact BK827.out) hb); have n7_ := Aside0.mk (blk_below (g := gb840) (o := .cells #[.int .i64 t828, .slice Ao39 t829.length co39, .slice Ao40 t832.length co40, .int .i64 t835, .int .u64 t836] 26 (0, 0)) (by (with_reducible repeat (first | refine blk_drewN ?_ _ | refine blk_drew ?_ | refine blk_alloc ?_ _)); refine blk_put (cs := #[.int .i64 t828, .slice Ao39 t829.length co39, .slice Ao40 t832.length co40, .int .i64 t835, .int .u64 0]) ?_ 4 _ rfl; (with_reducible repeat (first | refine blk_drewN ?_ _ | refine blk_drew ?_ | refine blk_alloc ?_ _)); refine blk_put (cs := #[.int .i64 t828, .slice Ao39 t829.length co39, .slice Ao40 t832.length co40, .int .i64 0, .int .u64 0]) ?_ 3 _ rfl; (with_reducible repeat (first | refine blk_drewN ?_ _ | refine blk_drew ?_ | refine blk_alloc ?_ _)); refine blk_put (cs := #[.int .i64 t828, .slice Ao39 t829.length co39, .slice none 0 0, .int .i64 0, .int .u64 0]) ?_ 2 _ rfl; (with_reducible repeat (first | refine blk_drewN ?_ _ | refine blk_drew ?_ | refine blk_alloc ?_ _)); refine blk_put (cs := #[.int .i64 t828, .slice none 0 0, .slice none 0 0, .int .i64 0, .int .u64 0]) ?_ 1 _ rfl; (with_reducible repeat (first | refine blk_drewN ?_ _ | refine blk_drew ?_ | refine blk_alloc ?_ _)); refine blk_put (cs := #[.int .i64 0, .slice none 0 0, .slice none 0 0, .int .i64 0, .int .u64 0]) ?_ 0 _ rfl; (with_reducible repeat (first | refine blk_drewN ?_ _ | refine blk_drew ?_ | refine blk_alloc ?_ _)); exact BK840.out) hb); have n8_ := Aside0.mk (below_step (by repeat (first | (with_reducible first | exact HB.out | apply below_alloc | apply pw_below_drewN | apply below_drew1 | refine below_set ?_ GE813.out | refine below_set ?_ GE827.out | refine below_set ?_ GE840.out) | exact HB.out)) hb); clear HO820; clear HO823; clear HO831; clear HO834; clear HO839; clear BK813; clear BK827; clear BK840; clear HB; have HO820 := n0_; have HO823 := n1_; have HO831 := n2_; have HO834 := n3_; have HO839 := n4_; have BK813 := n5_; have BK827 := n6_; have BK840 := n7_; have HB := n8_; clear n0_ n1_ n2_ n3_ n4_ n5_ n6_ n7_ n8_; (try clear hb); (try clear hb2); (try clear hk); (try clear hi)) | ((with_reducible refine gate_dst (N := 14) rfl ?_); refine box_event ?hg (N := 14) ?hd (cs := #[.int .i64 0, .int .i64 0, .bool false, .string (⟨#[]⟩ : ByteArray), .int .i64 0, .int .i64 0]) (t := 42) ?hr ?_; (case hd => rfl); (case hg => rfl); (case hr => first | (go_simp; done) | (go_simp; rfl)); intro gb848 hg w42 hbox hb; have n0_ := Aside0.mk (Kd.V_below (Kd.V_elderB (by (with_reducible repeat (first | apply Kd.V_alloc | apply Kd.V_drewN | apply Kd.V_drew)); exact HO820.out) gb848 (Nat.le_of_eq hg.symm)) hb); have n1_ := Aside0.mk (Kd.V_below (Kd.V_elderB (by (with_reducible repeat (first | apply Kd.V_alloc | apply Kd.V_drewN | apply Kd.V_drew)); exact HO823.out) gb848 (Nat.le_of_eq hg.symm)) hb); have n2_ := Aside0.mk (Kd.V_below (Kd.V_elderB (by (with_reducible repeat (first | apply Kd.V_alloc | apply Kd.V_drewN | apply Kd.V_drew)); exact HO831.out) gb848 (Nat.le_of_eq hg.symm)) hb); have n3_ := Aside0.mk (Kd.V_below (Kd.V_elderB (by (with_reducible repeat (first | apply Kd.V_alloc | apply Kd.V_drewN | apply Kd.V_drew)); exact HO834.out) gb848 (Nat.le_of_eq hg.symm)) hb); have n4_ := Aside0.mk (Kd.R_below (Kd.R_elderB (by (with_reducible repeat (first | apply Kd.R_alloc | apply Kd.R_drewN | apply Kd.R_drew)); exact HO839.out) gb848 (Nat.le_of_eq hg.symm)) hb); have n5_ := Aside0.mk (blk_below (g := gb813) (o := .cells #[.int .i64 a0_0, .slice A0_1 l0_1.length c0_1, .slice A0_2 l0_2.length c0_2, .int .i64 a0_3, .int .u64 a0_4] 26 (0, 0)) (by (with_reducible repeat (first | refine blk_drewN ?_ _ | refine blk_drew ?_ | refine blk_alloc ?_ _)); exact BK813.out) hb); have n6_ := Aside0.mk (blk_below (g := gb827) (o := .cells #[.int .i64 t817, .slice Ao30 t818.length co30, .slice Ao31 t821.length co31, .int .i64 t824, .int .u64 t825] 26 (0, 0)) (by (with_reducible repeat (first | refine blk_drewN ?_ _ | refine blk_drew ?_ | refine blk_alloc ?_ _)); exact BK827.out) hb); have n7_ := Aside0.mk (blk_below (g := gb840) (o := .cells #[.int .i64 t828, .slice Ao39 t829.length co39, .slice Ao40 t832.length co40, .int .i64 t835, .int .u64 t836] 26 (0, 0)) (by (with_reducible repeat (first | refine blk_drewN ?_ _ | refine blk_drew ?_ | refine blk_alloc ?_ _)); exact BK840.out) hb); have n8_ := Aside0.mk (below_step (by repeat (first | (with_reducible first | exact HB.out | apply below_alloc | apply pw_below_drewN | apply below_drew1 | refine below_set ?_ GE813.out | refine below_set ?_ GE827.out | refine below_set ?_ GE840.out) | exact HB.out)) hb); have n9_ := Aside0.mk (hbox); have n10_ := Aside0.mk ((by rw [hg]; exact (below_size (by repeat (first | (with_reducible first | exact HB.out | apply below_alloc | apply pw_below_drewN | apply below_drew1 | refine below_set ?_ GE813.out | refine below_set ?_ GE827.out | refine below_set ?_ GE840.out) | exact HB.out))) : w.heap.size ≤ gb848)); have n11_ := Aside0.mk ((by rw [hg]; exact (below_size (by repeat (first | (with_reducible first | exact HB.out | apply below_alloc | apply pw_below_drewN | apply below_drew1 | refine below_set ?_ GE813.out | refine below_set ?_ GE827.out | refine below_set ?_ GE840.out) | exact HB.out))) : w.heap.size ≤ gb848)); have n12_ := Aside0.mk ((by rw [hg]; exact Nat.ne_of_lt (blk_lt (g := gb813) (o := .cells #[.int .i64 a0_0, .slice A0_1 l0_1.length c0_1, .slice A0_2 l0_2.length c0_2, .int .i64 a0_3, .int .u64 a0_4] 26 (0, 0)) (by (with_reducible repeat (first | refine blk_drewN ?_ _ | refine blk_drew ?_ | refine blk_alloc ?_ _)); exact BK813.out)) : gb813 ≠ gb848)); have n13_ := Aside0.mk ((by rw [hg]; exact Nat.ne_of_gt (blk_lt (g := gb813) (o := .cells #[.int .i64 a0_0, .slice A0_1 l0_1.length c0_1, .slice A0_2 l0_2.length c0_2, .int .i64 a0_3, .int .u64 a0_4] 26 (0, 0)) (by (with_reducible repeat (first | refine blk_drewN ?_ _ | refine blk_drew ?_ | refine blk_alloc ?_ _)); exact BK813.out)) : gb848 ≠ gb813)); have n14_ := Aside0.mk ((by rw [hg]; exact Nat.ne_of_lt (blk_lt (g := gb827) (o := .cells #[.int .i64 t817, .slice Ao30 t818.length co30, .slice Ao31 t821.length co31, .int .i64 t824, .int .u64 t825] 26 (0, 0)) (by (with_reducible repeat (first | refine blk_drewN ?_ _ | refine blk_drew ?_ | refine blk_alloc ?_ _)); exact BK827.out)) : gb827 ≠ gb848)); have n15_ := Aside0.mk ((by rw [hg]; exact Nat.ne_of_gt (blk_lt (g := gb827) (o := .cells #[.int .i64 t817, .slice Ao30 t818.length co30, .slice Ao31 t821.length co31, .int .i64 t824, .int .u64 t825] 26 (0, 0)) (by (with_reducible repeat (first | refine blk_drewN ?_ _ | refine blk_drew ?_ | refine blk_alloc ?_ _)); exact BK827.out)) : gb848 ≠ gb827)); have n16_ := Aside0.mk ((by rw [hg]; exact Nat.ne_of_lt (blk_lt (g := gb840) (o := .cells #[.int .i64 t828, .slice Ao39 t829.length co39, .slice Ao40 t832.length co40, .int .i64 t835, .int .u64 t836] 26 (0, 0)) (by (with_reducible repeat (first | refine blk_drewN ?_ _ | refine blk_drew ?_ | refine blk_alloc ?_ _)); exact BK840.out)) : gb840 ≠ gb848)); have n17_ := Aside0.mk ((by rw [hg]; exact Nat.ne_of_gt (blk_lt (g := gb840) (o := .cells #[.int .i64 t828, .slice Ao39 t829.length co39, .slice Ao40 t832.length co40, .int .i64 t835, .int .u64 t836] 26 (0, 0)) (by (with_reducible repeat (first | refine blk_drewN ?_ _ | refine blk_drew ?_ | refine blk_alloc ?_ _)); exact BK840.out)) : gb848 ≠ gb840)); clear HO820; clear HO823; clear HO831; clear HO834; clear HO839; clear BK813; clear BK827; clear BK840; clear HB; have HO820 := n0_; have HO823 := n1_; have HO831 := n2_; have HO834 := n3_; have HO839 := n4_; have BK813 := n5_; have BK827 := n6_; have BK840 := n7_; have HB := n8_; have BK848 := n9_; have GW848 := n10_; have GE848 := n11_; have NB813_848 := n12_; have NB848_813 := n13_; have NB827_848 := n14_; have NB848_827 := n15_; have NB840_848 := n16_; have NB848_840 := n17_; clear n0_ n1_ n2_ n3_ n4_ n5_ n6_ n7_ n8_ n9_ n10_ n11_ n12_ n13_ n14_ n15_ n16_ n17_; clear hb hbox hg; have hnb43 := NB848_813.out; have hnc43 := NB813_848.out; have hnb44 := NB848_827.out; have hnc44 := NB827_848.out; have hnb45 := NB848_840.out; have hnc45 := NB840_848.out; have hcz46_0 : w42.cell? ⟨gb848, 0, none⟩ = some (.int .i64 0) := (blk_cell BK848.out 0).trans rfl; have hcz46_1 : w42.cell? ⟨gb848, 1, none⟩ = some (.int .i64 0) := (blk_cell BK848.out 1).trans rfl; have hcz46_2 : w42.cell? ⟨gb848, 2, none⟩ = some (.bool false) := (blk_cell BK848.out 2).trans rfl; have hcz46_3 : w42.cell? ⟨gb848, 3, none⟩ = some (.string (⟨#[]⟩ : ByteArray)) := (blk_cell BK848.out 3).trans rfl; have hcz46_4 : w42.cell? ⟨gb848, 4, none⟩ = some (.int .i64 0) := (blk_cell BK848.out 4).trans rfl; have hcz46_5 : w42.cell? ⟨gb848, 5, none⟩ = some (.int .i64 0) := (blk_cell BK848.out 5).trans rfl; have hfz46_0 := blk_frozen BK848.out 0; have hfz46_1 := blk_frozen BK848.out 1; have hfz46_2 := blk_frozen BK848.out 2; have hfz46_3 := blk_frozen BK848.out 3; have hfz46_4 := blk_frozen BK848.out 4; have hfz46_5 := blk_frozen BK848.out 5))
          go_loopg [16, 17] kj6 (fun kq v16 v17 w' => ∃ (x16_2 : Bool) (x17_2 : Int), v16 = .bool x16_2 ∧ v17 = .int .i64 x17_2 ∧ Aside0 (stanchionlaw17_SessionLease.l0 kq a1 a2 t837 t847 x16_2 x17_2 = some r) ∧ Aside0 (kq ≤ kj6) ∧ Aside0 (Kd.R k42 42 w' w.heap.size (fun k_ => k_ ≠ gb848) v838 t837) ∧ Aside0 (Kd.V k42 42 w' w.heap.size (fun k_ => some k_ ≠ (v838 : Value).ownBlock ∧ k_ ≠ gb813 ∧ k_ ≠ gb827 ∧ k_ ≠ gb840 ∧ k_ ≠ gb848) (.slice Ao30 t818.length co30) t818) ∧ Aside0 (Kd.V k85 85 w' w.heap.size (fun k_ => some k_ ≠ (v838 : Value).ownBlock ∧ k_ ≠ gb813 ∧ k_ ≠ gb827 ∧ k_ ≠ gb840 ∧ k_ ≠ gb848) (.slice Ao31 t821.length co31) t821) ∧ Aside0 (Kd.V k42 42 w' w.heap.size (fun k_ => some k_ ≠ (v838 : Value).ownBlock ∧ k_ ≠ gb813 ∧ k_ ≠ gb827 ∧ k_ ≠ gb840 ∧ k_ ≠ gb848) (.slice Ao39 t829.length co39) t829) ∧ Aside0 (Kd.V k85 85 w' w.heap.size (fun k_ => some k_ ≠ (v838 : Value).ownBlock ∧ k_ ≠ gb813 ∧ k_ ≠ gb827 ∧ k_ ≠ gb840 ∧ k_ ≠ gb848) (.slice Ao40 t832.length co40) t832) ∧ Aside0 (w'.heap[gb813]? = some (.cells #[.int .i64 a0_0, (.slice A0_1 l0_1.length c0_1), (.slice A0_2 l0_2.length c0_2), .int .i64 a0_3, .int .u64 a0_4] 26 (0, 0))) ∧ Aside0 (w'.heap[gb827]? = some (.cells #[.int .i64 t817, (.slice Ao30 t818.length co30), (.slice Ao31 t821.length co31), .int .i64 t824, .int .u64 t825] 26 (0, 0))) ∧ Aside0 (w'.heap[gb840]? = some (.cells #[.int .i64 t828, (.slice Ao39 t829.length co39), (.slice Ao40 t832.length co40), .int .i64 t835, .int .u64 t836] 26 (0, 0))) ∧ Aside0 (w'.heap[gb848]? = some (.cells #[.int .i64 t841, .int .i64 t842, .bool t843, .string t844, .int .i64 t845, .int .i64 t846] 42 (0, 0))) ∧ Aside0 (Below w.heap.size w w'))
          case atStart => exact ⟨(false), (0), (by first | rfl | (simp; done) | (simp [*]; done)), (by first | rfl | (simp; done) | (simp [*]; done)), H', ⟨Nat.le_refl _⟩, ⟨by (with_reducible repeat (first | apply Kd.R_alloc | apply Kd.R_drewN | apply Kd.R_drew)); exact Kd.R_mono (Kd.R_far (p := ⟨gb848, 5, none⟩) (Kd.R_far (p := ⟨gb848, 4, none⟩) (Kd.R_far (p := ⟨gb848, 3, none⟩) (Kd.R_far (p := ⟨gb848, 2, none⟩) (Kd.R_far (p := ⟨gb848, 1, none⟩) (Kd.R_far (p := ⟨gb848, 0, none⟩) (Kd.R_mono HO839.out (fun k_ hk => (⟨hk, hk.2⟩ : _ ∧ k_ ≠ gb848))) (fun _ hk => hk.2) (.int .i64 t841)) (fun _ hk => hk.2) (.int .i64 t842)) (fun _ hk => hk.2) (.bool t843)) (fun _ hk => hk.2) (.string t844)) (fun _ hk => hk.2) (.int .i64 t845)) (fun _ hk => hk.2) (.int .i64 t846)) (fun _ hk => hk.1.2)⟩, ⟨by (with_reducible repeat (first | apply Kd.V_alloc | apply Kd.V_drewN | apply Kd.V_drew)); exact Kd.V_mono (Kd.V_far (p := ⟨gb848, 5, none⟩) (Kd.V_far (p := ⟨gb848, 4, none⟩) (Kd.V_far (p := ⟨gb848, 3, none⟩) (Kd.V_far (p := ⟨gb848, 2, none⟩) (Kd.V_far (p := ⟨gb848, 1, none⟩) (Kd.V_far (p := ⟨gb848, 0, none⟩) (Kd.V_mono HO820.out (fun k_ hk => (⟨hk, hk.2⟩ : _ ∧ k_ ≠ gb848))) (fun _ hk => hk.2) (.int .i64 t841)) (fun _ hk => hk.2) (.int .i64 t842)) (fun _ hk => hk.2) (.bool t843)) (fun _ hk => hk.2) (.string t844)) (fun _ hk => hk.2) (.int .i64 t845)) (fun _ hk => hk.2) (.int .i64 t846)) (fun _ hk => ⟨hk.1.1.1.2, ⟨hk.1.1.1.1.1, ⟨hk.1.1.1.1.2, ⟨hk.1.1.2, hk.1.2⟩⟩⟩⟩)⟩, ⟨by (with_reducible repeat (first | apply Kd.V_alloc | apply Kd.V_drewN | apply Kd.V_drew)); exact Kd.V_mono (Kd.V_far (p := ⟨gb848, 5, none⟩) (Kd.V_far (p := ⟨gb848, 4, none⟩) (Kd.V_far (p := ⟨gb848, 3, none⟩) (Kd.V_far (p := ⟨gb848, 2, none⟩) (Kd.V_far (p := ⟨gb848, 1, none⟩) (Kd.V_far (p := ⟨gb848, 0, none⟩) (Kd.V_mono HO823.out (fun k_ hk => (⟨hk, hk.2⟩ : _ ∧ k_ ≠ gb848))) (fun _ hk => hk.2) (.int .i64 t841)) (fun _ hk => hk.2) (.int .i64 t842)) (fun _ hk => hk.2) (.bool t843)) (fun _ hk => hk.2) (.string t844)) (fun _ hk => hk.2) (.int .i64 t845)) (fun _ hk => hk.2) (.int .i64 t846)) (fun _ hk => ⟨hk.1.1.1.2, ⟨hk.1.1.1.1.1, ⟨hk.1.1.1.1.2, ⟨hk.1.1.2, hk.1.2⟩⟩⟩⟩)⟩, ⟨by (with_reducible repeat (first | apply Kd.V_alloc | apply Kd.V_drewN | apply Kd.V_drew)); exact Kd.V_mono (Kd.V_far (p := ⟨gb848, 5, none⟩) (Kd.V_far (p := ⟨gb848, 4, none⟩) (Kd.V_far (p := ⟨gb848, 3, none⟩) (Kd.V_far (p := ⟨gb848, 2, none⟩) (Kd.V_far (p := ⟨gb848, 1, none⟩) (Kd.V_far (p := ⟨gb848, 0, none⟩) (Kd.V_mono HO831.out (fun k_ hk => (⟨hk, hk.2⟩ : _ ∧ k_ ≠ gb848))) (fun _ hk => hk.2) (.int .i64 t841)) (fun _ hk => hk.2) (.int .i64 t842)) (fun _ hk => hk.2) (.bool t843)) (fun _ hk => hk.2) (.string t844)) (fun _ hk => hk.2) (.int .i64 t845)) (fun _ hk => hk.2) (.int .i64 t846)) (fun _ hk => ⟨hk.1.1.1.1, ⟨hk.1.1.1.2.1, ⟨hk.1.1.1.2.2, ⟨hk.1.1.2, hk.1.2⟩⟩⟩⟩)⟩, ⟨by (with_reducible repeat (first | apply Kd.V_alloc | apply Kd.V_drewN | apply Kd.V_drew)); exact Kd.V_mono (Kd.V_far (p := ⟨gb848, 5, none⟩) (Kd.V_far (p := ⟨gb848, 4, none⟩) (Kd.V_far (p := ⟨gb848, 3, none⟩) (Kd.V_far (p := ⟨gb848, 2, none⟩) (Kd.V_far (p := ⟨gb848, 1, none⟩) (Kd.V_far (p := ⟨gb848, 0, none⟩) (Kd.V_mono HO834.out (fun k_ hk => (⟨hk, hk.2⟩ : _ ∧ k_ ≠ gb848))) (fun _ hk => hk.2) (.int .i64 t841)) (fun _ hk => hk.2) (.int .i64 t842)) (fun _ hk => hk.2) (.bool t843)) (fun _ hk => hk.2) (.string t844)) (fun _ hk => hk.2) (.int .i64 t845)) (fun _ hk => hk.2) (.int .i64 t846)) (fun _ hk => ⟨hk.1.1.1.1, ⟨hk.1.1.1.2.1, ⟨hk.1.1.1.2.2, ⟨hk.1.1.2, hk.1.2⟩⟩⟩⟩)⟩, ⟨by (with_reducible repeat (first | refine blk_drewN ?_ _ | refine blk_drew ?_ | refine blk_alloc ?_ _)); refine blk_far ?_ NB813_848.out _; (with_reducible repeat (first | refine blk_drewN ?_ _ | refine blk_drew ?_ | refine blk_alloc ?_ _)); refine blk_far ?_ NB813_848.out _; (with_reducible repeat (first | refine blk_drewN ?_ _ | refine blk_drew ?_ | refine blk_alloc ?_ _)); refine blk_far ?_ NB813_848.out _; (with_reducible repeat (first | refine blk_drewN ?_ _ | refine blk_drew ?_ | refine blk_alloc ?_ _)); refine blk_far ?_ NB813_848.out _; (with_reducible repeat (first | refine blk_drewN ?_ _ | refine blk_drew ?_ | refine blk_alloc ?_ _)); refine blk_far ?_ NB813_848.out _; (with_reducible repeat (first | refine blk_drewN ?_ _ | refine blk_drew ?_ | refine blk_alloc ?_ _)); refine blk_far ?_ NB813_848.out _; (with_reducible repeat (first | refine blk_drewN ?_ _ | refine blk_drew ?_ | refine blk_alloc ?_ _)); exact BK813.out⟩, ⟨by (with_reducible repeat (first | refine blk_drewN ?_ _ | refine blk_drew ?_ | refine blk_alloc ?_ _)); refine blk_far ?_ NB827_848.out _; (with_reducible repeat (first | refine blk_drewN ?_ _ | refine blk_drew ?_ | refine blk_alloc ?_ _)); refine blk_far ?_ NB827_848.out _; (with_reducible repeat (first | refine blk_drewN ?_ _ | refine blk_drew ?_ | refine blk_alloc ?_ _)); refine blk_far ?_ NB827_848.out _; (with_reducible repeat (first | refine blk_drewN ?_ _ | refine blk_drew ?_ | refine blk_alloc ?_ _)); refine blk_far ?_ NB827_848.out _; (with_reducible repeat (first | refine blk_drewN ?_ _ | refine blk_drew ?_ | refine blk_alloc ?_ _)); refine blk_far ?_ NB827_848.out _; (with_reducible repeat (first | refine blk_drewN ?_ _ | refine blk_drew ?_ | refine blk_alloc ?_ _)); refine blk_far ?_ NB827_848.out _; (with_reducible repeat (first | refine blk_drewN ?_ _ | refine blk_drew ?_ | refine blk_alloc ?_ _)); exact BK827.out⟩, ⟨by (with_reducible repeat (first | refine blk_drewN ?_ _ | refine blk_drew ?_ | refine blk_alloc ?_ _)); refine blk_far ?_ NB840_848.out _; (with_reducible repeat (first | refine blk_drewN ?_ _ | refine blk_drew ?_ | refine blk_alloc ?_ _)); refine blk_far ?_ NB840_848.out _; (with_reducible repeat (first | refine blk_drewN ?_ _ | refine blk_drew ?_ | refine blk_alloc ?_ _)); refine blk_far ?_ NB840_848.out _; (with_reducible repeat (first | refine blk_drewN ?_ _ | refine blk_drew ?_ | refine blk_alloc ?_ _)); refine blk_far ?_ NB840_848.out _; (with_reducible repeat (first | refine blk_drewN ?_ _ | refine blk_drew ?_ | refine blk_alloc ?_ _)); refine blk_far ?_ NB840_848.out _; (with_reducible repeat (first | refine blk_drewN ?_ _ | refine blk_drew ?_ | refine blk_alloc ?_ _)); refine blk_far ?_ NB840_848.out _; (with_reducible repeat (first | refine blk_drewN ?_ _ | refine blk_drew ?_ | refine blk_alloc ?_ _)); exact BK840.out⟩, ⟨by (with_reducible repeat (first | refine blk_drewN ?_ _ | refine blk_drew ?_ | refine blk_alloc ?_ _)); refine blk_put (cs := #[.int .i64 t841, .int .i64 t842, .bool t843, .string t844, .int .i64 t845, .int .i64 0]) ?_ 5 _ rfl; (with_reducible repeat (first | refine blk_drewN ?_ _ | refine blk_drew ?_ | refine blk_alloc ?_ _)); refine blk_put (cs := #[.int .i64 t841, .int .i64 t842, .bool t843, .string t844, .int .i64 0, .int .i64 0]) ?_ 4 _ rfl; (with_reducible repeat (first | refine blk_drewN ?_ _ | refine blk_drew ?_ | refine blk_alloc ?_ _)); refine blk_put (cs := #[.int .i64 t841, .int .i64 t842, .bool t843, .string (⟨#[]⟩ : ByteArray), .int .i64 0, .int .i64 0]) ?_ 3 _ rfl; (with_reducible repeat (first | refine blk_drewN ?_ _ | refine blk_drew ?_ | refine blk_alloc ?_ _)); refine blk_put (cs := #[.int .i64 t841, .int .i64 t842, .bool false, .string (⟨#[]⟩ : ByteArray), .int .i64 0, .int .i64 0]) ?_ 2 _ rfl; (with_reducible repeat (first | refine blk_drewN ?_ _ | refine blk_drew ?_ | refine blk_alloc ?_ _)); refine blk_put (cs := #[.int .i64 t841, .int .i64 0, .bool false, .string (⟨#[]⟩ : ByteArray), .int .i64 0, .int .i64 0]) ?_ 1 _ rfl; (with_reducible repeat (first | refine blk_drewN ?_ _ | refine blk_drew ?_ | refine blk_alloc ?_ _)); refine blk_put (cs := #[.int .i64 0, .int .i64 0, .bool false, .string (⟨#[]⟩ : ByteArray), .int .i64 0, .int .i64 0]) ?_ 0 _ rfl; (with_reducible repeat (first | refine blk_drewN ?_ _ | refine blk_drew ?_ | refine blk_alloc ?_ _)); exact BK848.out⟩, ⟨by repeat (first | (with_reducible first | exact HB.out | apply below_alloc | apply pw_below_drewN | apply below_drew1 | refine below_set ?_ GE813.out | refine below_set ?_ GE827.out | refine below_set ?_ GE840.out | refine below_set ?_ GE848.out) | exact HB.out)⟩⟩
          case round =>
            clear H'
            try clear c1
            try clear c2
            try clear p2
            try clear c3
            try clear c4
            try clear c8
            try clear c10
            try clear c14
            try clear c15
            try clear c16
            try clear c17
            try clear c17b0
            try clear c20
            try clear c22
            try clear c22b0
            try clear c22b1
            try clear c25
            try clear c26
            try clear c27
            try clear c28
            try clear c36
            try clear c37
            try clear c43
            try clear c44
            try clear c45
            try clear hcz10_0
            try clear hcz10_1
            try clear hcz10_2
            try clear hcz10_3
            try clear hcz10_4
            try clear hcz12_0
            try clear hcz12_1
            try clear hcz12_2
            try clear hcz12_3
            try clear hcz12_4
            try clear hcz18_0
            try clear hcz18_1
            try clear hcz18_2
            try clear hcz18_3
            try clear hcz18_4
            try clear hcz19_0
            try clear hcz19_1
            try clear hcz19_2
            try clear hcz19_3
            try clear hcz19_4
            try clear hcz25_0
            try clear hcz25_1
            try clear hcz25_2
            try clear hcz25_3
            try clear hcz25_4
            try clear hcz29_0
            try clear hcz29_1
            try clear hcz29_2
            try clear hcz29_3
            try clear hcz29_4
            try clear hcz33_0
            try clear hcz33_1
            try clear hcz33_2
            try clear hcz33_3
            try clear hcz33_4
            try clear hcz38_0
            try clear hcz38_1
            try clear hcz38_2
            try clear hcz38_3
            try clear hcz38_4
            try clear hcz46_0
            try clear hcz46_1
            try clear hcz46_2
            try clear hcz46_3
            try clear hcz46_4
            try clear hcz46_5
            try clear hfz10_0
            try clear hfz10_1
            try clear hfz10_2
            try clear hfz10_3
            try clear hfz10_4
            try clear hfz12_0
            try clear hfz12_1
            try clear hfz12_2
            try clear hfz12_3
            try clear hfz12_4
            try clear hfz18_0
            try clear hfz18_1
            try clear hfz18_2
            try clear hfz18_3
            try clear hfz18_4
            try clear hfz19_0
            try clear hfz19_1
            try clear hfz19_2
            try clear hfz19_3
            try clear hfz19_4
            try clear hfz25_0
            try clear hfz25_1
            try clear hfz25_2
            try clear hfz25_3
            try clear hfz25_4
            try clear hfz29_0
            try clear hfz29_1
            try clear hfz29_2
            try clear hfz29_3
            try clear hfz29_4
            try clear hfz33_0
            try clear hfz33_1
            try clear hfz33_2
            try clear hfz33_3
            try clear hfz33_4
            try clear hfz38_0
            try clear hfz38_1
            try clear hfz38_2
            try clear hfz38_3
            try clear hfz38_4
            try clear hfz46_0
            try clear hfz46_1
            try clear hfz46_2
            try clear hfz46_3
            try clear hfz46_4
            try clear hfz46_5
            try clear p2
            obtain ⟨x16_2, x17_2, rfl, rfl, HA, HK2, HO_13, HO_828001, HO_828002, HO_841001, HO_841002, BK813, BK827, BK840, BK848, HB⟩ := hrel
            cases gk with
            | zero => exact absurd HA.out (by simp [stanchionlaw17_SessionLease.l0])
            | succ k2 =>
              have H := HA.out
              clear HA
              simp only [stanchionlaw17_SessionLease.l0] at H
              by_cases c47 : x17_2 < (t837.length : Int)
              · rw [if_pos c47] at H
                have c47b0 : decide (x17_2 < (t837.length : Int)) = true := decide_eq_true c47
                clear c47
                by_cases c48 : x16_2 = true
                · subst c48
                  have H1 : (stanchionlaw17_SessionLease.l0 k2 a1 a2 t837 t847 true (wrap64 (x17_2 + 1))) = some r := by rw [if_pos rfl] at H; exact H
                  clear H
                  have H := H1
                  clear H1
                  have H' := Aside0.mk H
                  clear H
                  obtain ⟨Ao49, co49, eo49⟩ := Kd.R_slice HO_13.out
                  subst eo49
                  go_wp2
                  go_roundg k2
                  case measure => have := HJ6.out; have := HK2.out; omega
                  case rel => exact ⟨(true), (wrap64 (x17_2 + 1)), (by first | rfl | (simp; done) | (simp [*]; done)), (by first | rfl | (simp; done) | (simp [*]; done)), H', ⟨by have := HJ6.out; have := HK2.out; omega⟩, ⟨by (with_reducible repeat (first | apply Kd.R_alloc | apply Kd.R_drewN | apply Kd.R_drew)); exact HO_13.out⟩, ⟨by (with_reducible repeat (first | apply Kd.V_alloc | apply Kd.V_drewN | apply Kd.V_drew)); exact HO_828001.out⟩, ⟨by (with_reducible repeat (first | apply Kd.V_alloc | apply Kd.V_drewN | apply Kd.V_drew)); exact HO_828002.out⟩, ⟨by (with_reducible repeat (first | apply Kd.V_alloc | apply Kd.V_drewN | apply Kd.V_drew)); exact HO_841001.out⟩, ⟨by (with_reducible repeat (first | apply Kd.V_alloc | apply Kd.V_drewN | apply Kd.V_drew)); exact HO_841002.out⟩, ⟨by (with_reducible repeat (first | refine blk_drewN ?_ _ | refine blk_drew ?_ | refine blk_alloc ?_ _)); exact BK813.out⟩, ⟨by (with_reducible repeat (first | refine blk_drewN ?_ _ | refine blk_drew ?_ | refine blk_alloc ?_ _)); exact BK827.out⟩, ⟨by (with_reducible repeat (first | refine blk_drewN ?_ _ | refine blk_drew ?_ | refine blk_alloc ?_ _)); exact BK840.out⟩, ⟨by (with_reducible repeat (first | refine blk_drewN ?_ _ | refine blk_drew ?_ | refine blk_alloc ?_ _)); exact BK848.out⟩, ⟨by repeat (first | (with_reducible first | exact HB.out | apply below_alloc | apply pw_below_drewN | apply below_drew1 | refine below_set ?_ GE813.out | refine below_set ?_ GE827.out | refine below_set ?_ GE840.out | refine below_set ?_ GE848.out) | exact HB.out)⟩⟩
                · replace c48 := Bool.eq_false_iff.mpr c48
                  subst c48
                  have H1 : (if 0 ≤ x17_2 then (stanchionlaw17_SessionLease.l0 k2 a1 a2 t837 t847 (((rd_T42 t837 x17_2).f0) == a1) (wrap64 (x17_2 + 1))) else (none)) = some r := by rw [if_neg (show ¬ (false = true) by decide)] at H; exact H
                  clear H
                  have H := H1
                  clear H1
                  by_cases c50 : 0 ≤ x17_2
                  · rw [if_pos c50] at H
                    have c50b0 : decide (0 ≤ x17_2) = true := decide_eq_true c50
                    clear c50
                    have H' := Aside0.mk H
                    clear H
                    obtain ⟨Ao51, co51, eo51⟩ := Kd.R_slice HO_13.out
                    subst eo51
                    have p849 : 0 ≤ (x17_2 : Int) := of_decide_eq_true (by first | (with_reducible assumption) | assumption)
                    have q849 : x17_2 < (t837.length : Int) := of_decide_eq_true (by first | (with_reducible assumption) | assumption)
                    obtain ⟨ad849, e849, hx849_0, hx849_1, hx849_2, hx849_3, hx849_4, hx849_5⟩ := at_T42 (Kd.R_reads' HO_13.out).2.2 x17_2 p849 q849
                    cases e849
                    replace p849 := eq_true p849
                    replace q849 := eq_true q849
                    go_wp2
                    go_roundg k2
                    case measure => have := HJ6.out; have := HK2.out; omega
                    case rel => exact ⟨((((rd_T42 t837 x17_2).f0) == a1)), (wrap64 (x17_2 + 1)), (by first | rfl | (simp; done) | (simp [*]; done)), (by first | rfl | (simp; done) | (simp [*]; done)), H', ⟨by have := HJ6.out; have := HK2.out; omega⟩, ⟨by (with_reducible repeat (first | apply Kd.R_alloc | apply Kd.R_drewN | apply Kd.R_drew)); exact HO_13.out⟩, ⟨by (with_reducible repeat (first | apply Kd.V_alloc | apply Kd.V_drewN | apply Kd.V_drew)); exact HO_828001.out⟩, ⟨by (with_reducible repeat (first | apply Kd.V_alloc | apply Kd.V_drewN | apply Kd.V_drew)); exact HO_828002.out⟩, ⟨by (with_reducible repeat (first | apply Kd.V_alloc | apply Kd.V_drewN | apply Kd.V_drew)); exact HO_841001.out⟩, ⟨by (with_reducible repeat (first | apply Kd.V_alloc | apply Kd.V_drewN | apply Kd.V_drew)); exact HO_841002.out⟩, ⟨by (with_reducible repeat (first | refine blk_drewN ?_ _ | refine blk_drew ?_ | refine blk_alloc ?_ _)); exact BK813.out⟩, ⟨by (with_reducible repeat (first | refine blk_drewN ?_ _ | refine blk_drew ?_ | refine blk_alloc ?_ _)); exact BK827.out⟩, ⟨by (with_reducible repeat (first | refine blk_drewN ?_ _ | refine blk_drew ?_ | refine blk_alloc ?_ _)); exact BK840.out⟩, ⟨by (with_reducible repeat (first | refine blk_drewN ?_ _ | refine blk_drew ?_ | refine blk_alloc ?_ _)); exact BK848.out⟩, ⟨by repeat (first | (with_reducible first | exact HB.out | apply below_alloc | apply pw_below_drewN | apply below_drew1 | refine below_set ?_ GE813.out | refine below_set ?_ GE827.out | refine below_set ?_ GE840.out | refine below_set ?_ GE848.out) | exact HB.out)⟩⟩
                  · rw [if_neg c50] at H
                    exact absurd H (by simp)
              · rw [if_neg c47] at H
                have c47b0 : decide (x17_2 < (t837.length : Int)) = false := decide_eq_false c47
                clear c47
                by_cases c52 : (t847 == (decide (a2 < 20))) = true
                · rw [if_pos c52] at H
                  have c52b0 : (t847 == (decide (a2 < 20))) = true := c52
                  (try (have c52b1 : decide (t847 = (decide (a2 < 20))) = true := by simpa using c52))
                  (try (have c52b2 : (t847 == (decide (a2 < 20))) = true := by simpa using c52))
                  clear c52
                  obtain rfl := Option.some.inj H
                  obtain ⟨Ao53, co53, eo53⟩ := Kd.R_slice HO_13.out
                  subst eo53
                  go_wp2
                  first | go_ret | ((try simp only [Exit.inBlock, Exit.then]); refine bodyPost_ret (results_tmp rfl _ _ _) ?hd_ ?hR_; (case hd_ => rfl))
                  exact ⟨by first | rfl | (simp [errW_none, errW_some] <;> rfl) | (simp [*, errW_none, errW_some] <;> rfl), by repeat (first | (with_reducible first | exact HB.out | apply below_alloc | apply pw_below_drewN | apply below_drew1 | refine below_set ?_ GE813.out | refine below_set ?_ GE827.out | refine below_set ?_ GE840.out | refine below_set ?_ GE848.out) | exact HB.out)⟩
                · rw [if_neg c52] at H
                  have c52b0 : (t847 == (decide (a2 < 20))) = false := by simpa using c52
                  (try (have c52b1 : decide (t847 = (decide (a2 < 20))) = false := by simpa using c52))
                  (try (have c52b2 : (t847 == (decide (a2 < 20))) = false := by simpa using c52))
                  (try (have c52b3 : ¬ (t847 = (decide (a2 < 20))) := by simpa using c52))
                  clear c52
                  obtain rfl := Option.some.inj H
                  exact absurd hr_ (by decide)
        · rw [if_neg c22] at H
          have c22b0 : (t826 == 0) = false := beq_eq_false_iff_ne.mpr c22
          have c22b1 : (t826 != 0) = true := bne_iff_ne.mpr c22
          obtain rfl := Option.some.inj H
          have hcz55_0 : wc.cell? ⟨gb813, 0, none⟩ = some (.int .i64 a0_0) := (blk_cell BK813.out 0).trans rfl
          have hcz55_1 : wc.cell? ⟨gb813, 1, none⟩ = some (.slice A0_1 l0_1.length c0_1) := (blk_cell BK813.out 1).trans rfl
          have hcz55_2 : wc.cell? ⟨gb813, 2, none⟩ = some (.slice A0_2 l0_2.length c0_2) := (blk_cell BK813.out 2).trans rfl
          have hcz55_3 : wc.cell? ⟨gb813, 3, none⟩ = some (.int .i64 a0_3) := (blk_cell BK813.out 3).trans rfl
          have hcz55_4 : wc.cell? ⟨gb813, 4, none⟩ = some (.int .u64 a0_4) := (blk_cell BK813.out 4).trans rfl
          have hfz55_0 := blk_frozen BK813.out 0
          have hfz55_1 := blk_frozen BK813.out 1
          have hfz55_2 := blk_frozen BK813.out 2
          have hfz55_3 := blk_frozen BK813.out 3
          have hfz55_4 := blk_frozen BK813.out 4
          go_wp2_with (first | ((with_reducible refine gate_callee (f := 26) rfl ?_); refine goesL_ (some 47) rfl rfl Try.func26 (by kernel_rfl) rfl #[.agg #[.int .i64 a0_0, .slice A0_1 l0_1.length c0_1, .slice A0_2 l0_2.length c0_2, .int .i64 a0_3, .int .u64 a0_4], .int .i64 a1] rfl (by (try simp only [List.map_toArray, List.map_cons, List.map_nil]); first | done | rfl | (simp only [List.length_drop, List.length_take]; rfl)) ?_; (with_reducible refine (session_Renew.calls kj6 a0_0 (fun k_ => k_ < w.heap.size) _ _ l0_1 (fun k_ => k_ < w.heap.size) _ _ l0_2 a0_3 a0_4 a1 t817 t818 t821 t824 t825 t826 _ ?side1 ?side2 A21.out).mono ?_); (case side1 => exact Kd.V_mk HC0_1.out (Kd.F_below (Kd.C_F k42_heap HR0_1.out) (by repeat (first | (with_reducible first | exact HB.out | apply below_alloc | apply pw_below_drewN | apply below_drew1 | refine below_set ?_ GE813.out) | exact HB.out)))); (case side2 => exact Kd.V_mk HC0_2.out (Kd.F_below (Kd.C_F k85_heap HR0_2.out) (by repeat (first | (with_reducible first | exact HB.out | apply below_alloc | apply pw_below_drewN | apply below_drew1 | refine below_set ?_ GE813.out) | exact HB.out)))); rintro e w56 ⟨v819, v822, rfl, ho0, ho1, hb⟩; refine ⟨_, rfl, ?_⟩; have n0_ := Aside0.mk (Kd.V_lower (Kd.V_mono (ok' := fun k_ => k_ ≠ gb813) ho0 (fun k_ hk_ => Or.elim hk_ (fun hs_ => Or.elim hs_ (fun hs_ => fun e_ => Nat.not_le.2 hs_ (by rw [e_]; exact GW813.out)) (fun hs_ => fun e_ => Nat.not_le.2 hs_ (by rw [e_]; exact GW813.out))) (fun hn_ => (Kd.freshB (g := gb813) (o := .cells #[.int .i64 a0_0, .slice A0_1 l0_1.length c0_1, .slice A0_2 l0_2.length c0_2, .int .i64 a0_3, .int .u64 a0_4] 26 (0, 0)) (by (with_reducible repeat (first | refine blk_drewN ?_ _ | refine blk_drew ?_ | refine blk_alloc ?_ _)); exact BK813.out) k_ hn_)))) (below_size (by repeat (first | (with_reducible first | exact HB.out | apply below_alloc | apply pw_below_drewN | apply below_drew1 | refine below_set ?_ GE813.out) | exact HB.out)))); have n1_ := Aside0.mk (Kd.V_lower (Kd.V_mono (ok' := fun k_ => k_ ≠ gb813) ho1 (fun k_ hk_ => Or.elim hk_ (fun hs_ => Or.elim hs_ (fun hs_ => fun e_ => Nat.not_le.2 hs_ (by rw [e_]; exact GW813.out)) (fun hs_ => fun e_ => Nat.not_le.2 hs_ (by rw [e_]; exact GW813.out))) (fun hn_ => (Kd.freshB (g := gb813) (o := .cells #[.int .i64 a0_0, .slice A0_1 l0_1.length c0_1, .slice A0_2 l0_2.length c0_2, .int .i64 a0_3, .int .u64 a0_4] 26 (0, 0)) (by (with_reducible repeat (first | refine blk_drewN ?_ _ | refine blk_drew ?_ | refine blk_alloc ?_ _)); exact BK813.out) k_ hn_)))) (below_size (by repeat (first | (with_reducible first | exact HB.out | apply below_alloc | apply pw_below_drewN | apply below_drew1 | refine below_set ?_ GE813.out) | exact HB.out)))); have n2_ := Aside0.mk (blk_below (g := gb813) (o := .cells #[.int .i64 a0_0, .slice A0_1 l0_1.length c0_1, .slice A0_2 l0_2.length c0_2, .int .i64 a0_3, .int .u64 a0_4] 26 (0, 0)) (by (with_reducible repeat (first | refine blk_drewN ?_ _ | refine blk_drew ?_ | refine blk_alloc ?_ _)); exact BK813.out) hb); have n3_ := Aside0.mk (below_step (by repeat (first | (with_reducible first | exact HB.out | apply below_alloc | apply pw_below_drewN | apply below_drew1 | refine below_set ?_ GE813.out) | exact HB.out)) hb); clear BK813; clear HB; have HO820 := n0_; have HO823 := n1_; have BK813 := n2_; have HB := n3_; clear n0_ n1_ n2_ n3_; (try clear hb); (try clear hb2); (try clear hk); (try clear hi); (try clear ho0); (try clear ho1)) | ((with_reducible refine gate_dst (N := 10) rfl ?_); refine box_event ?hg (N := 10) ?hd (cs := #[.int .i64 0, .slice none 0 0, .slice none 0 0, .int .i64 0, .int .u64 0]) (t := 26) ?hr ?_; (case hd => rfl); (case hg => rfl); (case hr => first | (go_simp; done) | (go_simp; rfl)); intro gb827 hg w57 hbox hb; have n0_ := Aside0.mk (Kd.V_below (Kd.V_elderB (by (with_reducible repeat (first | apply Kd.V_alloc | apply Kd.V_drewN | apply Kd.V_drew)); exact HO820.out) gb827 (Nat.le_of_eq hg.symm)) hb); have n1_ := Aside0.mk (Kd.V_below (Kd.V_elderB (by (with_reducible repeat (first | apply Kd.V_alloc | apply Kd.V_drewN | apply Kd.V_drew)); exact HO823.out) gb827 (Nat.le_of_eq hg.symm)) hb); have n2_ := Aside0.mk (blk_below (g := gb813) (o := .cells #[.int .i64 a0_0, .slice A0_1 l0_1.length c0_1, .slice A0_2 l0_2.length c0_2, .int .i64 a0_3, .int .u64 a0_4] 26 (0, 0)) (by (with_reducible repeat (first | refine blk_drewN ?_ _ | refine blk_drew ?_ | refine blk_alloc ?_ _)); exact BK813.out) hb); have n3_ := Aside0.mk (below_step (by repeat (first | (with_reducible first | exact HB.out | apply below_alloc | apply pw_below_drewN | apply below_drew1 | refine below_set ?_ GE813.out) | exact HB.out)) hb); have n4_ := Aside0.mk (hbox); have n5_ := Aside0.mk ((by rw [hg]; exact (below_size (by repeat (first | (with_reducible first | exact HB.out | apply below_alloc | apply pw_below_drewN | apply below_drew1 | refine below_set ?_ GE813.out) | exact HB.out))) : w.heap.size ≤ gb827)); have n6_ := Aside0.mk ((by rw [hg]; exact (below_size (by repeat (first | (with_reducible first | exact HB.out | apply below_alloc | apply pw_below_drewN | apply below_drew1 | refine below_set ?_ GE813.out) | exact HB.out))) : w.heap.size ≤ gb827)); have n7_ := Aside0.mk ((by rw [hg]; exact Nat.ne_of_lt (blk_lt (g := gb813) (o := .cells #[.int .i64 a0_0, .slice A0_1 l0_1.length c0_1, .slice A0_2 l0_2.length c0_2, .int .i64 a0_3, .int .u64 a0_4] 26 (0, 0)) (by (with_reducible repeat (first | refine blk_drewN ?_ _ | refine blk_drew ?_ | refine blk_alloc ?_ _)); exact BK813.out)) : gb813 ≠ gb827)); have n8_ := Aside0.mk ((by rw [hg]; exact Nat.ne_of_gt (blk_lt (g := gb813) (o := .cells #[.int .i64 a0_0, .slice A0_1 l0_1.length c0_1, .slice A0_2 l0_2.length c0_2, .int .i64 a0_3, .int .u64 a0_4] 26 (0, 0)) (by (with_reducible repeat (first | refine blk_drewN ?_ _ | refine blk_drew ?_ | refine blk_alloc ?_ _)); exact BK813.out)) : gb827 ≠ gb813)); clear HO820; clear HO823; clear BK813; clear HB; have HO820 := n0_; have HO823 := n1_; have BK813 := n2_; have HB := n3_; have BK827 := n4_; have GW827 := n5_; have GE827 := n6_; have NB813_827 := n7_; have NB827_813 := n8_; clear n0_ n1_ n2_ n3_ n4_ n5_ n6_ n7_ n8_; clear hb hbox hg; have hnb58 := NB827_813.out; have hnc58 := NB813_827.out; have hcz59_0 : w57.cell? ⟨gb827, 0, none⟩ = some (.int .i64 0) := (blk_cell BK827.out 0).trans rfl; have hcz59_1 : w57.cell? ⟨gb827, 1, none⟩ = some (.slice none 0 0) := (blk_cell BK827.out 1).trans rfl; have hcz59_2 : w57.cell? ⟨gb827, 2, none⟩ = some (.slice none 0 0) := (blk_cell BK827.out 2).trans rfl; have hcz59_3 : w57.cell? ⟨gb827, 3, none⟩ = some (.int .i64 0) := (blk_cell BK827.out 3).trans rfl; have hcz59_4 : w57.cell? ⟨gb827, 4, none⟩ = some (.int .u64 0) := (blk_cell BK827.out 4).trans rfl; have hfz59_0 := blk_frozen BK827.out 0; have hfz59_1 := blk_frozen BK827.out 1; have hfz59_2 := blk_frozen BK827.out 2; have hfz59_3 := blk_frozen BK827.out 3; have hfz59_4 := blk_frozen BK827.out 4; obtain ⟨Ao60, co60, eo60⟩ := Kd.V_slice HO820.out; subst eo60; obtain ⟨Ao61, co61, eo61⟩ := Kd.V_slice HO823.out; subst eo61))
          first | go_ret | ((try simp only [Exit.inBlock, Exit.then]); refine bodyPost_ret (results_tmp rfl _ _ _) ?hd_ ?hR_; (case hd_ => rfl))
          exact ⟨by first | rfl | (simp [errW_none, errW_some] <;> rfl) | (simp [*, errW_none, errW_some] <;> rfl), by repeat (first | (with_reducible first | exact HB.out | apply below_alloc | apply pw_below_drewN | apply below_drew1 | refine below_set ?_ GE813.out | refine below_set ?_ GE827.out) | exact HB.out)⟩

/-! ### stanchionref17_Open: function 28 -/
/-! ### stanchionref17_Renew: function 29 -/
/-! ### stanchionref17_less: function 56 -/
/-! ### stanchionref17_Close: function 30 -/
end Go.Proofs.Ytnpmjboofmdflaa.PB
