-- Made by a program of this workplace out of the translation (wip/tools in the repo). Not trusted: Lean checks it.
import Derived.Test.YtgcbggcddnkldaaPBx0
import Derived.Test.YtgcbggcddnkldaaPBx1
import Derived.Test.YtgcbggcddnkldaaPBx2
import Derived.Test.YtgcbggcddnkldaaPBx3
import Derived.Test.YtgcbggcddnkldaaPBx5
import Derived.Test.YtgcbggcddnkldaaPBx6
import Derived.Test.YtgcbggcddnkldaaPBx7
import Derived.Test.YtgcbggcddnkldaaPBx8
namespace Go.Proofs.Ytgcbggcddnkldaa.PB
open Go.RowKit Go.Proofs.YtgcbggcddnkldaaW.PrintWords Go.Proofs.YtgcbggcddnkldaaW.PrintLast Go.Proofs.YtgcbggcddnkldaaW.PrintMore
attribute [local go_sem] max2_int min2_int max_two min_two max_three min_three max_four min_four   -- for this text's walks alone
set_option linter.unusedVariables false
set_option linter.unusedSimpArgs false

attribute [local go_sem high] eqA27
/-! ### stanchionlaw15_AlarmActs: function 7 -/
def stanchionlaw15_AlarmActs.T8 : Bool × List (List Nat × List Nat) := (true, [([], []), ([], []), ([0, 1], [0, 1]), ([], []), ([], []), ([3, 4, 2], [3, 4]), ([2, 5, 5], [2, 5]), ([6, 6, 0, 1, 2, 3, 4, 5, 6], [6])])
def stanchionlaw15_AlarmActs.B8 : List Nat := [0, 0, 3, 0, 0, 31, 63, 127]
theorem stanchionlaw15_AlarmActs.tab8 : rtab .any (opsOf Try.f7 8) = stanchionlaw15_AlarmActs.T8 := by kernel_rfl
theorem stanchionlaw15_AlarmActs.bits8 : waitsOk stanchionlaw15_AlarmActs.T8.2 stanchionlaw15_AlarmActs.B8 = true := by kernel_rfl
def stanchionlaw15_AlarmActs.T16 : Bool × List (List Nat × List Nat) := (true, [([], []), ([0], [0]), ([1], [1]), ([1, 2], [1, 2]), ([3, 1], [3]), ([4], [4]), ([4, 5], [4, 5]), ([6, 4], [6]), ([7], [7]), ([7, 8], [7, 8]), ([9, 7], [9]), ([10], [10]), ([10, 11], [10, 11]), ([12, 10], [12]), ([13], [13]), ([14, 13, 13], [13, 14]), ([13], [13]), ([16, 15, 13], [13, 16]), ([15, 17, 13], [13, 15, 17]), ([13, 18], [13, 18]), ([19, 17], [19]), ([20], [20]), ([21, 20], [20, 21]), ([22, 20], [20, 22]), ([23, 20, 20], [20, 23]), ([24], [24]), ([25, 24], [24, 25]), ([26, 24], [24, 26]), ([24], [24]), ([27, 28, 24, 24], [24, 27, 28]), ([24], [24]), ([30, 24], [24, 30]), ([31, 24], [24, 31]), ([24], [24]), ([32, 33, 29, 24], [24, 32, 33]), ([29, 34, 24], [24, 29, 34]), ([24, 35, 20], [20, 24, 35]), ([20, 36], [20, 36]), ([37, 34, 0, 1, 2, 3, 4, 5, 6, 7, 8, 9, 10, 11, 12, 13, 14, 15, 16, 17, 18, 19, 20, 21, 22, 23, 24, 25, 26, 27, 28, 29, 30, 31, 32, 33, 34, 35, 36, 37], [37])])
def stanchionlaw15_AlarmActs.B16 : List Nat := [0, 1, 3, 7, 15, 31, 63, 127, 255, 511, 1023, 2047, 4095, 8191, 16383, 32767, 16383, 131071, 262143, 524287, 1048575, 2097151, 4194303, 8388607, 16777215, 33554431, 67108863, 134217727, 33554431, 536870911, 33554431, 1107296255, 3254779903, 33554431, 17179869183, 34359738367, 68719476735, 137438953471, 274877906943]
theorem stanchionlaw15_AlarmActs.tab16 : rtab .any (opsOf Try.f7 16) = stanchionlaw15_AlarmActs.T16 := by kernel_rfl
theorem stanchionlaw15_AlarmActs.bits16 : waitsOk stanchionlaw15_AlarmActs.T16.2 stanchionlaw15_AlarmActs.B16 = true := by kernel_rfl
set_option maxHeartbeats 8000000 in
set_option maxRecDepth 100000 in
theorem stanchionlaw15_AlarmActs.calls (k : Nat) (A0_0 : Option Addr) (c0_0 : Nat) (l0_0 : List (S27)) (a0_1 : Int) (a0_2 : Int) (a0_3 : Int) (a0_4 : Int) (r : Bool) (w : World) (hr0_0 : Kd.C k27 w A0_0 l0_0.length l0_0) (hc0_0 : l0_0.length ≤ c0_0) (h : stanchionlaw15_AlarmActs.f k l0_0 a0_1 a0_2 a0_3 a0_4 = some r) (hr_ : r = true) :
    Calls Try.prog 7 #[.agg #[.slice A0_0 l0_0.length c0_0, .int .u64 a0_1, .int .i64 a0_2, .int .u64 a0_3, .int .i64 a0_4]] w fun e w' => e = .returned (.bool r) ∧ Below w.heap.size w w' := by
  have hu40 := Try.underlying40
  have hu27 := Try.underlying27
  have HR0_0 := Aside0.mk hr0_0
  have HC0_0 := Aside0.mk hc0_0
  clear hr0_0 hc0_0
  have HB := Aside0.mk (Below.refl w.heap.size w)
  have H : ((stanchionlaw15_shown.f k).bind fun t265 => (if (l0_0.length : Int) > 300 then (some t265) else ((alarm_Put.f k l0_0 a0_1 a0_2).bind fun t266 => ((stanchionref15_Put.f k l0_0 a0_1 a0_2).bind fun t269 => ((stanchionref15_Same.f k t266 t269).bind fun t272 => ((alarm_Pop.f k l0_0).bind fun bt273 => ((stanchionref15_Pop.f k l0_0).bind fun bt280 => ((alarm_Due.f k l0_0 a0_3).bind fun bt287 => ((stanchionref15_Due.f k l0_0 a0_3).bind fun bt293 => ((stanchionref15_Same.f k bt273.1 bt280.1).bind fun t299 => (if t299 = true then (if (bt273.2.1 == bt280.2.1 && (bt273.2.2.1 == bt280.2.2.1)) = true then (stanchionlaw15_AlarmActs.j0 k l0_0 a0_4 t265 t272 bt287.1 bt287.2 bt293.1 bt293.2 (bt273.2.2.2 == bt280.2.2.2) a0_1 a0_2) else (stanchionlaw15_AlarmActs.j0 k l0_0 a0_4 t265 t272 bt287.1 bt287.2 bt293.1 bt293.2 false a0_1 a0_2)) else (stanchionlaw15_AlarmActs.j0 k l0_0 a0_4 t265 t272 bt287.1 bt287.2 bt293.1 bt293.2 false a0_1 a0_2)))))))))))) = some r := h
  clear h
  replace H := Option.bind_eq_some_iff.mp H
  obtain ⟨t265, A20, H⟩ := H
  replace H : (if (l0_0.length : Int) > 300 then (some t265) else ((alarm_Put.f k l0_0 a0_1 a0_2).bind fun t266 => ((stanchionref15_Put.f k l0_0 a0_1 a0_2).bind fun t269 => ((stanchionref15_Same.f k t266 t269).bind fun t272 => ((alarm_Pop.f k l0_0).bind fun bt273 => ((stanchionref15_Pop.f k l0_0).bind fun bt280 => ((alarm_Due.f k l0_0 a0_3).bind fun bt287 => ((stanchionref15_Due.f k l0_0 a0_3).bind fun bt293 => ((stanchionref15_Same.f k bt273.1 bt280.1).bind fun t299 => (if t299 = true then (if (bt273.2.1 == bt280.2.1 && (bt273.2.2.1 == bt280.2.2.1)) = true then (stanchionlaw15_AlarmActs.j0 k l0_0 a0_4 t265 t272 bt287.1 bt287.2 bt293.1 bt293.2 (bt273.2.2.2 == bt280.2.2.2) a0_1 a0_2) else (stanchionlaw15_AlarmActs.j0 k l0_0 a0_4 t265 t272 bt287.1 bt287.2 bt293.1 bt293.2 false a0_1 a0_2)) else (stanchionlaw15_AlarmActs.j0 k l0_0 a0_4 t265 t272 bt287.1 bt287.2 bt293.1 bt293.2 false a0_1 a0_2))))))))))) = some r := H
  have A2 := Aside0.mk A20
  clear A20
  by_cases c3 : (l0_0.length : Int) > 300
  · rw [if_pos c3] at H
    have c3b0 : decide (300 < (l0_0.length : Int)) = true := decide_eq_true c3
    have c3b1 : decide (300 < l0_0.length) = true := decide_eq_true (by omega)
    clear c3
    obtain rfl := Option.some.inj H
    go_enter Try.func7, Try.ntmps7
    go_wp2_with (first | ((with_reducible refine gate_dst (N := 1) rfl ?_); (try (refine gate_guard (by rfl) ?_; dsimp only)); refine box_event ?hg (N := 1) ?hd (cs := #[.slice A0_0 l0_0.length c0_0, .int .u64 a0_1, .int .i64 a0_2, .int .u64 a0_3, .int .i64 a0_4]) (t := 40) ?hr ?_; (case hd => rfl); (case hg => rfl); (case hr => first | (go_simp; done) | (go_simp; rfl)); intro gb263 hg w4 hbox hb; have n0_ := Aside0.mk (below_step (by repeat (first | (with_reducible first | exact HB.out | apply below_alloc | apply pw_below_drewN | apply below_drew1) | exact HB.out)) hb); have n1_ := Aside0.mk (hbox); have n2_ := Aside0.mk ((by rw [hg]; exact (below_size (by repeat (first | (with_reducible first | exact HB.out | apply below_alloc | apply pw_below_drewN | apply below_drew1) | exact HB.out))) : w.heap.size ≤ gb263)); have n3_ := Aside0.mk ((by rw [hg]; exact (below_size (by repeat (first | (with_reducible first | exact HB.out | apply below_alloc | apply pw_below_drewN | apply below_drew1) | exact HB.out))) : w.heap.size ≤ gb263)); clear HB; have HB := n0_; have BK263 := n1_; have GW263 := n2_; have GE263 := n3_; clear n0_ n1_ n2_ n3_; clear hb hbox hg; have hcz5_0 : w4.cell? ⟨gb263, 0, none⟩ = some (.slice A0_0 l0_0.length c0_0) := (blk_cell BK263.out 0).trans rfl; have hcz5_1 : w4.cell? ⟨gb263, 1, none⟩ = some (.int .u64 a0_1) := (blk_cell BK263.out 1).trans rfl; have hcz5_2 : w4.cell? ⟨gb263, 2, none⟩ = some (.int .i64 a0_2) := (blk_cell BK263.out 2).trans rfl; have hcz5_3 : w4.cell? ⟨gb263, 3, none⟩ = some (.int .u64 a0_3) := (blk_cell BK263.out 3).trans rfl; have hcz5_4 : w4.cell? ⟨gb263, 4, none⟩ = some (.int .i64 a0_4) := (blk_cell BK263.out 4).trans rfl; have hfz5_0 := blk_frozen BK263.out 0; have hfz5_1 := blk_frozen BK263.out 1; have hfz5_2 := blk_frozen BK263.out 2; have hfz5_3 := blk_frozen BK263.out 3; have hfz5_4 := blk_frozen BK263.out 4) | ((with_reducible refine gate_dst (N := 4) rfl ?_); (try (refine gate_guard (by rfl) ?_; dsimp only)); refine box_event ?hg (N := 4) ?hd (cs := #[.int .u64 0, .int .i64 0]) (t := 27) ?hr ?_; (case hd => rfl); (case hg => rfl); (case hr => first | (go_simp; done) | (go_simp; rfl)); intro gb264 hg w6 hbox hb; have n0_ := Aside0.mk (blk_below (g := gb263) (o := .cells #[.slice A0_0 l0_0.length c0_0, .int .u64 a0_1, .int .i64 a0_2, .int .u64 a0_3, .int .i64 a0_4] 40 (0, 0)) (by (with_reducible repeat (first | refine blk_drewN ?_ _ | refine blk_drew ?_ | refine blk_alloc ?_ _)); exact BK263.out) hb); have n1_ := Aside0.mk (below_step (by repeat (first | (with_reducible first | exact HB.out | apply below_alloc | apply pw_below_drewN | apply below_drew1 | refine below_set ?_ GE263.out) | exact HB.out)) hb); have n2_ := Aside0.mk (hbox); have n3_ := Aside0.mk ((by rw [hg]; exact (below_size (by repeat (first | (with_reducible first | exact HB.out | apply below_alloc | apply pw_below_drewN | apply below_drew1 | refine below_set ?_ GE263.out) | exact HB.out))) : w.heap.size ≤ gb264)); have n4_ := Aside0.mk ((by rw [hg]; exact (below_size (by repeat (first | (with_reducible first | exact HB.out | apply below_alloc | apply pw_below_drewN | apply below_drew1 | refine below_set ?_ GE263.out) | exact HB.out))) : w.heap.size ≤ gb264)); have n5_ := Aside0.mk ((by rw [hg]; exact Nat.ne_of_lt (blk_lt (g := gb263) (o := .cells #[.slice A0_0 l0_0.length c0_0, .int .u64 a0_1, .int .i64 a0_2, .int .u64 a0_3, .int .i64 a0_4] 40 (0, 0)) (by (with_reducible repeat (first | refine blk_drewN ?_ _ | refine blk_drew ?_ | refine blk_alloc ?_ _)); exact BK263.out)) : gb263 ≠ gb264)); have n6_ := Aside0.mk ((by rw [hg]; exact Nat.ne_of_gt (blk_lt (g := gb263) (o := .cells #[.slice A0_0 l0_0.length c0_0, .int .u64 a0_1, .int .i64 a0_2, .int .u64 a0_3, .int .i64 a0_4] 40 (0, 0)) (by (with_reducible repeat (first | refine blk_drewN ?_ _ | refine blk_drew ?_ | refine blk_alloc ?_ _)); exact BK263.out)) : gb264 ≠ gb263)); clear BK263; clear HB; have BK263 := n0_; have HB := n1_; have BK264 := n2_; have GW264 := n3_; have GE264 := n4_; have NB263_264 := n5_; have NB264_263 := n6_; clear n0_ n1_ n2_ n3_ n4_ n5_ n6_; clear hb hbox hg; have hnb7 := NB264_263.out; have hnc7 := NB263_264.out; have hcz8_0 : w6.cell? ⟨gb264, 0, none⟩ = some (.int .u64 0) := (blk_cell BK264.out 0).trans rfl; have hcz8_1 : w6.cell? ⟨gb264, 1, none⟩ = some (.int .i64 0) := (blk_cell BK264.out 1).trans rfl; have hfz8_0 := blk_frozen BK264.out 0; have hfz8_1 := blk_frozen BK264.out 1; have hcz9_0 : w6.cell? ⟨gb263, 0, none⟩ = some (.slice A0_0 l0_0.length c0_0) := (blk_cell BK263.out 0).trans rfl; have hcz9_1 : w6.cell? ⟨gb263, 1, none⟩ = some (.int .u64 a0_1) := (blk_cell BK263.out 1).trans rfl; have hcz9_2 : w6.cell? ⟨gb263, 2, none⟩ = some (.int .i64 a0_2) := (blk_cell BK263.out 2).trans rfl; have hcz9_3 : w6.cell? ⟨gb263, 3, none⟩ = some (.int .u64 a0_3) := (blk_cell BK263.out 3).trans rfl; have hcz9_4 : w6.cell? ⟨gb263, 4, none⟩ = some (.int .i64 a0_4) := (blk_cell BK263.out 4).trans rfl; have hfz9_0 := blk_frozen BK263.out 0; have hfz9_1 := blk_frozen BK263.out 1; have hfz9_2 := blk_frozen BK263.out 2; have hfz9_3 := blk_frozen BK263.out 3; have hfz9_4 := blk_frozen BK263.out 4) | ((with_reducible refine gate_callee (f := 8) rfl ?_); refine goesL_ (some 30) rfl rfl Try.func8 (by kernel_rfl) rfl #[] rfl (by (try simp only [List.map_toArray, List.map_cons, List.map_nil]); first | done | rfl | (simp only [List.length_drop, List.length_take]; rfl)) ?_; (with_reducible refine (stanchionlaw15_shown.calls k  t265 _ A2.out).mono ?_); rintro e w10 ⟨rfl, hb⟩; refine ⟨_, rfl, ?_⟩; have n0_ := Aside0.mk (blk_below (g := gb263) (o := .cells #[.slice A0_0 l0_0.length c0_0, .int .u64 a0_1, .int .i64 a0_2, .int .u64 a0_3, .int .i64 a0_4] 40 (0, 0)) (by (with_reducible repeat (first | refine blk_drewN ?_ _ | refine blk_drew ?_ | refine blk_alloc ?_ _)); refine blk_far ?_ NB263_264.out _; (with_reducible repeat (first | refine blk_drewN ?_ _ | refine blk_drew ?_ | refine blk_alloc ?_ _)); refine blk_far ?_ NB263_264.out _; (with_reducible repeat (first | refine blk_drewN ?_ _ | refine blk_drew ?_ | refine blk_alloc ?_ _)); exact BK263.out) hb); have n1_ := Aside0.mk (blk_below (g := gb264) (o := .cells #[.int .u64 a0_1, .int .i64 a0_2] 27 (0, 0)) (by (with_reducible repeat (first | refine blk_drewN ?_ _ | refine blk_drew ?_ | refine blk_alloc ?_ _)); refine blk_put (cs := #[.int .u64 a0_1, .int .i64 0]) ?_ 1 _ rfl; (with_reducible repeat (first | refine blk_drewN ?_ _ | refine blk_drew ?_ | refine blk_alloc ?_ _)); refine blk_put (cs := #[.int .u64 0, .int .i64 0]) ?_ 0 _ rfl; (with_reducible repeat (first | refine blk_drewN ?_ _ | refine blk_drew ?_ | refine blk_alloc ?_ _)); exact BK264.out) hb); have n2_ := Aside0.mk (below_step (by repeat (first | (with_reducible first | exact HB.out | apply below_alloc | apply pw_below_drewN | apply below_drew1 | refine below_set ?_ GE263.out | refine below_set ?_ GE264.out) | exact HB.out)) hb); clear BK263; clear BK264; clear HB; have BK263 := n0_; have BK264 := n1_; have HB := n2_; clear n0_ n1_ n2_; (try clear hb); (try clear hb2); (try clear hk); (try clear hi)))
    go_ret
    exact ⟨by first | rfl | (simp [errW_none, errW_some] <;> rfl) | (simp [*, errW_none, errW_some] <;> rfl), by repeat (first | (with_reducible first | exact HB.out | apply below_alloc | apply pw_below_drewN | apply below_drew1 | refine below_set ?_ GE263.out | refine below_set ?_ GE264.out) | exact HB.out)⟩
  · rw [if_neg c3] at H
    have c3b0 : decide (300 < (l0_0.length : Int)) = false := decide_eq_false c3
    have c3b1 : decide (300 < l0_0.length) = false := decide_eq_false (by omega)
    clear c3
    replace H := Option.bind_eq_some_iff.mp H
    obtain ⟨t266, A110, H⟩ := H
    replace H : ((stanchionref15_Put.f k l0_0 a0_1 a0_2).bind fun t269 => ((stanchionref15_Same.f k t266 t269).bind fun t272 => ((alarm_Pop.f k l0_0).bind fun bt273 => ((stanchionref15_Pop.f k l0_0).bind fun bt280 => ((alarm_Due.f k l0_0 a0_3).bind fun bt287 => ((stanchionref15_Due.f k l0_0 a0_3).bind fun bt293 => ((stanchionref15_Same.f k bt273.1 bt280.1).bind fun t299 => (if t299 = true then (if (bt273.2.1 == bt280.2.1 && (bt273.2.2.1 == bt280.2.2.1)) = true then (stanchionlaw15_AlarmActs.j0 k l0_0 a0_4 t265 t272 bt287.1 bt287.2 bt293.1 bt293.2 (bt273.2.2.2 == bt280.2.2.2) a0_1 a0_2) else (stanchionlaw15_AlarmActs.j0 k l0_0 a0_4 t265 t272 bt287.1 bt287.2 bt293.1 bt293.2 false a0_1 a0_2)) else (stanchionlaw15_AlarmActs.j0 k l0_0 a0_4 t265 t272 bt287.1 bt287.2 bt293.1 bt293.2 false a0_1 a0_2))))))))) = some r := H
    have A11 := Aside0.mk A110
    clear A110
    replace H := Option.bind_eq_some_iff.mp H
    obtain ⟨t269, A120, H⟩ := H
    replace H : ((stanchionref15_Same.f k t266 t269).bind fun t272 => ((alarm_Pop.f k l0_0).bind fun bt273 => ((stanchionref15_Pop.f k l0_0).bind fun bt280 => ((alarm_Due.f k l0_0 a0_3).bind fun bt287 => ((stanchionref15_Due.f k l0_0 a0_3).bind fun bt293 => ((stanchionref15_Same.f k bt273.1 bt280.1).bind fun t299 => (if t299 = true then (if (bt273.2.1 == bt280.2.1 && (bt273.2.2.1 == bt280.2.2.1)) = true then (stanchionlaw15_AlarmActs.j0 k l0_0 a0_4 t265 t272 bt287.1 bt287.2 bt293.1 bt293.2 (bt273.2.2.2 == bt280.2.2.2) a0_1 a0_2) else (stanchionlaw15_AlarmActs.j0 k l0_0 a0_4 t265 t272 bt287.1 bt287.2 bt293.1 bt293.2 false a0_1 a0_2)) else (stanchionlaw15_AlarmActs.j0 k l0_0 a0_4 t265 t272 bt287.1 bt287.2 bt293.1 bt293.2 false a0_1 a0_2)))))))) = some r := H
    have A12 := Aside0.mk A120
    clear A120
    replace H := Option.bind_eq_some_iff.mp H
    obtain ⟨t272, A130, H⟩ := H
    replace H : ((alarm_Pop.f k l0_0).bind fun bt273 => ((stanchionref15_Pop.f k l0_0).bind fun bt280 => ((alarm_Due.f k l0_0 a0_3).bind fun bt287 => ((stanchionref15_Due.f k l0_0 a0_3).bind fun bt293 => ((stanchionref15_Same.f k bt273.1 bt280.1).bind fun t299 => (if t299 = true then (if (bt273.2.1 == bt280.2.1 && (bt273.2.2.1 == bt280.2.2.1)) = true then (stanchionlaw15_AlarmActs.j0 k l0_0 a0_4 t265 t272 bt287.1 bt287.2 bt293.1 bt293.2 (bt273.2.2.2 == bt280.2.2.2) a0_1 a0_2) else (stanchionlaw15_AlarmActs.j0 k l0_0 a0_4 t265 t272 bt287.1 bt287.2 bt293.1 bt293.2 false a0_1 a0_2)) else (stanchionlaw15_AlarmActs.j0 k l0_0 a0_4 t265 t272 bt287.1 bt287.2 bt293.1 bt293.2 false a0_1 a0_2))))))) = some r := H
    have A13 := Aside0.mk A130
    clear A130
    replace H := Option.bind_eq_some_iff.mp H
    obtain ⟨⟨t273, t276, t277, t278⟩, A140, H⟩ := H
    replace H : ((stanchionref15_Pop.f k l0_0).bind fun bt280 => ((alarm_Due.f k l0_0 a0_3).bind fun bt287 => ((stanchionref15_Due.f k l0_0 a0_3).bind fun bt293 => ((stanchionref15_Same.f k t273 bt280.1).bind fun t299 => (if t299 = true then (if (t276 == bt280.2.1 && (t277 == bt280.2.2.1)) = true then (stanchionlaw15_AlarmActs.j0 k l0_0 a0_4 t265 t272 bt287.1 bt287.2 bt293.1 bt293.2 (t278 == bt280.2.2.2) a0_1 a0_2) else (stanchionlaw15_AlarmActs.j0 k l0_0 a0_4 t265 t272 bt287.1 bt287.2 bt293.1 bt293.2 false a0_1 a0_2)) else (stanchionlaw15_AlarmActs.j0 k l0_0 a0_4 t265 t272 bt287.1 bt287.2 bt293.1 bt293.2 false a0_1 a0_2)))))) = some r := H
    have A14 := Aside0.mk A140
    clear A140
    replace H := Option.bind_eq_some_iff.mp H
    obtain ⟨⟨t280, t283, t284, t285⟩, A150, H⟩ := H
    replace H : ((alarm_Due.f k l0_0 a0_3).bind fun bt287 => ((stanchionref15_Due.f k l0_0 a0_3).bind fun bt293 => ((stanchionref15_Same.f k t273 t280).bind fun t299 => (if t299 = true then (if (t276 == t283 && (t277 == t284)) = true then (stanchionlaw15_AlarmActs.j0 k l0_0 a0_4 t265 t272 bt287.1 bt287.2 bt293.1 bt293.2 (t278 == t285) a0_1 a0_2) else (stanchionlaw15_AlarmActs.j0 k l0_0 a0_4 t265 t272 bt287.1 bt287.2 bt293.1 bt293.2 false a0_1 a0_2)) else (stanchionlaw15_AlarmActs.j0 k l0_0 a0_4 t265 t272 bt287.1 bt287.2 bt293.1 bt293.2 false a0_1 a0_2))))) = some r := H
    have A15 := Aside0.mk A150
    clear A150
    replace H := Option.bind_eq_some_iff.mp H
    obtain ⟨⟨t287, t290⟩, A160, H⟩ := H
    replace H : ((stanchionref15_Due.f k l0_0 a0_3).bind fun bt293 => ((stanchionref15_Same.f k t273 t280).bind fun t299 => (if t299 = true then (if (t276 == t283 && (t277 == t284)) = true then (stanchionlaw15_AlarmActs.j0 k l0_0 a0_4 t265 t272 t287 t290 bt293.1 bt293.2 (t278 == t285) a0_1 a0_2) else (stanchionlaw15_AlarmActs.j0 k l0_0 a0_4 t265 t272 t287 t290 bt293.1 bt293.2 false a0_1 a0_2)) else (stanchionlaw15_AlarmActs.j0 k l0_0 a0_4 t265 t272 t287 t290 bt293.1 bt293.2 false a0_1 a0_2)))) = some r := H
    have A16 := Aside0.mk A160
    clear A160
    replace H := Option.bind_eq_some_iff.mp H
    obtain ⟨⟨t293, t296⟩, A170, H⟩ := H
    replace H : ((stanchionref15_Same.f k t273 t280).bind fun t299 => (if t299 = true then (if (t276 == t283 && (t277 == t284)) = true then (stanchionlaw15_AlarmActs.j0 k l0_0 a0_4 t265 t272 t287 t290 t293 t296 (t278 == t285) a0_1 a0_2) else (stanchionlaw15_AlarmActs.j0 k l0_0 a0_4 t265 t272 t287 t290 t293 t296 false a0_1 a0_2)) else (stanchionlaw15_AlarmActs.j0 k l0_0 a0_4 t265 t272 t287 t290 t293 t296 false a0_1 a0_2))) = some r := H
    have A17 := Aside0.mk A170
    clear A170
    have HC18 := Aside0.mk H
    clear H
    go_enter Try.func7, Try.ntmps7
    try go_wp2_with (first | ((with_reducible refine gate_dst (N := 1) rfl ?_); (try (refine gate_guard (by rfl) ?_; dsimp only)); refine box_event ?hg (N := 1) ?hd (cs := #[.slice A0_0 l0_0.length c0_0, .int .u64 a0_1, .int .i64 a0_2, .int .u64 a0_3, .int .i64 a0_4]) (t := 40) ?hr ?_; (case hd => rfl); (case hg => rfl); (case hr => first | (go_simp; done) | (go_simp; rfl)); intro gb263 hg w19 hbox hb; have n0_ := Aside0.mk (below_step (by repeat (first | (with_reducible first | exact HB.out | apply below_alloc | apply pw_below_drewN | apply below_drew1) | exact HB.out)) hb); have n1_ := Aside0.mk (hbox); have n2_ := Aside0.mk ((by rw [hg]; exact (below_size (by repeat (first | (with_reducible first | exact HB.out | apply below_alloc | apply pw_below_drewN | apply below_drew1) | exact HB.out))) : w.heap.size ≤ gb263)); have n3_ := Aside0.mk ((by rw [hg]; exact (below_size (by repeat (first | (with_reducible first | exact HB.out | apply below_alloc | apply pw_below_drewN | apply below_drew1) | exact HB.out))) : w.heap.size ≤ gb263)); clear HB; have HB := n0_; have BK263 := n1_; have GW263 := n2_; have GE263 := n3_; clear n0_ n1_ n2_ n3_; clear hb hbox hg; have hcz20_0 : w19.cell? ⟨gb263, 0, none⟩ = some (.slice A0_0 l0_0.length c0_0) := (blk_cell BK263.out 0).trans rfl; have hcz20_1 : w19.cell? ⟨gb263, 1, none⟩ = some (.int .u64 a0_1) := (blk_cell BK263.out 1).trans rfl; have hcz20_2 : w19.cell? ⟨gb263, 2, none⟩ = some (.int .i64 a0_2) := (blk_cell BK263.out 2).trans rfl; have hcz20_3 : w19.cell? ⟨gb263, 3, none⟩ = some (.int .u64 a0_3) := (blk_cell BK263.out 3).trans rfl; have hcz20_4 : w19.cell? ⟨gb263, 4, none⟩ = some (.int .i64 a0_4) := (blk_cell BK263.out 4).trans rfl; have hfz20_0 := blk_frozen BK263.out 0; have hfz20_1 := blk_frozen BK263.out 1; have hfz20_2 := blk_frozen BK263.out 2; have hfz20_3 := blk_frozen BK263.out 3; have hfz20_4 := blk_frozen BK263.out 4) | ((with_reducible refine gate_dst (N := 4) rfl ?_); (try (refine gate_guard (by rfl) ?_; dsimp only)); refine box_event ?hg (N := 4) ?hd (cs := #[.int .u64 0, .int .i64 0]) (t := 27) ?hr ?_; (case hd => rfl); (case hg => rfl); (case hr => first | (go_simp; done) | (go_simp; rfl)); intro gb264 hg w21 hbox hb; have n0_ := Aside0.mk (blk_below (g := gb263) (o := .cells #[.slice A0_0 l0_0.length c0_0, .int .u64 a0_1, .int .i64 a0_2, .int .u64 a0_3, .int .i64 a0_4] 40 (0, 0)) (by (with_reducible repeat (first | refine blk_drewN ?_ _ | refine blk_drew ?_ | refine blk_alloc ?_ _)); exact BK263.out) hb); have n1_ := Aside0.mk (below_step (by repeat (first | (with_reducible first | exact HB.out | apply below_alloc | apply pw_below_drewN | apply below_drew1 | refine below_set ?_ GE263.out) | exact HB.out)) hb); have n2_ := Aside0.mk (hbox); have n3_ := Aside0.mk ((by rw [hg]; exact (below_size (by repeat (first | (with_reducible first | exact HB.out | apply below_alloc | apply pw_below_drewN | apply below_drew1 | refine below_set ?_ GE263.out) | exact HB.out))) : w.heap.size ≤ gb264)); have n4_ := Aside0.mk ((by rw [hg]; exact (below_size (by repeat (first | (with_reducible first | exact HB.out | apply below_alloc | apply pw_below_drewN | apply below_drew1 | refine below_set ?_ GE263.out) | exact HB.out))) : w.heap.size ≤ gb264)); have n5_ := Aside0.mk ((by rw [hg]; exact Nat.ne_of_lt (blk_lt (g := gb263) (o := .cells #[.slice A0_0 l0_0.length c0_0, .int .u64 a0_1, .int .i64 a0_2, .int .u64 a0_3, .int .i64 a0_4] 40 (0, 0)) (by (with_reducible repeat (first | refine blk_drewN ?_ _ | refine blk_drew ?_ | refine blk_alloc ?_ _)); exact BK263.out)) : gb263 ≠ gb264)); have n6_ := Aside0.mk ((by rw [hg]; exact Nat.ne_of_gt (blk_lt (g := gb263) (o := .cells #[.slice A0_0 l0_0.length c0_0, .int .u64 a0_1, .int .i64 a0_2, .int .u64 a0_3, .int .i64 a0_4] 40 (0, 0)) (by (with_reducible repeat (first | refine blk_drewN ?_ _ | refine blk_drew ?_ | refine blk_alloc ?_ _)); exact BK263.out)) : gb264 ≠ gb263)); clear BK263; clear HB; have BK263 := n0_; have HB := n1_; have BK264 := n2_; have GW264 := n3_; have GE264 := n4_; have NB263_264 := n5_; have NB264_263 := n6_; clear n0_ n1_ n2_ n3_ n4_ n5_ n6_; clear hb hbox hg; have hnb22 := NB264_263.out; have hnc22 := NB263_264.out; have hcz23_0 : w21.cell? ⟨gb264, 0, none⟩ = some (.int .u64 0) := (blk_cell BK264.out 0).trans rfl; have hcz23_1 : w21.cell? ⟨gb264, 1, none⟩ = some (.int .i64 0) := (blk_cell BK264.out 1).trans rfl; have hfz23_0 := blk_frozen BK264.out 0; have hfz23_1 := blk_frozen BK264.out 1; have hcz24_0 : w21.cell? ⟨gb263, 0, none⟩ = some (.slice A0_0 l0_0.length c0_0) := (blk_cell BK263.out 0).trans rfl; have hcz24_1 : w21.cell? ⟨gb263, 1, none⟩ = some (.int .u64 a0_1) := (blk_cell BK263.out 1).trans rfl; have hcz24_2 : w21.cell? ⟨gb263, 2, none⟩ = some (.int .i64 a0_2) := (blk_cell BK263.out 2).trans rfl; have hcz24_3 : w21.cell? ⟨gb263, 3, none⟩ = some (.int .u64 a0_3) := (blk_cell BK263.out 3).trans rfl; have hcz24_4 : w21.cell? ⟨gb263, 4, none⟩ = some (.int .i64 a0_4) := (blk_cell BK263.out 4).trans rfl; have hfz24_0 := blk_frozen BK263.out 0; have hfz24_1 := blk_frozen BK263.out 1; have hfz24_2 := blk_frozen BK263.out 2; have hfz24_3 := blk_frozen BK263.out 3; have hfz24_4 := blk_frozen BK263.out 4) | ((with_reducible refine gate_callee (f := 8) rfl ?_); refine goesL_ (some 30) rfl rfl Try.func8 (by kernel_rfl) rfl #[] rfl (by (try simp only [List.map_toArray, List.map_cons, List.map_nil]); first | done | rfl | (simp only [List.length_drop, List.length_take]; rfl)) ?_; (with_reducible refine (stanchionlaw15_shown.calls k  t265 _ A2.out).mono ?_); rintro e w25 ⟨rfl, hb⟩; refine ⟨_, rfl, ?_⟩; have n0_ := Aside0.mk (blk_below (g := gb263) (o := .cells #[.slice A0_0 l0_0.length c0_0, .int .u64 a0_1, .int .i64 a0_2, .int .u64 a0_3, .int .i64 a0_4] 40 (0, 0)) (by (with_reducible repeat (first | refine blk_drewN ?_ _ | refine blk_drew ?_ | refine blk_alloc ?_ _)); refine blk_far ?_ NB263_264.out _; (with_reducible repeat (first | refine blk_drewN ?_ _ | refine blk_drew ?_ | refine blk_alloc ?_ _)); refine blk_far ?_ NB263_264.out _; (with_reducible repeat (first | refine blk_drewN ?_ _ | refine blk_drew ?_ | refine blk_alloc ?_ _)); exact BK263.out) hb); have n1_ := Aside0.mk (blk_below (g := gb264) (o := .cells #[.int .u64 a0_1, .int .i64 a0_2] 27 (0, 0)) (by (with_reducible repeat (first | refine blk_drewN ?_ _ | refine blk_drew ?_ | refine blk_alloc ?_ _)); refine blk_put (cs := #[.int .u64 a0_1, .int .i64 0]) ?_ 1 _ rfl; (with_reducible repeat (first | refine blk_drewN ?_ _ | refine blk_drew ?_ | refine blk_alloc ?_ _)); refine blk_put (cs := #[.int .u64 0, .int .i64 0]) ?_ 0 _ rfl; (with_reducible repeat (first | refine blk_drewN ?_ _ | refine blk_drew ?_ | refine blk_alloc ?_ _)); exact BK264.out) hb); have n2_ := Aside0.mk (below_step (by repeat (first | (with_reducible first | exact HB.out | apply below_alloc | apply pw_below_drewN | apply below_drew1 | refine below_set ?_ GE263.out | refine below_set ?_ GE264.out) | exact HB.out)) hb); clear BK263; clear BK264; clear HB; have BK263 := n0_; have BK264 := n1_; have HB := n2_; clear n0_ n1_ n2_; (try clear hb); (try clear hb2); (try clear hk); (try clear hi)))
    have n0_ := Aside0.mk (blk_drew BK263.out)
    have n1_ := Aside0.mk (blk_drew BK264.out)
    have n2_ := Aside0.mk (below_drew1 HB.out)
    clear BK263
    clear BK264
    clear HB
    have BK263 := n0_
    have BK264 := n1_
    have HB := n2_
    clear n0_ n1_ n2_
    refine start_ (n := 8) (S := fun w' => w'.cell? ⟨gb264, 0, none⟩ = some (.int .u64 a0_1) ∧ w'.cell? ⟨gb264, 1, none⟩ = some (.int .i64 a0_2)) (ds := []) #[false, false, false, false, false, false, false, false] (by kernel_rfl) rfl rfl ⟨(blk_cell BK264.out 0).trans rfl, (blk_cell BK264.out 1).trans rfl⟩ (fun hHeld => ?_); refine with_tabW stanchionlaw15_AlarmActs.tab8 stanchionlaw15_AlarmActs.bits8 (fun HT_ HW_ => ?_)
    generalize w25.drew = w26 at BK263 BK264 HB hHeld ⊢
    refine pure_ (i := 0) (N := some 35) (v := ?_) (a' := ?_) #[true, false, false, false, false, false, false, false] rfl rfl (any_of HT_.out (by kernel_rfl)) (fun _ _ _ h => h) (Or.inl ⟨by rfl, ?_⟩) ?_ ?_
    rotate_left
    · intro w'
      go_simp
      with_reducible rfl
    rotate_left
    · simp only [Act.put, List.setIfInBounds_toArray, List.set_cons_zero, List.set_cons_succ, i64_w, i32_w]
      rfl
    refine pure_ (i := 3) (N := some 38) (v := ?_) (a' := ?_) #[true, false, false, true, false, false, false, false] rfl rfl (any_of HT_.out (by kernel_rfl)) (fun _ _ _ h => h) (Or.inl ⟨by rfl, ?_⟩) ?_ ?_
    rotate_left
    · intro w'
      go_simp
      with_reducible rfl
    rotate_left
    · simp only [Act.put, List.setIfInBounds_toArray, List.set_cons_zero, List.set_cons_succ, i64_w, i32_w]
      rfl
    refine take_ (i := 1) (N := some 36) (v := ?_) (a' := ?_) #[true, true, false, true, false, false, false, false] rfl rfl (take_ofW HT_.out HW_.out (by kernel_rfl)) (fun _ _ _ h => h) (Or.inl ⟨by rfl, ?_⟩) hHeld ?_ ?_
    rotate_left
    · rintro w' ⟨s0, s1⟩
      go_simp
      with_reducible rfl
    rotate_left
    · simp only [Act.put, List.setIfInBounds_toArray, List.set_cons_zero, List.set_cons_succ, i64_w, i32_w]
      rfl
    refine take_ (i := 4) (N := some 39) (v := ?_) (a' := ?_) #[true, true, false, true, true, false, false, false] rfl rfl (take_ofW HT_.out HW_.out (by kernel_rfl)) (fun _ _ _ h => h) (Or.inl ⟨by rfl, ?_⟩) hHeld ?_ ?_
    rotate_left
    · rintro w' ⟨s0, s1⟩
      go_simp
      with_reducible rfl
    rotate_left
    · simp only [Act.put, List.setIfInBounds_toArray, List.set_cons_zero, List.set_cons_succ, i64_w, i32_w]
      rfl
    refine one_ (i := 2) (N := some 37) #[true, true, true, true, true, false, false, false] rfl rfl (one_of HT_.out (by kernel_rfl)) (by decide) (fun K hK => ?_)
    refine goes_ Try.func9 (by kernel_rfl) rfl #[.slice A0_0 l0_0.length c0_0, .agg #[.int .u64 a0_1, .int .i64 a0_2]] (by rfl) rfl rfl (by (try simp only [List.map_toArray, List.map_cons, List.map_nil]); first | done | rfl | (simp only [List.length_drop, List.length_take]; rfl)) ?_
    with_reducible refine (alarm_Put.calls k _ _ l0_0 a0_1 a0_2 t266 _ ?side1 ?side2 A11.out).mono ?_
    (case side1 => repeat (first | exact (Kd.C_below HR0_0.out HB.out) | (with_reducible refine Kd.C_alloc ?_ _) | (with_reducible refine Kd.C_drewN ?_ _) | (with_reducible refine Kd.C_drew ?_)))
    (case side2 => exact HC0_0.out)
    rintro e w27 ⟨v267, rfl, ho0, hb⟩
    refine ⟨_, rfl, ?_⟩
    have n0_ := Aside0.mk (Kd.R_lower (Kd.R_newB ho0 (g := gb264) (o := .cells #[.int .u64 a0_1, .int .i64 a0_2] 27 (0, 0)) (by (with_reducible repeat (first | refine blk_drewN ?_ _ | refine blk_drew ?_ | refine blk_alloc ?_ _)); exact BK264.out)) (below_size (by repeat (first | (with_reducible first | exact HB.out | apply below_alloc | apply pw_below_drewN | apply below_drew1 | refine below_set ?_ GE263.out | refine below_set ?_ GE264.out) | exact HB.out))))
    have n1_ := Aside0.mk (blk_below (g := gb263) (o := .cells #[.slice A0_0 l0_0.length c0_0, .int .u64 a0_1, .int .i64 a0_2, .int .u64 a0_3, .int .i64 a0_4] 40 (0, 0)) (by (with_reducible repeat (first | refine blk_drewN ?_ _ | refine blk_drew ?_ | refine blk_alloc ?_ _)); exact BK263.out) hb)
    have n2_ := Aside0.mk (blk_below (g := gb264) (o := .cells #[.int .u64 a0_1, .int .i64 a0_2] 27 (0, 0)) (by (with_reducible repeat (first | refine blk_drewN ?_ _ | refine blk_drew ?_ | refine blk_alloc ?_ _)); exact BK264.out) hb)
    have n3_ := Aside0.mk (below_step (by repeat (first | (with_reducible first | exact HB.out | apply below_alloc | apply pw_below_drewN | apply below_drew1 | refine below_set ?_ GE263.out | refine below_set ?_ GE264.out) | exact HB.out)) hb)
    clear BK263
    clear BK264
    clear HB
    have HO268 := n0_
    have BK263 := n1_
    have BK264 := n2_
    have HB := n3_
    clear n0_ n1_ n2_ n3_
    (try clear hb)
    (try clear hb2)
    (try clear hk)
    (try clear hi)
    (try clear ho0)
    refine hK.out _ _ ⟨(blk_cell BK264.out 0).trans rfl, (blk_cell BK264.out 1).trans rfl⟩ (fun hHeld => ?_)
    clear hK K
    refine norm_ (a' := ?_) ?_ ?_
    rotate_left
    · show Act.put _ (some 37) _ = _
      simp only [Act.put, List.setIfInBounds_toArray, List.set_cons_zero, List.set_cons_succ, i64_w, i32_w]
      rfl
    refine one_ (i := 5) (N := some 40) #[true, true, true, true, true, true, false, false] rfl rfl (one_of HT_.out (by kernel_rfl)) (by decide) (fun K hK => ?_)
    refine goes_ Try.func16 (by kernel_rfl) rfl #[.slice A0_0 l0_0.length c0_0, .agg #[.int .u64 a0_1, .int .i64 a0_2]] (by rfl) rfl rfl (by (try simp only [List.map_toArray, List.map_cons, List.map_nil]); first | done | rfl | (simp only [List.length_drop, List.length_take]; rfl)) ?_
    with_reducible refine (stanchionref15_Put.calls k _ _ l0_0 a0_1 a0_2 t269 _ ?side1 ?side2 A12.out).mono ?_
    (case side1 => repeat (first | exact (Kd.C_below HR0_0.out HB.out) | (with_reducible refine Kd.C_alloc ?_ _) | (with_reducible refine Kd.C_drewN ?_ _) | (with_reducible refine Kd.C_drew ?_)))
    (case side2 => exact HC0_0.out)
    rintro e w28 ⟨v270, rfl, ho0, hb⟩
    refine ⟨_, rfl, ?_⟩
    have n0_ := Aside0.mk (Kd.R_elder' (by (with_reducible repeat (first | apply Kd.R_alloc | apply Kd.R_drewN | apply Kd.R_drew)); exact HO268.out) (Kd.R_base ho0) hb)
    have n1_ := Aside0.mk (Kd.R_lower (Kd.R_newB (Kd.R_new' ho0 (Kd.R_lt (by (with_reducible repeat (first | apply Kd.R_alloc | apply Kd.R_drewN | apply Kd.R_drew)); exact HO268.out))) (g := gb264) (o := .cells #[.int .u64 a0_1, .int .i64 a0_2] 27 (0, 0)) (by (with_reducible repeat (first | refine blk_drewN ?_ _ | refine blk_drew ?_ | refine blk_alloc ?_ _)); exact BK264.out)) (below_size (by repeat (first | (with_reducible first | exact HB.out | apply below_alloc | apply pw_below_drewN | apply below_drew1 | refine below_set ?_ GE263.out | refine below_set ?_ GE264.out) | exact HB.out))))
    have n2_ := Aside0.mk (blk_below (g := gb263) (o := .cells #[.slice A0_0 l0_0.length c0_0, .int .u64 a0_1, .int .i64 a0_2, .int .u64 a0_3, .int .i64 a0_4] 40 (0, 0)) (by (with_reducible repeat (first | refine blk_drewN ?_ _ | refine blk_drew ?_ | refine blk_alloc ?_ _)); exact BK263.out) hb)
    have n3_ := Aside0.mk (blk_below (g := gb264) (o := .cells #[.int .u64 a0_1, .int .i64 a0_2] 27 (0, 0)) (by (with_reducible repeat (first | refine blk_drewN ?_ _ | refine blk_drew ?_ | refine blk_alloc ?_ _)); exact BK264.out) hb)
    have n4_ := Aside0.mk (below_step (by repeat (first | (with_reducible first | exact HB.out | apply below_alloc | apply pw_below_drewN | apply below_drew1 | refine below_set ?_ GE263.out | refine below_set ?_ GE264.out) | exact HB.out)) hb)
    clear HO268
    clear BK263
    clear BK264
    clear HB
    have HO268 := n0_
    have HO271 := n1_
    have BK263 := n2_
    have BK264 := n3_
    have HB := n4_
    clear n0_ n1_ n2_ n3_ n4_
    (try clear hb)
    (try clear hb2)
    (try clear hk)
    (try clear hi)
    (try clear ho0)
    obtain ⟨Ao29, co29, eo29⟩ := Kd.R_slice HO268.out
    (first | subst eo29 | (injection eo29 with f1_ f2_ f3_; have f4_ := f1_.symm; have f5_ := f3_.symm; clear f1_ f2_ f3_; subst f4_; subst f5_))
    obtain ⟨Ao30, co30, eo30⟩ := Kd.R_slice HO271.out
    (first | subst eo30 | (injection eo30 with f1_ f2_ f3_; have f4_ := f1_.symm; have f5_ := f3_.symm; clear f1_ f2_ f3_; subst f4_; subst f5_))
    refine hK.out _ _ ⟨(blk_cell BK264.out 0).trans rfl, (blk_cell BK264.out 1).trans rfl⟩ (fun hHeld => ?_)
    clear hK K
    refine norm_ (a' := ?_) ?_ ?_
    rotate_left
    · show Act.put _ (some 40) _ = _
      simp only [Act.put, List.setIfInBounds_toArray, List.set_cons_zero, List.set_cons_succ, i64_w, i32_w]
      rfl
    refine one_ (i := 6) (N := some 41) #[true, true, true, true, true, true, true, false] rfl rfl (one_of HT_.out (by kernel_rfl)) (by decide) (fun K hK => ?_)
    refine goes_ Try.func15 (by kernel_rfl) rfl #[.slice Ao29 t266.length co29, .slice Ao30 t269.length co30] (by rfl) rfl rfl (by (try simp only [List.map_toArray, List.map_cons, List.map_nil]); first | done | rfl | (simp only [List.length_drop, List.length_take]; rfl)) ?_
    with_reducible refine (stanchionref15_Same.calls k _ _ t266 _ _ t269 t272 _ ?side1 ?side2 ?side3 ?side4 A13.out).mono ?_
    (case side1 => repeat (first | exact (Kd.R_reads' HO268.out).2.2 | (with_reducible refine Kd.C_alloc ?_ _) | (with_reducible refine Kd.C_drewN ?_ _) | (with_reducible refine Kd.C_drew ?_)))
    (case side2 => exact (Kd.R_reads' HO268.out).2.1)
    (case side3 => repeat (first | exact (Kd.R_reads' HO271.out).2.2 | (with_reducible refine Kd.C_alloc ?_ _) | (with_reducible refine Kd.C_drewN ?_ _) | (with_reducible refine Kd.C_drew ?_)))
    (case side4 => exact (Kd.R_reads' HO271.out).2.1)
    rintro e w' ⟨rfl, ⟨nd, rfl⟩⟩
    refine ⟨_, rfl, ?_⟩
    refine hK.out _ _ ⟨(blk_cell BK264.out 0).trans rfl, (blk_cell BK264.out 1).trans rfl⟩ (fun hHeld => ?_)
    clear hK K
    refine norm_ (a' := ?_) ?_ ?_
    rotate_left
    · show Act.put _ (some 41) _ = _
      simp only [Act.put, List.setIfInBounds_toArray, List.set_cons_zero, List.set_cons_succ, i64_w, i32_w]
      rfl
    refine pure_ (i := 7) (N := some 8) (v := ?_) (a' := ?_) #[true, true, true, true, true, true, true, true] rfl rfl (any_of HT_.out (by kernel_rfl)) (fun _ _ _ h => h) (Or.inl ⟨by rfl, ?_⟩) ?_ ?_
    rotate_left
    · intro w'
      go_simp
      with_reducible rfl
    rotate_left
    · simp only [Act.put, List.setIfInBounds_toArray, List.set_cons_zero, List.set_cons_succ, i64_w, i32_w]
      rfl
    refine done_ (done_of HT_.out (by kernel_rfl)) ?_
    go_upto_region 13 with (first | ((with_reducible refine gate_callee (f := 10) rfl ?_); refine goesL_ (some 44) rfl rfl Try.func10 (by kernel_rfl) rfl #[.slice A0_0 l0_0.length c0_0] rfl (by (try simp only [List.map_toArray, List.map_cons, List.map_nil]); first | done | rfl | (simp only [List.length_drop, List.length_take]; rfl)) ?_; (with_reducible refine (alarm_Pop.calls k (fun k_ => k_ < w.heap.size) _ _ l0_0 t273 t276 t277 t278 _ ?side1 A14.out).mono ?_); (case side1 => exact Kd.V_mk HC0_0.out (Kd.F_below (Kd.C_F k27_heap HR0_0.out) (by repeat (first | (with_reducible first | exact HB.out | apply below_alloc | apply pw_below_drewN | apply below_drew1 | refine below_set ?_ GE263.out | refine below_set ?_ GE264.out) | exact HB.out)))); rintro e w31 ⟨v274, rfl, ho0, hb⟩; refine ⟨_, rfl, ?_⟩; have n0_ := Aside0.mk (Kd.R_below (by (with_reducible repeat (first | apply Kd.R_alloc | apply Kd.R_drewN | apply Kd.R_drew)); exact HO268.out) hb); have n1_ := Aside0.mk (Kd.R_below (by (with_reducible repeat (first | apply Kd.R_alloc | apply Kd.R_drewN | apply Kd.R_drew)); exact HO271.out) hb); have n2_ := Aside0.mk (Kd.V_lower (Kd.V_mono (ok' := fun k_ => some k_ ≠ (.slice Ao29 t266.length co29 : Value).ownBlock ∧ some k_ ≠ (.slice Ao30 t269.length co30 : Value).ownBlock ∧ k_ ≠ gb263 ∧ k_ ≠ gb264) ho0 (fun k_ hk_ => ⟨Or.elim hk_ (fun hs_ => fun e_ => Nat.not_le.2 hs_ (Kd.R_base HO268.out k_ e_.symm)) (fun hn_ => (Kd.fresh' (Kd.R_lt (by (with_reducible repeat (first | apply Kd.R_alloc | apply Kd.R_drewN | apply Kd.R_drew)); exact HO268.out)) k_ hn_)), Or.elim hk_ (fun hs_ => fun e_ => Nat.not_le.2 hs_ (Kd.R_base HO271.out k_ e_.symm)) (fun hn_ => (Kd.fresh' (Kd.R_lt (by (with_reducible repeat (first | apply Kd.R_alloc | apply Kd.R_drewN | apply Kd.R_drew)); exact HO271.out)) k_ hn_)), Or.elim hk_ (fun hs_ => fun e_ => Nat.not_le.2 hs_ (by rw [e_]; exact GW263.out)) (fun hn_ => (Kd.freshB (g := gb263) (o := .cells #[.slice A0_0 l0_0.length c0_0, .int .u64 a0_1, .int .i64 a0_2, .int .u64 a0_3, .int .i64 a0_4] 40 (0, 0)) (by (with_reducible repeat (first | refine blk_drewN ?_ _ | refine blk_drew ?_ | refine blk_alloc ?_ _)); exact BK263.out) k_ hn_)), Or.elim hk_ (fun hs_ => fun e_ => Nat.not_le.2 hs_ (by rw [e_]; exact GW264.out)) (fun hn_ => (Kd.freshB (g := gb264) (o := .cells #[.int .u64 a0_1, .int .i64 a0_2] 27 (0, 0)) (by (with_reducible repeat (first | refine blk_drewN ?_ _ | refine blk_drew ?_ | refine blk_alloc ?_ _)); exact BK264.out) k_ hn_))⟩)) (below_size (by repeat (first | (with_reducible first | exact HB.out | apply below_alloc | apply pw_below_drewN | apply below_drew1 | refine below_set ?_ GE263.out | refine below_set ?_ GE264.out) | exact HB.out)))); have n3_ := Aside0.mk (blk_below (g := gb263) (o := .cells #[.slice A0_0 l0_0.length c0_0, .int .u64 a0_1, .int .i64 a0_2, .int .u64 a0_3, .int .i64 a0_4] 40 (0, 0)) (by (with_reducible repeat (first | refine blk_drewN ?_ _ | refine blk_drew ?_ | refine blk_alloc ?_ _)); exact BK263.out) hb); have n4_ := Aside0.mk (blk_below (g := gb264) (o := .cells #[.int .u64 a0_1, .int .i64 a0_2] 27 (0, 0)) (by (with_reducible repeat (first | refine blk_drewN ?_ _ | refine blk_drew ?_ | refine blk_alloc ?_ _)); exact BK264.out) hb); have n5_ := Aside0.mk (below_step (by repeat (first | (with_reducible first | exact HB.out | apply below_alloc | apply pw_below_drewN | apply below_drew1 | refine below_set ?_ GE263.out | refine below_set ?_ GE264.out) | exact HB.out)) hb); clear HO268; clear HO271; clear BK263; clear BK264; clear HB; have HO268 := n0_; have HO271 := n1_; have HO275 := n2_; have BK263 := n3_; have BK264 := n4_; have HB := n5_; clear n0_ n1_ n2_ n3_ n4_ n5_; (try clear hb); (try clear hb2); (try clear hk); (try clear hi); (try clear ho0)) | ((with_reducible refine gate_dst (N := 10) rfl ?_); (try (refine gate_guard (by rfl) ?_; dsimp only)); refine box_event ?hg (N := 10) ?hd (cs := #[.int .u64 0, .int .i64 0]) (t := 27) ?hr ?_; (case hd => rfl); (case hg => rfl); (case hr => first | (go_simp; done) | (go_simp; rfl)); intro gb279 hg w32 hbox hb; have n0_ := Aside0.mk (Kd.R_below (Kd.R_elderB (by (with_reducible repeat (first | apply Kd.R_alloc | apply Kd.R_drewN | apply Kd.R_drew)); exact HO268.out) gb279 (Nat.le_of_eq hg.symm)) hb); have n1_ := Aside0.mk (Kd.R_below (Kd.R_elderB (by (with_reducible repeat (first | apply Kd.R_alloc | apply Kd.R_drewN | apply Kd.R_drew)); exact HO271.out) gb279 (Nat.le_of_eq hg.symm)) hb); have n2_ := Aside0.mk (Kd.V_below (Kd.V_elderB (by (with_reducible repeat (first | apply Kd.V_alloc | apply Kd.V_drewN | apply Kd.V_drew)); exact HO275.out) gb279 (Nat.le_of_eq hg.symm)) hb); have n3_ := Aside0.mk (blk_below (g := gb263) (o := .cells #[.slice A0_0 l0_0.length c0_0, .int .u64 a0_1, .int .i64 a0_2, .int .u64 a0_3, .int .i64 a0_4] 40 (0, 0)) (by (with_reducible repeat (first | refine blk_drewN ?_ _ | refine blk_drew ?_ | refine blk_alloc ?_ _)); exact BK263.out) hb); have n4_ := Aside0.mk (blk_below (g := gb264) (o := .cells #[.int .u64 a0_1, .int .i64 a0_2] 27 (0, 0)) (by (with_reducible repeat (first | refine blk_drewN ?_ _ | refine blk_drew ?_ | refine blk_alloc ?_ _)); exact BK264.out) hb); have n5_ := Aside0.mk (below_step (by repeat (first | (with_reducible first | exact HB.out | apply below_alloc | apply pw_below_drewN | apply below_drew1 | refine below_set ?_ GE263.out | refine below_set ?_ GE264.out) | exact HB.out)) hb); have n6_ := Aside0.mk (hbox); have n7_ := Aside0.mk ((by rw [hg]; exact (below_size (by repeat (first | (with_reducible first | exact HB.out | apply below_alloc | apply pw_below_drewN | apply below_drew1 | refine below_set ?_ GE263.out | refine below_set ?_ GE264.out) | exact HB.out))) : w.heap.size ≤ gb279)); have n8_ := Aside0.mk ((by rw [hg]; exact (below_size (by repeat (first | (with_reducible first | exact HB.out | apply below_alloc | apply pw_below_drewN | apply below_drew1 | refine below_set ?_ GE263.out | refine below_set ?_ GE264.out) | exact HB.out))) : w.heap.size ≤ gb279)); have n9_ := Aside0.mk ((by rw [hg]; exact Nat.ne_of_lt (blk_lt (g := gb263) (o := .cells #[.slice A0_0 l0_0.length c0_0, .int .u64 a0_1, .int .i64 a0_2, .int .u64 a0_3, .int .i64 a0_4] 40 (0, 0)) (by (with_reducible repeat (first | refine blk_drewN ?_ _ | refine blk_drew ?_ | refine blk_alloc ?_ _)); exact BK263.out)) : gb263 ≠ gb279)); have n10_ := Aside0.mk ((by rw [hg]; exact Nat.ne_of_gt (blk_lt (g := gb263) (o := .cells #[.slice A0_0 l0_0.length c0_0, .int .u64 a0_1, .int .i64 a0_2, .int .u64 a0_3, .int .i64 a0_4] 40 (0, 0)) (by (with_reducible repeat (first | refine blk_drewN ?_ _ | refine blk_drew ?_ | refine blk_alloc ?_ _)); exact BK263.out)) : gb279 ≠ gb263)); have n11_ := Aside0.mk ((by rw [hg]; exact Nat.ne_of_lt (blk_lt (g := gb264) (o := .cells #[.int .u64 a0_1, .int .i64 a0_2] 27 (0, 0)) (by (with_reducible repeat (first | refine blk_drewN ?_ _ | refine blk_drew ?_ | refine blk_alloc ?_ _)); exact BK264.out)) : gb264 ≠ gb279)); have n12_ := Aside0.mk ((by rw [hg]; exact Nat.ne_of_gt (blk_lt (g := gb264) (o := .cells #[.int .u64 a0_1, .int .i64 a0_2] 27 (0, 0)) (by (with_reducible repeat (first | refine blk_drewN ?_ _ | refine blk_drew ?_ | refine blk_alloc ?_ _)); exact BK264.out)) : gb279 ≠ gb264)); clear HO268; clear HO271; clear HO275; clear BK263; clear BK264; clear HB; have HO268 := n0_; have HO271 := n1_; have HO275 := n2_; have BK263 := n3_; have BK264 := n4_; have HB := n5_; have BK279 := n6_; have GW279 := n7_; have GE279 := n8_; have NB263_279 := n9_; have NB279_263 := n10_; have NB264_279 := n11_; have NB279_264 := n12_; clear n0_ n1_ n2_ n3_ n4_ n5_ n6_ n7_ n8_ n9_ n10_ n11_ n12_; clear hb hbox hg; have hnb33 := NB279_263.out; have hnc33 := NB263_279.out; have hnb34 := NB279_264.out; have hnc34 := NB264_279.out; have hcz35_0 : w32.cell? ⟨gb279, 0, none⟩ = some (.int .u64 0) := (blk_cell BK279.out 0).trans rfl; have hcz35_1 : w32.cell? ⟨gb279, 1, none⟩ = some (.int .i64 0) := (blk_cell BK279.out 1).trans rfl; have hfz35_0 := blk_frozen BK279.out 0; have hfz35_1 := blk_frozen BK279.out 1) | ((with_reducible refine gate_store (t := 27) (p := 10) rfl ?_); refine store_event (t := 27) (p := 10) (v := ?vo_w36) (w1 := ((w32.setCell ⟨gb279, 0, none⟩ (.int .u64 t276)).setCell ⟨gb279, 1, none⟩ (.int .i64 t277))) ?hg ?ho ?hn ?hr ?_; (case ho => rfl); (case hg => rfl); (case hn => rfl); (case hr => first | (go_simp; done) | (go_simp; rfl)); intro w36 hw; have n0_ : Aside0 (Kd.R k27 27 w36 w.heap.size (fun k_ => some k_ ≠ (.slice Ao30 t269.length co30 : Value).ownBlock ∧ k_ ≠ gb264 ∧ k_ ≠ gb279) (.slice Ao29 t266.length co29) t266) := ⟨(by rw [hw]; exact (by (with_reducible repeat (first | apply Kd.R_alloc | apply Kd.R_drewN | apply Kd.R_drew)); exact Kd.R_mono (Kd.R_far (p := ⟨gb279, 1, none⟩) (Kd.R_far (p := ⟨gb279, 0, none⟩) (Kd.R_mono HO268.out (fun k_ hk => (⟨hk, hk.2⟩ : _ ∧ k_ ≠ gb279))) (fun _ hk => hk.2) (.int .u64 t276)) (fun _ hk => hk.2) (.int .i64 t277)) (fun _ hk => ⟨hk.1.1.2, ⟨hk.1.1.1.2, hk.1.2⟩⟩)))⟩; have n1_ : Aside0 (Kd.R k27 27 w36 w.heap.size (fun k_ => some k_ ≠ (.slice Ao29 t266.length co29 : Value).ownBlock ∧ k_ ≠ gb264 ∧ k_ ≠ gb279) (.slice Ao30 t269.length co30) t269) := ⟨(by rw [hw]; exact (by (with_reducible repeat (first | apply Kd.R_alloc | apply Kd.R_drewN | apply Kd.R_drew)); exact Kd.R_mono (Kd.R_far (p := ⟨gb279, 1, none⟩) (Kd.R_far (p := ⟨gb279, 0, none⟩) (Kd.R_mono HO271.out (fun k_ hk => (⟨hk, hk.2⟩ : _ ∧ k_ ≠ gb279))) (fun _ hk => hk.2) (.int .u64 t276)) (fun _ hk => hk.2) (.int .i64 t277)) (fun _ hk => ⟨hk.1.1.1.2, ⟨hk.1.1.2, hk.1.2⟩⟩)))⟩; have n2_ : Aside0 (Kd.V k27 27 w36 w.heap.size (fun k_ => some k_ ≠ (.slice Ao29 t266.length co29 : Value).ownBlock ∧ some k_ ≠ (.slice Ao30 t269.length co30 : Value).ownBlock ∧ k_ ≠ gb263 ∧ k_ ≠ gb264 ∧ k_ ≠ gb279) v274 t273) := ⟨(by rw [hw]; exact (by (with_reducible repeat (first | apply Kd.V_alloc | apply Kd.V_drewN | apply Kd.V_drew)); exact Kd.V_mono (Kd.V_far (p := ⟨gb279, 1, none⟩) (Kd.V_far (p := ⟨gb279, 0, none⟩) (Kd.V_mono HO275.out (fun k_ hk => (⟨hk, hk.2⟩ : _ ∧ k_ ≠ gb279))) (fun _ hk => hk.2) (.int .u64 t276)) (fun _ hk => hk.2) (.int .i64 t277)) (fun _ hk => ⟨hk.1.1.1, ⟨hk.1.1.2.1, ⟨hk.1.1.2.2.1, ⟨hk.1.1.2.2.2, hk.1.2⟩⟩⟩⟩)))⟩; have n3_ : Aside0 (w36.heap[gb263]? = some (.cells #[.slice A0_0 l0_0.length c0_0, .int .u64 a0_1, .int .i64 a0_2, .int .u64 a0_3, .int .i64 a0_4] 40 (0, 0))) := ⟨(by rw [hw]; exact (by (with_reducible repeat (first | refine blk_drewN ?_ _ | refine blk_drew ?_ | refine blk_alloc ?_ _)); refine blk_far ?_ NB263_279.out _; (with_reducible repeat (first | refine blk_drewN ?_ _ | refine blk_drew ?_ | refine blk_alloc ?_ _)); refine blk_far ?_ NB263_279.out _; (with_reducible repeat (first | refine blk_drewN ?_ _ | refine blk_drew ?_ | refine blk_alloc ?_ _)); exact BK263.out))⟩; have n4_ : Aside0 (w36.heap[gb264]? = some (.cells #[.int .u64 a0_1, .int .i64 a0_2] 27 (0, 0))) := ⟨(by rw [hw]; exact (by (with_reducible repeat (first | refine blk_drewN ?_ _ | refine blk_drew ?_ | refine blk_alloc ?_ _)); refine blk_far ?_ NB264_279.out _; (with_reducible repeat (first | refine blk_drewN ?_ _ | refine blk_drew ?_ | refine blk_alloc ?_ _)); refine blk_far ?_ NB264_279.out _; (with_reducible repeat (first | refine blk_drewN ?_ _ | refine blk_drew ?_ | refine blk_alloc ?_ _)); exact BK264.out))⟩; have n5_ : Aside0 (w36.heap[gb279]? = some (.cells #[.int .u64 t276, .int .i64 t277] 27 (0, 0))) := ⟨(by rw [hw]; exact (by (with_reducible repeat (first | refine blk_drewN ?_ _ | refine blk_drew ?_ | refine blk_alloc ?_ _)); refine blk_put (cs := #[.int .u64 t276, .int .i64 0]) ?_ 1 _ rfl; (with_reducible repeat (first | refine blk_drewN ?_ _ | refine blk_drew ?_ | refine blk_alloc ?_ _)); refine blk_put (cs := #[.int .u64 0, .int .i64 0]) ?_ 0 _ rfl; (with_reducible repeat (first | refine blk_drewN ?_ _ | refine blk_drew ?_ | refine blk_alloc ?_ _)); exact BK279.out))⟩; have n6_ : Aside0 (Below w.heap.size w w36) := ⟨(by rw [hw]; exact (by repeat (first | (with_reducible first | exact HB.out | apply below_alloc | apply pw_below_drewN | apply below_drew1 | refine below_set ?_ GE263.out | refine below_set ?_ GE264.out | refine below_set ?_ GE279.out) | exact HB.out)))⟩; clear hw; clear HO268; clear HO271; clear HO275; clear BK263; clear BK264; clear BK279; clear HB; have HO268 := n0_; have HO271 := n1_; have HO275 := n2_; have BK263 := n3_; have BK264 := n4_; have BK279 := n5_; have HB := n6_; clear n0_ n1_ n2_ n3_ n4_ n5_ n6_) | ((with_reducible refine gate_callee (f := 17) rfl ?_); refine goesL_ (some 50) rfl rfl Try.func17 (by kernel_rfl) rfl #[.slice A0_0 l0_0.length c0_0] rfl (by (try simp only [List.map_toArray, List.map_cons, List.map_nil]); first | done | rfl | (simp only [List.length_drop, List.length_take]; rfl)) ?_; (with_reducible refine (stanchionref15_Pop.calls k (fun k_ => k_ < w.heap.size) _ _ l0_0 t280 t283 t284 t285 _ ?side1 A15.out).mono ?_); (case side1 => exact Kd.V_mk HC0_0.out (Kd.F_below (Kd.C_F k27_heap HR0_0.out) (by repeat (first | (with_reducible first | exact HB.out | apply below_alloc | apply pw_below_drewN | apply below_drew1 | refine below_set ?_ GE263.out | refine below_set ?_ GE264.out | refine below_set ?_ GE279.out) | exact HB.out)))); rintro e w37 ⟨v281, rfl, ho0, hb⟩; refine ⟨_, rfl, ?_⟩; have n0_ := Aside0.mk (Kd.R_below (by (with_reducible repeat (first | apply Kd.R_alloc | apply Kd.R_drewN | apply Kd.R_drew)); exact HO268.out) hb); have n1_ := Aside0.mk (Kd.R_below (by (with_reducible repeat (first | apply Kd.R_alloc | apply Kd.R_drewN | apply Kd.R_drew)); exact HO271.out) hb); have n2_ := Aside0.mk (Kd.V_below (by (with_reducible repeat (first | apply Kd.V_alloc | apply Kd.V_drewN | apply Kd.V_drew)); exact HO275.out) hb); have n3_ := Aside0.mk (Kd.V_lower (Kd.V_mono (ok' := fun k_ => some k_ ≠ (.slice Ao29 t266.length co29 : Value).ownBlock ∧ some k_ ≠ (.slice Ao30 t269.length co30 : Value).ownBlock ∧ k_ ≠ gb263 ∧ k_ ≠ gb264 ∧ k_ ≠ gb279) ho0 (fun k_ hk_ => ⟨Or.elim hk_ (fun hs_ => fun e_ => Nat.not_le.2 hs_ (Kd.R_base HO268.out k_ e_.symm)) (fun hn_ => (Kd.fresh' (Kd.R_lt (by (with_reducible repeat (first | apply Kd.R_alloc | apply Kd.R_drewN | apply Kd.R_drew)); exact HO268.out)) k_ hn_)), Or.elim hk_ (fun hs_ => fun e_ => Nat.not_le.2 hs_ (Kd.R_base HO271.out k_ e_.symm)) (fun hn_ => (Kd.fresh' (Kd.R_lt (by (with_reducible repeat (first | apply Kd.R_alloc | apply Kd.R_drewN | apply Kd.R_drew)); exact HO271.out)) k_ hn_)), Or.elim hk_ (fun hs_ => fun e_ => Nat.not_le.2 hs_ (by rw [e_]; exact GW263.out)) (fun hn_ => (Kd.freshB (g := gb263) (o := .cells #[.slice A0_0 l0_0.length c0_0, .int .u64 a0_1, .int .i64 a0_2, .int .u64 a0_3, .int .i64 a0_4] 40 (0, 0)) (by (with_reducible repeat (first | refine blk_drewN ?_ _ | refine blk_drew ?_ | refine blk_alloc ?_ _)); exact BK263.out) k_ hn_)), Or.elim hk_ (fun hs_ => fun e_ => Nat.not_le.2 hs_ (by rw [e_]; exact GW264.out)) (fun hn_ => (Kd.freshB (g := gb264) (o := .cells #[.int .u64 a0_1, .int .i64 a0_2] 27 (0, 0)) (by (with_reducible repeat (first | refine blk_drewN ?_ _ | refine blk_drew ?_ | refine blk_alloc ?_ _)); exact BK264.out) k_ hn_)), Or.elim hk_ (fun hs_ => fun e_ => Nat.not_le.2 hs_ (by rw [e_]; exact GW279.out)) (fun hn_ => (Kd.freshB (g := gb279) (o := .cells #[.int .u64 t276, .int .i64 t277] 27 (0, 0)) (by (with_reducible repeat (first | refine blk_drewN ?_ _ | refine blk_drew ?_ | refine blk_alloc ?_ _)); exact BK279.out) k_ hn_))⟩)) (below_size (by repeat (first | (with_reducible first | exact HB.out | apply below_alloc | apply pw_below_drewN | apply below_drew1 | refine below_set ?_ GE263.out | refine below_set ?_ GE264.out | refine below_set ?_ GE279.out) | exact HB.out)))); have n4_ := Aside0.mk (blk_below (g := gb263) (o := .cells #[.slice A0_0 l0_0.length c0_0, .int .u64 a0_1, .int .i64 a0_2, .int .u64 a0_3, .int .i64 a0_4] 40 (0, 0)) (by (with_reducible repeat (first | refine blk_drewN ?_ _ | refine blk_drew ?_ | refine blk_alloc ?_ _)); exact BK263.out) hb); have n5_ := Aside0.mk (blk_below (g := gb264) (o := .cells #[.int .u64 a0_1, .int .i64 a0_2] 27 (0, 0)) (by (with_reducible repeat (first | refine blk_drewN ?_ _ | refine blk_drew ?_ | refine blk_alloc ?_ _)); exact BK264.out) hb); have n6_ := Aside0.mk (blk_below (g := gb279) (o := .cells #[.int .u64 t276, .int .i64 t277] 27 (0, 0)) (by (with_reducible repeat (first | refine blk_drewN ?_ _ | refine blk_drew ?_ | refine blk_alloc ?_ _)); exact BK279.out) hb); have n7_ := Aside0.mk (below_step (by repeat (first | (with_reducible first | exact HB.out | apply below_alloc | apply pw_below_drewN | apply below_drew1 | refine below_set ?_ GE263.out | refine below_set ?_ GE264.out | refine below_set ?_ GE279.out) | exact HB.out)) hb); clear HO268; clear HO271; clear HO275; clear BK263; clear BK264; clear BK279; clear HB; have HO268 := n0_; have HO271 := n1_; have HO275 := n2_; have HO282 := n3_; have BK263 := n4_; have BK264 := n5_; have BK279 := n6_; have HB := n7_; clear n0_ n1_ n2_ n3_ n4_ n5_ n6_ n7_; (try clear hb); (try clear hb2); (try clear hk); (try clear hi); (try clear ho0)) | ((with_reducible refine gate_dst (N := 13) rfl ?_); (try (refine gate_guard (by rfl) ?_; dsimp only)); refine box_event ?hg (N := 13) ?hd (cs := #[.int .u64 0, .int .i64 0]) (t := 27) ?hr ?_; (case hd => rfl); (case hg => rfl); (case hr => first | (go_simp; done) | (go_simp; rfl)); intro gb286 hg w38 hbox hb; have n0_ := Aside0.mk (Kd.R_below (Kd.R_elderB (by (with_reducible repeat (first | apply Kd.R_alloc | apply Kd.R_drewN | apply Kd.R_drew)); exact HO268.out) gb286 (Nat.le_of_eq hg.symm)) hb); have n1_ := Aside0.mk (Kd.R_below (Kd.R_elderB (by (with_reducible repeat (first | apply Kd.R_alloc | apply Kd.R_drewN | apply Kd.R_drew)); exact HO271.out) gb286 (Nat.le_of_eq hg.symm)) hb); have n2_ := Aside0.mk (Kd.V_below (Kd.V_elderB (by (with_reducible repeat (first | apply Kd.V_alloc | apply Kd.V_drewN | apply Kd.V_drew)); exact HO275.out) gb286 (Nat.le_of_eq hg.symm)) hb); have n3_ := Aside0.mk (Kd.V_below (Kd.V_elderB (by (with_reducible repeat (first | apply Kd.V_alloc | apply Kd.V_drewN | apply Kd.V_drew)); exact HO282.out) gb286 (Nat.le_of_eq hg.symm)) hb); have n4_ := Aside0.mk (blk_below (g := gb263) (o := .cells #[.slice A0_0 l0_0.length c0_0, .int .u64 a0_1, .int .i64 a0_2, .int .u64 a0_3, .int .i64 a0_4] 40 (0, 0)) (by (with_reducible repeat (first | refine blk_drewN ?_ _ | refine blk_drew ?_ | refine blk_alloc ?_ _)); exact BK263.out) hb); have n5_ := Aside0.mk (blk_below (g := gb264) (o := .cells #[.int .u64 a0_1, .int .i64 a0_2] 27 (0, 0)) (by (with_reducible repeat (first | refine blk_drewN ?_ _ | refine blk_drew ?_ | refine blk_alloc ?_ _)); exact BK264.out) hb); have n6_ := Aside0.mk (blk_below (g := gb279) (o := .cells #[.int .u64 t276, .int .i64 t277] 27 (0, 0)) (by (with_reducible repeat (first | refine blk_drewN ?_ _ | refine blk_drew ?_ | refine blk_alloc ?_ _)); exact BK279.out) hb); have n7_ := Aside0.mk (below_step (by repeat (first | (with_reducible first | exact HB.out | apply below_alloc | apply pw_below_drewN | apply below_drew1 | refine below_set ?_ GE263.out | refine below_set ?_ GE264.out | refine below_set ?_ GE279.out) | exact HB.out)) hb); have n8_ := Aside0.mk (hbox); have n9_ := Aside0.mk ((by rw [hg]; exact (below_size (by repeat (first | (with_reducible first | exact HB.out | apply below_alloc | apply pw_below_drewN | apply below_drew1 | refine below_set ?_ GE263.out | refine below_set ?_ GE264.out | refine below_set ?_ GE279.out) | exact HB.out))) : w.heap.size ≤ gb286)); have n10_ := Aside0.mk ((by rw [hg]; exact (below_size (by repeat (first | (with_reducible first | exact HB.out | apply below_alloc | apply pw_below_drewN | apply below_drew1 | refine below_set ?_ GE263.out | refine below_set ?_ GE264.out | refine below_set ?_ GE279.out) | exact HB.out))) : w.heap.size ≤ gb286)); have n11_ := Aside0.mk ((by rw [hg]; exact Nat.ne_of_lt (blk_lt (g := gb263) (o := .cells #[.slice A0_0 l0_0.length c0_0, .int .u64 a0_1, .int .i64 a0_2, .int .u64 a0_3, .int .i64 a0_4] 40 (0, 0)) (by (with_reducible repeat (first | refine blk_drewN ?_ _ | refine blk_drew ?_ | refine blk_alloc ?_ _)); exact BK263.out)) : gb263 ≠ gb286)); have n12_ := Aside0.mk ((by rw [hg]; exact Nat.ne_of_gt (blk_lt (g := gb263) (o := .cells #[.slice A0_0 l0_0.length c0_0, .int .u64 a0_1, .int .i64 a0_2, .int .u64 a0_3, .int .i64 a0_4] 40 (0, 0)) (by (with_reducible repeat (first | refine blk_drewN ?_ _ | refine blk_drew ?_ | refine blk_alloc ?_ _)); exact BK263.out)) : gb286 ≠ gb263)); have n13_ := Aside0.mk ((by rw [hg]; exact Nat.ne_of_lt (blk_lt (g := gb264) (o := .cells #[.int .u64 a0_1, .int .i64 a0_2] 27 (0, 0)) (by (with_reducible repeat (first | refine blk_drewN ?_ _ | refine blk_drew ?_ | refine blk_alloc ?_ _)); exact BK264.out)) : gb264 ≠ gb286)); have n14_ := Aside0.mk ((by rw [hg]; exact Nat.ne_of_gt (blk_lt (g := gb264) (o := .cells #[.int .u64 a0_1, .int .i64 a0_2] 27 (0, 0)) (by (with_reducible repeat (first | refine blk_drewN ?_ _ | refine blk_drew ?_ | refine blk_alloc ?_ _)); exact BK264.out)) : gb286 ≠ gb264)); have n15_ := Aside0.mk ((by rw [hg]; exact Nat.ne_of_lt (blk_lt (g := gb279) (o := .cells #[.int .u64 t276, .int .i64 t277] 27 (0, 0)) (by (with_reducible repeat (first | refine blk_drewN ?_ _ | refine blk_drew ?_ | refine blk_alloc ?_ _)); exact BK279.out)) : gb279 ≠ gb286)); have n16_ := Aside0.mk ((by rw [hg]; exact Nat.ne_of_gt (blk_lt (g := gb279) (o := .cells #[.int .u64 t276, .int .i64 t277] 27 (0, 0)) (by (with_reducible repeat (first | refine blk_drewN ?_ _ | refine blk_drew ?_ | refine blk_alloc ?_ _)); exact BK279.out)) : gb286 ≠ gb279)); clear HO268; clear HO271; clear HO275; clear HO282; clear BK263; clear BK264; clear BK279; clear HB; have HO268 := n0_; have HO271 := n1_; have HO275 := n2_; have HO282 := n3_; have BK263 := n4_; have BK264 := n5_; have BK279 := n6_; have HB := n7_; have BK286 := n8_; have GW286 := n9_; have GE286 := n10_; have NB263_286 := n11_; have NB286_263 := n12_; have NB264_286 := n13_; have NB286_264 := n14_; have NB279_286 := n15_; have NB286_279 := n16_; clear n0_ n1_ n2_ n3_ n4_ n5_ n6_ n7_ n8_ n9_ n10_ n11_ n12_ n13_ n14_ n15_ n16_; clear hb hbox hg; have hnb39 := NB286_263.out; have hnc39 := NB263_286.out; have hnb40 := NB286_264.out; have hnc40 := NB264_286.out; have hnb41 := NB286_279.out; have hnc41 := NB279_286.out; have hcz42_0 : w38.cell? ⟨gb286, 0, none⟩ = some (.int .u64 0) := (blk_cell BK286.out 0).trans rfl; have hcz42_1 : w38.cell? ⟨gb286, 1, none⟩ = some (.int .i64 0) := (blk_cell BK286.out 1).trans rfl; have hfz42_0 := blk_frozen BK286.out 0; have hfz42_1 := blk_frozen BK286.out 1) | ((with_reducible refine gate_store (t := 27) (p := 13) rfl ?_); refine store_event (t := 27) (p := 13) (v := ?vo_w43) (w1 := ((w38.setCell ⟨gb286, 0, none⟩ (.int .u64 t283)).setCell ⟨gb286, 1, none⟩ (.int .i64 t284))) ?hg ?ho ?hn ?hr ?_; (case ho => rfl); (case hg => rfl); (case hn => rfl); (case hr => first | (go_simp; done) | (go_simp; rfl)); intro w43 hw; have n0_ : Aside0 (Kd.R k27 27 w43 w.heap.size (fun k_ => some k_ ≠ (.slice Ao30 t269.length co30 : Value).ownBlock ∧ k_ ≠ gb264 ∧ k_ ≠ gb279 ∧ k_ ≠ gb286) (.slice Ao29 t266.length co29) t266) := ⟨(by rw [hw]; exact (by (with_reducible repeat (first | apply Kd.R_alloc | apply Kd.R_drewN | apply Kd.R_drew)); exact Kd.R_mono (Kd.R_far (p := ⟨gb286, 1, none⟩) (Kd.R_far (p := ⟨gb286, 0, none⟩) (Kd.R_mono HO268.out (fun k_ hk => (⟨hk, hk.2⟩ : _ ∧ k_ ≠ gb286))) (fun _ hk => hk.2) (.int .u64 t283)) (fun _ hk => hk.2) (.int .i64 t284)) (fun _ hk => ⟨hk.1.1.1, ⟨hk.1.1.2.1, ⟨hk.1.1.2.2, hk.1.2⟩⟩⟩)))⟩; have n1_ : Aside0 (Kd.R k27 27 w43 w.heap.size (fun k_ => some k_ ≠ (.slice Ao29 t266.length co29 : Value).ownBlock ∧ k_ ≠ gb264 ∧ k_ ≠ gb279 ∧ k_ ≠ gb286) (.slice Ao30 t269.length co30) t269) := ⟨(by rw [hw]; exact (by (with_reducible repeat (first | apply Kd.R_alloc | apply Kd.R_drewN | apply Kd.R_drew)); exact Kd.R_mono (Kd.R_far (p := ⟨gb286, 1, none⟩) (Kd.R_far (p := ⟨gb286, 0, none⟩) (Kd.R_mono HO271.out (fun k_ hk => (⟨hk, hk.2⟩ : _ ∧ k_ ≠ gb286))) (fun _ hk => hk.2) (.int .u64 t283)) (fun _ hk => hk.2) (.int .i64 t284)) (fun _ hk => ⟨hk.1.1.1, ⟨hk.1.1.2.1, ⟨hk.1.1.2.2, hk.1.2⟩⟩⟩)))⟩; have n2_ : Aside0 (Kd.V k27 27 w43 w.heap.size (fun k_ => some k_ ≠ (.slice Ao29 t266.length co29 : Value).ownBlock ∧ some k_ ≠ (.slice Ao30 t269.length co30 : Value).ownBlock ∧ k_ ≠ gb263 ∧ k_ ≠ gb264 ∧ k_ ≠ gb279 ∧ k_ ≠ gb286) v274 t273) := ⟨(by rw [hw]; exact (by (with_reducible repeat (first | apply Kd.V_alloc | apply Kd.V_drewN | apply Kd.V_drew)); exact Kd.V_mono (Kd.V_far (p := ⟨gb286, 1, none⟩) (Kd.V_far (p := ⟨gb286, 0, none⟩) (Kd.V_mono HO275.out (fun k_ hk => (⟨hk, hk.2⟩ : _ ∧ k_ ≠ gb286))) (fun _ hk => hk.2) (.int .u64 t283)) (fun _ hk => hk.2) (.int .i64 t284)) (fun _ hk => ⟨hk.1.1.1, ⟨hk.1.1.2.1, ⟨hk.1.1.2.2.1, ⟨hk.1.1.2.2.2.1, ⟨hk.1.1.2.2.2.2, hk.1.2⟩⟩⟩⟩⟩)))⟩; have n3_ : Aside0 (Kd.V k27 27 w43 w.heap.size (fun k_ => some k_ ≠ (.slice Ao29 t266.length co29 : Value).ownBlock ∧ some k_ ≠ (.slice Ao30 t269.length co30 : Value).ownBlock ∧ k_ ≠ gb263 ∧ k_ ≠ gb264 ∧ k_ ≠ gb279 ∧ k_ ≠ gb286) v281 t280) := ⟨(by rw [hw]; exact (by (with_reducible repeat (first | apply Kd.V_alloc | apply Kd.V_drewN | apply Kd.V_drew)); exact Kd.V_mono (Kd.V_far (p := ⟨gb286, 1, none⟩) (Kd.V_far (p := ⟨gb286, 0, none⟩) (Kd.V_mono HO282.out (fun k_ hk => (⟨hk, hk.2⟩ : _ ∧ k_ ≠ gb286))) (fun _ hk => hk.2) (.int .u64 t283)) (fun _ hk => hk.2) (.int .i64 t284)) (fun _ hk => ⟨hk.1.1.1, ⟨hk.1.1.2.1, ⟨hk.1.1.2.2.1, ⟨hk.1.1.2.2.2.1, ⟨hk.1.1.2.2.2.2, hk.1.2⟩⟩⟩⟩⟩)))⟩; have n4_ : Aside0 (w43.heap[gb263]? = some (.cells #[.slice A0_0 l0_0.length c0_0, .int .u64 a0_1, .int .i64 a0_2, .int .u64 a0_3, .int .i64 a0_4] 40 (0, 0))) := ⟨(by rw [hw]; exact (by (with_reducible repeat (first | refine blk_drewN ?_ _ | refine blk_drew ?_ | refine blk_alloc ?_ _)); refine blk_far ?_ NB263_286.out _; (with_reducible repeat (first | refine blk_drewN ?_ _ | refine blk_drew ?_ | refine blk_alloc ?_ _)); refine blk_far ?_ NB263_286.out _; (with_reducible repeat (first | refine blk_drewN ?_ _ | refine blk_drew ?_ | refine blk_alloc ?_ _)); exact BK263.out))⟩; have n5_ : Aside0 (w43.heap[gb264]? = some (.cells #[.int .u64 a0_1, .int .i64 a0_2] 27 (0, 0))) := ⟨(by rw [hw]; exact (by (with_reducible repeat (first | refine blk_drewN ?_ _ | refine blk_drew ?_ | refine blk_alloc ?_ _)); refine blk_far ?_ NB264_286.out _; (with_reducible repeat (first | refine blk_drewN ?_ _ | refine blk_drew ?_ | refine blk_alloc ?_ _)); refine blk_far ?_ NB264_286.out _; (with_reducible repeat (first | refine blk_drewN ?_ _ | refine blk_drew ?_ | refine blk_alloc ?_ _)); exact BK264.out))⟩; have n6_ : Aside0 (w43.heap[gb279]? = some (.cells #[.int .u64 t276, .int .i64 t277] 27 (0, 0))) := ⟨(by rw [hw]; exact (by (with_reducible repeat (first | refine blk_drewN ?_ _ | refine blk_drew ?_ | refine blk_alloc ?_ _)); refine blk_far ?_ NB279_286.out _; (with_reducible repeat (first | refine blk_drewN ?_ _ | refine blk_drew ?_ | refine blk_alloc ?_ _)); refine blk_far ?_ NB279_286.out _; (with_reducible repeat (first | refine blk_drewN ?_ _ | refine blk_drew ?_ | refine blk_alloc ?_ _)); exact BK279.out))⟩; have n7_ : Aside0 (w43.heap[gb286]? = some (.cells #[.int .u64 t283, .int .i64 t284] 27 (0, 0))) := ⟨(by rw [hw]; exact (by (with_reducible repeat (first | refine blk_drewN ?_ _ | refine blk_drew ?_ | refine blk_alloc ?_ _)); refine blk_put (cs := #[.int .u64 t283, .int .i64 0]) ?_ 1 _ rfl; (with_reducible repeat (first | refine blk_drewN ?_ _ | refine blk_drew ?_ | refine blk_alloc ?_ _)); refine blk_put (cs := #[.int .u64 0, .int .i64 0]) ?_ 0 _ rfl; (with_reducible repeat (first | refine blk_drewN ?_ _ | refine blk_drew ?_ | refine blk_alloc ?_ _)); exact BK286.out))⟩; have n8_ : Aside0 (Below w.heap.size w w43) := ⟨(by rw [hw]; exact (by repeat (first | (with_reducible first | exact HB.out | apply below_alloc | apply pw_below_drewN | apply below_drew1 | refine below_set ?_ GE263.out | refine below_set ?_ GE264.out | refine below_set ?_ GE279.out | refine below_set ?_ GE286.out) | exact HB.out)))⟩; clear hw; clear HO268; clear HO271; clear HO275; clear HO282; clear BK263; clear BK264; clear BK279; clear BK286; clear HB; have HO268 := n0_; have HO271 := n1_; have HO275 := n2_; have HO282 := n3_; have BK263 := n4_; have BK264 := n5_; have BK279 := n6_; have BK286 := n7_; have HB := n8_; clear n0_ n1_ n2_ n3_ n4_ n5_ n6_ n7_ n8_) | ((with_reducible refine gate_callee (f := 13) rfl ?_); refine goesL_ (some 57) rfl rfl Try.func13 (by kernel_rfl) rfl #[.slice A0_0 l0_0.length c0_0, .int .u64 a0_3] rfl (by (try simp only [List.map_toArray, List.map_cons, List.map_nil]); first | done | rfl | (simp only [List.length_drop, List.length_take]; rfl)) ?_; (with_reducible refine (alarm_Due.calls k (fun k_ => k_ < w.heap.size) _ _ l0_0 a0_3 t287 t290 _ ?side1 A16.out).mono ?_); (case side1 => exact Kd.V_mk HC0_0.out (Kd.F_below (Kd.C_F k27_heap HR0_0.out) (by repeat (first | (with_reducible first | exact HB.out | apply below_alloc | apply pw_below_drewN | apply below_drew1 | refine below_set ?_ GE263.out | refine below_set ?_ GE264.out | refine below_set ?_ GE279.out | refine below_set ?_ GE286.out) | exact HB.out)))); rintro e w44 ⟨v288, v291, rfl, ho0, ho1, hb⟩; refine ⟨_, rfl, ?_⟩; have n0_ := Aside0.mk (Kd.R_below (by (with_reducible repeat (first | apply Kd.R_alloc | apply Kd.R_drewN | apply Kd.R_drew)); exact HO268.out) hb); have n1_ := Aside0.mk (Kd.R_below (by (with_reducible repeat (first | apply Kd.R_alloc | apply Kd.R_drewN | apply Kd.R_drew)); exact HO271.out) hb); have n2_ := Aside0.mk (Kd.V_elder' (by (with_reducible repeat (first | apply Kd.V_alloc | apply Kd.V_drewN | apply Kd.V_drew)); exact HO275.out) (Kd.R_base ho1) hb); have n3_ := Aside0.mk (Kd.V_elder' (by (with_reducible repeat (first | apply Kd.V_alloc | apply Kd.V_drewN | apply Kd.V_drew)); exact HO282.out) (Kd.R_base ho1) hb); have n4_ := Aside0.mk (Kd.V_lower (Kd.V_mono (ok' := fun k_ => some k_ ≠ (v291 : Value).ownBlock ∧ some k_ ≠ (.slice Ao29 t266.length co29 : Value).ownBlock ∧ some k_ ≠ (.slice Ao30 t269.length co30 : Value).ownBlock ∧ k_ ≠ gb263 ∧ k_ ≠ gb264 ∧ k_ ≠ gb279 ∧ k_ ≠ gb286) ho0 (fun k_ hk_ => ⟨hk_.2, Or.elim hk_.1 (fun hs_ => fun e_ => Nat.not_le.2 hs_ (Kd.R_base HO268.out k_ e_.symm)) (fun hn_ => (Kd.fresh' (Kd.R_lt (by (with_reducible repeat (first | apply Kd.R_alloc | apply Kd.R_drewN | apply Kd.R_drew)); exact HO268.out)) k_ hn_)), Or.elim hk_.1 (fun hs_ => fun e_ => Nat.not_le.2 hs_ (Kd.R_base HO271.out k_ e_.symm)) (fun hn_ => (Kd.fresh' (Kd.R_lt (by (with_reducible repeat (first | apply Kd.R_alloc | apply Kd.R_drewN | apply Kd.R_drew)); exact HO271.out)) k_ hn_)), Or.elim hk_.1 (fun hs_ => fun e_ => Nat.not_le.2 hs_ (by rw [e_]; exact GW263.out)) (fun hn_ => (Kd.freshB (g := gb263) (o := .cells #[.slice A0_0 l0_0.length c0_0, .int .u64 a0_1, .int .i64 a0_2, .int .u64 a0_3, .int .i64 a0_4] 40 (0, 0)) (by (with_reducible repeat (first | refine blk_drewN ?_ _ | refine blk_drew ?_ | refine blk_alloc ?_ _)); exact BK263.out) k_ hn_)), Or.elim hk_.1 (fun hs_ => fun e_ => Nat.not_le.2 hs_ (by rw [e_]; exact GW264.out)) (fun hn_ => (Kd.freshB (g := gb264) (o := .cells #[.int .u64 a0_1, .int .i64 a0_2] 27 (0, 0)) (by (with_reducible repeat (first | refine blk_drewN ?_ _ | refine blk_drew ?_ | refine blk_alloc ?_ _)); exact BK264.out) k_ hn_)), Or.elim hk_.1 (fun hs_ => fun e_ => Nat.not_le.2 hs_ (by rw [e_]; exact GW279.out)) (fun hn_ => (Kd.freshB (g := gb279) (o := .cells #[.int .u64 t276, .int .i64 t277] 27 (0, 0)) (by (with_reducible repeat (first | refine blk_drewN ?_ _ | refine blk_drew ?_ | refine blk_alloc ?_ _)); exact BK279.out) k_ hn_)), Or.elim hk_.1 (fun hs_ => fun e_ => Nat.not_le.2 hs_ (by rw [e_]; exact GW286.out)) (fun hn_ => (Kd.freshB (g := gb286) (o := .cells #[.int .u64 t283, .int .i64 t284] 27 (0, 0)) (by (with_reducible repeat (first | refine blk_drewN ?_ _ | refine blk_drew ?_ | refine blk_alloc ?_ _)); exact BK286.out) k_ hn_))⟩)) (below_size (by repeat (first | (with_reducible first | exact HB.out | apply below_alloc | apply pw_below_drewN | apply below_drew1 | refine below_set ?_ GE263.out | refine below_set ?_ GE264.out | refine below_set ?_ GE279.out | refine below_set ?_ GE286.out) | exact HB.out)))); have n5_ := Aside0.mk (Kd.R_lower (Kd.R_mono (ok' := fun k_ => True) ho1 (fun _ hk_ => trivial)) (below_size (by repeat (first | (with_reducible first | exact HB.out | apply below_alloc | apply pw_below_drewN | apply below_drew1 | refine below_set ?_ GE263.out | refine below_set ?_ GE264.out | refine below_set ?_ GE279.out | refine below_set ?_ GE286.out) | exact HB.out)))); have n6_ := Aside0.mk (blk_below (g := gb263) (o := .cells #[.slice A0_0 l0_0.length c0_0, .int .u64 a0_1, .int .i64 a0_2, .int .u64 a0_3, .int .i64 a0_4] 40 (0, 0)) (by (with_reducible repeat (first | refine blk_drewN ?_ _ | refine blk_drew ?_ | refine blk_alloc ?_ _)); exact BK263.out) hb); have n7_ := Aside0.mk (blk_below (g := gb264) (o := .cells #[.int .u64 a0_1, .int .i64 a0_2] 27 (0, 0)) (by (with_reducible repeat (first | refine blk_drewN ?_ _ | refine blk_drew ?_ | refine blk_alloc ?_ _)); exact BK264.out) hb); have n8_ := Aside0.mk (blk_below (g := gb279) (o := .cells #[.int .u64 t276, .int .i64 t277] 27 (0, 0)) (by (with_reducible repeat (first | refine blk_drewN ?_ _ | refine blk_drew ?_ | refine blk_alloc ?_ _)); exact BK279.out) hb); have n9_ := Aside0.mk (blk_below (g := gb286) (o := .cells #[.int .u64 t283, .int .i64 t284] 27 (0, 0)) (by (with_reducible repeat (first | refine blk_drewN ?_ _ | refine blk_drew ?_ | refine blk_alloc ?_ _)); exact BK286.out) hb); have n10_ := Aside0.mk (below_step (by repeat (first | (with_reducible first | exact HB.out | apply below_alloc | apply pw_below_drewN | apply below_drew1 | refine below_set ?_ GE263.out | refine below_set ?_ GE264.out | refine below_set ?_ GE279.out | refine below_set ?_ GE286.out) | exact HB.out)) hb); clear HO268; clear HO271; clear HO275; clear HO282; clear BK263; clear BK264; clear BK279; clear BK286; clear HB; have HO268 := n0_; have HO271 := n1_; have HO275 := n2_; have HO282 := n3_; have HO289 := n4_; have HO292 := n5_; have BK263 := n6_; have BK264 := n7_; have BK279 := n8_; have BK286 := n9_; have HB := n10_; clear n0_ n1_ n2_ n3_ n4_ n5_ n6_ n7_ n8_ n9_ n10_; (try clear hb); (try clear hb2); (try clear hk); (try clear hi); (try clear ho0); (try clear ho1)) | ((with_reducible refine gate_callee (f := 18) rfl ?_); refine goesL_ (some 63) rfl rfl Try.func18 (by kernel_rfl) rfl #[.slice A0_0 l0_0.length c0_0, .int .u64 a0_3] rfl (by (try simp only [List.map_toArray, List.map_cons, List.map_nil]); first | done | rfl | (simp only [List.length_drop, List.length_take]; rfl)) ?_; (with_reducible refine (stanchionref15_Due.calls k (fun k_ => k_ < w.heap.size) _ _ l0_0 a0_3 t293 t296 _ ?side1 A17.out).mono ?_); (case side1 => exact Kd.V_mk HC0_0.out (Kd.F_below (Kd.C_F k27_heap HR0_0.out) (by repeat (first | (with_reducible first | exact HB.out | apply below_alloc | apply pw_below_drewN | apply below_drew1 | refine below_set ?_ GE263.out | refine below_set ?_ GE264.out | refine below_set ?_ GE279.out | refine below_set ?_ GE286.out) | exact HB.out)))); rintro e w45 ⟨v294, v297, rfl, ho0, ho1, hb⟩; refine ⟨_, rfl, ?_⟩; have n0_ := Aside0.mk (Kd.R_below (by (with_reducible repeat (first | apply Kd.R_alloc | apply Kd.R_drewN | apply Kd.R_drew)); exact HO268.out) hb); have n1_ := Aside0.mk (Kd.R_below (by (with_reducible repeat (first | apply Kd.R_alloc | apply Kd.R_drewN | apply Kd.R_drew)); exact HO271.out) hb); have n2_ := Aside0.mk (Kd.V_elder' (by (with_reducible repeat (first | apply Kd.V_alloc | apply Kd.V_drewN | apply Kd.V_drew)); exact HO275.out) (Kd.R_base ho1) hb); have n3_ := Aside0.mk (Kd.V_elder' (by (with_reducible repeat (first | apply Kd.V_alloc | apply Kd.V_drewN | apply Kd.V_drew)); exact HO282.out) (Kd.R_base ho1) hb); have n4_ := Aside0.mk (Kd.V_elder' (by (with_reducible repeat (first | apply Kd.V_alloc | apply Kd.V_drewN | apply Kd.V_drew)); exact HO289.out) (Kd.R_base ho1) hb); have n5_ := Aside0.mk (Kd.R_elder' (by (with_reducible repeat (first | apply Kd.R_alloc | apply Kd.R_drewN | apply Kd.R_drew)); exact HO292.out) (Kd.R_base ho1) hb); have n6_ := Aside0.mk (Kd.V_lower (Kd.V_mono (ok' := fun k_ => some k_ ≠ (v297 : Value).ownBlock ∧ some k_ ≠ (.slice Ao29 t266.length co29 : Value).ownBlock ∧ some k_ ≠ (.slice Ao30 t269.length co30 : Value).ownBlock ∧ some k_ ≠ (v291 : Value).ownBlock ∧ k_ ≠ gb263 ∧ k_ ≠ gb264 ∧ k_ ≠ gb279 ∧ k_ ≠ gb286) ho0 (fun k_ hk_ => ⟨hk_.2, Or.elim hk_.1 (fun hs_ => fun e_ => Nat.not_le.2 hs_ (Kd.R_base HO268.out k_ e_.symm)) (fun hn_ => (Kd.fresh' (Kd.R_lt (by (with_reducible repeat (first | apply Kd.R_alloc | apply Kd.R_drewN | apply Kd.R_drew)); exact HO268.out)) k_ hn_)), Or.elim hk_.1 (fun hs_ => fun e_ => Nat.not_le.2 hs_ (Kd.R_base HO271.out k_ e_.symm)) (fun hn_ => (Kd.fresh' (Kd.R_lt (by (with_reducible repeat (first | apply Kd.R_alloc | apply Kd.R_drewN | apply Kd.R_drew)); exact HO271.out)) k_ hn_)), Or.elim hk_.1 (fun hs_ => fun e_ => Nat.not_le.2 hs_ (Kd.R_base HO292.out k_ e_.symm)) (fun hn_ => (Kd.fresh' (Kd.R_lt (by (with_reducible repeat (first | apply Kd.R_alloc | apply Kd.R_drewN | apply Kd.R_drew)); exact HO292.out)) k_ hn_)), Or.elim hk_.1 (fun hs_ => fun e_ => Nat.not_le.2 hs_ (by rw [e_]; exact GW263.out)) (fun hn_ => (Kd.freshB (g := gb263) (o := .cells #[.slice A0_0 l0_0.length c0_0, .int .u64 a0_1, .int .i64 a0_2, .int .u64 a0_3, .int .i64 a0_4] 40 (0, 0)) (by (with_reducible repeat (first | refine blk_drewN ?_ _ | refine blk_drew ?_ | refine blk_alloc ?_ _)); exact BK263.out) k_ hn_)), Or.elim hk_.1 (fun hs_ => fun e_ => Nat.not_le.2 hs_ (by rw [e_]; exact GW264.out)) (fun hn_ => (Kd.freshB (g := gb264) (o := .cells #[.int .u64 a0_1, .int .i64 a0_2] 27 (0, 0)) (by (with_reducible repeat (first | refine blk_drewN ?_ _ | refine blk_drew ?_ | refine blk_alloc ?_ _)); exact BK264.out) k_ hn_)), Or.elim hk_.1 (fun hs_ => fun e_ => Nat.not_le.2 hs_ (by rw [e_]; exact GW279.out)) (fun hn_ => (Kd.freshB (g := gb279) (o := .cells #[.int .u64 t276, .int .i64 t277] 27 (0, 0)) (by (with_reducible repeat (first | refine blk_drewN ?_ _ | refine blk_drew ?_ | refine blk_alloc ?_ _)); exact BK279.out) k_ hn_)), Or.elim hk_.1 (fun hs_ => fun e_ => Nat.not_le.2 hs_ (by rw [e_]; exact GW286.out)) (fun hn_ => (Kd.freshB (g := gb286) (o := .cells #[.int .u64 t283, .int .i64 t284] 27 (0, 0)) (by (with_reducible repeat (first | refine blk_drewN ?_ _ | refine blk_drew ?_ | refine blk_alloc ?_ _)); exact BK286.out) k_ hn_))⟩)) (below_size (by repeat (first | (with_reducible first | exact HB.out | apply below_alloc | apply pw_below_drewN | apply below_drew1 | refine below_set ?_ GE263.out | refine below_set ?_ GE264.out | refine below_set ?_ GE279.out | refine below_set ?_ GE286.out) | exact HB.out)))); have n7_ := Aside0.mk (Kd.R_lower (Kd.R_new' (Kd.R_mono (ok' := fun k_ => True) ho1 (fun _ hk_ => trivial)) (Kd.R_lt (by (with_reducible repeat (first | apply Kd.R_alloc | apply Kd.R_drewN | apply Kd.R_drew)); exact HO292.out))) (below_size (by repeat (first | (with_reducible first | exact HB.out | apply below_alloc | apply pw_below_drewN | apply below_drew1 | refine below_set ?_ GE263.out | refine below_set ?_ GE264.out | refine below_set ?_ GE279.out | refine below_set ?_ GE286.out) | exact HB.out)))); have n8_ := Aside0.mk (blk_below (g := gb263) (o := .cells #[.slice A0_0 l0_0.length c0_0, .int .u64 a0_1, .int .i64 a0_2, .int .u64 a0_3, .int .i64 a0_4] 40 (0, 0)) (by (with_reducible repeat (first | refine blk_drewN ?_ _ | refine blk_drew ?_ | refine blk_alloc ?_ _)); exact BK263.out) hb); have n9_ := Aside0.mk (blk_below (g := gb264) (o := .cells #[.int .u64 a0_1, .int .i64 a0_2] 27 (0, 0)) (by (with_reducible repeat (first | refine blk_drewN ?_ _ | refine blk_drew ?_ | refine blk_alloc ?_ _)); exact BK264.out) hb); have n10_ := Aside0.mk (blk_below (g := gb279) (o := .cells #[.int .u64 t276, .int .i64 t277] 27 (0, 0)) (by (with_reducible repeat (first | refine blk_drewN ?_ _ | refine blk_drew ?_ | refine blk_alloc ?_ _)); exact BK279.out) hb); have n11_ := Aside0.mk (blk_below (g := gb286) (o := .cells #[.int .u64 t283, .int .i64 t284] 27 (0, 0)) (by (with_reducible repeat (first | refine blk_drewN ?_ _ | refine blk_drew ?_ | refine blk_alloc ?_ _)); exact BK286.out) hb); have n12_ := Aside0.mk (below_step (by repeat (first | (with_reducible first | exact HB.out | apply below_alloc | apply pw_below_drewN | apply below_drew1 | refine below_set ?_ GE263.out | refine below_set ?_ GE264.out | refine below_set ?_ GE279.out | refine below_set ?_ GE286.out) | exact HB.out)) hb); clear HO268; clear HO271; clear HO275; clear HO282; clear HO289; clear HO292; clear BK263; clear BK264; clear BK279; clear BK286; clear HB; have HO268 := n0_; have HO271 := n1_; have HO275 := n2_; have HO282 := n3_; have HO289 := n4_; have HO292 := n5_; have HO295 := n6_; have HO298 := n7_; have BK263 := n8_; have BK264 := n9_; have BK279 := n10_; have BK286 := n11_; have HB := n12_; clear n0_ n1_ n2_ n3_ n4_ n5_ n6_ n7_ n8_ n9_ n10_ n11_ n12_; (try clear hb); (try clear hb2); (try clear hk); (try clear hi); (try clear ho0); (try clear ho1)))
    (try simp only [Act.put, List.setIfInBounds_toArray, List.set_cons_zero, List.set_cons_succ])
    go_cut [19] (fun v19 wc => ∃ (kq : Nat) (x19_17 : Bool), v19 = .bool x19_17 ∧ Aside0 (stanchionlaw15_AlarmActs.j0 kq l0_0 a0_4 t265 t272 t287 t290 t293 t296 x19_17 a0_1 a0_2 = some r) ∧ Aside0 (kq ≤ k) ∧ Aside0 (Kd.V k27 27 wc w.heap.size (fun k_ => some k_ ≠ (v291 : Value).ownBlock ∧ some k_ ≠ (v297 : Value).ownBlock ∧ k_ ≠ gb263 ∧ k_ ≠ gb264 ∧ k_ ≠ gb279 ∧ k_ ≠ gb286) v288 t287) ∧ Aside0 (Kd.R (Kd.int .i64) 3 wc w.heap.size (fun k_ => some k_ ≠ (v297 : Value).ownBlock) v291 t290) ∧ Aside0 (Kd.V k27 27 wc w.heap.size (fun k_ => some k_ ≠ (v291 : Value).ownBlock ∧ some k_ ≠ (v297 : Value).ownBlock ∧ k_ ≠ gb263 ∧ k_ ≠ gb264 ∧ k_ ≠ gb279 ∧ k_ ≠ gb286) v294 t293) ∧ Aside0 (Kd.R (Kd.int .i64) 3 wc w.heap.size (fun k_ => some k_ ≠ (v291 : Value).ownBlock) v297 t296) ∧ Aside0 (wc.heap[gb263]? = some (.cells #[(.slice A0_0 l0_0.length c0_0), .int .u64 a0_1, .int .i64 a0_2, .int .u64 a0_3, .int .i64 a0_4] 40 (0, 0))) ∧ Aside0 (wc.heap[gb264]? = some (.cells #[.int .u64 a0_1, .int .i64 a0_2] 27 (0, 0))) ∧ Aside0 (wc.heap[gb279]? = some (.cells #[.int .u64 t276, .int .i64 t277] 27 (0, 0))) ∧ Aside0 (wc.heap[gb286]? = some (.cells #[.int .u64 t283, .int .i64 t284] 27 (0, 0))) ∧ Aside0 (Below w.heap.size w wc))
    case first =>
      have H := HC18.out
      clear HC18
      replace H := Option.bind_eq_some_iff.mp H
      obtain ⟨t299, A460, H⟩ := H
      replace H : (if t299 = true then (if (t276 == t283 && (t277 == t284)) = true then (stanchionlaw15_AlarmActs.j0 k l0_0 a0_4 t265 t272 t287 t290 t293 t296 (t278 == t285) a0_1 a0_2) else (stanchionlaw15_AlarmActs.j0 k l0_0 a0_4 t265 t272 t287 t290 t293 t296 false a0_1 a0_2)) else (stanchionlaw15_AlarmActs.j0 k l0_0 a0_4 t265 t272 t287 t290 t293 t296 false a0_1 a0_2)) = some r := H
      have A46 := Aside0.mk A460
      clear A460
      by_cases c47 : t299 = true
      · subst c47
        have H1 : (if (t276 == t283 && (t277 == t284)) = true then (stanchionlaw15_AlarmActs.j0 k l0_0 a0_4 t265 t272 t287 t290 t293 t296 (t278 == t285) a0_1 a0_2) else (stanchionlaw15_AlarmActs.j0 k l0_0 a0_4 t265 t272 t287 t290 t293 t296 false a0_1 a0_2)) = some r := by rw [if_pos rfl] at H; exact H
        clear H
        have H := H1
        clear H1
        by_cases c48 : (t276 == t283 && (t277 == t284)) = true
        · rw [if_pos c48] at H
          have c48b0 : (t276 == t283 && (t277 == t284)) = true := c48
          (try (have c48b1 : decide (t276 = t283 && (t277 == t284)) = true := by simpa using c48))
          (try (have c48b2 : (t276 == t283 && (t277 == t284)) = true := by simpa using c48))
          clear c48
          (first | rw [c48b0] | (simp only [i64_w, i32_w]; rw [c48b0]) | skip)
          have H' := Aside0.mk H
          clear H
          obtain ⟨Ao49, co49, eo49⟩ := Kd.V_slice HO275.out
          subst eo49
          obtain ⟨Ao50, co50, eo50⟩ := Kd.V_slice HO282.out
          subst eo50
          go_wp2_with (first | ((with_reducible refine gate_callee (f := 15) rfl ?_); refine goesL_ (some 68) rfl rfl Try.func15 (by kernel_rfl) rfl #[.slice Ao49 t273.length co49, .slice Ao50 t280.length co50] rfl (by (try simp only [List.map_toArray, List.map_cons, List.map_nil]); first | done | rfl | (simp only [List.length_drop, List.length_take]; rfl)) ?_; (with_reducible refine (stanchionref15_Same.calls k _ _ t273 _ _ t280 true _ ?side1 ?side2 ?side3 ?side4 A46.out).mono ?_); (case side1 => repeat (first | exact (Kd.V_reads' HO275.out).2.2 | (with_reducible refine Kd.C_alloc ?_ _) | (with_reducible refine Kd.C_drewN ?_ _) | (with_reducible refine Kd.C_drew ?_))); (case side2 => exact (Kd.V_reads' HO275.out).2.1); (case side3 => repeat (first | exact (Kd.V_reads' HO282.out).2.2 | (with_reducible refine Kd.C_alloc ?_ _) | (with_reducible refine Kd.C_drewN ?_ _) | (with_reducible refine Kd.C_drew ?_))); (case side4 => exact (Kd.V_reads' HO282.out).2.1); rintro e w' ⟨rfl, ⟨nd, rfl⟩⟩; refine ⟨_, rfl, ?_⟩; have hnb51 := NB279_263.out; have hnc51 := NB263_279.out; have hnb52 := NB279_264.out; have hnc52 := NB264_279.out; have hnb53 := NB279_286.out; have hnc53 := NB286_279.out; have hcz54_0 : w45.cell? ⟨gb279, 0, none⟩ = some (.int .u64 t276) := (blk_cell BK279.out 0).trans rfl; have hcz54_1 : w45.cell? ⟨gb279, 1, none⟩ = some (.int .i64 t277) := (blk_cell BK279.out 1).trans rfl; have hfz54_0 := blk_frozen BK279.out 0; have hfz54_1 := blk_frozen BK279.out 1; have hnb55 := NB286_263.out; have hnc55 := NB263_286.out; have hnb56 := NB286_264.out; have hnc56 := NB264_286.out; have hcz57_0 : w45.cell? ⟨gb286, 0, none⟩ = some (.int .u64 t283) := (blk_cell BK286.out 0).trans rfl; have hcz57_1 : w45.cell? ⟨gb286, 1, none⟩ = some (.int .i64 t284) := (blk_cell BK286.out 1).trans rfl; have hfz57_0 := blk_frozen BK286.out 0; have hfz57_1 := blk_frozen BK286.out 1))
          go_meet
          case rel => exact ⟨_, ((t278 == t285)), (by first | rfl | (simp; done) | (simp [*]; done)), H', ⟨by first | omega | exact Nat.le_refl _⟩, ⟨by (with_reducible repeat (first | apply Kd.V_alloc | apply Kd.V_drewN | apply Kd.V_drew)); exact Kd.V_mono HO289.out (fun _ hk => ⟨hk.1.1, ⟨hk.2, ⟨hk.1.2.2.2.1, ⟨hk.1.2.2.2.2.1, ⟨hk.1.2.2.2.2.2.1, hk.1.2.2.2.2.2.2⟩⟩⟩⟩⟩)⟩, ⟨by (with_reducible repeat (first | apply Kd.R_alloc | apply Kd.R_drewN | apply Kd.R_drew)); exact Kd.R_mono HO292.out (fun _ hk => hk.2)⟩, ⟨by (with_reducible repeat (first | apply Kd.V_alloc | apply Kd.V_drewN | apply Kd.V_drew)); exact Kd.V_mono HO295.out (fun _ hk => ⟨hk.2.2.2.1, ⟨hk.1, ⟨hk.2.2.2.2.1, ⟨hk.2.2.2.2.2.1, ⟨hk.2.2.2.2.2.2.1, hk.2.2.2.2.2.2.2⟩⟩⟩⟩⟩)⟩, ⟨by (with_reducible repeat (first | apply Kd.R_alloc | apply Kd.R_drewN | apply Kd.R_drew)); exact Kd.R_mono HO298.out (fun _ hk => hk.2)⟩, ⟨by (with_reducible repeat (first | refine blk_drewN ?_ _ | refine blk_drew ?_ | refine blk_alloc ?_ _)); exact BK263.out⟩, ⟨by (with_reducible repeat (first | refine blk_drewN ?_ _ | refine blk_drew ?_ | refine blk_alloc ?_ _)); exact BK264.out⟩, ⟨by (with_reducible repeat (first | refine blk_drewN ?_ _ | refine blk_drew ?_ | refine blk_alloc ?_ _)); exact BK279.out⟩, ⟨by (with_reducible repeat (first | refine blk_drewN ?_ _ | refine blk_drew ?_ | refine blk_alloc ?_ _)); exact BK286.out⟩, ⟨by repeat (first | (with_reducible first | exact HB.out | apply below_alloc | apply pw_below_drewN | apply below_drew1 | refine below_set ?_ GE263.out | refine below_set ?_ GE264.out | refine below_set ?_ GE279.out | refine below_set ?_ GE286.out) | exact HB.out)⟩⟩
        · rw [if_neg c48] at H
          have c48b0 : (t276 == t283 && (t277 == t284)) = false := by simpa using c48
          (try (have c48b1 : decide (t276 = t283 && (t277 == t284)) = false := by simpa using c48))
          (try (have c48b2 : (t276 == t283 && (t277 == t284)) = false := by simpa using c48))
          (try (have c48b3 : ¬ (t276 = t283 && (t277 == t284)) := by simpa using c48))
          clear c48
          (first | rw [c48b0] | (simp only [i64_w, i32_w]; rw [c48b0]) | skip)
          have H' := Aside0.mk H
          clear H
          obtain ⟨Ao58, co58, eo58⟩ := Kd.V_slice HO275.out
          subst eo58
          obtain ⟨Ao59, co59, eo59⟩ := Kd.V_slice HO282.out
          subst eo59
          go_wp2_with (first | ((with_reducible refine gate_callee (f := 15) rfl ?_); refine goesL_ (some 68) rfl rfl Try.func15 (by kernel_rfl) rfl #[.slice Ao58 t273.length co58, .slice Ao59 t280.length co59] rfl (by (try simp only [List.map_toArray, List.map_cons, List.map_nil]); first | done | rfl | (simp only [List.length_drop, List.length_take]; rfl)) ?_; (with_reducible refine (stanchionref15_Same.calls k _ _ t273 _ _ t280 true _ ?side1 ?side2 ?side3 ?side4 A46.out).mono ?_); (case side1 => repeat (first | exact (Kd.V_reads' HO275.out).2.2 | (with_reducible refine Kd.C_alloc ?_ _) | (with_reducible refine Kd.C_drewN ?_ _) | (with_reducible refine Kd.C_drew ?_))); (case side2 => exact (Kd.V_reads' HO275.out).2.1); (case side3 => repeat (first | exact (Kd.V_reads' HO282.out).2.2 | (with_reducible refine Kd.C_alloc ?_ _) | (with_reducible refine Kd.C_drewN ?_ _) | (with_reducible refine Kd.C_drew ?_))); (case side4 => exact (Kd.V_reads' HO282.out).2.1); rintro e w' ⟨rfl, ⟨nd, rfl⟩⟩; refine ⟨_, rfl, ?_⟩; have hnb60 := NB279_263.out; have hnc60 := NB263_279.out; have hnb61 := NB279_264.out; have hnc61 := NB264_279.out; have hnb62 := NB279_286.out; have hnc62 := NB286_279.out; have hcz63_0 : w45.cell? ⟨gb279, 0, none⟩ = some (.int .u64 t276) := (blk_cell BK279.out 0).trans rfl; have hcz63_1 : w45.cell? ⟨gb279, 1, none⟩ = some (.int .i64 t277) := (blk_cell BK279.out 1).trans rfl; have hfz63_0 := blk_frozen BK279.out 0; have hfz63_1 := blk_frozen BK279.out 1; have hnb64 := NB286_263.out; have hnc64 := NB263_286.out; have hnb65 := NB286_264.out; have hnc65 := NB264_286.out; have hcz66_0 : w45.cell? ⟨gb286, 0, none⟩ = some (.int .u64 t283) := (blk_cell BK286.out 0).trans rfl; have hcz66_1 : w45.cell? ⟨gb286, 1, none⟩ = some (.int .i64 t284) := (blk_cell BK286.out 1).trans rfl; have hfz66_0 := blk_frozen BK286.out 0; have hfz66_1 := blk_frozen BK286.out 1))
          go_meet
          case rel => exact ⟨_, (false), (by first | rfl | (simp; done) | (simp [*]; done)), H', ⟨by first | omega | exact Nat.le_refl _⟩, ⟨by (with_reducible repeat (first | apply Kd.V_alloc | apply Kd.V_drewN | apply Kd.V_drew)); exact Kd.V_mono HO289.out (fun _ hk => ⟨hk.1.1, ⟨hk.2, ⟨hk.1.2.2.2.1, ⟨hk.1.2.2.2.2.1, ⟨hk.1.2.2.2.2.2.1, hk.1.2.2.2.2.2.2⟩⟩⟩⟩⟩)⟩, ⟨by (with_reducible repeat (first | apply Kd.R_alloc | apply Kd.R_drewN | apply Kd.R_drew)); exact Kd.R_mono HO292.out (fun _ hk => hk.2)⟩, ⟨by (with_reducible repeat (first | apply Kd.V_alloc | apply Kd.V_drewN | apply Kd.V_drew)); exact Kd.V_mono HO295.out (fun _ hk => ⟨hk.2.2.2.1, ⟨hk.1, ⟨hk.2.2.2.2.1, ⟨hk.2.2.2.2.2.1, ⟨hk.2.2.2.2.2.2.1, hk.2.2.2.2.2.2.2⟩⟩⟩⟩⟩)⟩, ⟨by (with_reducible repeat (first | apply Kd.R_alloc | apply Kd.R_drewN | apply Kd.R_drew)); exact Kd.R_mono HO298.out (fun _ hk => hk.2)⟩, ⟨by (with_reducible repeat (first | refine blk_drewN ?_ _ | refine blk_drew ?_ | refine blk_alloc ?_ _)); exact BK263.out⟩, ⟨by (with_reducible repeat (first | refine blk_drewN ?_ _ | refine blk_drew ?_ | refine blk_alloc ?_ _)); exact BK264.out⟩, ⟨by (with_reducible repeat (first | refine blk_drewN ?_ _ | refine blk_drew ?_ | refine blk_alloc ?_ _)); exact BK279.out⟩, ⟨by (with_reducible repeat (first | refine blk_drewN ?_ _ | refine blk_drew ?_ | refine blk_alloc ?_ _)); exact BK286.out⟩, ⟨by repeat (first | (with_reducible first | exact HB.out | apply below_alloc | apply pw_below_drewN | apply below_drew1 | refine below_set ?_ GE263.out | refine below_set ?_ GE264.out | refine below_set ?_ GE279.out | refine below_set ?_ GE286.out) | exact HB.out)⟩⟩
      · replace c47 := Bool.eq_false_iff.mpr c47
        subst c47
        have H1 : (stanchionlaw15_AlarmActs.j0 k l0_0 a0_4 t265 t272 t287 t290 t293 t296 false a0_1 a0_2) = some r := by rw [if_neg (show ¬ (false = true) by decide)] at H; exact H
        clear H
        have H := H1
        clear H1
        have H' := Aside0.mk H
        clear H
        obtain ⟨Ao67, co67, eo67⟩ := Kd.V_slice HO275.out
        subst eo67
        obtain ⟨Ao68, co68, eo68⟩ := Kd.V_slice HO282.out
        subst eo68
        go_wp2_with (first | ((with_reducible refine gate_callee (f := 15) rfl ?_); refine goesL_ (some 68) rfl rfl Try.func15 (by kernel_rfl) rfl #[.slice Ao67 t273.length co67, .slice Ao68 t280.length co68] rfl (by (try simp only [List.map_toArray, List.map_cons, List.map_nil]); first | done | rfl | (simp only [List.length_drop, List.length_take]; rfl)) ?_; (with_reducible refine (stanchionref15_Same.calls k _ _ t273 _ _ t280 false _ ?side1 ?side2 ?side3 ?side4 A46.out).mono ?_); (case side1 => repeat (first | exact (Kd.V_reads' HO275.out).2.2 | (with_reducible refine Kd.C_alloc ?_ _) | (with_reducible refine Kd.C_drewN ?_ _) | (with_reducible refine Kd.C_drew ?_))); (case side2 => exact (Kd.V_reads' HO275.out).2.1); (case side3 => repeat (first | exact (Kd.V_reads' HO282.out).2.2 | (with_reducible refine Kd.C_alloc ?_ _) | (with_reducible refine Kd.C_drewN ?_ _) | (with_reducible refine Kd.C_drew ?_))); (case side4 => exact (Kd.V_reads' HO282.out).2.1); rintro e w' ⟨rfl, ⟨nd, rfl⟩⟩; refine ⟨_, rfl, ?_⟩))
        go_meet
        case rel => exact ⟨_, (false), (by first | rfl | (simp; done) | (simp [*]; done)), H', ⟨by first | omega | exact Nat.le_refl _⟩, ⟨by (with_reducible repeat (first | apply Kd.V_alloc | apply Kd.V_drewN | apply Kd.V_drew)); exact Kd.V_mono HO289.out (fun _ hk => ⟨hk.1.1, ⟨hk.2, ⟨hk.1.2.2.2.1, ⟨hk.1.2.2.2.2.1, ⟨hk.1.2.2.2.2.2.1, hk.1.2.2.2.2.2.2⟩⟩⟩⟩⟩)⟩, ⟨by (with_reducible repeat (first | apply Kd.R_alloc | apply Kd.R_drewN | apply Kd.R_drew)); exact Kd.R_mono HO292.out (fun _ hk => hk.2)⟩, ⟨by (with_reducible repeat (first | apply Kd.V_alloc | apply Kd.V_drewN | apply Kd.V_drew)); exact Kd.V_mono HO295.out (fun _ hk => ⟨hk.2.2.2.1, ⟨hk.1, ⟨hk.2.2.2.2.1, ⟨hk.2.2.2.2.2.1, ⟨hk.2.2.2.2.2.2.1, hk.2.2.2.2.2.2.2⟩⟩⟩⟩⟩)⟩, ⟨by (with_reducible repeat (first | apply Kd.R_alloc | apply Kd.R_drewN | apply Kd.R_drew)); exact Kd.R_mono HO298.out (fun _ hk => hk.2)⟩, ⟨by (with_reducible repeat (first | refine blk_drewN ?_ _ | refine blk_drew ?_ | refine blk_alloc ?_ _)); exact BK263.out⟩, ⟨by (with_reducible repeat (first | refine blk_drewN ?_ _ | refine blk_drew ?_ | refine blk_alloc ?_ _)); exact BK264.out⟩, ⟨by (with_reducible repeat (first | refine blk_drewN ?_ _ | refine blk_drew ?_ | refine blk_alloc ?_ _)); exact BK279.out⟩, ⟨by (with_reducible repeat (first | refine blk_drewN ?_ _ | refine blk_drew ?_ | refine blk_alloc ?_ _)); exact BK286.out⟩, ⟨by repeat (first | (with_reducible first | exact HB.out | apply below_alloc | apply pw_below_drewN | apply below_drew1 | refine below_set ?_ GE263.out | refine below_set ?_ GE264.out | refine below_set ?_ GE279.out | refine below_set ?_ GE286.out) | exact HB.out)⟩⟩
    case rest =>
      clear HC18
      try clear c1
      try clear c2
      try clear p2
      try clear c3
      try clear c3b0
      try clear c3b1
      try clear c4
      try clear c5
      try clear c6
      try clear c7
      try clear c8
      try clear c9
      try clear c10
      try clear c13
      try clear c15
      try clear c16
      try clear c17
      try clear c18
      try clear c22
      try clear c33
      try clear c34
      try clear c39
      try clear c40
      try clear c41
      try clear c47
      try clear c48
      try clear c48b0
      try clear c48b1
      try clear c48b2
      try clear c51
      try clear c52
      try clear c53
      try clear c55
      try clear c56
      try clear c60
      try clear c61
      try clear c62
      try clear c64
      try clear c65
      try clear hcz20_0
      try clear hcz20_1
      try clear hcz20_2
      try clear hcz20_3
      try clear hcz20_4
      try clear hcz23_0
      try clear hcz23_1
      try clear hcz24_0
      try clear hcz24_1
      try clear hcz24_2
      try clear hcz24_3
      try clear hcz24_4
      try clear hcz35_0
      try clear hcz35_1
      try clear hcz42_0
      try clear hcz42_1
      try clear hcz54_0
      try clear hcz54_1
      try clear hcz57_0
      try clear hcz57_1
      try clear hcz5_0
      try clear hcz5_1
      try clear hcz5_2
      try clear hcz5_3
      try clear hcz5_4
      try clear hcz63_0
      try clear hcz63_1
      try clear hcz66_0
      try clear hcz66_1
      try clear hcz8_0
      try clear hcz8_1
      try clear hcz9_0
      try clear hcz9_1
      try clear hcz9_2
      try clear hcz9_3
      try clear hcz9_4
      try clear hfz20_0
      try clear hfz20_1
      try clear hfz20_2
      try clear hfz20_3
      try clear hfz20_4
      try clear hfz23_0
      try clear hfz23_1
      try clear hfz24_0
      try clear hfz24_1
      try clear hfz24_2
      try clear hfz24_3
      try clear hfz24_4
      try clear hfz35_0
      try clear hfz35_1
      try clear hfz42_0
      try clear hfz42_1
      try clear hfz54_0
      try clear hfz54_1
      try clear hfz57_0
      try clear hfz57_1
      try clear hfz5_0
      try clear hfz5_1
      try clear hfz5_2
      try clear hfz5_3
      try clear hfz5_4
      try clear hfz63_0
      try clear hfz63_1
      try clear hfz66_0
      try clear hfz66_1
      try clear hfz8_0
      try clear hfz8_1
      try clear hfz9_0
      try clear hfz9_1
      try clear hfz9_2
      try clear hfz9_3
      try clear hfz9_4
      obtain ⟨kq, x19_17, rfl, HA, HJ17, HO_15, HO_16, HO_17, HO_18, BK263, BK264, BK279, BK286, HB⟩ := hcut
      cases kq with
      | zero => exact absurd HA.out (by simp [stanchionlaw15_AlarmActs.j0])
      | succ kj17 =>
        have H := HA.out
        clear HA
        simp only [stanchionlaw15_AlarmActs.j0] at H
        have HC69 := Aside0.mk H
        clear H
        go_upto_region 14 with (fail)
        go_cut [20] (fun v20 wc => ∃ (kq : Nat) (x20_68 : Bool), v20 = .bool x20_68 ∧ Aside0 (stanchionlaw15_AlarmActs.j1 kq l0_0 a0_4 t265 t272 x19_17 x20_68 a0_1 a0_2 = some r) ∧ Aside0 (kq ≤ kj17) ∧ Aside0 (wc.heap[gb263]? = some (.cells #[(.slice A0_0 l0_0.length c0_0), .int .u64 a0_1, .int .i64 a0_2, .int .u64 a0_3, .int .i64 a0_4] 40 (0, 0))) ∧ Aside0 (wc.heap[gb264]? = some (.cells #[.int .u64 a0_1, .int .i64 a0_2] 27 (0, 0))) ∧ Aside0 (wc.heap[gb279]? = some (.cells #[.int .u64 t276, .int .i64 t277] 27 (0, 0))) ∧ Aside0 (wc.heap[gb286]? = some (.cells #[.int .u64 t283, .int .i64 t284] 27 (0, 0))) ∧ Aside0 (Below w.heap.size w wc))
        case first =>
          have H := HC69.out
          clear HC69
          replace H := Option.bind_eq_some_iff.mp H
          obtain ⟨t300, A700, H⟩ := H
          replace H : (if t300 = true then ((stanchionref10_Ints.f kj17 t290 t296).bind fun t301 => (stanchionlaw15_AlarmActs.j1 kj17 l0_0 a0_4 t265 t272 x19_17 t301 a0_1 a0_2)) else (stanchionlaw15_AlarmActs.j1 kj17 l0_0 a0_4 t265 t272 x19_17 false a0_1 a0_2)) = some r := H
          have A70 := Aside0.mk A700
          clear A700
          by_cases c71 : t300 = true
          · subst c71
            have H1 : ((stanchionref10_Ints.f kj17 t290 t296).bind fun t301 => (stanchionlaw15_AlarmActs.j1 kj17 l0_0 a0_4 t265 t272 x19_17 t301 a0_1 a0_2)) = some r := by rw [if_pos rfl] at H; exact H
            clear H
            have H := H1
            clear H1
            replace H := Option.bind_eq_some_iff.mp H
            obtain ⟨t301, A720, H⟩ := H
            replace H : (stanchionlaw15_AlarmActs.j1 kj17 l0_0 a0_4 t265 t272 x19_17 t301 a0_1 a0_2) = some r := H
            have A72 := Aside0.mk A720
            clear A720
            have H' := Aside0.mk H
            clear H
            obtain ⟨Ao73, co73, eo73⟩ := Kd.V_slice HO_15.out
            subst eo73
            obtain ⟨Ao74, co74, eo74⟩ := Kd.V_slice HO_17.out
            subst eo74
            go_wp2_with (first | ((with_reducible refine gate_callee (f := 15) rfl ?_); refine goesL_ (some 81) rfl rfl Try.func15 (by kernel_rfl) rfl #[.slice Ao73 t287.length co73, .slice Ao74 t293.length co74] rfl (by (try simp only [List.map_toArray, List.map_cons, List.map_nil]); first | done | rfl | (simp only [List.length_drop, List.length_take]; rfl)) ?_; (with_reducible refine (stanchionref15_Same.calls kj17 _ _ t287 _ _ t293 true _ ?side1 ?side2 ?side3 ?side4 A70.out).mono ?_); (case side1 => repeat (first | exact (Kd.V_reads' HO_15.out).2.2 | (with_reducible refine Kd.C_alloc ?_ _) | (with_reducible refine Kd.C_drewN ?_ _) | (with_reducible refine Kd.C_drew ?_))); (case side2 => exact (Kd.V_reads' HO_15.out).2.1); (case side3 => repeat (first | exact (Kd.V_reads' HO_17.out).2.2 | (with_reducible refine Kd.C_alloc ?_ _) | (with_reducible refine Kd.C_drewN ?_ _) | (with_reducible refine Kd.C_drew ?_))); (case side4 => exact (Kd.V_reads' HO_17.out).2.1); rintro e w' ⟨rfl, ⟨nd, rfl⟩⟩; refine ⟨_, rfl, ?_⟩; obtain ⟨Ao75, co75, eo75⟩ := Kd.R_slice HO_16.out; subst eo75; obtain ⟨Ao76, co76, eo76⟩ := Kd.R_slice HO_18.out; subst eo76) | (go_at_call 19; (with_reducible refine (stanchionref10_Ints.calls kj17 _ _ t290 _ _ t296 t301 _ ?side1 ?side2 ?side3 ?side4 A72.out).mono ?_); (case side1 => repeat (first | exact (Kd.R_reads' HO_16.out).2.2 | (with_reducible refine Kd.C_alloc ?_ _) | (with_reducible refine Kd.C_drewN ?_ _) | (with_reducible refine Kd.C_drew ?_))); (case side2 => exact (Kd.R_reads' HO_16.out).2.1); (case side3 => repeat (first | exact (Kd.R_reads' HO_18.out).2.2 | (with_reducible refine Kd.C_alloc ?_ _) | (with_reducible refine Kd.C_drewN ?_ _) | (with_reducible refine Kd.C_drew ?_))); (case side4 => exact (Kd.R_reads' HO_18.out).2.1); rintro e w' ⟨rfl, ⟨nd, rfl⟩⟩))
            go_meet
            case rel => exact ⟨_, (t301), (by first | rfl | (simp; done) | (simp [*]; done)), H', ⟨by have := HJ17.out; first | omega | exact Nat.le_refl _⟩, ⟨by (with_reducible repeat (first | refine blk_drewN ?_ _ | refine blk_drew ?_ | refine blk_alloc ?_ _)); exact BK263.out⟩, ⟨by (with_reducible repeat (first | refine blk_drewN ?_ _ | refine blk_drew ?_ | refine blk_alloc ?_ _)); exact BK264.out⟩, ⟨by (with_reducible repeat (first | refine blk_drewN ?_ _ | refine blk_drew ?_ | refine blk_alloc ?_ _)); exact BK279.out⟩, ⟨by (with_reducible repeat (first | refine blk_drewN ?_ _ | refine blk_drew ?_ | refine blk_alloc ?_ _)); exact BK286.out⟩, ⟨by repeat (first | (with_reducible first | exact HB.out | apply below_alloc | apply pw_below_drewN | apply below_drew1 | refine below_set ?_ GE263.out | refine below_set ?_ GE264.out | refine below_set ?_ GE279.out | refine below_set ?_ GE286.out) | exact HB.out)⟩⟩
          · replace c71 := Bool.eq_false_iff.mpr c71
            subst c71
            have H1 : (stanchionlaw15_AlarmActs.j1 kj17 l0_0 a0_4 t265 t272 x19_17 false a0_1 a0_2) = some r := by rw [if_neg (show ¬ (false = true) by decide)] at H; exact H
            clear H
            have H := H1
            clear H1
            have H' := Aside0.mk H
            clear H
            obtain ⟨Ao77, co77, eo77⟩ := Kd.V_slice HO_15.out
            subst eo77
            obtain ⟨Ao78, co78, eo78⟩ := Kd.V_slice HO_17.out
            subst eo78
            go_wp2_with (first | ((with_reducible refine gate_callee (f := 15) rfl ?_); refine goesL_ (some 81) rfl rfl Try.func15 (by kernel_rfl) rfl #[.slice Ao77 t287.length co77, .slice Ao78 t293.length co78] rfl (by (try simp only [List.map_toArray, List.map_cons, List.map_nil]); first | done | rfl | (simp only [List.length_drop, List.length_take]; rfl)) ?_; (with_reducible refine (stanchionref15_Same.calls kj17 _ _ t287 _ _ t293 false _ ?side1 ?side2 ?side3 ?side4 A70.out).mono ?_); (case side1 => repeat (first | exact (Kd.V_reads' HO_15.out).2.2 | (with_reducible refine Kd.C_alloc ?_ _) | (with_reducible refine Kd.C_drewN ?_ _) | (with_reducible refine Kd.C_drew ?_))); (case side2 => exact (Kd.V_reads' HO_15.out).2.1); (case side3 => repeat (first | exact (Kd.V_reads' HO_17.out).2.2 | (with_reducible refine Kd.C_alloc ?_ _) | (with_reducible refine Kd.C_drewN ?_ _) | (with_reducible refine Kd.C_drew ?_))); (case side4 => exact (Kd.V_reads' HO_17.out).2.1); rintro e w' ⟨rfl, ⟨nd, rfl⟩⟩; refine ⟨_, rfl, ?_⟩))
            go_meet
            case rel => exact ⟨_, (false), (by first | rfl | (simp; done) | (simp [*]; done)), H', ⟨by have := HJ17.out; first | omega | exact Nat.le_refl _⟩, ⟨by (with_reducible repeat (first | refine blk_drewN ?_ _ | refine blk_drew ?_ | refine blk_alloc ?_ _)); exact BK263.out⟩, ⟨by (with_reducible repeat (first | refine blk_drewN ?_ _ | refine blk_drew ?_ | refine blk_alloc ?_ _)); exact BK264.out⟩, ⟨by (with_reducible repeat (first | refine blk_drewN ?_ _ | refine blk_drew ?_ | refine blk_alloc ?_ _)); exact BK279.out⟩, ⟨by (with_reducible repeat (first | refine blk_drewN ?_ _ | refine blk_drew ?_ | refine blk_alloc ?_ _)); exact BK286.out⟩, ⟨by repeat (first | (with_reducible first | exact HB.out | apply below_alloc | apply pw_below_drewN | apply below_drew1 | refine below_set ?_ GE263.out | refine below_set ?_ GE264.out | refine below_set ?_ GE279.out | refine below_set ?_ GE286.out) | exact HB.out)⟩⟩
        case rest =>
          clear HC69
          try clear c1
          try clear c2
          try clear p2
          try clear c3
          try clear c3b0
          try clear c3b1
          try clear c4
          try clear c5
          try clear c6
          try clear c7
          try clear c8
          try clear c9
          try clear c10
          try clear c13
          try clear c15
          try clear c16
          try clear c17
          try clear c18
          try clear c22
          try clear c33
          try clear c34
          try clear c39
          try clear c40
          try clear c41
          try clear c47
          try clear c48
          try clear c48b0
          try clear c48b1
          try clear c48b2
          try clear c51
          try clear c52
          try clear c53
          try clear c55
          try clear c56
          try clear c60
          try clear c61
          try clear c62
          try clear c64
          try clear c65
          try clear c71
          try clear hcz20_0
          try clear hcz20_1
          try clear hcz20_2
          try clear hcz20_3
          try clear hcz20_4
          try clear hcz23_0
          try clear hcz23_1
          try clear hcz24_0
          try clear hcz24_1
          try clear hcz24_2
          try clear hcz24_3
          try clear hcz24_4
          try clear hcz35_0
          try clear hcz35_1
          try clear hcz42_0
          try clear hcz42_1
          try clear hcz54_0
          try clear hcz54_1
          try clear hcz57_0
          try clear hcz57_1
          try clear hcz5_0
          try clear hcz5_1
          try clear hcz5_2
          try clear hcz5_3
          try clear hcz5_4
          try clear hcz63_0
          try clear hcz63_1
          try clear hcz66_0
          try clear hcz66_1
          try clear hcz8_0
          try clear hcz8_1
          try clear hcz9_0
          try clear hcz9_1
          try clear hcz9_2
          try clear hcz9_3
          try clear hcz9_4
          try clear hfz20_0
          try clear hfz20_1
          try clear hfz20_2
          try clear hfz20_3
          try clear hfz20_4
          try clear hfz23_0
          try clear hfz23_1
          try clear hfz24_0
          try clear hfz24_1
          try clear hfz24_2
          try clear hfz24_3
          try clear hfz24_4
          try clear hfz35_0
          try clear hfz35_1
          try clear hfz42_0
          try clear hfz42_1
          try clear hfz54_0
          try clear hfz54_1
          try clear hfz57_0
          try clear hfz57_1
          try clear hfz5_0
          try clear hfz5_1
          try clear hfz5_2
          try clear hfz5_3
          try clear hfz5_4
          try clear hfz63_0
          try clear hfz63_1
          try clear hfz66_0
          try clear hfz66_1
          try clear hfz8_0
          try clear hfz8_1
          try clear hfz9_0
          try clear hfz9_1
          try clear hfz9_2
          try clear hfz9_3
          try clear hfz9_4
          try clear p2
          obtain ⟨kq, x20_68, rfl, HA, HJ68, BK263, BK264, BK279, BK286, HB⟩ := hcut
          cases kq with
          | zero => exact absurd HA.out (by simp [stanchionlaw15_AlarmActs.j1])
          | succ kj68 =>
            have H := HA.out
            clear HA
            simp only [stanchionlaw15_AlarmActs.j1] at H
            replace H := Option.bind_eq_some_iff.mp H
            obtain ⟨t302, A790, H⟩ := H
            replace H : ((stanchionref15_Drop.f kj68 l0_0 a0_4).bind fun t305 => ((stanchionref15_Same.f kj68 t302 t305).bind fun t308 => (if t265 = true then (if t272 = true then (if x19_17 = true then (if x20_68 = true then (if t308 = true then ((alarm_Heap.f kj68 l0_0).bind fun t309 => ((stanchionref15_Heap.f kj68 l0_0).bind fun t310 => (if (t309 == t310) = true then (if (l0_0.length : Int) = 0 then (some true) else (if 0 < (l0_0.length : Int) then ((alarm_Less.f ((rd_T27 l0_0 0).f0) ((rd_T27 l0_0 0).f1) a0_1 a0_2).bind fun t312 => ((stanchionref15_Less.f ((rd_T27 l0_0 0).f0) ((rd_T27 l0_0 0).f1) a0_1 a0_2).bind fun t314 => (some (t312 == t314)))) else (none))) else (some false)))) else (some false)) else (some false)) else (some false)) else (some false)) else (some false)))) = some r := H
            have A79 := Aside0.mk A790
            clear A790
            replace H := Option.bind_eq_some_iff.mp H
            obtain ⟨t305, A800, H⟩ := H
            replace H : ((stanchionref15_Same.f kj68 t302 t305).bind fun t308 => (if t265 = true then (if t272 = true then (if x19_17 = true then (if x20_68 = true then (if t308 = true then ((alarm_Heap.f kj68 l0_0).bind fun t309 => ((stanchionref15_Heap.f kj68 l0_0).bind fun t310 => (if (t309 == t310) = true then (if (l0_0.length : Int) = 0 then (some true) else (if 0 < (l0_0.length : Int) then ((alarm_Less.f ((rd_T27 l0_0 0).f0) ((rd_T27 l0_0 0).f1) a0_1 a0_2).bind fun t312 => ((stanchionref15_Less.f ((rd_T27 l0_0 0).f0) ((rd_T27 l0_0 0).f1) a0_1 a0_2).bind fun t314 => (some (t312 == t314)))) else (none))) else (some false)))) else (some false)) else (some false)) else (some false)) else (some false)) else (some false))) = some r := H
            have A80 := Aside0.mk A800
            clear A800
            replace H := Option.bind_eq_some_iff.mp H
            obtain ⟨t308, A810, H⟩ := H
            replace H : (if t265 = true then (if t272 = true then (if x19_17 = true then (if x20_68 = true then (if t308 = true then ((alarm_Heap.f kj68 l0_0).bind fun t309 => ((stanchionref15_Heap.f kj68 l0_0).bind fun t310 => (if (t309 == t310) = true then (if (l0_0.length : Int) = 0 then (some true) else (if 0 < (l0_0.length : Int) then ((alarm_Less.f ((rd_T27 l0_0 0).f0) ((rd_T27 l0_0 0).f1) a0_1 a0_2).bind fun t312 => ((stanchionref15_Less.f ((rd_T27 l0_0 0).f0) ((rd_T27 l0_0 0).f1) a0_1 a0_2).bind fun t314 => (some (t312 == t314)))) else (none))) else (some false)))) else (some false)) else (some false)) else (some false)) else (some false)) else (some false)) = some r := H
            have A81 := Aside0.mk A810
            clear A810
            by_cases c82 : t265 = true
            · subst c82
              have H1 : (if t272 = true then (if x19_17 = true then (if x20_68 = true then (if t308 = true then ((alarm_Heap.f kj68 l0_0).bind fun t309 => ((stanchionref15_Heap.f kj68 l0_0).bind fun t310 => (if (t309 == t310) = true then (if (l0_0.length : Int) = 0 then (some true) else (if 0 < (l0_0.length : Int) then ((alarm_Less.f ((rd_T27 l0_0 0).f0) ((rd_T27 l0_0 0).f1) a0_1 a0_2).bind fun t312 => ((stanchionref15_Less.f ((rd_T27 l0_0 0).f0) ((rd_T27 l0_0 0).f1) a0_1 a0_2).bind fun t314 => (some (t312 == t314)))) else (none))) else (some false)))) else (some false)) else (some false)) else (some false)) else (some false)) = some r := by rw [if_pos rfl] at H; exact H
              clear H
              have H := H1
              clear H1
              by_cases c83 : t272 = true
              · subst c83
                have H1 : (if x19_17 = true then (if x20_68 = true then (if t308 = true then ((alarm_Heap.f kj68 l0_0).bind fun t309 => ((stanchionref15_Heap.f kj68 l0_0).bind fun t310 => (if (t309 == t310) = true then (if (l0_0.length : Int) = 0 then (some true) else (if 0 < (l0_0.length : Int) then ((alarm_Less.f ((rd_T27 l0_0 0).f0) ((rd_T27 l0_0 0).f1) a0_1 a0_2).bind fun t312 => ((stanchionref15_Less.f ((rd_T27 l0_0 0).f0) ((rd_T27 l0_0 0).f1) a0_1 a0_2).bind fun t314 => (some (t312 == t314)))) else (none))) else (some false)))) else (some false)) else (some false)) else (some false)) = some r := by rw [if_pos rfl] at H; exact H
                clear H
                have H := H1
                clear H1
                by_cases c84 : x19_17 = true
                · subst c84
                  have H1 : (if x20_68 = true then (if t308 = true then ((alarm_Heap.f kj68 l0_0).bind fun t309 => ((stanchionref15_Heap.f kj68 l0_0).bind fun t310 => (if (t309 == t310) = true then (if (l0_0.length : Int) = 0 then (some true) else (if 0 < (l0_0.length : Int) then ((alarm_Less.f ((rd_T27 l0_0 0).f0) ((rd_T27 l0_0 0).f1) a0_1 a0_2).bind fun t312 => ((stanchionref15_Less.f ((rd_T27 l0_0 0).f0) ((rd_T27 l0_0 0).f1) a0_1 a0_2).bind fun t314 => (some (t312 == t314)))) else (none))) else (some false)))) else (some false)) else (some false)) = some r := by rw [if_pos rfl] at H; exact H
                  clear H
                  have H := H1
                  clear H1
                  by_cases c85 : x20_68 = true
                  · subst c85
                    have H1 : (if t308 = true then ((alarm_Heap.f kj68 l0_0).bind fun t309 => ((stanchionref15_Heap.f kj68 l0_0).bind fun t310 => (if (t309 == t310) = true then (if (l0_0.length : Int) = 0 then (some true) else (if 0 < (l0_0.length : Int) then ((alarm_Less.f ((rd_T27 l0_0 0).f0) ((rd_T27 l0_0 0).f1) a0_1 a0_2).bind fun t312 => ((stanchionref15_Less.f ((rd_T27 l0_0 0).f0) ((rd_T27 l0_0 0).f1) a0_1 a0_2).bind fun t314 => (some (t312 == t314)))) else (none))) else (some false)))) else (some false)) = some r := by rw [if_pos rfl] at H; exact H
                    clear H
                    have H := H1
                    clear H1
                    by_cases c86 : t308 = true
                    · subst c86
                      have H1 : ((alarm_Heap.f kj68 l0_0).bind fun t309 => ((stanchionref15_Heap.f kj68 l0_0).bind fun t310 => (if (t309 == t310) = true then (if (l0_0.length : Int) = 0 then (some true) else (if 0 < (l0_0.length : Int) then ((alarm_Less.f ((rd_T27 l0_0 0).f0) ((rd_T27 l0_0 0).f1) a0_1 a0_2).bind fun t312 => ((stanchionref15_Less.f ((rd_T27 l0_0 0).f0) ((rd_T27 l0_0 0).f1) a0_1 a0_2).bind fun t314 => (some (t312 == t314)))) else (none))) else (some false)))) = some r := by rw [if_pos rfl] at H; exact H
                      clear H
                      have H := H1
                      clear H1
                      replace H := Option.bind_eq_some_iff.mp H
                      obtain ⟨t309, A870, H⟩ := H
                      replace H : ((stanchionref15_Heap.f kj68 l0_0).bind fun t310 => (if (t309 == t310) = true then (if (l0_0.length : Int) = 0 then (some true) else (if 0 < (l0_0.length : Int) then ((alarm_Less.f ((rd_T27 l0_0 0).f0) ((rd_T27 l0_0 0).f1) a0_1 a0_2).bind fun t312 => ((stanchionref15_Less.f ((rd_T27 l0_0 0).f0) ((rd_T27 l0_0 0).f1) a0_1 a0_2).bind fun t314 => (some (t312 == t314)))) else (none))) else (some false))) = some r := H
                      have A87 := Aside0.mk A870
                      clear A870
                      replace H := Option.bind_eq_some_iff.mp H
                      obtain ⟨t310, A880, H⟩ := H
                      replace H : (if (t309 == t310) = true then (if (l0_0.length : Int) = 0 then (some true) else (if 0 < (l0_0.length : Int) then ((alarm_Less.f ((rd_T27 l0_0 0).f0) ((rd_T27 l0_0 0).f1) a0_1 a0_2).bind fun t312 => ((stanchionref15_Less.f ((rd_T27 l0_0 0).f0) ((rd_T27 l0_0 0).f1) a0_1 a0_2).bind fun t314 => (some (t312 == t314)))) else (none))) else (some false)) = some r := H
                      have A88 := Aside0.mk A880
                      clear A880
                      by_cases c89 : (t309 == t310) = true
                      · rw [if_pos c89] at H
                        have c89b0 : (t309 == t310) = true := c89
                        (try (have c89b1 : decide (t309 = t310) = true := by simpa using c89))
                        (try (have c89b2 : (t309 == t310) = true := by simpa using c89))
                        clear c89
                        by_cases c90 : (l0_0.length : Int) = 0
                        · rw [if_pos c90] at H
                          have c90b0 : ((l0_0.length : Int) == 0) = true := beq_iff_eq.mpr c90
                          have c90b1 : ((l0_0.length : Int) != 0) = false := bne_eq_false_iff_eq.mpr c90
                          clear c90
                          obtain rfl := Option.some.inj H
                          try go_wp2_with (first | ((with_reducible refine gate_callee (f := 14) rfl ?_); refine goesL_ (some 89) rfl rfl Try.func14 (by kernel_rfl) rfl #[.slice A0_0 l0_0.length c0_0, .int .i64 a0_4] rfl (by (try simp only [List.map_toArray, List.map_cons, List.map_nil]); first | done | rfl | (simp only [List.length_drop, List.length_take]; rfl)) ?_; (with_reducible refine (alarm_Drop.calls kj68 _ _ l0_0 a0_4 t302 _ ?side1 ?side2 A79.out).mono ?_); (case side1 => repeat (first | exact (Kd.C_below HR0_0.out HB.out) | (with_reducible refine Kd.C_alloc ?_ _) | (with_reducible refine Kd.C_drewN ?_ _) | (with_reducible refine Kd.C_drew ?_))); (case side2 => exact HC0_0.out); rintro e w91 ⟨v303, rfl, ho0, hb⟩; refine ⟨_, rfl, ?_⟩; have n0_ := Aside0.mk (Kd.R_lower (Kd.R_newB (Kd.R_newB (Kd.R_newB ho0 (g := gb264) (o := .cells #[.int .u64 a0_1, .int .i64 a0_2] 27 (0, 0)) (by (with_reducible repeat (first | refine blk_drewN ?_ _ | refine blk_drew ?_ | refine blk_alloc ?_ _)); exact BK264.out)) (g := gb279) (o := .cells #[.int .u64 t276, .int .i64 t277] 27 (0, 0)) (by (with_reducible repeat (first | refine blk_drewN ?_ _ | refine blk_drew ?_ | refine blk_alloc ?_ _)); exact BK279.out)) (g := gb286) (o := .cells #[.int .u64 t283, .int .i64 t284] 27 (0, 0)) (by (with_reducible repeat (first | refine blk_drewN ?_ _ | refine blk_drew ?_ | refine blk_alloc ?_ _)); exact BK286.out)) (below_size (by repeat (first | (with_reducible first | exact HB.out | apply below_alloc | apply pw_below_drewN | apply below_drew1 | refine below_set ?_ GE263.out | refine below_set ?_ GE264.out | refine below_set ?_ GE279.out | refine below_set ?_ GE286.out) | exact HB.out)))); have n1_ := Aside0.mk (blk_below (g := gb263) (o := .cells #[.slice A0_0 l0_0.length c0_0, .int .u64 a0_1, .int .i64 a0_2, .int .u64 a0_3, .int .i64 a0_4] 40 (0, 0)) (by (with_reducible repeat (first | refine blk_drewN ?_ _ | refine blk_drew ?_ | refine blk_alloc ?_ _)); exact BK263.out) hb); have n2_ := Aside0.mk (blk_below (g := gb264) (o := .cells #[.int .u64 a0_1, .int .i64 a0_2] 27 (0, 0)) (by (with_reducible repeat (first | refine blk_drewN ?_ _ | refine blk_drew ?_ | refine blk_alloc ?_ _)); exact BK264.out) hb); have n3_ := Aside0.mk (blk_below (g := gb279) (o := .cells #[.int .u64 t276, .int .i64 t277] 27 (0, 0)) (by (with_reducible repeat (first | refine blk_drewN ?_ _ | refine blk_drew ?_ | refine blk_alloc ?_ _)); exact BK279.out) hb); have n4_ := Aside0.mk (blk_below (g := gb286) (o := .cells #[.int .u64 t283, .int .i64 t284] 27 (0, 0)) (by (with_reducible repeat (first | refine blk_drewN ?_ _ | refine blk_drew ?_ | refine blk_alloc ?_ _)); exact BK286.out) hb); have n5_ := Aside0.mk (below_step (by repeat (first | (with_reducible first | exact HB.out | apply below_alloc | apply pw_below_drewN | apply below_drew1 | refine below_set ?_ GE263.out | refine below_set ?_ GE264.out | refine below_set ?_ GE279.out | refine below_set ?_ GE286.out) | exact HB.out)) hb); clear BK263; clear BK264; clear BK279; clear BK286; clear HB; have HO304 := n0_; have BK263 := n1_; have BK264 := n2_; have BK279 := n3_; have BK286 := n4_; have HB := n5_; clear n0_ n1_ n2_ n3_ n4_ n5_; (try clear hb); (try clear hb2); (try clear hk); (try clear hi); (try clear ho0)) | ((with_reducible refine gate_callee (f := 20) rfl ?_); refine goesL_ (some 92) rfl rfl Try.func20 (by kernel_rfl) rfl #[.slice A0_0 l0_0.length c0_0, .int .i64 a0_4] rfl (by (try simp only [List.map_toArray, List.map_cons, List.map_nil]); first | done | rfl | (simp only [List.length_drop, List.length_take]; rfl)) ?_; (with_reducible refine (stanchionref15_Drop.calls kj68 _ _ l0_0 a0_4 t305 _ ?side1 ?side2 A80.out).mono ?_); (case side1 => repeat (first | exact (Kd.C_below HR0_0.out HB.out) | (with_reducible refine Kd.C_alloc ?_ _) | (with_reducible refine Kd.C_drewN ?_ _) | (with_reducible refine Kd.C_drew ?_))); (case side2 => exact HC0_0.out); rintro e w92 ⟨v306, rfl, ho0, hb⟩; refine ⟨_, rfl, ?_⟩; have n0_ := Aside0.mk (Kd.R_elder' (by (with_reducible repeat (first | apply Kd.R_alloc | apply Kd.R_drewN | apply Kd.R_drew)); exact HO304.out) (Kd.R_base ho0) hb); have n1_ := Aside0.mk (Kd.R_lower (Kd.R_newB (Kd.R_newB (Kd.R_newB (Kd.R_new' ho0 (Kd.R_lt (by (with_reducible repeat (first | apply Kd.R_alloc | apply Kd.R_drewN | apply Kd.R_drew)); exact HO304.out))) (g := gb264) (o := .cells #[.int .u64 a0_1, .int .i64 a0_2] 27 (0, 0)) (by (with_reducible repeat (first | refine blk_drewN ?_ _ | refine blk_drew ?_ | refine blk_alloc ?_ _)); exact BK264.out)) (g := gb279) (o := .cells #[.int .u64 t276, .int .i64 t277] 27 (0, 0)) (by (with_reducible repeat (first | refine blk_drewN ?_ _ | refine blk_drew ?_ | refine blk_alloc ?_ _)); exact BK279.out)) (g := gb286) (o := .cells #[.int .u64 t283, .int .i64 t284] 27 (0, 0)) (by (with_reducible repeat (first | refine blk_drewN ?_ _ | refine blk_drew ?_ | refine blk_alloc ?_ _)); exact BK286.out)) (below_size (by repeat (first | (with_reducible first | exact HB.out | apply below_alloc | apply pw_below_drewN | apply below_drew1 | refine below_set ?_ GE263.out | refine below_set ?_ GE264.out | refine below_set ?_ GE279.out | refine below_set ?_ GE286.out) | exact HB.out)))); have n2_ := Aside0.mk (blk_below (g := gb263) (o := .cells #[.slice A0_0 l0_0.length c0_0, .int .u64 a0_1, .int .i64 a0_2, .int .u64 a0_3, .int .i64 a0_4] 40 (0, 0)) (by (with_reducible repeat (first | refine blk_drewN ?_ _ | refine blk_drew ?_ | refine blk_alloc ?_ _)); exact BK263.out) hb); have n3_ := Aside0.mk (blk_below (g := gb264) (o := .cells #[.int .u64 a0_1, .int .i64 a0_2] 27 (0, 0)) (by (with_reducible repeat (first | refine blk_drewN ?_ _ | refine blk_drew ?_ | refine blk_alloc ?_ _)); exact BK264.out) hb); have n4_ := Aside0.mk (blk_below (g := gb279) (o := .cells #[.int .u64 t276, .int .i64 t277] 27 (0, 0)) (by (with_reducible repeat (first | refine blk_drewN ?_ _ | refine blk_drew ?_ | refine blk_alloc ?_ _)); exact BK279.out) hb); have n5_ := Aside0.mk (blk_below (g := gb286) (o := .cells #[.int .u64 t283, .int .i64 t284] 27 (0, 0)) (by (with_reducible repeat (first | refine blk_drewN ?_ _ | refine blk_drew ?_ | refine blk_alloc ?_ _)); exact BK286.out) hb); have n6_ := Aside0.mk (below_step (by repeat (first | (with_reducible first | exact HB.out | apply below_alloc | apply pw_below_drewN | apply below_drew1 | refine below_set ?_ GE263.out | refine below_set ?_ GE264.out | refine below_set ?_ GE279.out | refine below_set ?_ GE286.out) | exact HB.out)) hb); clear HO304; clear BK263; clear BK264; clear BK279; clear BK286; clear HB; have HO304 := n0_; have HO307 := n1_; have BK263 := n2_; have BK264 := n3_; have BK279 := n4_; have BK286 := n5_; have HB := n6_; clear n0_ n1_ n2_ n3_ n4_ n5_ n6_; (try clear hb); (try clear hb2); (try clear hk); (try clear hi); (try clear ho0); obtain ⟨Ao93, co93, eo93⟩ := Kd.R_slice HO304.out; subst eo93; obtain ⟨Ao94, co94, eo94⟩ := Kd.R_slice HO307.out; subst eo94) | ((with_reducible refine gate_callee (f := 15) rfl ?_); refine goesL_ (some 93) rfl rfl Try.func15 (by kernel_rfl) rfl #[.slice Ao93 t302.length co93, .slice Ao94 t305.length co94] rfl (by (try simp only [List.map_toArray, List.map_cons, List.map_nil]); first | done | rfl | (simp only [List.length_drop, List.length_take]; rfl)) ?_; (with_reducible refine (stanchionref15_Same.calls kj68 _ _ t302 _ _ t305 true _ ?side1 ?side2 ?side3 ?side4 A81.out).mono ?_); (case side1 => repeat (first | exact (Kd.R_reads' HO304.out).2.2 | (with_reducible refine Kd.C_alloc ?_ _) | (with_reducible refine Kd.C_drewN ?_ _) | (with_reducible refine Kd.C_drew ?_))); (case side2 => exact (Kd.R_reads' HO304.out).2.1); (case side3 => repeat (first | exact (Kd.R_reads' HO307.out).2.2 | (with_reducible refine Kd.C_alloc ?_ _) | (with_reducible refine Kd.C_drewN ?_ _) | (with_reducible refine Kd.C_drew ?_))); (case side4 => exact (Kd.R_reads' HO307.out).2.1); rintro e w' ⟨rfl, ⟨nd, rfl⟩⟩; refine ⟨_, rfl, ?_⟩))
                          (try (rw [drewN_self w92]; generalize hq_ : World.drewN w92 _ = w92; have n0_ : Aside0 (Kd.R k27 27 w92 w.heap.size (fun k_ => some k_ ≠ (.slice Ao94 t305.length co94 : Value).ownBlock ∧ k_ ≠ gb264 ∧ k_ ≠ gb279 ∧ k_ ≠ gb286) (.slice Ao93 t302.length co93) t302) := ⟨by rw [← hq_]; exact (by (with_reducible repeat (first | apply Kd.R_alloc | apply Kd.R_drewN | apply Kd.R_drew)); exact Kd.R_mono HO304.out (fun _ hk => ⟨hk.2, ⟨hk.1.1.1.2, ⟨hk.1.1.2, hk.1.2⟩⟩⟩))⟩; have n1_ : Aside0 (Kd.R k27 27 w92 w.heap.size (fun k_ => some k_ ≠ (.slice Ao93 t302.length co93 : Value).ownBlock ∧ k_ ≠ gb264 ∧ k_ ≠ gb279 ∧ k_ ≠ gb286) (.slice Ao94 t305.length co94) t305) := ⟨by rw [← hq_]; exact (by (with_reducible repeat (first | apply Kd.R_alloc | apply Kd.R_drewN | apply Kd.R_drew)); exact Kd.R_mono HO307.out (fun _ hk => ⟨hk.1.1.1.2, ⟨hk.1.1.2, ⟨hk.1.2, hk.2⟩⟩⟩))⟩; have n2_ : Aside0 (w92.heap[gb263]? = some (.cells #[.slice A0_0 l0_0.length c0_0, .int .u64 a0_1, .int .i64 a0_2, .int .u64 a0_3, .int .i64 a0_4] 40 (0, 0))) := ⟨by rw [← hq_]; exact (by (with_reducible repeat (first | refine blk_drewN ?_ _ | refine blk_drew ?_ | refine blk_alloc ?_ _)); exact BK263.out)⟩; have n3_ : Aside0 (w92.heap[gb264]? = some (.cells #[.int .u64 a0_1, .int .i64 a0_2] 27 (0, 0))) := ⟨by rw [← hq_]; exact (by (with_reducible repeat (first | refine blk_drewN ?_ _ | refine blk_drew ?_ | refine blk_alloc ?_ _)); exact BK264.out)⟩; have n4_ : Aside0 (w92.heap[gb279]? = some (.cells #[.int .u64 t276, .int .i64 t277] 27 (0, 0))) := ⟨by rw [← hq_]; exact (by (with_reducible repeat (first | refine blk_drewN ?_ _ | refine blk_drew ?_ | refine blk_alloc ?_ _)); exact BK279.out)⟩; have n5_ : Aside0 (w92.heap[gb286]? = some (.cells #[.int .u64 t283, .int .i64 t284] 27 (0, 0))) := ⟨by rw [← hq_]; exact (by (with_reducible repeat (first | refine blk_drewN ?_ _ | refine blk_drew ?_ | refine blk_alloc ?_ _)); exact BK286.out)⟩; have n6_ : Aside0 (Below w.heap.size w w92) := ⟨by rw [← hq_]; exact (by repeat (first | (with_reducible first | exact HB.out | apply below_alloc | apply pw_below_drewN | apply below_drew1 | refine below_set ?_ GE263.out | refine below_set ?_ GE264.out | refine below_set ?_ GE279.out | refine below_set ?_ GE286.out) | exact HB.out))⟩; clear HO304 HO307 BK263 BK264 BK279 BK286 HB hq_; have HO304 := n0_; have HO307 := n1_; have BK263 := n2_; have BK264 := n3_; have BK279 := n4_; have BK286 := n5_; have HB := n6_; clear n0_ n1_ n2_ n3_ n4_ n5_ n6_))
                          have n0_ := Aside0.mk (Kd.R_drew HO304.out)
                          have n1_ := Aside0.mk (Kd.R_drew HO307.out)
                          have n2_ := Aside0.mk (blk_drew BK263.out)
                          have n3_ := Aside0.mk (blk_drew BK264.out)
                          have n4_ := Aside0.mk (blk_drew BK279.out)
                          have n5_ := Aside0.mk (blk_drew BK286.out)
                          have n6_ := Aside0.mk (below_drew1 HB.out)
                          clear HO304
                          clear HO307
                          clear BK263
                          clear BK264
                          clear BK279
                          clear BK286
                          clear HB
                          have HO304 := n0_
                          have HO307 := n1_
                          have BK263 := n2_
                          have BK264 := n3_
                          have BK279 := n4_
                          have BK286 := n5_
                          have HB := n6_
                          clear n0_ n1_ n2_ n3_ n4_ n5_ n6_
                          refine start_ (n := 39) (S := fun w' => True) (ds := []) #[false, false, false, false, false, false, false, false, false, false, false, false, false, false, false, false, false, false, false, false, false, false, false, false, false, false, false, false, false, false, false, false, false, false, false, false, false, false, false] (by kernel_rfl) rfl rfl trivial (fun hHeld => ?_); refine with_tabW stanchionlaw15_AlarmActs.tab16 stanchionlaw15_AlarmActs.bits16 (fun HT_ HW_ => ?_)
                          generalize w92.drew = w95 at HO304 HO307 BK263 BK264 BK279 BK286 HB hHeld ⊢
                          refine pure_ (i := 0) (N := some 94) (v := ?_) (a' := ?_) #[true, false, false, false, false, false, false, false, false, false, false, false, false, false, false, false, false, false, false, false, false, false, false, false, false, false, false, false, false, false, false, false, false, false, false, false, false, false, false] rfl rfl (any_of HT_.out (by kernel_rfl)) (fun _ _ _ h => h) (Or.inl ⟨by rfl, ?_⟩) ?_ ?_
                          rotate_left
                          · intro w'
                            go_simp
                            with_reducible rfl
                          rotate_left
                          · simp only [Act.put, List.setIfInBounds_toArray, List.set_cons_zero, List.set_cons_succ, i64_w, i32_w]
                            rfl
                          refine pure_ (i := 1) (N := some 95) (v := ?_) (a' := ?_) #[true, true, false, false, false, false, false, false, false, false, false, false, false, false, false, false, false, false, false, false, false, false, false, false, false, false, false, false, false, false, false, false, false, false, false, false, false, false, false] rfl rfl (any_of HT_.out (by kernel_rfl)) (fun _ _ _ h => h) (Or.inl ⟨by rfl, ?_⟩) ?_ ?_
                          rotate_left
                          · intro w'
                            go_simp
                            with_reducible rfl
                          rotate_left
                          · simp only [Act.put, List.setIfInBounds_toArray, List.set_cons_zero, List.set_cons_succ, i64_w, i32_w]
                            rfl
                          refine pure_ (i := 2) (N := some 96) (v := ?_) (a' := ?_) #[true, true, true, false, false, false, false, false, false, false, false, false, false, false, false, false, false, false, false, false, false, false, false, false, false, false, false, false, false, false, false, false, false, false, false, false, false, false, false] rfl rfl (any_of HT_.out (by kernel_rfl)) (fun _ _ _ h => h) (Or.inl ⟨by rfl, ?_⟩) ?_ ?_
                          rotate_left
                          · intro w'
                            go_simp
                            with_reducible rfl
                          rotate_left
                          · simp only [Act.put, List.setIfInBounds_toArray, List.set_cons_zero, List.set_cons_succ, i64_w, i32_w]
                            rfl
                          refine pure_ (i := 3) (N := some 97) (v := ?_) (a' := ?_) #[true, true, true, true, false, false, false, false, false, false, false, false, false, false, false, false, false, false, false, false, false, false, false, false, false, false, false, false, false, false, false, false, false, false, false, false, false, false, false] rfl rfl (any_of HT_.out (by kernel_rfl)) (fun _ _ _ h => h) (Or.inl ⟨by rfl, ?_⟩) ?_ ?_
                          rotate_left
                          · intro w'
                            go_simp
                            with_reducible rfl
                          rotate_left
                          · simp only [Act.put, List.setIfInBounds_toArray, List.set_cons_zero, List.set_cons_succ, i64_w, i32_w]
                            rfl
                          refine pure_ (i := 4) (N := some 98) (v := ?_) (a' := ?_) #[true, true, true, true, true, false, false, false, false, false, false, false, false, false, false, false, false, false, false, false, false, false, false, false, false, false, false, false, false, false, false, false, false, false, false, false, false, false, false] rfl rfl (any_of HT_.out (by kernel_rfl)) (fun _ _ _ h => h) (Or.inl ⟨by rfl, ?_⟩) ?_ ?_
                          rotate_left
                          · intro w'
                            go_simp
                            with_reducible rfl
                          rotate_left
                          · simp only [Act.put, List.setIfInBounds_toArray, List.set_cons_zero, List.set_cons_succ, i64_w, i32_w]
                            rfl
                          refine pure_ (i := 5) (N := some 99) (v := ?_) (a' := ?_) #[true, true, true, true, true, true, false, false, false, false, false, false, false, false, false, false, false, false, false, false, false, false, false, false, false, false, false, false, false, false, false, false, false, false, false, false, false, false, false] rfl rfl (any_of HT_.out (by kernel_rfl)) (fun _ _ _ h => h) (Or.inl ⟨by rfl, ?_⟩) ?_ ?_
                          rotate_left
                          · intro w'
                            go_simp
                            with_reducible rfl
                          rotate_left
                          · simp only [Act.put, List.setIfInBounds_toArray, List.set_cons_zero, List.set_cons_succ, i64_w, i32_w]
                            rfl
                          refine pure_ (i := 6) (N := some 100) (v := ?_) (a' := ?_) #[true, true, true, true, true, true, true, false, false, false, false, false, false, false, false, false, false, false, false, false, false, false, false, false, false, false, false, false, false, false, false, false, false, false, false, false, false, false, false] rfl rfl (any_of HT_.out (by kernel_rfl)) (fun _ _ _ h => h) (Or.inl ⟨by rfl, ?_⟩) ?_ ?_
                          rotate_left
                          · intro w'
                            go_simp
                            with_reducible rfl
                          rotate_left
                          · simp only [Act.put, List.setIfInBounds_toArray, List.set_cons_zero, List.set_cons_succ, i64_w, i32_w]
                            rfl
                          refine pure_ (i := 7) (N := some 101) (v := ?_) (a' := ?_) #[true, true, true, true, true, true, true, true, false, false, false, false, false, false, false, false, false, false, false, false, false, false, false, false, false, false, false, false, false, false, false, false, false, false, false, false, false, false, false] rfl rfl (any_of HT_.out (by kernel_rfl)) (fun _ _ _ h => h) (Or.inl ⟨by rfl, ?_⟩) ?_ ?_
                          rotate_left
                          · intro w'
                            go_simp
                            with_reducible rfl
                          rotate_left
                          · simp only [Act.put, List.setIfInBounds_toArray, List.set_cons_zero, List.set_cons_succ, i64_w, i32_w]
                            rfl
                          refine pure_ (i := 8) (N := some 102) (v := ?_) (a' := ?_) #[true, true, true, true, true, true, true, true, true, false, false, false, false, false, false, false, false, false, false, false, false, false, false, false, false, false, false, false, false, false, false, false, false, false, false, false, false, false, false] rfl rfl (any_of HT_.out (by kernel_rfl)) (fun _ _ _ h => h) (Or.inl ⟨by rfl, ?_⟩) ?_ ?_
                          rotate_left
                          · intro w'
                            go_simp
                            with_reducible rfl
                          rotate_left
                          · simp only [Act.put, List.setIfInBounds_toArray, List.set_cons_zero, List.set_cons_succ, i64_w, i32_w]
                            rfl
                          refine pure_ (i := 9) (N := some 103) (v := ?_) (a' := ?_) #[true, true, true, true, true, true, true, true, true, true, false, false, false, false, false, false, false, false, false, false, false, false, false, false, false, false, false, false, false, false, false, false, false, false, false, false, false, false, false] rfl rfl (any_of HT_.out (by kernel_rfl)) (fun _ _ _ h => h) (Or.inl ⟨by rfl, ?_⟩) ?_ ?_
                          rotate_left
                          · intro w'
                            go_simp
                            with_reducible rfl
                          rotate_left
                          · simp only [Act.put, List.setIfInBounds_toArray, List.set_cons_zero, List.set_cons_succ, i64_w, i32_w]
                            rfl
                          refine pure_ (i := 10) (N := some 104) (v := ?_) (a' := ?_) #[true, true, true, true, true, true, true, true, true, true, true, false, false, false, false, false, false, false, false, false, false, false, false, false, false, false, false, false, false, false, false, false, false, false, false, false, false, false, false] rfl rfl (any_of HT_.out (by kernel_rfl)) (fun _ _ _ h => h) (Or.inl ⟨by rfl, ?_⟩) ?_ ?_
                          rotate_left
                          · intro w'
                            go_simp
                            with_reducible rfl
                          rotate_left
                          · simp only [Act.put, List.setIfInBounds_toArray, List.set_cons_zero, List.set_cons_succ, i64_w, i32_w]
                            rfl
                          refine pure_ (i := 11) (N := some 105) (v := ?_) (a' := ?_) #[true, true, true, true, true, true, true, true, true, true, true, true, false, false, false, false, false, false, false, false, false, false, false, false, false, false, false, false, false, false, false, false, false, false, false, false, false, false, false] rfl rfl (any_of HT_.out (by kernel_rfl)) (fun _ _ _ h => h) (Or.inl ⟨by rfl, ?_⟩) ?_ ?_
                          rotate_left
                          · intro w'
                            go_simp
                            with_reducible rfl
                          rotate_left
                          · simp only [Act.put, List.setIfInBounds_toArray, List.set_cons_zero, List.set_cons_succ, i64_w, i32_w]
                            rfl
                          refine pure_ (i := 12) (N := some 106) (v := ?_) (a' := ?_) #[true, true, true, true, true, true, true, true, true, true, true, true, true, false, false, false, false, false, false, false, false, false, false, false, false, false, false, false, false, false, false, false, false, false, false, false, false, false, false] rfl rfl (any_of HT_.out (by kernel_rfl)) (fun _ _ _ h => h) (Or.inl ⟨by rfl, ?_⟩) ?_ ?_
                          rotate_left
                          · intro w'
                            go_simp
                            with_reducible rfl
                          rotate_left
                          · simp only [Act.put, List.setIfInBounds_toArray, List.set_cons_zero, List.set_cons_succ, i64_w, i32_w]
                            rfl
                          refine pure_ (i := 13) (N := some 107) (v := ?_) (a' := ?_) #[true, true, true, true, true, true, true, true, true, true, true, true, true, true, false, false, false, false, false, false, false, false, false, false, false, false, false, false, false, false, false, false, false, false, false, false, false, false, false] rfl rfl (any_of HT_.out (by kernel_rfl)) (fun _ _ _ h => h) (Or.inl ⟨by rfl, ?_⟩) ?_ ?_
                          rotate_left
                          · intro w'
                            go_simp
                            with_reducible rfl
                          rotate_left
                          · simp only [Act.put, List.setIfInBounds_toArray, List.set_cons_zero, List.set_cons_succ, i64_w, i32_w]
                            rfl
                          refine pure_ (i := 14) (N := some 108) (v := ?_) (a' := ?_) #[true, true, true, true, true, true, true, true, true, true, true, true, true, true, true, false, false, false, false, false, false, false, false, false, false, false, false, false, false, false, false, false, false, false, false, false, false, false, false] rfl rfl (any_of HT_.out (by kernel_rfl)) (fun _ _ _ h => h) (Or.inl ⟨by rfl, ?_⟩) ?_ ?_
                          rotate_left
                          · intro w'
                            go_simp
                            with_reducible rfl
                          rotate_left
                          · simp only [Act.put, List.setIfInBounds_toArray, List.set_cons_zero, List.set_cons_succ, i64_w, i32_w]
                            rfl
                          refine pure_ (i := 16) (N := some 110) (v := ?_) (a' := ?_) #[true, true, true, true, true, true, true, true, true, true, true, true, true, true, true, false, true, false, false, false, false, false, false, false, false, false, false, false, false, false, false, false, false, false, false, false, false, false, false] rfl rfl (any_of HT_.out (by kernel_rfl)) (fun _ _ _ h => h) (Or.inl ⟨by rfl, ?_⟩) ?_ ?_
                          rotate_left
                          · intro w'
                            go_simp
                            with_reducible rfl
                          rotate_left
                          · simp only [Act.put, List.setIfInBounds_toArray, List.set_cons_zero, List.set_cons_succ, i64_w, i32_w]
                            rfl
                          refine one_ (i := 15) (N := some 109) #[true, true, true, true, true, true, true, true, true, true, true, true, true, true, true, true, true, false, false, false, false, false, false, false, false, false, false, false, false, false, false, false, false, false, false, false, false, false, false] rfl rfl (one_of HT_.out (by kernel_rfl)) (by decide) (fun K hK => ?_)
                          refine goes_ Try.func21 (by kernel_rfl) rfl #[.slice A0_0 l0_0.length c0_0] (by rfl) rfl rfl (by (try simp only [List.map_toArray, List.map_cons, List.map_nil]); first | done | rfl | (simp only [List.length_drop, List.length_take]; rfl)) ?_
                          with_reducible refine (alarm_Heap.calls kj68 _ _ l0_0 t309 _ ?side1 ?side2 A87.out).mono ?_
                          (case side1 => repeat (first | exact (Kd.C_below HR0_0.out HB.out) | (with_reducible refine Kd.C_alloc ?_ _) | (with_reducible refine Kd.C_drewN ?_ _) | (with_reducible refine Kd.C_drew ?_)))
                          (case side2 => exact HC0_0.out)
                          rintro e w96 ⟨rfl, hb⟩
                          refine ⟨_, rfl, ?_⟩
                          have n0_ := Aside0.mk (Kd.R_below (by (with_reducible repeat (first | apply Kd.R_alloc | apply Kd.R_drewN | apply Kd.R_drew)); exact HO304.out) hb)
                          have n1_ := Aside0.mk (Kd.R_below (by (with_reducible repeat (first | apply Kd.R_alloc | apply Kd.R_drewN | apply Kd.R_drew)); exact HO307.out) hb)
                          have n2_ := Aside0.mk (blk_below (g := gb263) (o := .cells #[.slice A0_0 l0_0.length c0_0, .int .u64 a0_1, .int .i64 a0_2, .int .u64 a0_3, .int .i64 a0_4] 40 (0, 0)) (by (with_reducible repeat (first | refine blk_drewN ?_ _ | refine blk_drew ?_ | refine blk_alloc ?_ _)); exact BK263.out) hb)
                          have n3_ := Aside0.mk (blk_below (g := gb264) (o := .cells #[.int .u64 a0_1, .int .i64 a0_2] 27 (0, 0)) (by (with_reducible repeat (first | refine blk_drewN ?_ _ | refine blk_drew ?_ | refine blk_alloc ?_ _)); exact BK264.out) hb)
                          have n4_ := Aside0.mk (blk_below (g := gb279) (o := .cells #[.int .u64 t276, .int .i64 t277] 27 (0, 0)) (by (with_reducible repeat (first | refine blk_drewN ?_ _ | refine blk_drew ?_ | refine blk_alloc ?_ _)); exact BK279.out) hb)
                          have n5_ := Aside0.mk (blk_below (g := gb286) (o := .cells #[.int .u64 t283, .int .i64 t284] 27 (0, 0)) (by (with_reducible repeat (first | refine blk_drewN ?_ _ | refine blk_drew ?_ | refine blk_alloc ?_ _)); exact BK286.out) hb)
                          have n6_ := Aside0.mk (below_step (by repeat (first | (with_reducible first | exact HB.out | apply below_alloc | apply pw_below_drewN | apply below_drew1 | refine below_set ?_ GE263.out | refine below_set ?_ GE264.out | refine below_set ?_ GE279.out | refine below_set ?_ GE286.out) | exact HB.out)) hb)
                          clear HO304
                          clear HO307
                          clear BK263
                          clear BK264
                          clear BK279
                          clear BK286
                          clear HB
                          have HO304 := n0_
                          have HO307 := n1_
                          have BK263 := n2_
                          have BK264 := n3_
                          have BK279 := n4_
                          have BK286 := n5_
                          have HB := n6_
                          clear n0_ n1_ n2_ n3_ n4_ n5_ n6_
                          (try clear hb)
                          (try clear hb2)
                          (try clear hk)
                          (try clear hi)
                          refine hK.out _ _ trivial (fun hHeld => ?_)
                          clear hK K
                          refine norm_ (a' := ?_) ?_ ?_
                          rotate_left
                          · show Act.put _ (some 109) _ = _
                            simp only [Act.put, List.setIfInBounds_toArray, List.set_cons_zero, List.set_cons_succ, i64_w, i32_w]
                            rfl
                          refine one_ (i := 17) (N := some 111) #[true, true, true, true, true, true, true, true, true, true, true, true, true, true, true, true, true, true, false, false, false, false, false, false, false, false, false, false, false, false, false, false, false, false, false, false, false, false, false] rfl rfl (one_of HT_.out (by kernel_rfl)) (by decide) (fun K hK => ?_)
                          refine goes_ Try.func12 (by kernel_rfl) rfl #[.slice A0_0 l0_0.length c0_0] (by rfl) rfl rfl (by (try simp only [List.map_toArray, List.map_cons, List.map_nil]); first | done | rfl | (simp only [List.length_drop, List.length_take]; rfl)) ?_
                          with_reducible refine (stanchionref15_Heap.calls kj68 _ _ l0_0 t310 _ ?side1 ?side2 A88.out).mono ?_
                          (case side1 => repeat (first | exact (Kd.C_below HR0_0.out HB.out) | (with_reducible refine Kd.C_alloc ?_ _) | (with_reducible refine Kd.C_drewN ?_ _) | (with_reducible refine Kd.C_drew ?_)))
                          (case side2 => exact HC0_0.out)
                          rintro e w97 ⟨rfl, hb⟩
                          refine ⟨_, rfl, ?_⟩
                          have n0_ := Aside0.mk (Kd.R_below (by (with_reducible repeat (first | apply Kd.R_alloc | apply Kd.R_drewN | apply Kd.R_drew)); exact HO304.out) hb)
                          have n1_ := Aside0.mk (Kd.R_below (by (with_reducible repeat (first | apply Kd.R_alloc | apply Kd.R_drewN | apply Kd.R_drew)); exact HO307.out) hb)
                          have n2_ := Aside0.mk (blk_below (g := gb263) (o := .cells #[.slice A0_0 l0_0.length c0_0, .int .u64 a0_1, .int .i64 a0_2, .int .u64 a0_3, .int .i64 a0_4] 40 (0, 0)) (by (with_reducible repeat (first | refine blk_drewN ?_ _ | refine blk_drew ?_ | refine blk_alloc ?_ _)); exact BK263.out) hb)
                          have n3_ := Aside0.mk (blk_below (g := gb264) (o := .cells #[.int .u64 a0_1, .int .i64 a0_2] 27 (0, 0)) (by (with_reducible repeat (first | refine blk_drewN ?_ _ | refine blk_drew ?_ | refine blk_alloc ?_ _)); exact BK264.out) hb)
                          have n4_ := Aside0.mk (blk_below (g := gb279) (o := .cells #[.int .u64 t276, .int .i64 t277] 27 (0, 0)) (by (with_reducible repeat (first | refine blk_drewN ?_ _ | refine blk_drew ?_ | refine blk_alloc ?_ _)); exact BK279.out) hb)
                          have n5_ := Aside0.mk (blk_below (g := gb286) (o := .cells #[.int .u64 t283, .int .i64 t284] 27 (0, 0)) (by (with_reducible repeat (first | refine blk_drewN ?_ _ | refine blk_drew ?_ | refine blk_alloc ?_ _)); exact BK286.out) hb)
                          have n6_ := Aside0.mk (below_step (by repeat (first | (with_reducible first | exact HB.out | apply below_alloc | apply pw_below_drewN | apply below_drew1 | refine below_set ?_ GE263.out | refine below_set ?_ GE264.out | refine below_set ?_ GE279.out | refine below_set ?_ GE286.out) | exact HB.out)) hb)
                          clear HO304
                          clear HO307
                          clear BK263
                          clear BK264
                          clear BK279
                          clear BK286
                          clear HB
                          have HO304 := n0_
                          have HO307 := n1_
                          have BK263 := n2_
                          have BK264 := n3_
                          have BK279 := n4_
                          have BK286 := n5_
                          have HB := n6_
                          clear n0_ n1_ n2_ n3_ n4_ n5_ n6_
                          (try clear hb)
                          (try clear hb2)
                          (try clear hk)
                          (try clear hi)
                          refine hK.out _ _ trivial (fun hHeld => ?_)
                          clear hK K
                          refine norm_ (a' := ?_) ?_ ?_
                          rotate_left
                          · show Act.put _ (some 111) _ = _
                            simp only [Act.put, List.setIfInBounds_toArray, List.set_cons_zero, List.set_cons_succ, i64_w, i32_w]
                            rfl
                          refine pure_ (i := 18) (N := some 112) (v := ?_) (a' := ?_) #[true, true, true, true, true, true, true, true, true, true, true, true, true, true, true, true, true, true, true, false, false, false, false, false, false, false, false, false, false, false, false, false, false, false, false, false, false, false, false] rfl rfl (any_of HT_.out (by kernel_rfl)) (fun _ _ _ h => h) (Or.inl ⟨by rfl, ?_⟩) ?_ ?_
                          rotate_left
                          · intro w'
                            go_simp
                            with_reducible rfl
                          rotate_left
                          · simp only [Act.put, List.setIfInBounds_toArray, List.set_cons_zero, List.set_cons_succ, i64_w, i32_w]
                            rfl
                          refine pure_ (i := 19) (N := some 113) (v := ?_) (a' := ?_) #[true, true, true, true, true, true, true, true, true, true, true, true, true, true, true, true, true, true, true, true, false, false, false, false, false, false, false, false, false, false, false, false, false, false, false, false, false, false, false] rfl rfl (any_of HT_.out (by kernel_rfl)) (fun _ _ _ h => h) (Or.inl ⟨by rfl, ?_⟩) ?_ ?_
                          rotate_left
                          · intro w'
                            go_simp
                            with_reducible rfl
                          rotate_left
                          · simp only [Act.put, List.setIfInBounds_toArray, List.set_cons_zero, List.set_cons_succ, i64_w, i32_w]
                            rfl
                          refine pure_ (i := 20) (N := some 114) (v := ?_) (a' := ?_) #[true, true, true, true, true, true, true, true, true, true, true, true, true, true, true, true, true, true, true, true, true, false, false, false, false, false, false, false, false, false, false, false, false, false, false, false, false, false, false] rfl rfl (any_of HT_.out (by kernel_rfl)) (fun _ _ _ h => h) (Or.inl ⟨by rfl, ?_⟩) ?_ ?_
                          rotate_left
                          · intro w'
                            go_simp
                            with_reducible rfl
                          rotate_left
                          · simp only [Act.put, List.setIfInBounds_toArray, List.set_cons_zero, List.set_cons_succ, i64_w, i32_w]
                            rfl
                          refine pure_ (i := 21) (N := some 115) (v := ?_) (a' := ?_) #[true, true, true, true, true, true, true, true, true, true, true, true, true, true, true, true, true, true, true, true, true, true, false, false, false, false, false, false, false, false, false, false, false, false, false, false, false, false, false] rfl rfl (any_of HT_.out (by kernel_rfl)) (fun _ _ _ h => h) (Or.inl ⟨by rfl, ?_⟩) ?_ ?_
                          rotate_left
                          · intro w'
                            go_simp
                            with_reducible rfl
                          rotate_left
                          · simp only [Act.put, List.setIfInBounds_toArray, List.set_cons_zero, List.set_cons_succ, i64_w, i32_w]
                            rfl
                          refine pure_ (i := 22) (N := some 116) (v := ?_) (a' := ?_) #[true, true, true, true, true, true, true, true, true, true, true, true, true, true, true, true, true, true, true, true, true, true, true, false, false, false, false, false, false, false, false, false, false, false, false, false, false, false, false] rfl rfl (any_of HT_.out (by kernel_rfl)) (fun _ _ _ h => h) (Or.inl ⟨by rfl, ?_⟩) ?_ ?_
                          rotate_left
                          · intro w'
                            go_simp
                            with_reducible rfl
                          rotate_left
                          · simp only [Act.put, List.setIfInBounds_toArray, List.set_cons_zero, List.set_cons_succ, i64_w, i32_w]
                            rfl
                          refine pure_ (i := 23) (N := some 117) (v := ?_) (a' := ?_) #[true, true, true, true, true, true, true, true, true, true, true, true, true, true, true, true, true, true, true, true, true, true, true, true, false, false, false, false, false, false, false, false, false, false, false, false, false, false, false] rfl rfl (any_of HT_.out (by kernel_rfl)) (fun _ _ _ h => h) (Or.inl ⟨by rfl, ?_⟩) ?_ ?_
                          rotate_left
                          · intro w'
                            go_simp
                            with_reducible rfl
                          rotate_left
                          · simp only [Act.put, List.setIfInBounds_toArray, List.set_cons_zero, List.set_cons_succ, i64_w, i32_w]
                            rfl
                          refine pure_ (i := 24) (N := some 118) (v := ?_) (a' := ?_) #[true, true, true, true, true, true, true, true, true, true, true, true, true, true, true, true, true, true, true, true, true, true, true, true, true, false, false, false, false, false, false, false, false, false, false, false, false, false, false] rfl rfl (any_of HT_.out (by kernel_rfl)) (fun _ _ _ h => h) (Or.inl ⟨by rfl, ?_⟩) ?_ ?_
                          rotate_left
                          · intro w'
                            go_simp
                            with_reducible rfl
                          rotate_left
                          · simp only [Act.put, List.setIfInBounds_toArray, List.set_cons_zero, List.set_cons_succ, i64_w, i32_w]
                            rfl
                          refine pure_ (i := 25) (N := some 119) (v := undef) (a' := ?_) #[true, true, true, true, true, true, true, true, true, true, true, true, true, true, true, true, true, true, true, true, true, true, true, true, true, true, false, false, false, false, false, false, false, false, false, false, false, false, false] rfl rfl (any_of HT_.out (by kernel_rfl)) (fun _ _ _ h => h) (Or.inr ⟨by rfl, rfl⟩) ?_ ?_
                          rotate_left
                          · simp only [Act.put, List.setIfInBounds_toArray, List.set_cons_zero, List.set_cons_succ, i64_w, i32_w]
                            rfl
                          refine pure_ (i := 26) (N := some 120) (v := undef) (a' := ?_) #[true, true, true, true, true, true, true, true, true, true, true, true, true, true, true, true, true, true, true, true, true, true, true, true, true, true, true, false, false, false, false, false, false, false, false, false, false, false, false] rfl rfl (any_of HT_.out (by kernel_rfl)) (fun _ _ _ h => h) (Or.inr ⟨by rfl, rfl⟩) ?_ ?_
                          rotate_left
                          · simp only [Act.put, List.setIfInBounds_toArray, List.set_cons_zero, List.set_cons_succ, i64_w, i32_w]
                            rfl
                          refine pure_ (i := 27) (N := some 121) (v := undef) (a' := ?_) #[true, true, true, true, true, true, true, true, true, true, true, true, true, true, true, true, true, true, true, true, true, true, true, true, true, true, true, true, false, false, false, false, false, false, false, false, false, false, false] rfl rfl (any_of HT_.out (by kernel_rfl)) (fun _ _ _ h => h) (Or.inr ⟨by rfl, rfl⟩) ?_ ?_
                          rotate_left
                          · simp only [Act.put, List.setIfInBounds_toArray, List.set_cons_zero, List.set_cons_succ, i64_w, i32_w]
                            rfl
                          refine pure_ (i := 28) (N := some 122) (v := undef) (a' := ?_) #[true, true, true, true, true, true, true, true, true, true, true, true, true, true, true, true, true, true, true, true, true, true, true, true, true, true, true, true, true, false, false, false, false, false, false, false, false, false, false] rfl rfl (any_of HT_.out (by kernel_rfl)) (fun _ _ _ h => h) (Or.inr ⟨by rfl, rfl⟩) ?_ ?_
                          rotate_left
                          · simp only [Act.put, List.setIfInBounds_toArray, List.set_cons_zero, List.set_cons_succ, i64_w, i32_w]
                            rfl
                          refine pure_ (i := 29) (N := some 123) (v := undef) (a' := ?_) #[true, true, true, true, true, true, true, true, true, true, true, true, true, true, true, true, true, true, true, true, true, true, true, true, true, true, true, true, true, true, false, false, false, false, false, false, false, false, false] rfl rfl (any_of HT_.out (by kernel_rfl)) (fun _ _ _ h => h) (Or.inr ⟨by rfl, rfl⟩) ?_ ?_
                          rotate_left
                          · simp only [Act.put, List.setIfInBounds_toArray, List.set_cons_zero, List.set_cons_succ, i64_w, i32_w]
                            rfl
                          refine pure_ (i := 30) (N := some 124) (v := undef) (a' := ?_) #[true, true, true, true, true, true, true, true, true, true, true, true, true, true, true, true, true, true, true, true, true, true, true, true, true, true, true, true, true, true, true, false, false, false, false, false, false, false, false] rfl rfl (any_of HT_.out (by kernel_rfl)) (fun _ _ _ h => h) (Or.inr ⟨by rfl, rfl⟩) ?_ ?_
                          rotate_left
                          · simp only [Act.put, List.setIfInBounds_toArray, List.set_cons_zero, List.set_cons_succ, i64_w, i32_w]
                            rfl
                          refine pure_ (i := 31) (N := some 125) (v := undef) (a' := ?_) #[true, true, true, true, true, true, true, true, true, true, true, true, true, true, true, true, true, true, true, true, true, true, true, true, true, true, true, true, true, true, true, true, false, false, false, false, false, false, false] rfl rfl (any_of HT_.out (by kernel_rfl)) (fun _ _ _ h => h) (Or.inr ⟨by rfl, rfl⟩) ?_ ?_
                          rotate_left
                          · simp only [Act.put, List.setIfInBounds_toArray, List.set_cons_zero, List.set_cons_succ, i64_w, i32_w]
                            rfl
                          refine pure_ (i := 32) (N := some 126) (v := undef) (a' := ?_) #[true, true, true, true, true, true, true, true, true, true, true, true, true, true, true, true, true, true, true, true, true, true, true, true, true, true, true, true, true, true, true, true, true, false, false, false, false, false, false] rfl rfl (any_of HT_.out (by kernel_rfl)) (fun _ _ _ h => h) (Or.inr ⟨by rfl, rfl⟩) ?_ ?_
                          rotate_left
                          · simp only [Act.put, List.setIfInBounds_toArray, List.set_cons_zero, List.set_cons_succ, i64_w, i32_w]
                            rfl
                          refine pure_ (i := 33) (N := some 127) (v := undef) (a' := ?_) #[true, true, true, true, true, true, true, true, true, true, true, true, true, true, true, true, true, true, true, true, true, true, true, true, true, true, true, true, true, true, true, true, true, true, false, false, false, false, false] rfl rfl (any_of HT_.out (by kernel_rfl)) (fun _ _ _ h => h) (Or.inr ⟨by rfl, rfl⟩) ?_ ?_
                          rotate_left
                          · simp only [Act.put, List.setIfInBounds_toArray, List.set_cons_zero, List.set_cons_succ, i64_w, i32_w]
                            rfl
                          refine pure_ (i := 34) (N := some 128) (v := undef) (a' := ?_) #[true, true, true, true, true, true, true, true, true, true, true, true, true, true, true, true, true, true, true, true, true, true, true, true, true, true, true, true, true, true, true, true, true, true, true, false, false, false, false] rfl rfl (any_of HT_.out (by kernel_rfl)) (fun _ _ _ h => h) (Or.inr ⟨by rfl, rfl⟩) ?_ ?_
                          rotate_left
                          · simp only [Act.put, List.setIfInBounds_toArray, List.set_cons_zero, List.set_cons_succ, i64_w, i32_w]
                            rfl
                          refine pure_ (i := 35) (N := some 129) (v := undef) (a' := ?_) #[true, true, true, true, true, true, true, true, true, true, true, true, true, true, true, true, true, true, true, true, true, true, true, true, true, true, true, true, true, true, true, true, true, true, true, true, false, false, false] rfl rfl (any_of HT_.out (by kernel_rfl)) (fun _ _ _ h => h) (Or.inr ⟨by rfl, rfl⟩) ?_ ?_
                          rotate_left
                          · simp only [Act.put, List.setIfInBounds_toArray, List.set_cons_zero, List.set_cons_succ, i64_w, i32_w]
                            rfl
                          refine pure_ (i := 36) (N := some 130) (v := ?_) (a' := ?_) #[true, true, true, true, true, true, true, true, true, true, true, true, true, true, true, true, true, true, true, true, true, true, true, true, true, true, true, true, true, true, true, true, true, true, true, true, true, false, false] rfl rfl (any_of HT_.out (by kernel_rfl)) (fun _ _ _ h => h) (Or.inl ⟨by rfl, ?_⟩) ?_ ?_
                          rotate_left
                          · intro w'
                            go_simp
                            with_reducible rfl
                          rotate_left
                          · simp only [Act.put, List.setIfInBounds_toArray, List.set_cons_zero, List.set_cons_succ, i64_w, i32_w]
                            rfl
                          refine pure_ (i := 37) (N := some 131) (v := ?_) (a' := ?_) #[true, true, true, true, true, true, true, true, true, true, true, true, true, true, true, true, true, true, true, true, true, true, true, true, true, true, true, true, true, true, true, true, true, true, true, true, true, true, false] rfl rfl (any_of HT_.out (by kernel_rfl)) (fun _ _ _ h => h) (Or.inl ⟨by rfl, ?_⟩) ?_ ?_
                          rotate_left
                          · intro w'
                            go_simp
                            with_reducible rfl
                          rotate_left
                          · simp only [Act.put, List.setIfInBounds_toArray, List.set_cons_zero, List.set_cons_succ, i64_w, i32_w]
                            rfl
                          refine pure_ (i := 38) (N := some 2) (v := ?_) (a' := ?_) #[true, true, true, true, true, true, true, true, true, true, true, true, true, true, true, true, true, true, true, true, true, true, true, true, true, true, true, true, true, true, true, true, true, true, true, true, true, true, true] rfl rfl (any_of HT_.out (by kernel_rfl)) (fun _ _ _ h => h) (Or.inl ⟨by rfl, ?_⟩) ?_ ?_
                          rotate_left
                          · intro w'
                            go_simp
                            with_reducible rfl
                          rotate_left
                          · simp only [Act.put, List.setIfInBounds_toArray, List.set_cons_zero, List.set_cons_succ, i64_w, i32_w]
                            rfl
                          refine done_ (done_of HT_.out (by kernel_rfl)) ?_
                          try go_wp2
                          go_ret
                          exact ⟨by first | rfl | (simp [errW_none, errW_some] <;> rfl) | (simp [*, errW_none, errW_some] <;> rfl), by repeat (first | (with_reducible first | exact HB.out | apply below_alloc | apply pw_below_drewN | apply below_drew1 | refine below_set ?_ GE263.out | refine below_set ?_ GE264.out | refine below_set ?_ GE279.out | refine below_set ?_ GE286.out) | exact HB.out)⟩
                        · rw [if_neg c90] at H
                          have c90b0 : ((l0_0.length : Int) == 0) = false := beq_eq_false_iff_ne.mpr c90
                          have c90b1 : ((l0_0.length : Int) != 0) = true := bne_iff_ne.mpr c90
                          have c90b2 : ¬ (l0_0 = []) := fun h_ => c90 (by rw [h_]; rfl)
                          by_cases c98 : 0 < (l0_0.length : Int)
                          · rw [if_pos c98] at H
                            have c98b0 : decide (0 < (l0_0.length : Int)) = true := decide_eq_true c98
                            have c98b1 : decide (0 < l0_0.length) = true := decide_eq_true (by omega)
                            clear c98
                            replace H := Option.bind_eq_some_iff.mp H
                            obtain ⟨t312, A990, H⟩ := H
                            replace H : ((stanchionref15_Less.f ((rd_T27 l0_0 0).f0) ((rd_T27 l0_0 0).f1) a0_1 a0_2).bind fun t314 => (some (t312 == t314))) = some r := H
                            have A99 := Aside0.mk A990
                            clear A990
                            replace H := Option.bind_eq_some_iff.mp H
                            obtain ⟨t314, A1000, H⟩ := H
                            replace H : (some (t312 == t314)) = some r := H
                            have A100 := Aside0.mk A1000
                            clear A1000
                            obtain rfl := Option.some.inj H
                            try go_wp2_with (first | ((with_reducible refine gate_callee (f := 14) rfl ?_); refine goesL_ (some 89) rfl rfl Try.func14 (by kernel_rfl) rfl #[.slice A0_0 l0_0.length c0_0, .int .i64 a0_4] rfl (by (try simp only [List.map_toArray, List.map_cons, List.map_nil]); first | done | rfl | (simp only [List.length_drop, List.length_take]; rfl)) ?_; (with_reducible refine (alarm_Drop.calls kj68 _ _ l0_0 a0_4 t302 _ ?side1 ?side2 A79.out).mono ?_); (case side1 => repeat (first | exact (Kd.C_below HR0_0.out HB.out) | (with_reducible refine Kd.C_alloc ?_ _) | (with_reducible refine Kd.C_drewN ?_ _) | (with_reducible refine Kd.C_drew ?_))); (case side2 => exact HC0_0.out); rintro e w101 ⟨v303, rfl, ho0, hb⟩; refine ⟨_, rfl, ?_⟩; have n0_ := Aside0.mk (Kd.R_lower (Kd.R_newB (Kd.R_newB (Kd.R_newB ho0 (g := gb264) (o := .cells #[.int .u64 a0_1, .int .i64 a0_2] 27 (0, 0)) (by (with_reducible repeat (first | refine blk_drewN ?_ _ | refine blk_drew ?_ | refine blk_alloc ?_ _)); exact BK264.out)) (g := gb279) (o := .cells #[.int .u64 t276, .int .i64 t277] 27 (0, 0)) (by (with_reducible repeat (first | refine blk_drewN ?_ _ | refine blk_drew ?_ | refine blk_alloc ?_ _)); exact BK279.out)) (g := gb286) (o := .cells #[.int .u64 t283, .int .i64 t284] 27 (0, 0)) (by (with_reducible repeat (first | refine blk_drewN ?_ _ | refine blk_drew ?_ | refine blk_alloc ?_ _)); exact BK286.out)) (below_size (by repeat (first | (with_reducible first | exact HB.out | apply below_alloc | apply pw_below_drewN | apply below_drew1 | refine below_set ?_ GE263.out | refine below_set ?_ GE264.out | refine below_set ?_ GE279.out | refine below_set ?_ GE286.out) | exact HB.out)))); have n1_ := Aside0.mk (blk_below (g := gb263) (o := .cells #[.slice A0_0 l0_0.length c0_0, .int .u64 a0_1, .int .i64 a0_2, .int .u64 a0_3, .int .i64 a0_4] 40 (0, 0)) (by (with_reducible repeat (first | refine blk_drewN ?_ _ | refine blk_drew ?_ | refine blk_alloc ?_ _)); exact BK263.out) hb); have n2_ := Aside0.mk (blk_below (g := gb264) (o := .cells #[.int .u64 a0_1, .int .i64 a0_2] 27 (0, 0)) (by (with_reducible repeat (first | refine blk_drewN ?_ _ | refine blk_drew ?_ | refine blk_alloc ?_ _)); exact BK264.out) hb); have n3_ := Aside0.mk (blk_below (g := gb279) (o := .cells #[.int .u64 t276, .int .i64 t277] 27 (0, 0)) (by (with_reducible repeat (first | refine blk_drewN ?_ _ | refine blk_drew ?_ | refine blk_alloc ?_ _)); exact BK279.out) hb); have n4_ := Aside0.mk (blk_below (g := gb286) (o := .cells #[.int .u64 t283, .int .i64 t284] 27 (0, 0)) (by (with_reducible repeat (first | refine blk_drewN ?_ _ | refine blk_drew ?_ | refine blk_alloc ?_ _)); exact BK286.out) hb); have n5_ := Aside0.mk (below_step (by repeat (first | (with_reducible first | exact HB.out | apply below_alloc | apply pw_below_drewN | apply below_drew1 | refine below_set ?_ GE263.out | refine below_set ?_ GE264.out | refine below_set ?_ GE279.out | refine below_set ?_ GE286.out) | exact HB.out)) hb); clear BK263; clear BK264; clear BK279; clear BK286; clear HB; have HO304 := n0_; have BK263 := n1_; have BK264 := n2_; have BK279 := n3_; have BK286 := n4_; have HB := n5_; clear n0_ n1_ n2_ n3_ n4_ n5_; (try clear hb); (try clear hb2); (try clear hk); (try clear hi); (try clear ho0)) | ((with_reducible refine gate_callee (f := 20) rfl ?_); refine goesL_ (some 92) rfl rfl Try.func20 (by kernel_rfl) rfl #[.slice A0_0 l0_0.length c0_0, .int .i64 a0_4] rfl (by (try simp only [List.map_toArray, List.map_cons, List.map_nil]); first | done | rfl | (simp only [List.length_drop, List.length_take]; rfl)) ?_; (with_reducible refine (stanchionref15_Drop.calls kj68 _ _ l0_0 a0_4 t305 _ ?side1 ?side2 A80.out).mono ?_); (case side1 => repeat (first | exact (Kd.C_below HR0_0.out HB.out) | (with_reducible refine Kd.C_alloc ?_ _) | (with_reducible refine Kd.C_drewN ?_ _) | (with_reducible refine Kd.C_drew ?_))); (case side2 => exact HC0_0.out); rintro e w102 ⟨v306, rfl, ho0, hb⟩; refine ⟨_, rfl, ?_⟩; have n0_ := Aside0.mk (Kd.R_elder' (by (with_reducible repeat (first | apply Kd.R_alloc | apply Kd.R_drewN | apply Kd.R_drew)); exact HO304.out) (Kd.R_base ho0) hb); have n1_ := Aside0.mk (Kd.R_lower (Kd.R_newB (Kd.R_newB (Kd.R_newB (Kd.R_new' ho0 (Kd.R_lt (by (with_reducible repeat (first | apply Kd.R_alloc | apply Kd.R_drewN | apply Kd.R_drew)); exact HO304.out))) (g := gb264) (o := .cells #[.int .u64 a0_1, .int .i64 a0_2] 27 (0, 0)) (by (with_reducible repeat (first | refine blk_drewN ?_ _ | refine blk_drew ?_ | refine blk_alloc ?_ _)); exact BK264.out)) (g := gb279) (o := .cells #[.int .u64 t276, .int .i64 t277] 27 (0, 0)) (by (with_reducible repeat (first | refine blk_drewN ?_ _ | refine blk_drew ?_ | refine blk_alloc ?_ _)); exact BK279.out)) (g := gb286) (o := .cells #[.int .u64 t283, .int .i64 t284] 27 (0, 0)) (by (with_reducible repeat (first | refine blk_drewN ?_ _ | refine blk_drew ?_ | refine blk_alloc ?_ _)); exact BK286.out)) (below_size (by repeat (first | (with_reducible first | exact HB.out | apply below_alloc | apply pw_below_drewN | apply below_drew1 | refine below_set ?_ GE263.out | refine below_set ?_ GE264.out | refine below_set ?_ GE279.out | refine below_set ?_ GE286.out) | exact HB.out)))); have n2_ := Aside0.mk (blk_below (g := gb263) (o := .cells #[.slice A0_0 l0_0.length c0_0, .int .u64 a0_1, .int .i64 a0_2, .int .u64 a0_3, .int .i64 a0_4] 40 (0, 0)) (by (with_reducible repeat (first | refine blk_drewN ?_ _ | refine blk_drew ?_ | refine blk_alloc ?_ _)); exact BK263.out) hb); have n3_ := Aside0.mk (blk_below (g := gb264) (o := .cells #[.int .u64 a0_1, .int .i64 a0_2] 27 (0, 0)) (by (with_reducible repeat (first | refine blk_drewN ?_ _ | refine blk_drew ?_ | refine blk_alloc ?_ _)); exact BK264.out) hb); have n4_ := Aside0.mk (blk_below (g := gb279) (o := .cells #[.int .u64 t276, .int .i64 t277] 27 (0, 0)) (by (with_reducible repeat (first | refine blk_drewN ?_ _ | refine blk_drew ?_ | refine blk_alloc ?_ _)); exact BK279.out) hb); have n5_ := Aside0.mk (blk_below (g := gb286) (o := .cells #[.int .u64 t283, .int .i64 t284] 27 (0, 0)) (by (with_reducible repeat (first | refine blk_drewN ?_ _ | refine blk_drew ?_ | refine blk_alloc ?_ _)); exact BK286.out) hb); have n6_ := Aside0.mk (below_step (by repeat (first | (with_reducible first | exact HB.out | apply below_alloc | apply pw_below_drewN | apply below_drew1 | refine below_set ?_ GE263.out | refine below_set ?_ GE264.out | refine below_set ?_ GE279.out | refine below_set ?_ GE286.out) | exact HB.out)) hb); clear HO304; clear BK263; clear BK264; clear BK279; clear BK286; clear HB; have HO304 := n0_; have HO307 := n1_; have BK263 := n2_; have BK264 := n3_; have BK279 := n4_; have BK286 := n5_; have HB := n6_; clear n0_ n1_ n2_ n3_ n4_ n5_ n6_; (try clear hb); (try clear hb2); (try clear hk); (try clear hi); (try clear ho0); obtain ⟨Ao103, co103, eo103⟩ := Kd.R_slice HO304.out; subst eo103; obtain ⟨Ao104, co104, eo104⟩ := Kd.R_slice HO307.out; subst eo104) | ((with_reducible refine gate_callee (f := 15) rfl ?_); refine goesL_ (some 93) rfl rfl Try.func15 (by kernel_rfl) rfl #[.slice Ao103 t302.length co103, .slice Ao104 t305.length co104] rfl (by (try simp only [List.map_toArray, List.map_cons, List.map_nil]); first | done | rfl | (simp only [List.length_drop, List.length_take]; rfl)) ?_; (with_reducible refine (stanchionref15_Same.calls kj68 _ _ t302 _ _ t305 true _ ?side1 ?side2 ?side3 ?side4 A81.out).mono ?_); (case side1 => repeat (first | exact (Kd.R_reads' HO304.out).2.2 | (with_reducible refine Kd.C_alloc ?_ _) | (with_reducible refine Kd.C_drewN ?_ _) | (with_reducible refine Kd.C_drew ?_))); (case side2 => exact (Kd.R_reads' HO304.out).2.1); (case side3 => repeat (first | exact (Kd.R_reads' HO307.out).2.2 | (with_reducible refine Kd.C_alloc ?_ _) | (with_reducible refine Kd.C_drewN ?_ _) | (with_reducible refine Kd.C_drew ?_))); (case side4 => exact (Kd.R_reads' HO307.out).2.1); rintro e w' ⟨rfl, ⟨nd, rfl⟩⟩; refine ⟨_, rfl, ?_⟩))
                            (try (rw [drewN_self w102]; generalize hq_ : World.drewN w102 _ = w102; have n0_ : Aside0 (Kd.R k27 27 w102 w.heap.size (fun k_ => some k_ ≠ (.slice Ao104 t305.length co104 : Value).ownBlock ∧ k_ ≠ gb264 ∧ k_ ≠ gb279 ∧ k_ ≠ gb286) (.slice Ao103 t302.length co103) t302) := ⟨by rw [← hq_]; exact (by (with_reducible repeat (first | apply Kd.R_alloc | apply Kd.R_drewN | apply Kd.R_drew)); exact Kd.R_mono HO304.out (fun _ hk => ⟨hk.2, ⟨hk.1.1.1.2, ⟨hk.1.1.2, hk.1.2⟩⟩⟩))⟩; have n1_ : Aside0 (Kd.R k27 27 w102 w.heap.size (fun k_ => some k_ ≠ (.slice Ao103 t302.length co103 : Value).ownBlock ∧ k_ ≠ gb264 ∧ k_ ≠ gb279 ∧ k_ ≠ gb286) (.slice Ao104 t305.length co104) t305) := ⟨by rw [← hq_]; exact (by (with_reducible repeat (first | apply Kd.R_alloc | apply Kd.R_drewN | apply Kd.R_drew)); exact Kd.R_mono HO307.out (fun _ hk => ⟨hk.1.1.1.2, ⟨hk.1.1.2, ⟨hk.1.2, hk.2⟩⟩⟩))⟩; have n2_ : Aside0 (w102.heap[gb263]? = some (.cells #[.slice A0_0 l0_0.length c0_0, .int .u64 a0_1, .int .i64 a0_2, .int .u64 a0_3, .int .i64 a0_4] 40 (0, 0))) := ⟨by rw [← hq_]; exact (by (with_reducible repeat (first | refine blk_drewN ?_ _ | refine blk_drew ?_ | refine blk_alloc ?_ _)); exact BK263.out)⟩; have n3_ : Aside0 (w102.heap[gb264]? = some (.cells #[.int .u64 a0_1, .int .i64 a0_2] 27 (0, 0))) := ⟨by rw [← hq_]; exact (by (with_reducible repeat (first | refine blk_drewN ?_ _ | refine blk_drew ?_ | refine blk_alloc ?_ _)); exact BK264.out)⟩; have n4_ : Aside0 (w102.heap[gb279]? = some (.cells #[.int .u64 t276, .int .i64 t277] 27 (0, 0))) := ⟨by rw [← hq_]; exact (by (with_reducible repeat (first | refine blk_drewN ?_ _ | refine blk_drew ?_ | refine blk_alloc ?_ _)); exact BK279.out)⟩; have n5_ : Aside0 (w102.heap[gb286]? = some (.cells #[.int .u64 t283, .int .i64 t284] 27 (0, 0))) := ⟨by rw [← hq_]; exact (by (with_reducible repeat (first | refine blk_drewN ?_ _ | refine blk_drew ?_ | refine blk_alloc ?_ _)); exact BK286.out)⟩; have n6_ : Aside0 (Below w.heap.size w w102) := ⟨by rw [← hq_]; exact (by repeat (first | (with_reducible first | exact HB.out | apply below_alloc | apply pw_below_drewN | apply below_drew1 | refine below_set ?_ GE263.out | refine below_set ?_ GE264.out | refine below_set ?_ GE279.out | refine below_set ?_ GE286.out) | exact HB.out))⟩; clear HO304 HO307 BK263 BK264 BK279 BK286 HB hq_; have HO304 := n0_; have HO307 := n1_; have BK263 := n2_; have BK264 := n3_; have BK279 := n4_; have BK286 := n5_; have HB := n6_; clear n0_ n1_ n2_ n3_ n4_ n5_ n6_))
                            have n0_ := Aside0.mk (Kd.R_drew HO304.out)
                            have n1_ := Aside0.mk (Kd.R_drew HO307.out)
                            have n2_ := Aside0.mk (blk_drew BK263.out)
                            have n3_ := Aside0.mk (blk_drew BK264.out)
                            have n4_ := Aside0.mk (blk_drew BK279.out)
                            have n5_ := Aside0.mk (blk_drew BK286.out)
                            have n6_ := Aside0.mk (below_drew1 HB.out)
                            clear HO304
                            clear HO307
                            clear BK263
                            clear BK264
                            clear BK279
                            clear BK286
                            clear HB
                            have HO304 := n0_
                            have HO307 := n1_
                            have BK263 := n2_
                            have BK264 := n3_
                            have BK279 := n4_
                            have BK286 := n5_
                            have HB := n6_
                            clear n0_ n1_ n2_ n3_ n4_ n5_ n6_
                            have p311 : 0 ≤ (0 : Int) := (by omega)
                            have q311 : 0 < (l0_0.length : Int) := of_decide_eq_true (by first | (with_reducible assumption) | assumption)
                            obtain ⟨ad311, e311, hx311_0, hx311_1⟩ := at_T27 HR0_0.out 0 p311 q311
                            have hw311_1 := hx311_1
                            (try rw [show ((0 : Int)).toNat = 0 from rfl] at hw311_1)
                            (try rw [show 0 * 2 = 0 from rfl] at hw311_1)
                            (try rw [Addr.add_zero'] at hw311_1)
                            have hw311_0 := hx311_0
                            (try rw [show ((0 : Int)).toNat = 0 from rfl] at hw311_0)
                            (try rw [show 0 * 2 = 0 from rfl] at hw311_0)
                            (try rw [Addr.add_zero'] at hw311_0)
                            cases e311
                            have qi311 : (0 < l0_0.length) = True := eq_true (by omega)
                            (try rw [show ((0 : Int)).toNat = 0 from rfl] at hx311_0)
                            (try rw [show 0 * 2 = 0 from rfl] at hx311_0)
                            (try rw [Addr.add_zero'] at hx311_0)
                            (try rw [show ((0 : Int)).toNat = 0 from rfl] at hx311_1)
                            (try rw [show 0 * 2 = 0 from rfl] at hx311_1)
                            (try rw [Addr.add_zero'] at hx311_1)
                            replace hx311_0 := (HB.out.cell (World.block_lt_of_cell? w _ hx311_0)).trans hx311_0
                            replace hx311_1 := (HB.out.cell (World.block_lt_of_cell? w _ hx311_1)).trans hx311_1
                            replace p311 := eq_true p311
                            replace q311 := eq_true q311
                            have p313 : 0 ≤ (0 : Int) := (by omega)
                            have q313 : 0 < (l0_0.length : Int) := of_decide_eq_true (by first | (with_reducible assumption) | assumption)
                            obtain ⟨ad313, e313, hx313_0, hx313_1⟩ := at_T27 HR0_0.out 0 p313 q313
                            have hw313_1 := hx313_1
                            (try rw [show ((0 : Int)).toNat = 0 from rfl] at hw313_1)
                            (try rw [show 0 * 2 = 0 from rfl] at hw313_1)
                            (try rw [Addr.add_zero'] at hw313_1)
                            have hw313_0 := hx313_0
                            (try rw [show ((0 : Int)).toNat = 0 from rfl] at hw313_0)
                            (try rw [show 0 * 2 = 0 from rfl] at hw313_0)
                            (try rw [Addr.add_zero'] at hw313_0)
                            obtain rfl : ad311 = ad313 := (by injection e313)
                            have qi313 : (0 < l0_0.length) = True := eq_true (by omega)
                            (try rw [show ((0 : Int)).toNat = 0 from rfl] at hx313_0)
                            (try rw [show 0 * 2 = 0 from rfl] at hx313_0)
                            (try rw [Addr.add_zero'] at hx313_0)
                            (try rw [show ((0 : Int)).toNat = 0 from rfl] at hx313_1)
                            (try rw [show 0 * 2 = 0 from rfl] at hx313_1)
                            (try rw [Addr.add_zero'] at hx313_1)
                            replace hx313_0 := (HB.out.cell (World.block_lt_of_cell? w _ hx313_0)).trans hx313_0
                            replace hx313_1 := (HB.out.cell (World.block_lt_of_cell? w _ hx313_1)).trans hx313_1
                            replace p313 := eq_true p313
                            replace q313 := eq_true q313
                            refine start_ (n := 39) (S := fun w' => w'.cell? ⟨gb264, 0, none⟩ = some (.int .u64 a0_1) ∧ w'.cell? ⟨gb264, 1, none⟩ = some (.int .i64 a0_2) ∧ w'.cell? ad311 = some (.int .u64 ((rd_T27 l0_0 0).f0)) ∧ w'.cell? ⟨ad311.block, ad311.off + 1, none⟩ = some (.int .i64 ((rd_T27 l0_0 0).f1)) ∧ w'.cell? ad311 = some (.int .u64 ((rd_T27 l0_0 0).f0)) ∧ w'.cell? ⟨ad311.block, ad311.off + 1, none⟩ = some (.int .i64 ((rd_T27 l0_0 0).f1))) (ds := []) #[false, false, false, false, false, false, false, false, false, false, false, false, false, false, false, false, false, false, false, false, false, false, false, false, false, false, false, false, false, false, false, false, false, false, false, false, false, false, false] (by kernel_rfl) rfl rfl ⟨(blk_cell BK264.out 0).trans rfl, (blk_cell BK264.out 1).trans rfl, ((HB.out.cell (World.block_lt_of_cell? w _ hw311_0)).trans hw311_0), ((HB.out.cell (World.block_lt_of_cell? w _ hw311_1)).trans hw311_1), ((HB.out.cell (World.block_lt_of_cell? w _ hw313_0)).trans hw313_0), ((HB.out.cell (World.block_lt_of_cell? w _ hw313_1)).trans hw313_1)⟩ (fun hHeld => ?_); refine with_tabW stanchionlaw15_AlarmActs.tab16 stanchionlaw15_AlarmActs.bits16 (fun HT_ HW_ => ?_)
                            generalize w102.drew = w105 at HO304 HO307 BK263 BK264 BK279 BK286 HB hx311_0 hx311_1 hx313_0 hx313_1 hHeld ⊢
                            refine pure_ (i := 0) (N := some 94) (v := ?_) (a' := ?_) #[true, false, false, false, false, false, false, false, false, false, false, false, false, false, false, false, false, false, false, false, false, false, false, false, false, false, false, false, false, false, false, false, false, false, false, false, false, false, false] rfl rfl (any_of HT_.out (by kernel_rfl)) (fun _ _ _ h => h) (Or.inl ⟨by rfl, ?_⟩) ?_ ?_
                            rotate_left
                            · intro w'
                              go_simp
                              with_reducible rfl
                            rotate_left
                            · simp only [Act.put, List.setIfInBounds_toArray, List.set_cons_zero, List.set_cons_succ, i64_w, i32_w]
                              rfl
                            refine pure_ (i := 1) (N := some 95) (v := ?_) (a' := ?_) #[true, true, false, false, false, false, false, false, false, false, false, false, false, false, false, false, false, false, false, false, false, false, false, false, false, false, false, false, false, false, false, false, false, false, false, false, false, false, false] rfl rfl (any_of HT_.out (by kernel_rfl)) (fun _ _ _ h => h) (Or.inl ⟨by rfl, ?_⟩) ?_ ?_
                            rotate_left
                            · intro w'
                              go_simp
                              with_reducible rfl
                            rotate_left
                            · simp only [Act.put, List.setIfInBounds_toArray, List.set_cons_zero, List.set_cons_succ, i64_w, i32_w]
                              rfl
                            refine pure_ (i := 2) (N := some 96) (v := ?_) (a' := ?_) #[true, true, true, false, false, false, false, false, false, false, false, false, false, false, false, false, false, false, false, false, false, false, false, false, false, false, false, false, false, false, false, false, false, false, false, false, false, false, false] rfl rfl (any_of HT_.out (by kernel_rfl)) (fun _ _ _ h => h) (Or.inl ⟨by rfl, ?_⟩) ?_ ?_
                            rotate_left
                            · intro w'
                              go_simp
                              with_reducible rfl
                            rotate_left
                            · simp only [Act.put, List.setIfInBounds_toArray, List.set_cons_zero, List.set_cons_succ, i64_w, i32_w]
                              rfl
                            refine pure_ (i := 3) (N := some 97) (v := ?_) (a' := ?_) #[true, true, true, true, false, false, false, false, false, false, false, false, false, false, false, false, false, false, false, false, false, false, false, false, false, false, false, false, false, false, false, false, false, false, false, false, false, false, false] rfl rfl (any_of HT_.out (by kernel_rfl)) (fun _ _ _ h => h) (Or.inl ⟨by rfl, ?_⟩) ?_ ?_
                            rotate_left
                            · intro w'
                              go_simp
                              with_reducible rfl
                            rotate_left
                            · simp only [Act.put, List.setIfInBounds_toArray, List.set_cons_zero, List.set_cons_succ, i64_w, i32_w]
                              rfl
                            refine pure_ (i := 4) (N := some 98) (v := ?_) (a' := ?_) #[true, true, true, true, true, false, false, false, false, false, false, false, false, false, false, false, false, false, false, false, false, false, false, false, false, false, false, false, false, false, false, false, false, false, false, false, false, false, false] rfl rfl (any_of HT_.out (by kernel_rfl)) (fun _ _ _ h => h) (Or.inl ⟨by rfl, ?_⟩) ?_ ?_
                            rotate_left
                            · intro w'
                              go_simp
                              with_reducible rfl
                            rotate_left
                            · simp only [Act.put, List.setIfInBounds_toArray, List.set_cons_zero, List.set_cons_succ, i64_w, i32_w]
                              rfl
                            refine pure_ (i := 5) (N := some 99) (v := ?_) (a' := ?_) #[true, true, true, true, true, true, false, false, false, false, false, false, false, false, false, false, false, false, false, false, false, false, false, false, false, false, false, false, false, false, false, false, false, false, false, false, false, false, false] rfl rfl (any_of HT_.out (by kernel_rfl)) (fun _ _ _ h => h) (Or.inl ⟨by rfl, ?_⟩) ?_ ?_
                            rotate_left
                            · intro w'
                              go_simp
                              with_reducible rfl
                            rotate_left
                            · simp only [Act.put, List.setIfInBounds_toArray, List.set_cons_zero, List.set_cons_succ, i64_w, i32_w]
                              rfl
                            refine pure_ (i := 6) (N := some 100) (v := ?_) (a' := ?_) #[true, true, true, true, true, true, true, false, false, false, false, false, false, false, false, false, false, false, false, false, false, false, false, false, false, false, false, false, false, false, false, false, false, false, false, false, false, false, false] rfl rfl (any_of HT_.out (by kernel_rfl)) (fun _ _ _ h => h) (Or.inl ⟨by rfl, ?_⟩) ?_ ?_
                            rotate_left
                            · intro w'
                              go_simp
                              with_reducible rfl
                            rotate_left
                            · simp only [Act.put, List.setIfInBounds_toArray, List.set_cons_zero, List.set_cons_succ, i64_w, i32_w]
                              rfl
                            refine pure_ (i := 7) (N := some 101) (v := ?_) (a' := ?_) #[true, true, true, true, true, true, true, true, false, false, false, false, false, false, false, false, false, false, false, false, false, false, false, false, false, false, false, false, false, false, false, false, false, false, false, false, false, false, false] rfl rfl (any_of HT_.out (by kernel_rfl)) (fun _ _ _ h => h) (Or.inl ⟨by rfl, ?_⟩) ?_ ?_
                            rotate_left
                            · intro w'
                              go_simp
                              with_reducible rfl
                            rotate_left
                            · simp only [Act.put, List.setIfInBounds_toArray, List.set_cons_zero, List.set_cons_succ, i64_w, i32_w]
                              rfl
                            refine pure_ (i := 8) (N := some 102) (v := ?_) (a' := ?_) #[true, true, true, true, true, true, true, true, true, false, false, false, false, false, false, false, false, false, false, false, false, false, false, false, false, false, false, false, false, false, false, false, false, false, false, false, false, false, false] rfl rfl (any_of HT_.out (by kernel_rfl)) (fun _ _ _ h => h) (Or.inl ⟨by rfl, ?_⟩) ?_ ?_
                            rotate_left
                            · intro w'
                              go_simp
                              with_reducible rfl
                            rotate_left
                            · simp only [Act.put, List.setIfInBounds_toArray, List.set_cons_zero, List.set_cons_succ, i64_w, i32_w]
                              rfl
                            refine pure_ (i := 9) (N := some 103) (v := ?_) (a' := ?_) #[true, true, true, true, true, true, true, true, true, true, false, false, false, false, false, false, false, false, false, false, false, false, false, false, false, false, false, false, false, false, false, false, false, false, false, false, false, false, false] rfl rfl (any_of HT_.out (by kernel_rfl)) (fun _ _ _ h => h) (Or.inl ⟨by rfl, ?_⟩) ?_ ?_
                            rotate_left
                            · intro w'
                              go_simp
                              with_reducible rfl
                            rotate_left
                            · simp only [Act.put, List.setIfInBounds_toArray, List.set_cons_zero, List.set_cons_succ, i64_w, i32_w]
                              rfl
                            refine pure_ (i := 10) (N := some 104) (v := ?_) (a' := ?_) #[true, true, true, true, true, true, true, true, true, true, true, false, false, false, false, false, false, false, false, false, false, false, false, false, false, false, false, false, false, false, false, false, false, false, false, false, false, false, false] rfl rfl (any_of HT_.out (by kernel_rfl)) (fun _ _ _ h => h) (Or.inl ⟨by rfl, ?_⟩) ?_ ?_
                            rotate_left
                            · intro w'
                              go_simp
                              with_reducible rfl
                            rotate_left
                            · simp only [Act.put, List.setIfInBounds_toArray, List.set_cons_zero, List.set_cons_succ, i64_w, i32_w]
                              rfl
                            refine pure_ (i := 11) (N := some 105) (v := ?_) (a' := ?_) #[true, true, true, true, true, true, true, true, true, true, true, true, false, false, false, false, false, false, false, false, false, false, false, false, false, false, false, false, false, false, false, false, false, false, false, false, false, false, false] rfl rfl (any_of HT_.out (by kernel_rfl)) (fun _ _ _ h => h) (Or.inl ⟨by rfl, ?_⟩) ?_ ?_
                            rotate_left
                            · intro w'
                              go_simp
                              with_reducible rfl
                            rotate_left
                            · simp only [Act.put, List.setIfInBounds_toArray, List.set_cons_zero, List.set_cons_succ, i64_w, i32_w]
                              rfl
                            refine pure_ (i := 12) (N := some 106) (v := ?_) (a' := ?_) #[true, true, true, true, true, true, true, true, true, true, true, true, true, false, false, false, false, false, false, false, false, false, false, false, false, false, false, false, false, false, false, false, false, false, false, false, false, false, false] rfl rfl (any_of HT_.out (by kernel_rfl)) (fun _ _ _ h => h) (Or.inl ⟨by rfl, ?_⟩) ?_ ?_
                            rotate_left
                            · intro w'
                              go_simp
                              with_reducible rfl
                            rotate_left
                            · simp only [Act.put, List.setIfInBounds_toArray, List.set_cons_zero, List.set_cons_succ, i64_w, i32_w]
                              rfl
                            refine pure_ (i := 13) (N := some 107) (v := ?_) (a' := ?_) #[true, true, true, true, true, true, true, true, true, true, true, true, true, true, false, false, false, false, false, false, false, false, false, false, false, false, false, false, false, false, false, false, false, false, false, false, false, false, false] rfl rfl (any_of HT_.out (by kernel_rfl)) (fun _ _ _ h => h) (Or.inl ⟨by rfl, ?_⟩) ?_ ?_
                            rotate_left
                            · intro w'
                              go_simp
                              with_reducible rfl
                            rotate_left
                            · simp only [Act.put, List.setIfInBounds_toArray, List.set_cons_zero, List.set_cons_succ, i64_w, i32_w]
                              rfl
                            refine pure_ (i := 14) (N := some 108) (v := ?_) (a' := ?_) #[true, true, true, true, true, true, true, true, true, true, true, true, true, true, true, false, false, false, false, false, false, false, false, false, false, false, false, false, false, false, false, false, false, false, false, false, false, false, false] rfl rfl (any_of HT_.out (by kernel_rfl)) (fun _ _ _ h => h) (Or.inl ⟨by rfl, ?_⟩) ?_ ?_
                            rotate_left
                            · intro w'
                              go_simp
                              with_reducible rfl
                            rotate_left
                            · simp only [Act.put, List.setIfInBounds_toArray, List.set_cons_zero, List.set_cons_succ, i64_w, i32_w]
                              rfl
                            refine pure_ (i := 16) (N := some 110) (v := ?_) (a' := ?_) #[true, true, true, true, true, true, true, true, true, true, true, true, true, true, true, false, true, false, false, false, false, false, false, false, false, false, false, false, false, false, false, false, false, false, false, false, false, false, false] rfl rfl (any_of HT_.out (by kernel_rfl)) (fun _ _ _ h => h) (Or.inl ⟨by rfl, ?_⟩) ?_ ?_
                            rotate_left
                            · intro w'
                              go_simp
                              with_reducible rfl
                            rotate_left
                            · simp only [Act.put, List.setIfInBounds_toArray, List.set_cons_zero, List.set_cons_succ, i64_w, i32_w]
                              rfl
                            refine one_ (i := 15) (N := some 109) #[true, true, true, true, true, true, true, true, true, true, true, true, true, true, true, true, true, false, false, false, false, false, false, false, false, false, false, false, false, false, false, false, false, false, false, false, false, false, false] rfl rfl (one_of HT_.out (by kernel_rfl)) (by decide) (fun K hK => ?_)
                            refine goes_ Try.func21 (by kernel_rfl) rfl #[.slice (some ad311) l0_0.length c0_0] (by rfl) rfl rfl (by (try simp only [List.map_toArray, List.map_cons, List.map_nil]); first | done | rfl | (simp only [List.length_drop, List.length_take]; rfl)) ?_
                            with_reducible refine (alarm_Heap.calls kj68 _ _ l0_0 t309 _ ?side1 ?side2 A87.out).mono ?_
                            (case side1 => repeat (first | exact (Kd.C_below HR0_0.out HB.out) | (with_reducible refine Kd.C_alloc ?_ _) | (with_reducible refine Kd.C_drewN ?_ _) | (with_reducible refine Kd.C_drew ?_)))
                            (case side2 => exact HC0_0.out)
                            rintro e w106 ⟨rfl, hb⟩
                            refine ⟨_, rfl, ?_⟩
                            have n0_ := Aside0.mk (Kd.R_below (by (with_reducible repeat (first | apply Kd.R_alloc | apply Kd.R_drewN | apply Kd.R_drew)); exact HO304.out) hb)
                            have n1_ := Aside0.mk (Kd.R_below (by (with_reducible repeat (first | apply Kd.R_alloc | apply Kd.R_drewN | apply Kd.R_drew)); exact HO307.out) hb)
                            have n2_ := Aside0.mk (blk_below (g := gb263) (o := .cells #[.slice (some ad311) l0_0.length c0_0, .int .u64 a0_1, .int .i64 a0_2, .int .u64 a0_3, .int .i64 a0_4] 40 (0, 0)) (by (with_reducible repeat (first | refine blk_drewN ?_ _ | refine blk_drew ?_ | refine blk_alloc ?_ _)); exact BK263.out) hb)
                            have n3_ := Aside0.mk (blk_below (g := gb264) (o := .cells #[.int .u64 a0_1, .int .i64 a0_2] 27 (0, 0)) (by (with_reducible repeat (first | refine blk_drewN ?_ _ | refine blk_drew ?_ | refine blk_alloc ?_ _)); exact BK264.out) hb)
                            have n4_ := Aside0.mk (blk_below (g := gb279) (o := .cells #[.int .u64 t276, .int .i64 t277] 27 (0, 0)) (by (with_reducible repeat (first | refine blk_drewN ?_ _ | refine blk_drew ?_ | refine blk_alloc ?_ _)); exact BK279.out) hb)
                            have n5_ := Aside0.mk (blk_below (g := gb286) (o := .cells #[.int .u64 t283, .int .i64 t284] 27 (0, 0)) (by (with_reducible repeat (first | refine blk_drewN ?_ _ | refine blk_drew ?_ | refine blk_alloc ?_ _)); exact BK286.out) hb)
                            have n6_ := Aside0.mk (below_step (by repeat (first | (with_reducible first | exact HB.out | apply below_alloc | apply pw_below_drewN | apply below_drew1 | refine below_set ?_ GE263.out | refine below_set ?_ GE264.out | refine below_set ?_ GE279.out | refine below_set ?_ GE286.out) | exact HB.out)) hb)
                            clear HO304
                            clear HO307
                            clear BK263
                            clear BK264
                            clear BK279
                            clear BK286
                            clear HB
                            have HO304 := n0_
                            have HO307 := n1_
                            have BK263 := n2_
                            have BK264 := n3_
                            have BK279 := n4_
                            have BK286 := n5_
                            have HB := n6_
                            clear n0_ n1_ n2_ n3_ n4_ n5_ n6_
                            (try clear hb)
                            (try clear hb2)
                            (try clear hk)
                            (try clear hi)
                            refine hK.out _ _ ⟨(blk_cell BK264.out 0).trans rfl, (blk_cell BK264.out 1).trans rfl, ((HB.out.cell (World.block_lt_of_cell? w _ hw311_0)).trans hw311_0), ((HB.out.cell (World.block_lt_of_cell? w _ hw311_1)).trans hw311_1), ((HB.out.cell (World.block_lt_of_cell? w _ hw313_0)).trans hw313_0), ((HB.out.cell (World.block_lt_of_cell? w _ hw313_1)).trans hw313_1)⟩ (fun hHeld => ?_)
                            clear hK K
                            refine norm_ (a' := ?_) ?_ ?_
                            rotate_left
                            · show Act.put _ (some 109) _ = _
                              simp only [Act.put, List.setIfInBounds_toArray, List.set_cons_zero, List.set_cons_succ, i64_w, i32_w]
                              rfl
                            refine one_ (i := 17) (N := some 111) #[true, true, true, true, true, true, true, true, true, true, true, true, true, true, true, true, true, true, false, false, false, false, false, false, false, false, false, false, false, false, false, false, false, false, false, false, false, false, false] rfl rfl (one_of HT_.out (by kernel_rfl)) (by decide) (fun K hK => ?_)
                            refine goes_ Try.func12 (by kernel_rfl) rfl #[.slice (some ad311) l0_0.length c0_0] (by rfl) rfl rfl (by (try simp only [List.map_toArray, List.map_cons, List.map_nil]); first | done | rfl | (simp only [List.length_drop, List.length_take]; rfl)) ?_
                            with_reducible refine (stanchionref15_Heap.calls kj68 _ _ l0_0 t310 _ ?side1 ?side2 A88.out).mono ?_
                            (case side1 => repeat (first | exact (Kd.C_below HR0_0.out HB.out) | (with_reducible refine Kd.C_alloc ?_ _) | (with_reducible refine Kd.C_drewN ?_ _) | (with_reducible refine Kd.C_drew ?_)))
                            (case side2 => exact HC0_0.out)
                            rintro e w107 ⟨rfl, hb⟩
                            refine ⟨_, rfl, ?_⟩
                            have n0_ := Aside0.mk (Kd.R_below (by (with_reducible repeat (first | apply Kd.R_alloc | apply Kd.R_drewN | apply Kd.R_drew)); exact HO304.out) hb)
                            have n1_ := Aside0.mk (Kd.R_below (by (with_reducible repeat (first | apply Kd.R_alloc | apply Kd.R_drewN | apply Kd.R_drew)); exact HO307.out) hb)
                            have n2_ := Aside0.mk (blk_below (g := gb263) (o := .cells #[.slice (some ad311) l0_0.length c0_0, .int .u64 a0_1, .int .i64 a0_2, .int .u64 a0_3, .int .i64 a0_4] 40 (0, 0)) (by (with_reducible repeat (first | refine blk_drewN ?_ _ | refine blk_drew ?_ | refine blk_alloc ?_ _)); exact BK263.out) hb)
                            have n3_ := Aside0.mk (blk_below (g := gb264) (o := .cells #[.int .u64 a0_1, .int .i64 a0_2] 27 (0, 0)) (by (with_reducible repeat (first | refine blk_drewN ?_ _ | refine blk_drew ?_ | refine blk_alloc ?_ _)); exact BK264.out) hb)
                            have n4_ := Aside0.mk (blk_below (g := gb279) (o := .cells #[.int .u64 t276, .int .i64 t277] 27 (0, 0)) (by (with_reducible repeat (first | refine blk_drewN ?_ _ | refine blk_drew ?_ | refine blk_alloc ?_ _)); exact BK279.out) hb)
                            have n5_ := Aside0.mk (blk_below (g := gb286) (o := .cells #[.int .u64 t283, .int .i64 t284] 27 (0, 0)) (by (with_reducible repeat (first | refine blk_drewN ?_ _ | refine blk_drew ?_ | refine blk_alloc ?_ _)); exact BK286.out) hb)
                            have n6_ := Aside0.mk (below_step (by repeat (first | (with_reducible first | exact HB.out | apply below_alloc | apply pw_below_drewN | apply below_drew1 | refine below_set ?_ GE263.out | refine below_set ?_ GE264.out | refine below_set ?_ GE279.out | refine below_set ?_ GE286.out) | exact HB.out)) hb)
                            clear HO304
                            clear HO307
                            clear BK263
                            clear BK264
                            clear BK279
                            clear BK286
                            clear HB
                            have HO304 := n0_
                            have HO307 := n1_
                            have BK263 := n2_
                            have BK264 := n3_
                            have BK279 := n4_
                            have BK286 := n5_
                            have HB := n6_
                            clear n0_ n1_ n2_ n3_ n4_ n5_ n6_
                            (try clear hb)
                            (try clear hb2)
                            (try clear hk)
                            (try clear hi)
                            refine hK.out _ _ ⟨(blk_cell BK264.out 0).trans rfl, (blk_cell BK264.out 1).trans rfl, ((HB.out.cell (World.block_lt_of_cell? w _ hw311_0)).trans hw311_0), ((HB.out.cell (World.block_lt_of_cell? w _ hw311_1)).trans hw311_1), ((HB.out.cell (World.block_lt_of_cell? w _ hw313_0)).trans hw313_0), ((HB.out.cell (World.block_lt_of_cell? w _ hw313_1)).trans hw313_1)⟩ (fun hHeld => ?_)
                            clear hK K
                            refine norm_ (a' := ?_) ?_ ?_
                            rotate_left
                            · show Act.put _ (some 111) _ = _
                              simp only [Act.put, List.setIfInBounds_toArray, List.set_cons_zero, List.set_cons_succ, i64_w, i32_w]
                              rfl
                            refine pure_ (i := 18) (N := some 112) (v := ?_) (a' := ?_) #[true, true, true, true, true, true, true, true, true, true, true, true, true, true, true, true, true, true, true, false, false, false, false, false, false, false, false, false, false, false, false, false, false, false, false, false, false, false, false] rfl rfl (any_of HT_.out (by kernel_rfl)) (fun _ _ _ h => h) (Or.inl ⟨by rfl, ?_⟩) ?_ ?_
                            rotate_left
                            · intro w'
                              go_simp
                              with_reducible rfl
                            rotate_left
                            · simp only [Act.put, List.setIfInBounds_toArray, List.set_cons_zero, List.set_cons_succ, i64_w, i32_w]
                              rfl
                            refine pure_ (i := 19) (N := some 113) (v := ?_) (a' := ?_) #[true, true, true, true, true, true, true, true, true, true, true, true, true, true, true, true, true, true, true, true, false, false, false, false, false, false, false, false, false, false, false, false, false, false, false, false, false, false, false] rfl rfl (any_of HT_.out (by kernel_rfl)) (fun _ _ _ h => h) (Or.inl ⟨by rfl, ?_⟩) ?_ ?_
                            rotate_left
                            · intro w'
                              go_simp
                              with_reducible rfl
                            rotate_left
                            · simp only [Act.put, List.setIfInBounds_toArray, List.set_cons_zero, List.set_cons_succ, i64_w, i32_w]
                              rfl
                            refine pure_ (i := 20) (N := some 114) (v := ?_) (a' := ?_) #[true, true, true, true, true, true, true, true, true, true, true, true, true, true, true, true, true, true, true, true, true, false, false, false, false, false, false, false, false, false, false, false, false, false, false, false, false, false, false] rfl rfl (any_of HT_.out (by kernel_rfl)) (fun _ _ _ h => h) (Or.inl ⟨by rfl, ?_⟩) ?_ ?_
                            rotate_left
                            · intro w'
                              go_simp
                              with_reducible rfl
                            rotate_left
                            · simp only [Act.put, List.setIfInBounds_toArray, List.set_cons_zero, List.set_cons_succ, i64_w, i32_w]
                              rfl
                            refine pure_ (i := 21) (N := some 115) (v := ?_) (a' := ?_) #[true, true, true, true, true, true, true, true, true, true, true, true, true, true, true, true, true, true, true, true, true, true, false, false, false, false, false, false, false, false, false, false, false, false, false, false, false, false, false] rfl rfl (any_of HT_.out (by kernel_rfl)) (fun _ _ _ h => h) (Or.inl ⟨by rfl, ?_⟩) ?_ ?_
                            rotate_left
                            · intro w'
                              go_simp
                              with_reducible rfl
                            rotate_left
                            · simp only [Act.put, List.setIfInBounds_toArray, List.set_cons_zero, List.set_cons_succ, i64_w, i32_w]
                              rfl
                            refine pure_ (i := 22) (N := some 116) (v := ?_) (a' := ?_) #[true, true, true, true, true, true, true, true, true, true, true, true, true, true, true, true, true, true, true, true, true, true, true, false, false, false, false, false, false, false, false, false, false, false, false, false, false, false, false] rfl rfl (any_of HT_.out (by kernel_rfl)) (fun _ _ _ h => h) (Or.inl ⟨by rfl, ?_⟩) ?_ ?_
                            rotate_left
                            · intro w'
                              go_simp
                              with_reducible rfl
                            rotate_left
                            · simp only [Act.put, List.setIfInBounds_toArray, List.set_cons_zero, List.set_cons_succ, i64_w, i32_w]
                              rfl
                            refine pure_ (i := 23) (N := some 117) (v := ?_) (a' := ?_) #[true, true, true, true, true, true, true, true, true, true, true, true, true, true, true, true, true, true, true, true, true, true, true, true, false, false, false, false, false, false, false, false, false, false, false, false, false, false, false] rfl rfl (any_of HT_.out (by kernel_rfl)) (fun _ _ _ h => h) (Or.inl ⟨by rfl, ?_⟩) ?_ ?_
                            rotate_left
                            · intro w'
                              go_simp
                              with_reducible rfl
                            rotate_left
                            · simp only [Act.put, List.setIfInBounds_toArray, List.set_cons_zero, List.set_cons_succ, i64_w, i32_w]
                              rfl
                            refine pure_ (i := 24) (N := some 118) (v := ?_) (a' := ?_) #[true, true, true, true, true, true, true, true, true, true, true, true, true, true, true, true, true, true, true, true, true, true, true, true, true, false, false, false, false, false, false, false, false, false, false, false, false, false, false] rfl rfl (any_of HT_.out (by kernel_rfl)) (fun _ _ _ h => h) (Or.inl ⟨by rfl, ?_⟩) ?_ ?_
                            rotate_left
                            · intro w'
                              go_simp
                              with_reducible rfl
                            rotate_left
                            · simp only [Act.put, List.setIfInBounds_toArray, List.set_cons_zero, List.set_cons_succ, i64_w, i32_w]
                              rfl
                            refine pure_ (i := 25) (N := some 119) (v := ?_) (a' := ?_) #[true, true, true, true, true, true, true, true, true, true, true, true, true, true, true, true, true, true, true, true, true, true, true, true, true, true, false, false, false, false, false, false, false, false, false, false, false, false, false] rfl rfl (any_of HT_.out (by kernel_rfl)) (fun _ _ _ h => h) (Or.inl ⟨by rfl, ?_⟩) ?_ ?_
                            rotate_left
                            · intro w'
                              go_simp
                              with_reducible rfl
                            rotate_left
                            · simp only [Act.put, List.setIfInBounds_toArray, List.set_cons_zero, List.set_cons_succ, i64_w, i32_w]
                              rfl
                            refine pure_ (i := 26) (N := some 120) (v := ?_) (a' := ?_) #[true, true, true, true, true, true, true, true, true, true, true, true, true, true, true, true, true, true, true, true, true, true, true, true, true, true, true, false, false, false, false, false, false, false, false, false, false, false, false] rfl rfl (any_of HT_.out (by kernel_rfl)) (fun _ _ _ h => h) (Or.inl ⟨by rfl, ?_⟩) ?_ ?_
                            rotate_left
                            · intro w'
                              go_simp
                              with_reducible rfl
                            rotate_left
                            · simp only [Act.put, List.setIfInBounds_toArray, List.set_cons_zero, List.set_cons_succ, i64_w, i32_w]
                              rfl
                            refine pure_ (i := 30) (N := some 124) (v := ?_) (a' := ?_) #[true, true, true, true, true, true, true, true, true, true, true, true, true, true, true, true, true, true, true, true, true, true, true, true, true, true, true, false, false, false, true, false, false, false, false, false, false, false, false] rfl rfl (any_of HT_.out (by kernel_rfl)) (fun _ _ _ h => h) (Or.inl ⟨by rfl, ?_⟩) ?_ ?_
                            rotate_left
                            · intro w'
                              go_simp
                              with_reducible rfl
                            rotate_left
                            · simp only [Act.put, List.setIfInBounds_toArray, List.set_cons_zero, List.set_cons_succ, i64_w, i32_w]
                              rfl
                            refine pure_ (i := 31) (N := some 125) (v := ?_) (a' := ?_) #[true, true, true, true, true, true, true, true, true, true, true, true, true, true, true, true, true, true, true, true, true, true, true, true, true, true, true, false, false, false, true, true, false, false, false, false, false, false, false] rfl rfl (any_of HT_.out (by kernel_rfl)) (fun _ _ _ h => h) (Or.inl ⟨by rfl, ?_⟩) ?_ ?_
                            rotate_left
                            · intro w'
                              go_simp
                              with_reducible rfl
                            rotate_left
                            · simp only [Act.put, List.setIfInBounds_toArray, List.set_cons_zero, List.set_cons_succ, i64_w, i32_w]
                              rfl
                            refine take_ (i := 27) (N := some 121) (v := ?_) (a' := ?_) #[true, true, true, true, true, true, true, true, true, true, true, true, true, true, true, true, true, true, true, true, true, true, true, true, true, true, true, true, false, false, true, true, false, false, false, false, false, false, false] rfl rfl (take_ofW HT_.out HW_.out (by kernel_rfl)) (fun _ _ _ h => h) (Or.inl ⟨by rfl, ?_⟩) hHeld ?_ ?_
                            rotate_left
                            · rintro w' ⟨s0, s1, s2, s3, s4, s5⟩
                              go_simp
                              with_reducible rfl
                            rotate_left
                            · simp only [Act.put, List.setIfInBounds_toArray, List.set_cons_zero, List.set_cons_succ, i64_w, i32_w]
                              rfl
                            refine take_ (i := 28) (N := some 122) (v := ?_) (a' := ?_) #[true, true, true, true, true, true, true, true, true, true, true, true, true, true, true, true, true, true, true, true, true, true, true, true, true, true, true, true, true, false, true, true, false, false, false, false, false, false, false] rfl rfl (take_ofW HT_.out HW_.out (by kernel_rfl)) (fun _ _ _ h => h) (Or.inl ⟨by rfl, ?_⟩) hHeld ?_ ?_
                            rotate_left
                            · rintro w' ⟨s0, s1, s2, s3, s4, s5⟩
                              go_simp
                              with_reducible rfl
                            rotate_left
                            · simp only [Act.put, List.setIfInBounds_toArray, List.set_cons_zero, List.set_cons_succ, i64_w, i32_w]
                              rfl
                            refine take_ (i := 32) (N := some 126) (v := ?_) (a' := ?_) #[true, true, true, true, true, true, true, true, true, true, true, true, true, true, true, true, true, true, true, true, true, true, true, true, true, true, true, true, true, false, true, true, true, false, false, false, false, false, false] rfl rfl (take_ofW HT_.out HW_.out (by kernel_rfl)) (fun _ _ _ h => h) (Or.inl ⟨by rfl, ?_⟩) hHeld ?_ ?_
                            rotate_left
                            · rintro w' ⟨s0, s1, s2, s3, s4, s5⟩
                              go_simp
                              with_reducible rfl
                            rotate_left
                            · simp only [Act.put, List.setIfInBounds_toArray, List.set_cons_zero, List.set_cons_succ, i64_w, i32_w]
                              rfl
                            refine take_ (i := 33) (N := some 127) (v := ?_) (a' := ?_) #[true, true, true, true, true, true, true, true, true, true, true, true, true, true, true, true, true, true, true, true, true, true, true, true, true, true, true, true, true, false, true, true, true, true, false, false, false, false, false] rfl rfl (take_ofW HT_.out HW_.out (by kernel_rfl)) (fun _ _ _ h => h) (Or.inl ⟨by rfl, ?_⟩) hHeld ?_ ?_
                            rotate_left
                            · rintro w' ⟨s0, s1, s2, s3, s4, s5⟩
                              go_simp
                              with_reducible rfl
                            rotate_left
                            · simp only [Act.put, List.setIfInBounds_toArray, List.set_cons_zero, List.set_cons_succ, i64_w, i32_w]
                              rfl
                            refine one_ (i := 29) (N := some 123) #[true, true, true, true, true, true, true, true, true, true, true, true, true, true, true, true, true, true, true, true, true, true, true, true, true, true, true, true, true, true, true, true, true, true, false, false, false, false, false] rfl rfl (one_of HT_.out (by kernel_rfl)) (by decide) (fun K hK => ?_)
                            refine goes_ Try.func11 (by kernel_rfl) rfl #[.agg #[.int .u64 ((rd_T27 l0_0 0).f0), .int .i64 ((rd_T27 l0_0 0).f1)], .agg #[.int .u64 a0_1, .int .i64 a0_2]] (by rfl) rfl rfl (by (try simp only [List.map_toArray, List.map_cons, List.map_nil]); first | done | rfl | (simp only [List.length_drop, List.length_take]; rfl)) ?_
                            with_reducible refine (alarm_Less.calls ((rd_T27 l0_0 0).f0) ((rd_T27 l0_0 0).f1) a0_1 a0_2 t312 _ A99.out).mono ?_
                            rintro e w108 ⟨rfl, hb⟩
                            refine ⟨_, rfl, ?_⟩
                            have n0_ := Aside0.mk (Kd.R_below (by (with_reducible repeat (first | apply Kd.R_alloc | apply Kd.R_drewN | apply Kd.R_drew)); exact HO304.out) hb)
                            have n1_ := Aside0.mk (Kd.R_below (by (with_reducible repeat (first | apply Kd.R_alloc | apply Kd.R_drewN | apply Kd.R_drew)); exact HO307.out) hb)
                            have n2_ := Aside0.mk (blk_below (g := gb263) (o := .cells #[.slice (some ad311) l0_0.length c0_0, .int .u64 a0_1, .int .i64 a0_2, .int .u64 a0_3, .int .i64 a0_4] 40 (0, 0)) (by (with_reducible repeat (first | refine blk_drewN ?_ _ | refine blk_drew ?_ | refine blk_alloc ?_ _)); exact BK263.out) hb)
                            have n3_ := Aside0.mk (blk_below (g := gb264) (o := .cells #[.int .u64 a0_1, .int .i64 a0_2] 27 (0, 0)) (by (with_reducible repeat (first | refine blk_drewN ?_ _ | refine blk_drew ?_ | refine blk_alloc ?_ _)); exact BK264.out) hb)
                            have n4_ := Aside0.mk (blk_below (g := gb279) (o := .cells #[.int .u64 t276, .int .i64 t277] 27 (0, 0)) (by (with_reducible repeat (first | refine blk_drewN ?_ _ | refine blk_drew ?_ | refine blk_alloc ?_ _)); exact BK279.out) hb)
                            have n5_ := Aside0.mk (blk_below (g := gb286) (o := .cells #[.int .u64 t283, .int .i64 t284] 27 (0, 0)) (by (with_reducible repeat (first | refine blk_drewN ?_ _ | refine blk_drew ?_ | refine blk_alloc ?_ _)); exact BK286.out) hb)
                            have n6_ := Aside0.mk (below_step (by repeat (first | (with_reducible first | exact HB.out | apply below_alloc | apply pw_below_drewN | apply below_drew1 | refine below_set ?_ GE263.out | refine below_set ?_ GE264.out | refine below_set ?_ GE279.out | refine below_set ?_ GE286.out) | exact HB.out)) hb)
                            clear HO304
                            clear HO307
                            clear BK263
                            clear BK264
                            clear BK279
                            clear BK286
                            clear HB
                            have HO304 := n0_
                            have HO307 := n1_
                            have BK263 := n2_
                            have BK264 := n3_
                            have BK279 := n4_
                            have BK286 := n5_
                            have HB := n6_
                            clear n0_ n1_ n2_ n3_ n4_ n5_ n6_
                            (try clear hb)
                            (try clear hb2)
                            (try clear hk)
                            (try clear hi)
                            refine hK.out _ _ ⟨(blk_cell BK264.out 0).trans rfl, (blk_cell BK264.out 1).trans rfl, ((HB.out.cell (World.block_lt_of_cell? w _ hw311_0)).trans hw311_0), ((HB.out.cell (World.block_lt_of_cell? w _ hw311_1)).trans hw311_1), ((HB.out.cell (World.block_lt_of_cell? w _ hw313_0)).trans hw313_0), ((HB.out.cell (World.block_lt_of_cell? w _ hw313_1)).trans hw313_1)⟩ (fun hHeld => ?_)
                            clear hK K
                            refine norm_ (a' := ?_) ?_ ?_
                            rotate_left
                            · show Act.put _ (some 123) _ = _
                              simp only [Act.put, List.setIfInBounds_toArray, List.set_cons_zero, List.set_cons_succ, i64_w, i32_w]
                              rfl
                            refine one_ (i := 34) (N := some 128) #[true, true, true, true, true, true, true, true, true, true, true, true, true, true, true, true, true, true, true, true, true, true, true, true, true, true, true, true, true, true, true, true, true, true, true, false, false, false, false] rfl rfl (one_of HT_.out (by kernel_rfl)) (by decide) (fun K hK => ?_)
                            refine goes_ Try.func22 (by kernel_rfl) rfl #[.agg #[.int .u64 ((rd_T27 l0_0 0).f0), .int .i64 ((rd_T27 l0_0 0).f1)], .agg #[.int .u64 a0_1, .int .i64 a0_2]] (by rfl) rfl rfl (by (try simp only [List.map_toArray, List.map_cons, List.map_nil]); first | done | rfl | (simp only [List.length_drop, List.length_take]; rfl)) ?_
                            with_reducible refine (stanchionref15_Less.calls ((rd_T27 l0_0 0).f0) ((rd_T27 l0_0 0).f1) a0_1 a0_2 t314 _ A100.out).mono ?_
                            rintro e w109 ⟨rfl, hb⟩
                            refine ⟨_, rfl, ?_⟩
                            have n0_ := Aside0.mk (Kd.R_below (by (with_reducible repeat (first | apply Kd.R_alloc | apply Kd.R_drewN | apply Kd.R_drew)); exact HO304.out) hb)
                            have n1_ := Aside0.mk (Kd.R_below (by (with_reducible repeat (first | apply Kd.R_alloc | apply Kd.R_drewN | apply Kd.R_drew)); exact HO307.out) hb)
                            have n2_ := Aside0.mk (blk_below (g := gb263) (o := .cells #[.slice (some ad311) l0_0.length c0_0, .int .u64 a0_1, .int .i64 a0_2, .int .u64 a0_3, .int .i64 a0_4] 40 (0, 0)) (by (with_reducible repeat (first | refine blk_drewN ?_ _ | refine blk_drew ?_ | refine blk_alloc ?_ _)); exact BK263.out) hb)
                            have n3_ := Aside0.mk (blk_below (g := gb264) (o := .cells #[.int .u64 a0_1, .int .i64 a0_2] 27 (0, 0)) (by (with_reducible repeat (first | refine blk_drewN ?_ _ | refine blk_drew ?_ | refine blk_alloc ?_ _)); exact BK264.out) hb)
                            have n4_ := Aside0.mk (blk_below (g := gb279) (o := .cells #[.int .u64 t276, .int .i64 t277] 27 (0, 0)) (by (with_reducible repeat (first | refine blk_drewN ?_ _ | refine blk_drew ?_ | refine blk_alloc ?_ _)); exact BK279.out) hb)
                            have n5_ := Aside0.mk (blk_below (g := gb286) (o := .cells #[.int .u64 t283, .int .i64 t284] 27 (0, 0)) (by (with_reducible repeat (first | refine blk_drewN ?_ _ | refine blk_drew ?_ | refine blk_alloc ?_ _)); exact BK286.out) hb)
                            have n6_ := Aside0.mk (below_step (by repeat (first | (with_reducible first | exact HB.out | apply below_alloc | apply pw_below_drewN | apply below_drew1 | refine below_set ?_ GE263.out | refine below_set ?_ GE264.out | refine below_set ?_ GE279.out | refine below_set ?_ GE286.out) | exact HB.out)) hb)
                            clear HO304
                            clear HO307
                            clear BK263
                            clear BK264
                            clear BK279
                            clear BK286
                            clear HB
                            have HO304 := n0_
                            have HO307 := n1_
                            have BK263 := n2_
                            have BK264 := n3_
                            have BK279 := n4_
                            have BK286 := n5_
                            have HB := n6_
                            clear n0_ n1_ n2_ n3_ n4_ n5_ n6_
                            (try clear hb)
                            (try clear hb2)
                            (try clear hk)
                            (try clear hi)
                            refine hK.out _ _ ⟨(blk_cell BK264.out 0).trans rfl, (blk_cell BK264.out 1).trans rfl, ((HB.out.cell (World.block_lt_of_cell? w _ hw311_0)).trans hw311_0), ((HB.out.cell (World.block_lt_of_cell? w _ hw311_1)).trans hw311_1), ((HB.out.cell (World.block_lt_of_cell? w _ hw313_0)).trans hw313_0), ((HB.out.cell (World.block_lt_of_cell? w _ hw313_1)).trans hw313_1)⟩ (fun hHeld => ?_)
                            clear hK K
                            refine norm_ (a' := ?_) ?_ ?_
                            rotate_left
                            · show Act.put _ (some 128) _ = _
                              simp only [Act.put, List.setIfInBounds_toArray, List.set_cons_zero, List.set_cons_succ, i64_w, i32_w]
                              rfl
                            refine pure_ (i := 35) (N := some 129) (v := ?_) (a' := ?_) #[true, true, true, true, true, true, true, true, true, true, true, true, true, true, true, true, true, true, true, true, true, true, true, true, true, true, true, true, true, true, true, true, true, true, true, true, false, false, false] rfl rfl (any_of HT_.out (by kernel_rfl)) (fun _ _ _ h => h) (Or.inl ⟨by rfl, ?_⟩) ?_ ?_
                            rotate_left
                            · intro w'
                              go_simp
                              with_reducible rfl
                            rotate_left
                            · simp only [Act.put, List.setIfInBounds_toArray, List.set_cons_zero, List.set_cons_succ, i64_w, i32_w]
                              rfl
                            refine pure_ (i := 36) (N := some 130) (v := ?_) (a' := ?_) #[true, true, true, true, true, true, true, true, true, true, true, true, true, true, true, true, true, true, true, true, true, true, true, true, true, true, true, true, true, true, true, true, true, true, true, true, true, false, false] rfl rfl (any_of HT_.out (by kernel_rfl)) (fun _ _ _ h => h) (Or.inl ⟨by rfl, ?_⟩) ?_ ?_
                            rotate_left
                            · intro w'
                              go_simp
                              with_reducible rfl
                            rotate_left
                            · simp only [Act.put, List.setIfInBounds_toArray, List.set_cons_zero, List.set_cons_succ, i64_w, i32_w]
                              rfl
                            refine pure_ (i := 37) (N := some 131) (v := ?_) (a' := ?_) #[true, true, true, true, true, true, true, true, true, true, true, true, true, true, true, true, true, true, true, true, true, true, true, true, true, true, true, true, true, true, true, true, true, true, true, true, true, true, false] rfl rfl (any_of HT_.out (by kernel_rfl)) (fun _ _ _ h => h) (Or.inl ⟨by rfl, ?_⟩) ?_ ?_
                            rotate_left
                            · intro w'
                              go_simp
                              with_reducible rfl
                            rotate_left
                            · simp only [Act.put, List.setIfInBounds_toArray, List.set_cons_zero, List.set_cons_succ, i64_w, i32_w]
                              rfl
                            refine pure_ (i := 38) (N := some 2) (v := ?_) (a' := ?_) #[true, true, true, true, true, true, true, true, true, true, true, true, true, true, true, true, true, true, true, true, true, true, true, true, true, true, true, true, true, true, true, true, true, true, true, true, true, true, true] rfl rfl (any_of HT_.out (by kernel_rfl)) (fun _ _ _ h => h) (Or.inl ⟨by rfl, ?_⟩) ?_ ?_
                            rotate_left
                            · intro w'
                              go_simp
                              with_reducible rfl
                            rotate_left
                            · simp only [Act.put, List.setIfInBounds_toArray, List.set_cons_zero, List.set_cons_succ, i64_w, i32_w]
                              rfl
                            refine done_ (done_of HT_.out (by kernel_rfl)) ?_
                            try go_wp2
                            go_ret
                            exact ⟨by first | rfl | (simp [errW_none, errW_some] <;> rfl) | (simp [*, errW_none, errW_some] <;> rfl), by repeat (first | (with_reducible first | exact HB.out | apply below_alloc | apply pw_below_drewN | apply below_drew1 | refine below_set ?_ GE263.out | refine below_set ?_ GE264.out | refine below_set ?_ GE279.out | refine below_set ?_ GE286.out) | exact HB.out)⟩
                          · rw [if_neg c98] at H
                            exact absurd H (by simp)
                      · rw [if_neg c89] at H
                        have c89b0 : (t309 == t310) = false := by simpa using c89
                        (try (have c89b1 : decide (t309 = t310) = false := by simpa using c89))
                        (try (have c89b2 : (t309 == t310) = false := by simpa using c89))
                        (try (have c89b3 : ¬ (t309 = t310) := by simpa using c89))
                        clear c89
                        obtain rfl := Option.some.inj H
                        exact absurd hr_ (by decide)
                    · replace c86 := Bool.eq_false_iff.mpr c86
                      subst c86
                      have H1 : (some false) = some r := by rw [if_neg (show ¬ (false = true) by decide)] at H; exact H
                      clear H
                      have H := H1
                      clear H1
                      obtain rfl := Option.some.inj H
                      exact absurd hr_ (by decide)
                  · replace c85 := Bool.eq_false_iff.mpr c85
                    subst c85
                    have H1 : (some false) = some r := by rw [if_neg (show ¬ (false = true) by decide)] at H; exact H
                    clear H
                    have H := H1
                    clear H1
                    obtain rfl := Option.some.inj H
                    exact absurd hr_ (by decide)
                · replace c84 := Bool.eq_false_iff.mpr c84
                  subst c84
                  have H1 : (some false) = some r := by rw [if_neg (show ¬ (false = true) by decide)] at H; exact H
                  clear H
                  have H := H1
                  clear H1
                  obtain rfl := Option.some.inj H
                  exact absurd hr_ (by decide)
              · replace c83 := Bool.eq_false_iff.mpr c83
                subst c83
                have H1 : (some false) = some r := by rw [if_neg (show ¬ (false = true) by decide)] at H; exact H
                clear H
                have H := H1
                clear H1
                obtain rfl := Option.some.inj H
                exact absurd hr_ (by decide)
            · replace c82 := Bool.eq_false_iff.mpr c82
              subst c82
              have H1 : (some false) = some r := by rw [if_neg (show ¬ (false = true) by decide)] at H; exact H
              clear H
              have H := H1
              clear H1
              obtain rfl := Option.some.inj H
              exact absurd hr_ (by decide)

end Go.Proofs.Ytgcbggcddnkldaa.PB
