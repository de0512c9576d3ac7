-- Made by a program of this workplace out of the translation (wip/tools in the repo). Not trusted: Lean checks it.
import Derived.Test.YtnpmjboofmdflaaPBx0
import Derived.Test.YtnpmjboofmdflaaPBx3
import Derived.Test.YtnpmjboofmdflaaPBx5
namespace Go.Proofs.Ytnpmjboofmdflaa.PB
open Go.RowKit Go.Proofs.YtnpmjboofmdflaaW.PrintWords Go.Proofs.YtnpmjboofmdflaaW.PrintLast Go.Proofs.YtnpmjboofmdflaaW.PrintMore
attribute [local go_sem] max2_int min2_int max_two min_two max_three min_three max_four min_four   -- for this text's walks alone
set_option linter.unusedVariables false
set_option linter.unusedSimpArgs false

/-! ### session_Judge: function 11 -/
set_option maxHeartbeats 8000000 in
set_option maxRecDepth 100000 in
theorem session_Judge.calls (k : Nat) (a0_0 : Int) (A0_1 : Option Addr) (c0_1 : Nat) (l0_1 : List (S42)) (A0_2 : Option Addr) (c0_2 : Nat) (l0_2 : List (S85)) (a0_3 : Int) (a0_4 : Int) (a1_0 : Int) (a1_1 : Int) (a1_2 : Int) (a1_3 : Int) (a1_4 : ByteArray) (a1_5 : Int) (a1_6 : ByteArray) (a1_7 : ByteArray) (a1_8 : ByteArray) (a1_9 : ByteArray) (a1_10 : Int) (r1 : ByteArray) (r2 : Int) (w : World) (hr0_1 : Kd.C k42 w A0_1 l0_1.length l0_1) (hc0_1 : l0_1.length ≤ c0_1) (hr0_2 : Kd.C k85 w A0_2 l0_2.length l0_2) (hc0_2 : l0_2.length ≤ c0_2) (h : session_Judge.f k a0_0 l0_1 l0_2 a0_3 a0_4 a1_0 a1_1 a1_2 a1_3 a1_4 a1_5 a1_6 a1_7 a1_8 a1_9 a1_10 = some (r1, r2)) :
    Calls Try.prog 11 #[.agg #[.int .i64 a0_0, .slice A0_1 l0_1.length c0_1, .slice A0_2 l0_2.length c0_2, .int .i64 a0_3, .int .u64 a0_4], .agg #[.int .i64 a1_0, .int .i64 a1_1, .int .i64 a1_2, .int .i64 a1_3, .string a1_4, .int .i64 a1_5, .string a1_6, .string a1_7, .string a1_8, .string a1_9, .int .i64 a1_10]] w fun e w' => e = .returned (.tuple #[.string r1, .int .i64 r2]) ∧ Below w.heap.size w w' := by
  have hu26 := Try.underlying26
  have hu30 := Try.underlying30
  have hu42 := Try.underlying42
  have HR0_1 := Aside0.mk hr0_1
  have HC0_1 := Aside0.mk hc0_1
  clear hr0_1 hc0_1
  have HR0_2 := Aside0.mk hr0_2
  have HC0_2 := Aside0.mk hc0_2
  clear hr0_2 hc0_2
  have HB := Aside0.mk (Below.refl w.heap.size w)
  have H : ((session_Find.f a0_0 l0_1 l0_2 a0_3 a0_4 a1_2).bind fun bt119 => (if a1_1 = a0_0 then (if bt119.2.2.2.2.2.2 = true then (if a1_3 < 1 then (some ((⟨#[]⟩ : ByteArray), 15)) else (if a1_3 = bt119.2.1 then (session_Judge.j0 k bt119.2.2.1 a1_0 a1_1 a1_2 a1_3 a1_4 a1_5 a1_6 a1_7 a1_8 a1_9 a1_10 bt119.1 bt119.2.1 bt119.2.2.1 bt119.2.2.2.1 bt119.2.2.2.2.1 bt119.2.2.2.2.2.1) else (session_Judge.j0 k false a1_0 a1_1 a1_2 a1_3 a1_4 a1_5 a1_6 a1_7 a1_8 a1_9 a1_10 bt119.1 bt119.2.1 bt119.2.2.1 bt119.2.2.2.1 bt119.2.2.2.2.1 bt119.2.2.2.2.2.1))) else (some ((⟨#[]⟩ : ByteArray), 7))) else (some ((⟨#[]⟩ : ByteArray), 14)))) = some (r1, r2) := h
  clear h
  replace H := Option.bind_eq_some_iff.mp H
  obtain ⟨⟨t119, t120, t121, t122, t123, t124, t125⟩, A30, H⟩ := H
  replace H : (if a1_1 = a0_0 then (if t125 = true then (if a1_3 < 1 then (some ((⟨#[]⟩ : ByteArray), 15)) else (if a1_3 = t120 then (session_Judge.j0 k t121 a1_0 a1_1 a1_2 a1_3 a1_4 a1_5 a1_6 a1_7 a1_8 a1_9 a1_10 t119 t120 t121 t122 t123 t124) else (session_Judge.j0 k false a1_0 a1_1 a1_2 a1_3 a1_4 a1_5 a1_6 a1_7 a1_8 a1_9 a1_10 t119 t120 t121 t122 t123 t124))) else (some ((⟨#[]⟩ : ByteArray), 7))) else (some ((⟨#[]⟩ : ByteArray), 14))) = some (r1, r2) := H
  have A3 := Aside0.mk A30
  clear A30
  by_cases c4 : a1_1 = a0_0
  · rw [if_pos c4] at H
    have c4b0 : (a1_1 == a0_0) = true := beq_iff_eq.mpr c4
    have c4b1 : (a1_1 != a0_0) = false := bne_eq_false_iff_eq.mpr c4
    clear c4
    by_cases c5 : t125 = true
    · subst c5
      have H1 : (if a1_3 < 1 then (some ((⟨#[]⟩ : ByteArray), 15)) else (if a1_3 = t120 then (session_Judge.j0 k t121 a1_0 a1_1 a1_2 a1_3 a1_4 a1_5 a1_6 a1_7 a1_8 a1_9 a1_10 t119 t120 t121 t122 t123 t124) else (session_Judge.j0 k false a1_0 a1_1 a1_2 a1_3 a1_4 a1_5 a1_6 a1_7 a1_8 a1_9 a1_10 t119 t120 t121 t122 t123 t124))) = some (r1, r2) := by rw [if_pos rfl] at H; exact H
      clear H
      have H := H1
      clear H1
      by_cases c6 : a1_3 < 1
      · rw [if_pos c6] at H
        have c6b0 : decide (a1_3 < 1) = true := decide_eq_true c6
        clear c6
        simp only [Option.some.injEq, Prod.mk.injEq] at H
        obtain ⟨rfl, rfl⟩ := H
        go_enter Try.func11, Try.ntmps11
        go_wp2_with (first | ((with_reducible refine gate_dst (N := 2) rfl ?_); refine box_event ?hg (N := 2) ?hd (cs := #[.int .i64 a0_0, .slice A0_1 l0_1.length c0_1, .slice A0_2 l0_2.length c0_2, .int .i64 a0_3, .int .u64 a0_4]) (t := 26) ?hr ?_; (case hd => rfl); (case hg => rfl); (case hr => first | (go_simp; done) | (go_simp; rfl)); intro gb117 hg w7 hbox hb; have n0_ := Aside0.mk (below_step (by repeat (first | (with_reducible first | exact HB.out | apply below_alloc | apply pw_below_drewN | apply below_drew1) | exact HB.out)) hb); have n1_ := Aside0.mk (hbox); have n2_ := Aside0.mk ((by rw [hg]; exact (below_size (by repeat (first | (with_reducible first | exact HB.out | apply below_alloc | apply pw_below_drewN | apply below_drew1) | exact HB.out))) : w.heap.size ≤ gb117)); have n3_ := Aside0.mk ((by rw [hg]; exact (below_size (by repeat (first | (with_reducible first | exact HB.out | apply below_alloc | apply pw_below_drewN | apply below_drew1) | exact HB.out))) : w.heap.size ≤ gb117)); clear HB; have HB := n0_; have BK117 := n1_; have GW117 := n2_; have GE117 := n3_; clear n0_ n1_ n2_ n3_; clear hb hbox hg) | ((with_reducible refine gate_dst (N := 3) rfl ?_); refine box_event ?hg (N := 3) ?hd (cs := #[.int .i64 a1_0, .int .i64 a1_1, .int .i64 a1_2, .int .i64 a1_3, .string a1_4, .int .i64 a1_5, .string a1_6, .string a1_7, .string a1_8, .string a1_9, .int .i64 a1_10]) (t := 30) ?hr ?_; (case hd => rfl); (case hg => rfl); (case hr => first | (go_simp; done) | (go_simp; rfl)); intro gb118 hg w8 hbox hb; have n0_ := Aside0.mk (blk_below (g := gb117) (o := .cells #[.int .i64 a0_0, .slice A0_1 l0_1.length c0_1, .slice A0_2 l0_2.length c0_2, .int .i64 a0_3, .int .u64 a0_4] 26 (0, 0)) (by (with_reducible repeat (first | refine blk_drewN ?_ _ | refine blk_drew ?_ | refine blk_alloc ?_ _)); exact BK117.out) hb); have n1_ := Aside0.mk (below_step (by repeat (first | (with_reducible first | exact HB.out | apply below_alloc | apply pw_below_drewN | apply below_drew1 | refine below_set ?_ GE117.out) | exact HB.out)) hb); have n2_ := Aside0.mk (hbox); have n3_ := Aside0.mk ((by rw [hg]; exact (below_size (by repeat (first | (with_reducible first | exact HB.out | apply below_alloc | apply pw_below_drewN | apply below_drew1 | refine below_set ?_ GE117.out) | exact HB.out))) : w.heap.size ≤ gb118)); have n4_ := Aside0.mk ((by rw [hg]; exact (below_size (by repeat (first | (with_reducible first | exact HB.out | apply below_alloc | apply pw_below_drewN | apply below_drew1 | refine below_set ?_ GE117.out) | exact HB.out))) : w.heap.size ≤ gb118)); have n5_ := Aside0.mk ((by rw [hg]; exact Nat.ne_of_lt (blk_lt (g := gb117) (o := .cells #[.int .i64 a0_0, .slice A0_1 l0_1.length c0_1, .slice A0_2 l0_2.length c0_2, .int .i64 a0_3, .int .u64 a0_4] 26 (0, 0)) (by (with_reducible repeat (first | refine blk_drewN ?_ _ | refine blk_drew ?_ | refine blk_alloc ?_ _)); exact BK117.out)) : gb117 ≠ gb118)); have n6_ := Aside0.mk ((by rw [hg]; exact Nat.ne_of_gt (blk_lt (g := gb117) (o := .cells #[.int .i64 a0_0, .slice A0_1 l0_1.length c0_1, .slice A0_2 l0_2.length c0_2, .int .i64 a0_3, .int .u64 a0_4] 26 (0, 0)) (by (with_reducible repeat (first | refine blk_drewN ?_ _ | refine blk_drew ?_ | refine blk_alloc ?_ _)); exact BK117.out)) : gb118 ≠ gb117)); clear BK117; clear HB; have BK117 := n0_; have HB := n1_; have BK118 := n2_; have GW118 := n3_; have GE118 := n4_; have NB117_118 := n5_; have NB118_117 := n6_; clear n0_ n1_ n2_ n3_ n4_ n5_ n6_; clear hb hbox hg; have hnb9 := NB117_118.out; have hnc9 := NB118_117.out; have hcz10_0 : w8.cell? ⟨gb117, 0, none⟩ = some (.int .i64 a0_0) := (blk_cell BK117.out 0).trans rfl; have hcz10_1 : w8.cell? ⟨gb117, 1, none⟩ = some (.slice A0_1 l0_1.length c0_1) := (blk_cell BK117.out 1).trans rfl; have hcz10_2 : w8.cell? ⟨gb117, 2, none⟩ = some (.slice A0_2 l0_2.length c0_2) := (blk_cell BK117.out 2).trans rfl; have hcz10_3 : w8.cell? ⟨gb117, 3, none⟩ = some (.int .i64 a0_3) := (blk_cell BK117.out 3).trans rfl; have hcz10_4 : w8.cell? ⟨gb117, 4, none⟩ = some (.int .u64 a0_4) := (blk_cell BK117.out 4).trans rfl; have hfz10_0 := blk_frozen BK117.out 0; have hfz10_1 := blk_frozen BK117.out 1; have hfz10_2 := blk_frozen BK117.out 2; have hfz10_3 := blk_frozen BK117.out 3; have hfz10_4 := blk_frozen BK117.out 4; have hcz11_0 : w8.cell? ⟨gb118, 0, none⟩ = some (.int .i64 a1_0) := (blk_cell BK118.out 0).trans rfl; have hcz11_1 : w8.cell? ⟨gb118, 1, none⟩ = some (.int .i64 a1_1) := (blk_cell BK118.out 1).trans rfl; have hcz11_2 : w8.cell? ⟨gb118, 2, none⟩ = some (.int .i64 a1_2) := (blk_cell BK118.out 2).trans rfl; have hcz11_3 : w8.cell? ⟨gb118, 3, none⟩ = some (.int .i64 a1_3) := (blk_cell BK118.out 3).trans rfl; have hcz11_4 : w8.cell? ⟨gb118, 4, none⟩ = some (.string a1_4) := (blk_cell BK118.out 4).trans rfl; have hcz11_5 : w8.cell? ⟨gb118, 5, none⟩ = some (.int .i64 a1_5) := (blk_cell BK118.out 5).trans rfl; have hcz11_6 : w8.cell? ⟨gb118, 6, none⟩ = some (.string a1_6) := (blk_cell BK118.out 6).trans rfl; have hcz11_7 : w8.cell? ⟨gb118, 7, none⟩ = some (.string a1_7) := (blk_cell BK118.out 7).trans rfl; have hcz11_8 : w8.cell? ⟨gb118, 8, none⟩ = some (.string a1_8) := (blk_cell BK118.out 8).trans rfl; have hcz11_9 : w8.cell? ⟨gb118, 9, none⟩ = some (.string a1_9) := (blk_cell BK118.out 9).trans rfl; have hcz11_10 : w8.cell? ⟨gb118, 10, none⟩ = some (.int .i64 a1_10) := (blk_cell BK118.out 10).trans rfl; have hfz11_0 := blk_frozen BK118.out 0; have hfz11_1 := blk_frozen BK118.out 1; have hfz11_2 := blk_frozen BK118.out 2; have hfz11_3 := blk_frozen BK118.out 3; have hfz11_4 := blk_frozen BK118.out 4; have hfz11_5 := blk_frozen BK118.out 5; have hfz11_6 := blk_frozen BK118.out 6; have hfz11_7 := blk_frozen BK118.out 7; have hfz11_8 := blk_frozen BK118.out 8; have hfz11_9 := blk_frozen BK118.out 9; have hfz11_10 := blk_frozen BK118.out 10) | ((with_reducible refine gate_callee (f := 14) rfl ?_); refine goesL_ (some 12) rfl rfl Try.func14 (by kernel_rfl) rfl #[.agg #[.int .i64 a0_0, .slice A0_1 l0_1.length c0_1, .slice A0_2 l0_2.length c0_2, .int .i64 a0_3, .int .u64 a0_4], .int .i64 a1_2] rfl (by (try simp only [List.map_toArray, List.map_cons, List.map_nil]); first | done | rfl | (simp only [List.length_drop, List.length_take]; rfl)) ?_; (with_reducible refine (session_Find.calls a0_0 _ _ l0_1 _ _ l0_2 a0_3 a0_4 a1_2 t119 t120 t121 t122 t123 t124 true _ ?side1 ?side2 ?side3 ?side4 A3.out).mono ?_); (case side1 => repeat (first | exact (Kd.C_below HR0_1.out HB.out) | (with_reducible refine Kd.C_alloc ?_ _) | (with_reducible refine Kd.C_drewN ?_ _) | (with_reducible refine Kd.C_drew ?_))); (case side2 => exact HC0_1.out); (case side3 => repeat (first | exact (Kd.C_below HR0_2.out HB.out) | (with_reducible refine Kd.C_alloc ?_ _) | (with_reducible refine Kd.C_drewN ?_ _) | (with_reducible refine Kd.C_drew ?_))); (case side4 => exact HC0_2.out); rintro e w12 ⟨rfl, hb⟩; refine ⟨_, rfl, ?_⟩; have n0_ := Aside0.mk (blk_below (g := gb117) (o := .cells #[.int .i64 a0_0, .slice A0_1 l0_1.length c0_1, .slice A0_2 l0_2.length c0_2, .int .i64 a0_3, .int .u64 a0_4] 26 (0, 0)) (by (with_reducible repeat (first | refine blk_drewN ?_ _ | refine blk_drew ?_ | refine blk_alloc ?_ _)); exact BK117.out) hb); have n1_ := Aside0.mk (blk_below (g := gb118) (o := .cells #[.int .i64 a1_0, .int .i64 a1_1, .int .i64 a1_2, .int .i64 a1_3, .string a1_4, .int .i64 a1_5, .string a1_6, .string a1_7, .string a1_8, .string a1_9, .int .i64 a1_10] 30 (0, 0)) (by (with_reducible repeat (first | refine blk_drewN ?_ _ | refine blk_drew ?_ | refine blk_alloc ?_ _)); exact BK118.out) hb); have n2_ := Aside0.mk (below_step (by repeat (first | (with_reducible first | exact HB.out | apply below_alloc | apply pw_below_drewN | apply below_drew1 | refine below_set ?_ GE117.out | refine below_set ?_ GE118.out) | exact HB.out)) hb); clear BK117; clear BK118; clear HB; have BK117 := n0_; have BK118 := n1_; have HB := n2_; clear n0_ n1_ n2_; (try clear hb); (try clear hb2); (try clear hk); (try clear hi)) | ((with_reducible refine gate_dst (N := 6) rfl ?_); refine box_event ?hg (N := 6) ?hd (cs := #[.int .i64 0, .int .i64 0, .bool false, .string (⟨#[]⟩ : ByteArray), .int .i64 0, .int .i64 0]) (t := 42) ?hr ?_; (case hd => rfl); (case hg => rfl); (case hr => first | (go_simp; done) | (go_simp; rfl)); intro gb126 hg w13 hbox hb; have n0_ := Aside0.mk (blk_below (g := gb117) (o := .cells #[.int .i64 a0_0, .slice A0_1 l0_1.length c0_1, .slice A0_2 l0_2.length c0_2, .int .i64 a0_3, .int .u64 a0_4] 26 (0, 0)) (by (with_reducible repeat (first | refine blk_drewN ?_ _ | refine blk_drew ?_ | refine blk_alloc ?_ _)); exact BK117.out) hb); have n1_ := Aside0.mk (blk_below (g := gb118) (o := .cells #[.int .i64 a1_0, .int .i64 a1_1, .int .i64 a1_2, .int .i64 a1_3, .string a1_4, .int .i64 a1_5, .string a1_6, .string a1_7, .string a1_8, .string a1_9, .int .i64 a1_10] 30 (0, 0)) (by (with_reducible repeat (first | refine blk_drewN ?_ _ | refine blk_drew ?_ | refine blk_alloc ?_ _)); exact BK118.out) hb); have n2_ := Aside0.mk (below_step (by repeat (first | (with_reducible first | exact HB.out | apply below_alloc | apply pw_below_drewN | apply below_drew1 | refine below_set ?_ GE117.out | refine below_set ?_ GE118.out) | exact HB.out)) hb); have n3_ := Aside0.mk (hbox); have n4_ := Aside0.mk ((by rw [hg]; exact (below_size (by repeat (first | (with_reducible first | exact HB.out | apply below_alloc | apply pw_below_drewN | apply below_drew1 | refine below_set ?_ GE117.out | refine below_set ?_ GE118.out) | exact HB.out))) : w.heap.size ≤ gb126)); have n5_ := Aside0.mk ((by rw [hg]; exact (below_size (by repeat (first | (with_reducible first | exact HB.out | apply below_alloc | apply pw_below_drewN | apply below_drew1 | refine below_set ?_ GE117.out | refine below_set ?_ GE118.out) | exact HB.out))) : w.heap.size ≤ gb126)); have n6_ := Aside0.mk ((by rw [hg]; exact Nat.ne_of_lt (blk_lt (g := gb117) (o := .cells #[.int .i64 a0_0, .slice A0_1 l0_1.length c0_1, .slice A0_2 l0_2.length c0_2, .int .i64 a0_3, .int .u64 a0_4] 26 (0, 0)) (by (with_reducible repeat (first | refine blk_drewN ?_ _ | refine blk_drew ?_ | refine blk_alloc ?_ _)); exact BK117.out)) : gb117 ≠ gb126)); have n7_ := Aside0.mk ((by rw [hg]; exact Nat.ne_of_gt (blk_lt (g := gb117) (o := .cells #[.int .i64 a0_0, .slice A0_1 l0_1.length c0_1, .slice A0_2 l0_2.length c0_2, .int .i64 a0_3, .int .u64 a0_4] 26 (0, 0)) (by (with_reducible repeat (first | refine blk_drewN ?_ _ | refine blk_drew ?_ | refine blk_alloc ?_ _)); exact BK117.out)) : gb126 ≠ gb117)); have n8_ := Aside0.mk ((by rw [hg]; exact Nat.ne_of_lt (blk_lt (g := gb118) (o := .cells #[.int .i64 a1_0, .int .i64 a1_1, .int .i64 a1_2, .int .i64 a1_3, .string a1_4, .int .i64 a1_5, .string a1_6, .string a1_7, .string a1_8, .string a1_9, .int .i64 a1_10] 30 (0, 0)) (by (with_reducible repeat (first | refine blk_drewN ?_ _ | refine blk_drew ?_ | refine blk_alloc ?_ _)); exact BK118.out)) : gb118 ≠ gb126)); have n9_ := Aside0.mk ((by rw [hg]; exact Nat.ne_of_gt (blk_lt (g := gb118) (o := .cells #[.int .i64 a1_0, .int .i64 a1_1, .int .i64 a1_2, .int .i64 a1_3, .string a1_4, .int .i64 a1_5, .string a1_6, .string a1_7, .string a1_8, .string a1_9, .int .i64 a1_10] 30 (0, 0)) (by (with_reducible repeat (first | refine blk_drewN ?_ _ | refine blk_drew ?_ | refine blk_alloc ?_ _)); exact BK118.out)) : gb126 ≠ gb118)); clear BK117; clear BK118; clear HB; have BK117 := n0_; have BK118 := n1_; have HB := n2_; have BK126 := n3_; have GW126 := n4_; have GE126 := n5_; have NB117_126 := n6_; have NB126_117 := n7_; have NB118_126 := n8_; have NB126_118 := n9_; clear n0_ n1_ n2_ n3_ n4_ n5_ n6_ n7_ n8_ n9_; clear hb hbox hg; have hnb14 := NB126_117.out; have hnc14 := NB117_126.out; have hnb15 := NB126_118.out; have hnc15 := NB118_126.out; have hcz16_0 : w13.cell? ⟨gb126, 0, none⟩ = some (.int .i64 0) := (blk_cell BK126.out 0).trans rfl; have hcz16_1 : w13.cell? ⟨gb126, 1, none⟩ = some (.int .i64 0) := (blk_cell BK126.out 1).trans rfl; have hcz16_2 : w13.cell? ⟨gb126, 2, none⟩ = some (.bool false) := (blk_cell BK126.out 2).trans rfl; have hcz16_3 : w13.cell? ⟨gb126, 3, none⟩ = some (.string (⟨#[]⟩ : ByteArray)) := (blk_cell BK126.out 3).trans rfl; have hcz16_4 : w13.cell? ⟨gb126, 4, none⟩ = some (.int .i64 0) := (blk_cell BK126.out 4).trans rfl; have hcz16_5 : w13.cell? ⟨gb126, 5, none⟩ = some (.int .i64 0) := (blk_cell BK126.out 5).trans rfl; have hfz16_0 := blk_frozen BK126.out 0; have hfz16_1 := blk_frozen BK126.out 1; have hfz16_2 := blk_frozen BK126.out 2; have hfz16_3 := blk_frozen BK126.out 3; have hfz16_4 := blk_frozen BK126.out 4; have hfz16_5 := blk_frozen BK126.out 5; have hcz17_0 : w13.cell? ⟨gb118, 0, none⟩ = some (.int .i64 a1_0) := (blk_cell BK118.out 0).trans rfl; have hcz17_1 : w13.cell? ⟨gb118, 1, none⟩ = some (.int .i64 a1_1) := (blk_cell BK118.out 1).trans rfl; have hcz17_2 : w13.cell? ⟨gb118, 2, none⟩ = some (.int .i64 a1_2) := (blk_cell BK118.out 2).trans rfl; have hcz17_3 : w13.cell? ⟨gb118, 3, none⟩ = some (.int .i64 a1_3) := (blk_cell BK118.out 3).trans rfl; have hcz17_4 : w13.cell? ⟨gb118, 4, none⟩ = some (.string a1_4) := (blk_cell BK118.out 4).trans rfl; have hcz17_5 : w13.cell? ⟨gb118, 5, none⟩ = some (.int .i64 a1_5) := (blk_cell BK118.out 5).trans rfl; have hcz17_6 : w13.cell? ⟨gb118, 6, none⟩ = some (.string a1_6) := (blk_cell BK118.out 6).trans rfl; have hcz17_7 : w13.cell? ⟨gb118, 7, none⟩ = some (.string a1_7) := (blk_cell BK118.out 7).trans rfl; have hcz17_8 : w13.cell? ⟨gb118, 8, none⟩ = some (.string a1_8) := (blk_cell BK118.out 8).trans rfl; have hcz17_9 : w13.cell? ⟨gb118, 9, none⟩ = some (.string a1_9) := (blk_cell BK118.out 9).trans rfl; have hcz17_10 : w13.cell? ⟨gb118, 10, none⟩ = some (.int .i64 a1_10) := (blk_cell BK118.out 10).trans rfl; have hfz17_0 := blk_frozen BK118.out 0; have hfz17_1 := blk_frozen BK118.out 1; have hfz17_2 := blk_frozen BK118.out 2; have hfz17_3 := blk_frozen BK118.out 3; have hfz17_4 := blk_frozen BK118.out 4; have hfz17_5 := blk_frozen BK118.out 5; have hfz17_6 := blk_frozen BK118.out 6; have hfz17_7 := blk_frozen BK118.out 7; have hfz17_8 := blk_frozen BK118.out 8; have hfz17_9 := blk_frozen BK118.out 9; have hfz17_10 := blk_frozen BK118.out 10; have hcz18_0 : w13.cell? ⟨gb117, 0, none⟩ = some (.int .i64 a0_0) := (blk_cell BK117.out 0).trans rfl; have hcz18_1 : w13.cell? ⟨gb117, 1, none⟩ = some (.slice A0_1 l0_1.length c0_1) := (blk_cell BK117.out 1).trans rfl; have hcz18_2 : w13.cell? ⟨gb117, 2, none⟩ = some (.slice A0_2 l0_2.length c0_2) := (blk_cell BK117.out 2).trans rfl; have hcz18_3 : w13.cell? ⟨gb117, 3, none⟩ = some (.int .i64 a0_3) := (blk_cell BK117.out 3).trans rfl; have hcz18_4 : w13.cell? ⟨gb117, 4, none⟩ = some (.int .u64 a0_4) := (blk_cell BK117.out 4).trans rfl; have hfz18_0 := blk_frozen BK117.out 0; have hfz18_1 := blk_frozen BK117.out 1; have hfz18_2 := blk_frozen BK117.out 2; have hfz18_3 := blk_frozen BK117.out 3; have hfz18_4 := blk_frozen BK117.out 4))
        go_ret2
        exact ⟨by first | rfl | (simp [errW_none, errW_some] <;> rfl) | (simp [*, errW_none, errW_some] <;> rfl), by repeat (first | (with_reducible first | exact HB.out | apply below_alloc | apply pw_below_drewN | apply below_drew1 | refine below_set ?_ GE117.out | refine below_set ?_ GE118.out | refine below_set ?_ GE126.out) | exact HB.out)⟩
      · rw [if_neg c6] at H
        have c6b0 : decide (a1_3 < 1) = false := decide_eq_false c6
        clear c6
        have HC19 := Aside0.mk H
        clear H
        go_enter Try.func11, Try.ntmps11
        go_upto_region 5 with (first | ((with_reducible refine gate_dst (N := 2) rfl ?_); refine box_event ?hg (N := 2) ?hd (cs := #[.int .i64 a0_0, .slice A0_1 l0_1.length c0_1, .slice A0_2 l0_2.length c0_2, .int .i64 a0_3, .int .u64 a0_4]) (t := 26) ?hr ?_; (case hd => rfl); (case hg => rfl); (case hr => first | (go_simp; done) | (go_simp; rfl)); intro gb117 hg w20 hbox hb; have n0_ := Aside0.mk (below_step (by repeat (first | (with_reducible first | exact HB.out | apply below_alloc | apply pw_below_drewN | apply below_drew1) | exact HB.out)) hb); have n1_ := Aside0.mk (hbox); have n2_ := Aside0.mk ((by rw [hg]; exact (below_size (by repeat (first | (with_reducible first | exact HB.out | apply below_alloc | apply pw_below_drewN | apply below_drew1) | exact HB.out))) : w.heap.size ≤ gb117)); have n3_ := Aside0.mk ((by rw [hg]; exact (below_size (by repeat (first | (with_reducible first | exact HB.out | apply below_alloc | apply pw_below_drewN | apply below_drew1) | exact HB.out))) : w.heap.size ≤ gb117)); clear HB; have HB := n0_; have BK117 := n1_; have GW117 := n2_; have GE117 := n3_; clear n0_ n1_ n2_ n3_; clear hb hbox hg) | ((with_reducible refine gate_dst (N := 3) rfl ?_); refine box_event ?hg (N := 3) ?hd (cs := #[.int .i64 a1_0, .int .i64 a1_1, .int .i64 a1_2, .int .i64 a1_3, .string a1_4, .int .i64 a1_5, .string a1_6, .string a1_7, .string a1_8, .string a1_9, .int .i64 a1_10]) (t := 30) ?hr ?_; (case hd => rfl); (case hg => rfl); (case hr => first | (go_simp; done) | (go_simp; rfl)); intro gb118 hg w21 hbox hb; have n0_ := Aside0.mk (blk_below (g := gb117) (o := .cells #[.int .i64 a0_0, .slice A0_1 l0_1.length c0_1, .slice A0_2 l0_2.length c0_2, .int .i64 a0_3, .int .u64 a0_4] 26 (0, 0)) (by (with_reducible repeat (first | refine blk_drewN ?_ _ | refine blk_drew ?_ | refine blk_alloc ?_ _)); exact BK117.out) hb); have n1_ := Aside0.mk (below_step (by repeat (first | (with_reducible first | exact HB.out | apply below_alloc | apply pw_below_drewN | apply below_drew1 | refine below_set ?_ GE117.out) | exact HB.out)) hb); have n2_ := Aside0.mk (hbox); have n3_ := Aside0.mk ((by rw [hg]; exact (below_size (by repeat (first | (with_reducible first | exact HB.out | apply below_alloc | apply pw_below_drewN | apply below_drew1 | refine below_set ?_ GE117.out) | exact HB.out))) : w.heap.size ≤ gb118)); have n4_ := Aside0.mk ((by rw [hg]; exact (below_size (by repeat (first | (with_reducible first | exact HB.out | apply below_alloc | apply pw_below_drewN | apply below_drew1 | refine below_set ?_ GE117.out) | exact HB.out))) : w.heap.size ≤ gb118)); have n5_ := Aside0.mk ((by rw [hg]; exact Nat.ne_of_lt (blk_lt (g := gb117) (o := .cells #[.int .i64 a0_0, .slice A0_1 l0_1.length c0_1, .slice A0_2 l0_2.length c0_2, .int .i64 a0_3, .int .u64 a0_4] 26 (0, 0)) (by (with_reducible repeat (first | refine blk_drewN ?_ _ | refine blk_drew ?_ | refine blk_alloc ?_ _)); exact BK117.out)) : gb117 ≠ gb118)); have n6_ := Aside0.mk ((by rw [hg]; exact Nat.ne_of_gt (blk_lt (g := gb117) (o := .cells #[.int .i64 a0_0, .slice A0_1 l0_1.length c0_1, .slice A0_2 l0_2.length c0_2, .int .i64 a0_3, .int .u64 a0_4] 26 (0, 0)) (by (with_reducible repeat (first | refine blk_drewN ?_ _ | refine blk_drew ?_ | refine blk_alloc ?_ _)); exact BK117.out)) : gb118 ≠ gb117)); clear BK117; clear HB; have BK117 := n0_; have HB := n1_; have BK118 := n2_; have GW118 := n3_; have GE118 := n4_; have NB117_118 := n5_; have NB118_117 := n6_; clear n0_ n1_ n2_ n3_ n4_ n5_ n6_; clear hb hbox hg; have hnb22 := NB117_118.out; have hnc22 := NB118_117.out; have hcz23_0 : w21.cell? ⟨gb117, 0, none⟩ = some (.int .i64 a0_0) := (blk_cell BK117.out 0).trans rfl; have hcz23_1 : w21.cell? ⟨gb117, 1, none⟩ = some (.slice A0_1 l0_1.length c0_1) := (blk_cell BK117.out 1).trans rfl; have hcz23_2 : w21.cell? ⟨gb117, 2, none⟩ = some (.slice A0_2 l0_2.length c0_2) := (blk_cell BK117.out 2).trans rfl; have hcz23_3 : w21.cell? ⟨gb117, 3, none⟩ = some (.int .i64 a0_3) := (blk_cell BK117.out 3).trans rfl; have hcz23_4 : w21.cell? ⟨gb117, 4, none⟩ = some (.int .u64 a0_4) := (blk_cell BK117.out 4).trans rfl; have hfz23_0 := blk_frozen BK117.out 0; have hfz23_1 := blk_frozen BK117.out 1; have hfz23_2 := blk_frozen BK117.out 2; have hfz23_3 := blk_frozen BK117.out 3; have hfz23_4 := blk_frozen BK117.out 4; have hcz24_0 : w21.cell? ⟨gb118, 0, none⟩ = some (.int .i64 a1_0) := (blk_cell BK118.out 0).trans rfl; have hcz24_1 : w21.cell? ⟨gb118, 1, none⟩ = some (.int .i64 a1_1) := (blk_cell BK118.out 1).trans rfl; have hcz24_2 : w21.cell? ⟨gb118, 2, none⟩ = some (.int .i64 a1_2) := (blk_cell BK118.out 2).trans rfl; have hcz24_3 : w21.cell? ⟨gb118, 3, none⟩ = some (.int .i64 a1_3) := (blk_cell BK118.out 3).trans rfl; have hcz24_4 : w21.cell? ⟨gb118, 4, none⟩ = some (.string a1_4) := (blk_cell BK118.out 4).trans rfl; have hcz24_5 : w21.cell? ⟨gb118, 5, none⟩ = some (.int .i64 a1_5) := (blk_cell BK118.out 5).trans rfl; have hcz24_6 : w21.cell? ⟨gb118, 6, none⟩ = some (.string a1_6) := (blk_cell BK118.out 6).trans rfl; have hcz24_7 : w21.cell? ⟨gb118, 7, none⟩ = some (.string a1_7) := (blk_cell BK118.out 7).trans rfl; have hcz24_8 : w21.cell? ⟨gb118, 8, none⟩ = some (.string a1_8) := (blk_cell BK118.out 8).trans rfl; have hcz24_9 : w21.cell? ⟨gb118, 9, none⟩ = some (.string a1_9) := (blk_cell BK118.out 9).trans rfl; have hcz24_10 : w21.cell? ⟨gb118, 10, none⟩ = some (.int .i64 a1_10) := (blk_cell BK118.out 10).trans rfl; have hfz24_0 := blk_frozen BK118.out 0; have hfz24_1 := blk_frozen BK118.out 1; have hfz24_2 := blk_frozen BK118.out 2; have hfz24_3 := blk_frozen BK118.out 3; have hfz24_4 := blk_frozen BK118.out 4; have hfz24_5 := blk_frozen BK118.out 5; have hfz24_6 := blk_frozen BK118.out 6; have hfz24_7 := blk_frozen BK118.out 7; have hfz24_8 := blk_frozen BK118.out 8; have hfz24_9 := blk_frozen BK118.out 9; have hfz24_10 := blk_frozen BK118.out 10) | ((with_reducible refine gate_callee (f := 14) rfl ?_); refine goesL_ (some 12) rfl rfl Try.func14 (by kernel_rfl) rfl #[.agg #[.int .i64 a0_0, .slice A0_1 l0_1.length c0_1, .slice A0_2 l0_2.length c0_2, .int .i64 a0_3, .int .u64 a0_4], .int .i64 a1_2] rfl (by (try simp only [List.map_toArray, List.map_cons, List.map_nil]); first | done | rfl | (simp only [List.length_drop, List.length_take]; rfl)) ?_; (with_reducible refine (session_Find.calls a0_0 _ _ l0_1 _ _ l0_2 a0_3 a0_4 a1_2 t119 t120 t121 t122 t123 t124 true _ ?side1 ?side2 ?side3 ?side4 A3.out).mono ?_); (case side1 => repeat (first | exact (Kd.C_below HR0_1.out HB.out) | (with_reducible refine Kd.C_alloc ?_ _) | (with_reducible refine Kd.C_drewN ?_ _) | (with_reducible refine Kd.C_drew ?_))); (case side2 => exact HC0_1.out); (case side3 => repeat (first | exact (Kd.C_below HR0_2.out HB.out) | (with_reducible refine Kd.C_alloc ?_ _) | (with_reducible refine Kd.C_drewN ?_ _) | (with_reducible refine Kd.C_drew ?_))); (case side4 => exact HC0_2.out); rintro e w25 ⟨rfl, hb⟩; refine ⟨_, rfl, ?_⟩; have n0_ := Aside0.mk (blk_below (g := gb117) (o := .cells #[.int .i64 a0_0, .slice A0_1 l0_1.length c0_1, .slice A0_2 l0_2.length c0_2, .int .i64 a0_3, .int .u64 a0_4] 26 (0, 0)) (by (with_reducible repeat (first | refine blk_drewN ?_ _ | refine blk_drew ?_ | refine blk_alloc ?_ _)); exact BK117.out) hb); have n1_ := Aside0.mk (blk_below (g := gb118) (o := .cells #[.int .i64 a1_0, .int .i64 a1_1, .int .i64 a1_2, .int .i64 a1_3, .string a1_4, .int .i64 a1_5, .string a1_6, .string a1_7, .string a1_8, .string a1_9, .int .i64 a1_10] 30 (0, 0)) (by (with_reducible repeat (first | refine blk_drewN ?_ _ | refine blk_drew ?_ | refine blk_alloc ?_ _)); exact BK118.out) hb); have n2_ := Aside0.mk (below_step (by repeat (first | (with_reducible first | exact HB.out | apply below_alloc | apply pw_below_drewN | apply below_drew1 | refine below_set ?_ GE117.out | refine below_set ?_ GE118.out) | exact HB.out)) hb); clear BK117; clear BK118; clear HB; have BK117 := n0_; have BK118 := n1_; have HB := n2_; clear n0_ n1_ n2_; (try clear hb); (try clear hb2); (try clear hk); (try clear hi)) | ((with_reducible refine gate_dst (N := 6) rfl ?_); refine box_event ?hg (N := 6) ?hd (cs := #[.int .i64 0, .int .i64 0, .bool false, .string (⟨#[]⟩ : ByteArray), .int .i64 0, .int .i64 0]) (t := 42) ?hr ?_; (case hd => rfl); (case hg => rfl); (case hr => first | (go_simp; done) | (go_simp; rfl)); intro gb126 hg w26 hbox hb; have n0_ := Aside0.mk (blk_below (g := gb117) (o := .cells #[.int .i64 a0_0, .slice A0_1 l0_1.length c0_1, .slice A0_2 l0_2.length c0_2, .int .i64 a0_3, .int .u64 a0_4] 26 (0, 0)) (by (with_reducible repeat (first | refine blk_drewN ?_ _ | refine blk_drew ?_ | refine blk_alloc ?_ _)); exact BK117.out) hb); have n1_ := Aside0.mk (blk_below (g := gb118) (o := .cells #[.int .i64 a1_0, .int .i64 a1_1, .int .i64 a1_2, .int .i64 a1_3, .string a1_4, .int .i64 a1_5, .string a1_6, .string a1_7, .string a1_8, .string a1_9, .int .i64 a1_10] 30 (0, 0)) (by (with_reducible repeat (first | refine blk_drewN ?_ _ | refine blk_drew ?_ | refine blk_alloc ?_ _)); exact BK118.out) hb); have n2_ := Aside0.mk (below_step (by repeat (first | (with_reducible first | exact HB.out | apply below_alloc | apply pw_below_drewN | apply below_drew1 | refine below_set ?_ GE117.out | refine below_set ?_ GE118.out) | exact HB.out)) hb); have n3_ := Aside0.mk (hbox); have n4_ := Aside0.mk ((by rw [hg]; exact (below_size (by repeat (first | (with_reducible first | exact HB.out | apply below_alloc | apply pw_below_drewN | apply below_drew1 | refine below_set ?_ GE117.out | refine below_set ?_ GE118.out) | exact HB.out))) : w.heap.size ≤ gb126)); have n5_ := Aside0.mk ((by rw [hg]; exact (below_size (by repeat (first | (with_reducible first | exact HB.out | apply below_alloc | apply pw_below_drewN | apply below_drew1 | refine below_set ?_ GE117.out | refine below_set ?_ GE118.out) | exact HB.out))) : w.heap.size ≤ gb126)); have n6_ := Aside0.mk ((by rw [hg]; exact Nat.ne_of_lt (blk_lt (g := gb117) (o := .cells #[.int .i64 a0_0, .slice A0_1 l0_1.length c0_1, .slice A0_2 l0_2.length c0_2, .int .i64 a0_3, .int .u64 a0_4] 26 (0, 0)) (by (with_reducible repeat (first | refine blk_drewN ?_ _ | refine blk_drew ?_ | refine blk_alloc ?_ _)); exact BK117.out)) : gb117 ≠ gb126)); have n7_ := Aside0.mk ((by rw [hg]; exact Nat.ne_of_gt (blk_lt (g := gb117) (o := .cells #[.int .i64 a0_0, .slice A0_1 l0_1.length c0_1, .slice A0_2 l0_2.length c0_2, .int .i64 a0_3, .int .u64 a0_4] 26 (0, 0)) (by (with_reducible repeat (first | refine blk_drewN ?_ _ | refine blk_drew ?_ | refine blk_alloc ?_ _)); exact BK117.out)) : gb126 ≠ gb117)); have n8_ := Aside0.mk ((by rw [hg]; exact Nat.ne_of_lt (blk_lt (g := gb118) (o := .cells #[.int .i64 a1_0, .int .i64 a1_1, .int .i64 a1_2, .int .i64 a1_3, .string a1_4, .int .i64 a1_5, .string a1_6, .string a1_7, .string a1_8, .string a1_9, .int .i64 a1_10] 30 (0, 0)) (by (with_reducible repeat (first | refine blk_drewN ?_ _ | refine blk_drew ?_ | refine blk_alloc ?_ _)); exact BK118.out)) : gb118 ≠ gb126)); have n9_ := Aside0.mk ((by rw [hg]; exact Nat.ne_of_gt (blk_lt (g := gb118) (o := .cells #[.int .i64 a1_0, .int .i64 a1_1, .int .i64 a1_2, .int .i64 a1_3, .string a1_4, .int .i64 a1_5, .string a1_6, .string a1_7, .string a1_8, .string a1_9, .int .i64 a1_10] 30 (0, 0)) (by (with_reducible repeat (first | refine blk_drewN ?_ _ | refine blk_drew ?_ | refine blk_alloc ?_ _)); exact BK118.out)) : gb126 ≠ gb118)); clear BK117; clear BK118; clear HB; have BK117 := n0_; have BK118 := n1_; have HB := n2_; have BK126 := n3_; have GW126 := n4_; have GE126 := n5_; have NB117_126 := n6_; have NB126_117 := n7_; have NB118_126 := n8_; have NB126_118 := n9_; clear n0_ n1_ n2_ n3_ n4_ n5_ n6_ n7_ n8_ n9_; clear hb hbox hg; have hnb27 := NB126_117.out; have hnc27 := NB117_126.out; have hnb28 := NB126_118.out; have hnc28 := NB118_126.out; have hcz29_0 : w26.cell? ⟨gb126, 0, none⟩ = some (.int .i64 0) := (blk_cell BK126.out 0).trans rfl; have hcz29_1 : w26.cell? ⟨gb126, 1, none⟩ = some (.int .i64 0) := (blk_cell BK126.out 1).trans rfl; have hcz29_2 : w26.cell? ⟨gb126, 2, none⟩ = some (.bool false) := (blk_cell BK126.out 2).trans rfl; have hcz29_3 : w26.cell? ⟨gb126, 3, none⟩ = some (.string (⟨#[]⟩ : ByteArray)) := (blk_cell BK126.out 3).trans rfl; have hcz29_4 : w26.cell? ⟨gb126, 4, none⟩ = some (.int .i64 0) := (blk_cell BK126.out 4).trans rfl; have hcz29_5 : w26.cell? ⟨gb126, 5, none⟩ = some (.int .i64 0) := (blk_cell BK126.out 5).trans rfl; have hfz29_0 := blk_frozen BK126.out 0; have hfz29_1 := blk_frozen BK126.out 1; have hfz29_2 := blk_frozen BK126.out 2; have hfz29_3 := blk_frozen BK126.out 3; have hfz29_4 := blk_frozen BK126.out 4; have hfz29_5 := blk_frozen BK126.out 5; have hcz30_0 : w26.cell? ⟨gb118, 0, none⟩ = some (.int .i64 a1_0) := (blk_cell BK118.out 0).trans rfl; have hcz30_1 : w26.cell? ⟨gb118, 1, none⟩ = some (.int .i64 a1_1) := (blk_cell BK118.out 1).trans rfl; have hcz30_2 : w26.cell? ⟨gb118, 2, none⟩ = some (.int .i64 a1_2) := (blk_cell BK118.out 2).trans rfl; have hcz30_3 : w26.cell? ⟨gb118, 3, none⟩ = some (.int .i64 a1_3) := (blk_cell BK118.out 3).trans rfl; have hcz30_4 : w26.cell? ⟨gb118, 4, none⟩ = some (.string a1_4) := (blk_cell BK118.out 4).trans rfl; have hcz30_5 : w26.cell? ⟨gb118, 5, none⟩ = some (.int .i64 a1_5) := (blk_cell BK118.out 5).trans rfl; have hcz30_6 : w26.cell? ⟨gb118, 6, none⟩ = some (.string a1_6) := (blk_cell BK118.out 6).trans rfl; have hcz30_7 : w26.cell? ⟨gb118, 7, none⟩ = some (.string a1_7) := (blk_cell BK118.out 7).trans rfl; have hcz30_8 : w26.cell? ⟨gb118, 8, none⟩ = some (.string a1_8) := (blk_cell BK118.out 8).trans rfl; have hcz30_9 : w26.cell? ⟨gb118, 9, none⟩ = some (.string a1_9) := (blk_cell BK118.out 9).trans rfl; have hcz30_10 : w26.cell? ⟨gb118, 10, none⟩ = some (.int .i64 a1_10) := (blk_cell BK118.out 10).trans rfl; have hfz30_0 := blk_frozen BK118.out 0; have hfz30_1 := blk_frozen BK118.out 1; have hfz30_2 := blk_frozen BK118.out 2; have hfz30_3 := blk_frozen BK118.out 3; have hfz30_4 := blk_frozen BK118.out 4; have hfz30_5 := blk_frozen BK118.out 5; have hfz30_6 := blk_frozen BK118.out 6; have hfz30_7 := blk_frozen BK118.out 7; have hfz30_8 := blk_frozen BK118.out 8; have hfz30_9 := blk_frozen BK118.out 9; have hfz30_10 := blk_frozen BK118.out 10; have hcz31_0 : w26.cell? ⟨gb117, 0, none⟩ = some (.int .i64 a0_0) := (blk_cell BK117.out 0).trans rfl; have hcz31_1 : w26.cell? ⟨gb117, 1, none⟩ = some (.slice A0_1 l0_1.length c0_1) := (blk_cell BK117.out 1).trans rfl; have hcz31_2 : w26.cell? ⟨gb117, 2, none⟩ = some (.slice A0_2 l0_2.length c0_2) := (blk_cell BK117.out 2).trans rfl; have hcz31_3 : w26.cell? ⟨gb117, 3, none⟩ = some (.int .i64 a0_3) := (blk_cell BK117.out 3).trans rfl; have hcz31_4 : w26.cell? ⟨gb117, 4, none⟩ = some (.int .u64 a0_4) := (blk_cell BK117.out 4).trans rfl; have hfz31_0 := blk_frozen BK117.out 0; have hfz31_1 := blk_frozen BK117.out 1; have hfz31_2 := blk_frozen BK117.out 2; have hfz31_3 := blk_frozen BK117.out 3; have hfz31_4 := blk_frozen BK117.out 4))
        (try simp only [Act.put, List.setIfInBounds_toArray, List.set_cons_zero, List.set_cons_succ])
        go_cut [28] (fun v28 wc => ∃ (kq : Nat) (x28_18 : Bool), v28 = .bool x28_18 ∧ Aside0 (session_Judge.j0 kq x28_18 a1_0 a1_1 a1_2 a1_3 a1_4 a1_5 a1_6 a1_7 a1_8 a1_9 a1_10 t119 t120 t121 t122 t123 t124 = some (r1, r2)) ∧ Aside0 (kq ≤ k) ∧ Aside0 (wc.heap[gb117]? = some (.cells #[.int .i64 a0_0, (.slice A0_1 l0_1.length c0_1), (.slice A0_2 l0_2.length c0_2), .int .i64 a0_3, .int .u64 a0_4] 26 (0, 0))) ∧ Aside0 (wc.heap[gb118]? = some (.cells #[.int .i64 a1_0, .int .i64 a1_1, .int .i64 a1_2, .int .i64 a1_3, .string a1_4, .int .i64 a1_5, .string a1_6, .string a1_7, .string a1_8, .string a1_9, .int .i64 a1_10] 30 (0, 0))) ∧ Aside0 (wc.heap[gb126]? = some (.cells #[.int .i64 t119, .int .i64 t120, .bool t121, .string t122, .int .i64 t123, .int .i64 t124] 42 (0, 0))) ∧ Aside0 (Below w.heap.size w wc))
        case first =>
          have H := HC19.out
          clear HC19
          by_cases c32 : a1_3 = t120
          · rw [if_pos c32] at H
            have c32b0 : (a1_3 == t120) = true := beq_iff_eq.mpr c32
            have c32b1 : (a1_3 != t120) = false := bne_eq_false_iff_eq.mpr c32
            clear c32
            (first | rw [c32b0] | (simp only [i64_w, i32_w]; rw [c32b0]) | skip)
            have H' := Aside0.mk H
            clear H
            have hnb33 := NB118_117.out
            have hnc33 := NB117_118.out
            have hnb34 := NB118_126.out
            have hnc34 := NB126_118.out
            have hcz35_0 : w26.cell? ⟨gb118, 0, none⟩ = some (.int .i64 a1_0) := (blk_cell BK118.out 0).trans rfl
            have hcz35_1 : w26.cell? ⟨gb118, 1, none⟩ = some (.int .i64 a1_1) := (blk_cell BK118.out 1).trans rfl
            have hcz35_2 : w26.cell? ⟨gb118, 2, none⟩ = some (.int .i64 a1_2) := (blk_cell BK118.out 2).trans rfl
            have hcz35_3 : w26.cell? ⟨gb118, 3, none⟩ = some (.int .i64 a1_3) := (blk_cell BK118.out 3).trans rfl
            have hcz35_4 : w26.cell? ⟨gb118, 4, none⟩ = some (.string a1_4) := (blk_cell BK118.out 4).trans rfl
            have hcz35_5 : w26.cell? ⟨gb118, 5, none⟩ = some (.int .i64 a1_5) := (blk_cell BK118.out 5).trans rfl
            have hcz35_6 : w26.cell? ⟨gb118, 6, none⟩ = some (.string a1_6) := (blk_cell BK118.out 6).trans rfl
            have hcz35_7 : w26.cell? ⟨gb118, 7, none⟩ = some (.string a1_7) := (blk_cell BK118.out 7).trans rfl
            have hcz35_8 : w26.cell? ⟨gb118, 8, none⟩ = some (.string a1_8) := (blk_cell BK118.out 8).trans rfl
            have hcz35_9 : w26.cell? ⟨gb118, 9, none⟩ = some (.string a1_9) := (blk_cell BK118.out 9).trans rfl
            have hcz35_10 : w26.cell? ⟨gb118, 10, none⟩ = some (.int .i64 a1_10) := (blk_cell BK118.out 10).trans rfl
            have hfz35_0 := blk_frozen BK118.out 0
            have hfz35_1 := blk_frozen BK118.out 1
            have hfz35_2 := blk_frozen BK118.out 2
            have hfz35_3 := blk_frozen BK118.out 3
            have hfz35_4 := blk_frozen BK118.out 4
            have hfz35_5 := blk_frozen BK118.out 5
            have hfz35_6 := blk_frozen BK118.out 6
            have hfz35_7 := blk_frozen BK118.out 7
            have hfz35_8 := blk_frozen BK118.out 8
            have hfz35_9 := blk_frozen BK118.out 9
            have hfz35_10 := blk_frozen BK118.out 10
            have hnb36 := NB126_117.out
            have hnc36 := NB117_126.out
            have hcz37_0 : w26.cell? ⟨gb126, 0, none⟩ = some (.int .i64 0) := (blk_cell BK126.out 0).trans rfl
            have hcz37_1 : w26.cell? ⟨gb126, 1, none⟩ = some (.int .i64 0) := (blk_cell BK126.out 1).trans rfl
            have hcz37_2 : w26.cell? ⟨gb126, 2, none⟩ = some (.bool false) := (blk_cell BK126.out 2).trans rfl
            have hcz37_3 : w26.cell? ⟨gb126, 3, none⟩ = some (.string (⟨#[]⟩ : ByteArray)) := (blk_cell BK126.out 3).trans rfl
            have hcz37_4 : w26.cell? ⟨gb126, 4, none⟩ = some (.int .i64 0) := (blk_cell BK126.out 4).trans rfl
            have hcz37_5 : w26.cell? ⟨gb126, 5, none⟩ = some (.int .i64 0) := (blk_cell BK126.out 5).trans rfl
            have hfz37_0 := blk_frozen BK126.out 0
            have hfz37_1 := blk_frozen BK126.out 1
            have hfz37_2 := blk_frozen BK126.out 2
            have hfz37_3 := blk_frozen BK126.out 3
            have hfz37_4 := blk_frozen BK126.out 4
            have hfz37_5 := blk_frozen BK126.out 5
            go_wp2
            go_meet
            case rel => exact ⟨_, (t121), (by first | rfl | (simp; done) | (simp [*]; done)), H', ⟨by first | omega | exact Nat.le_refl _⟩, ⟨by (with_reducible repeat (first | refine blk_drewN ?_ _ | refine blk_drew ?_ | refine blk_alloc ?_ _)); refine blk_far ?_ NB117_126.out _; (with_reducible repeat (first | refine blk_drewN ?_ _ | refine blk_drew ?_ | refine blk_alloc ?_ _)); refine blk_far ?_ NB117_126.out _; (with_reducible repeat (first | refine blk_drewN ?_ _ | refine blk_drew ?_ | refine blk_alloc ?_ _)); refine blk_far ?_ NB117_126.out _; (with_reducible repeat (first | refine blk_drewN ?_ _ | refine blk_drew ?_ | refine blk_alloc ?_ _)); refine blk_far ?_ NB117_126.out _; (with_reducible repeat (first | refine blk_drewN ?_ _ | refine blk_drew ?_ | refine blk_alloc ?_ _)); refine blk_far ?_ NB117_126.out _; (with_reducible repeat (first | refine blk_drewN ?_ _ | refine blk_drew ?_ | refine blk_alloc ?_ _)); refine blk_far ?_ NB117_126.out _; (with_reducible repeat (first | refine blk_drewN ?_ _ | refine blk_drew ?_ | refine blk_alloc ?_ _)); exact BK117.out⟩, ⟨by (with_reducible repeat (first | refine blk_drewN ?_ _ | refine blk_drew ?_ | refine blk_alloc ?_ _)); refine blk_far ?_ NB118_126.out _; (with_reducible repeat (first | refine blk_drewN ?_ _ | refine blk_drew ?_ | refine blk_alloc ?_ _)); refine blk_far ?_ NB118_126.out _; (with_reducible repeat (first | refine blk_drewN ?_ _ | refine blk_drew ?_ | refine blk_alloc ?_ _)); refine blk_far ?_ NB118_126.out _; (with_reducible repeat (first | refine blk_drewN ?_ _ | refine blk_drew ?_ | refine blk_alloc ?_ _)); refine blk_far ?_ NB118_126.out _; (with_reducible repeat (first | refine blk_drewN ?_ _ | refine blk_drew ?_ | refine blk_alloc ?_ _)); refine blk_far ?_ NB118_126.out _; (with_reducible repeat (first | refine blk_drewN ?_ _ | refine blk_drew ?_ | refine blk_alloc ?_ _)); refine blk_far ?_ NB118_126.out _; (with_reducible repeat (first | refine blk_drewN ?_ _ | refine blk_drew ?_ | refine blk_alloc ?_ _)); exact BK118.out⟩, ⟨by (with_reducible repeat (first | refine blk_drewN ?_ _ | refine blk_drew ?_ | refine blk_alloc ?_ _)); refine blk_put (cs := #[.int .i64 t119, .int .i64 t120, .bool t121, .string t122, .int .i64 t123, .int .i64 0]) ?_ 5 _ rfl; (with_reducible repeat (first | refine blk_drewN ?_ _ | refine blk_drew ?_ | refine blk_alloc ?_ _)); refine blk_put (cs := #[.int .i64 t119, .int .i64 t120, .bool t121, .string t122, .int .i64 0, .int .i64 0]) ?_ 4 _ rfl; (with_reducible repeat (first | refine blk_drewN ?_ _ | refine blk_drew ?_ | refine blk_alloc ?_ _)); refine blk_put (cs := #[.int .i64 t119, .int .i64 t120, .bool t121, .string (⟨#[]⟩ : ByteArray), .int .i64 0, .int .i64 0]) ?_ 3 _ rfl; (with_reducible repeat (first | refine blk_drewN ?_ _ | refine blk_drew ?_ | refine blk_alloc ?_ _)); refine blk_put (cs := #[.int .i64 t119, .int .i64 t120, .bool false, .string (⟨#[]⟩ : ByteArray), .int .i64 0, .int .i64 0]) ?_ 2 _ rfl; (with_reducible repeat (first | refine blk_drewN ?_ _ | refine blk_drew ?_ | refine blk_alloc ?_ _)); refine blk_put (cs := #[.int .i64 t119, .int .i64 0, .bool false, .string (⟨#[]⟩ : ByteArray), .int .i64 0, .int .i64 0]) ?_ 1 _ rfl; (with_reducible repeat (first | refine blk_drewN ?_ _ | refine blk_drew ?_ | refine blk_alloc ?_ _)); refine blk_put (cs := #[.int .i64 0, .int .i64 0, .bool false, .string (⟨#[]⟩ : ByteArray), .int .i64 0, .int .i64 0]) ?_ 0 _ rfl; (with_reducible repeat (first | refine blk_drewN ?_ _ | refine blk_drew ?_ | refine blk_alloc ?_ _)); exact BK126.out⟩, ⟨by repeat (first | (with_reducible first | exact HB.out | apply below_alloc | apply pw_below_drewN | apply below_drew1 | refine below_set ?_ GE117.out | refine below_set ?_ GE118.out | refine below_set ?_ GE126.out) | exact HB.out)⟩⟩
          · rw [if_neg c32] at H
            have c32b0 : (a1_3 == t120) = false := beq_eq_false_iff_ne.mpr c32
            have c32b1 : (a1_3 != t120) = true := bne_iff_ne.mpr c32
            (first | rw [c32b0] | (simp only [i64_w, i32_w]; rw [c32b0]) | skip)
            have H' := Aside0.mk H
            clear H
            have hnb38 := NB118_117.out
            have hnc38 := NB117_118.out
            have hnb39 := NB118_126.out
            have hnc39 := NB126_118.out
            have hcz40_0 : w26.cell? ⟨gb118, 0, none⟩ = some (.int .i64 a1_0) := (blk_cell BK118.out 0).trans rfl
            have hcz40_1 : w26.cell? ⟨gb118, 1, none⟩ = some (.int .i64 a1_1) := (blk_cell BK118.out 1).trans rfl
            have hcz40_2 : w26.cell? ⟨gb118, 2, none⟩ = some (.int .i64 a1_2) := (blk_cell BK118.out 2).trans rfl
            have hcz40_3 : w26.cell? ⟨gb118, 3, none⟩ = some (.int .i64 a1_3) := (blk_cell BK118.out 3).trans rfl
            have hcz40_4 : w26.cell? ⟨gb118, 4, none⟩ = some (.string a1_4) := (blk_cell BK118.out 4).trans rfl
            have hcz40_5 : w26.cell? ⟨gb118, 5, none⟩ = some (.int .i64 a1_5) := (blk_cell BK118.out 5).trans rfl
            have hcz40_6 : w26.cell? ⟨gb118, 6, none⟩ = some (.string a1_6) := (blk_cell BK118.out 6).trans rfl
            have hcz40_7 : w26.cell? ⟨gb118, 7, none⟩ = some (.string a1_7) := (blk_cell BK118.out 7).trans rfl
            have hcz40_8 : w26.cell? ⟨gb118, 8, none⟩ = some (.string a1_8) := (blk_cell BK118.out 8).trans rfl
            have hcz40_9 : w26.cell? ⟨gb118, 9, none⟩ = some (.string a1_9) := (blk_cell BK118.out 9).trans rfl
            have hcz40_10 : w26.cell? ⟨gb118, 10, none⟩ = some (.int .i64 a1_10) := (blk_cell BK118.out 10).trans rfl
            have hfz40_0 := blk_frozen BK118.out 0
            have hfz40_1 := blk_frozen BK118.out 1
            have hfz40_2 := blk_frozen BK118.out 2
            have hfz40_3 := blk_frozen BK118.out 3
            have hfz40_4 := blk_frozen BK118.out 4
            have hfz40_5 := blk_frozen BK118.out 5
            have hfz40_6 := blk_frozen BK118.out 6
            have hfz40_7 := blk_frozen BK118.out 7
            have hfz40_8 := blk_frozen BK118.out 8
            have hfz40_9 := blk_frozen BK118.out 9
            have hfz40_10 := blk_frozen BK118.out 10
            have hnb41 := NB126_117.out
            have hnc41 := NB117_126.out
            have hcz42_0 : w26.cell? ⟨gb126, 0, none⟩ = some (.int .i64 0) := (blk_cell BK126.out 0).trans rfl
            have hcz42_1 : w26.cell? ⟨gb126, 1, none⟩ = some (.int .i64 0) := (blk_cell BK126.out 1).trans rfl
            have hcz42_2 : w26.cell? ⟨gb126, 2, none⟩ = some (.bool false) := (blk_cell BK126.out 2).trans rfl
            have hcz42_3 : w26.cell? ⟨gb126, 3, none⟩ = some (.string (⟨#[]⟩ : ByteArray)) := (blk_cell BK126.out 3).trans rfl
            have hcz42_4 : w26.cell? ⟨gb126, 4, none⟩ = some (.int .i64 0) := (blk_cell BK126.out 4).trans rfl
            have hcz42_5 : w26.cell? ⟨gb126, 5, none⟩ = some (.int .i64 0) := (blk_cell BK126.out 5).trans rfl
            have hfz42_0 := blk_frozen BK126.out 0
            have hfz42_1 := blk_frozen BK126.out 1
            have hfz42_2 := blk_frozen BK126.out 2
            have hfz42_3 := blk_frozen BK126.out 3
            have hfz42_4 := blk_frozen BK126.out 4
            have hfz42_5 := blk_frozen BK126.out 5
            go_wp2
            go_meet
            case rel => exact ⟨_, (false), (by first | rfl | (simp; done) | (simp [*]; done)), H', ⟨by first | omega | exact Nat.le_refl _⟩, ⟨by (with_reducible repeat (first | refine blk_drewN ?_ _ | refine blk_drew ?_ | refine blk_alloc ?_ _)); refine blk_far ?_ NB117_126.out _; (with_reducible repeat (first | refine blk_drewN ?_ _ | refine blk_drew ?_ | refine blk_alloc ?_ _)); refine blk_far ?_ NB117_126.out _; (with_reducible repeat (first | refine blk_drewN ?_ _ | refine blk_drew ?_ | refine blk_alloc ?_ _)); refine blk_far ?_ NB117_126.out _; (with_reducible repeat (first | refine blk_drewN ?_ _ | refine blk_drew ?_ | refine blk_alloc ?_ _)); refine blk_far ?_ NB117_126.out _; (with_reducible repeat (first | refine blk_drewN ?_ _ | refine blk_drew ?_ | refine blk_alloc ?_ _)); refine blk_far ?_ NB117_126.out _; (with_reducible repeat (first | refine blk_drewN ?_ _ | refine blk_drew ?_ | refine blk_alloc ?_ _)); refine blk_far ?_ NB117_126.out _; (with_reducible repeat (first | refine blk_drewN ?_ _ | refine blk_drew ?_ | refine blk_alloc ?_ _)); exact BK117.out⟩, ⟨by (with_reducible repeat (first | refine blk_drewN ?_ _ | refine blk_drew ?_ | refine blk_alloc ?_ _)); refine blk_far ?_ NB118_126.out _; (with_reducible repeat (first | refine blk_drewN ?_ _ | refine blk_drew ?_ | refine blk_alloc ?_ _)); refine blk_far ?_ NB118_126.out _; (with_reducible repeat (first | refine blk_drewN ?_ _ | refine blk_drew ?_ | refine blk_alloc ?_ _)); refine blk_far ?_ NB118_126.out _; (with_reducible repeat (first | refine blk_drewN ?_ _ | refine blk_drew ?_ | refine blk_alloc ?_ _)); refine blk_far ?_ NB118_126.out _; (with_reducible repeat (first | refine blk_drewN ?_ _ | refine blk_drew ?_ | refine blk_alloc ?_ _)); refine blk_far ?_ NB118_126.out _; (with_reducible repeat (first | refine blk_drewN ?_ _ | refine blk_drew ?_ | refine blk_alloc ?_ _)); refine blk_far ?_ NB118_126.out _; (with_reducible repeat (first | refine blk_drewN ?_ _ | refine blk_drew ?_ | refine blk_alloc ?_ _)); exact BK118.out⟩, ⟨by (with_reducible repeat (first | refine blk_drewN ?_ _ | refine blk_drew ?_ | refine blk_alloc ?_ _)); refine blk_put (cs := #[.int .i64 t119, .int .i64 t120, .bool t121, .string t122, .int .i64 t123, .int .i64 0]) ?_ 5 _ rfl; (with_reducible repeat (first | refine blk_drewN ?_ _ | refine blk_drew ?_ | refine blk_alloc ?_ _)); refine blk_put (cs := #[.int .i64 t119, .int .i64 t120, .bool t121, .string t122, .int .i64 0, .int .i64 0]) ?_ 4 _ rfl; (with_reducible repeat (first | refine blk_drewN ?_ _ | refine blk_drew ?_ | refine blk_alloc ?_ _)); refine blk_put (cs := #[.int .i64 t119, .int .i64 t120, .bool t121, .string (⟨#[]⟩ : ByteArray), .int .i64 0, .int .i64 0]) ?_ 3 _ rfl; (with_reducible repeat (first | refine blk_drewN ?_ _ | refine blk_drew ?_ | refine blk_alloc ?_ _)); refine blk_put (cs := #[.int .i64 t119, .int .i64 t120, .bool false, .string (⟨#[]⟩ : ByteArray), .int .i64 0, .int .i64 0]) ?_ 2 _ rfl; (with_reducible repeat (first | refine blk_drewN ?_ _ | refine blk_drew ?_ | refine blk_alloc ?_ _)); refine blk_put (cs := #[.int .i64 t119, .int .i64 0, .bool false, .string (⟨#[]⟩ : ByteArray), .int .i64 0, .int .i64 0]) ?_ 1 _ rfl; (with_reducible repeat (first | refine blk_drewN ?_ _ | refine blk_drew ?_ | refine blk_alloc ?_ _)); refine blk_put (cs := #[.int .i64 0, .int .i64 0, .bool false, .string (⟨#[]⟩ : ByteArray), .int .i64 0, .int .i64 0]) ?_ 0 _ rfl; (with_reducible repeat (first | refine blk_drewN ?_ _ | refine blk_drew ?_ | refine blk_alloc ?_ _)); exact BK126.out⟩, ⟨by repeat (first | (with_reducible first | exact HB.out | apply below_alloc | apply pw_below_drewN | apply below_drew1 | refine below_set ?_ GE117.out | refine below_set ?_ GE118.out | refine below_set ?_ GE126.out) | exact HB.out)⟩⟩
        case rest =>
          clear HC19
          try clear c1
          try clear c2
          try clear p2
          try clear c3
          try clear c4
          try clear c4b0
          try clear c4b1
          try clear c5
          try clear c6
          try clear c6b0
          try clear c9
          try clear c11
          try clear c14
          try clear c15
          try clear c22
          try clear c27
          try clear c28
          try clear c32
          try clear c32b0
          try clear c32b1
          try clear c33
          try clear c34
          try clear c36
          try clear c38
          try clear c39
          try clear c41
          try clear hcz10_0
          try clear hcz10_1
          try clear hcz10_2
          try clear hcz10_3
          try clear hcz10_4
          try clear hcz11_0
          try clear hcz11_1
          try clear hcz11_10
          try clear hcz11_2
          try clear hcz11_3
          try clear hcz11_4
          try clear hcz11_5
          try clear hcz11_6
          try clear hcz11_7
          try clear hcz11_8
          try clear hcz11_9
          try clear hcz16_0
          try clear hcz16_1
          try clear hcz16_2
          try clear hcz16_3
          try clear hcz16_4
          try clear hcz16_5
          try clear hcz17_0
          try clear hcz17_1
          try clear hcz17_10
          try clear hcz17_2
          try clear hcz17_3
          try clear hcz17_4
          try clear hcz17_5
          try clear hcz17_6
          try clear hcz17_7
          try clear hcz17_8
          try clear hcz17_9
          try clear hcz18_0
          try clear hcz18_1
          try clear hcz18_2
          try clear hcz18_3
          try clear hcz18_4
          try clear hcz23_0
          try clear hcz23_1
          try clear hcz23_2
          try clear hcz23_3
          try clear hcz23_4
          try clear hcz24_0
          try clear hcz24_1
          try clear hcz24_10
          try clear hcz24_2
          try clear hcz24_3
          try clear hcz24_4
          try clear hcz24_5
          try clear hcz24_6
          try clear hcz24_7
          try clear hcz24_8
          try clear hcz24_9
          try clear hcz29_0
          try clear hcz29_1
          try clear hcz29_2
          try clear hcz29_3
          try clear hcz29_4
          try clear hcz29_5
          try clear hcz30_0
          try clear hcz30_1
          try clear hcz30_10
          try clear hcz30_2
          try clear hcz30_3
          try clear hcz30_4
          try clear hcz30_5
          try clear hcz30_6
          try clear hcz30_7
          try clear hcz30_8
          try clear hcz30_9
          try clear hcz31_0
          try clear hcz31_1
          try clear hcz31_2
          try clear hcz31_3
          try clear hcz31_4
          try clear hcz35_0
          try clear hcz35_1
          try clear hcz35_10
          try clear hcz35_2
          try clear hcz35_3
          try clear hcz35_4
          try clear hcz35_5
          try clear hcz35_6
          try clear hcz35_7
          try clear hcz35_8
          try clear hcz35_9
          try clear hcz37_0
          try clear hcz37_1
          try clear hcz37_2
          try clear hcz37_3
          try clear hcz37_4
          try clear hcz37_5
          try clear hcz40_0
          try clear hcz40_1
          try clear hcz40_10
          try clear hcz40_2
          try clear hcz40_3
          try clear hcz40_4
          try clear hcz40_5
          try clear hcz40_6
          try clear hcz40_7
          try clear hcz40_8
          try clear hcz40_9
          try clear hcz42_0
          try clear hcz42_1
          try clear hcz42_2
          try clear hcz42_3
          try clear hcz42_4
          try clear hcz42_5
          try clear hfz10_0
          try clear hfz10_1
          try clear hfz10_2
          try clear hfz10_3
          try clear hfz10_4
          try clear hfz11_0
          try clear hfz11_1
          try clear hfz11_10
          try clear hfz11_2
          try clear hfz11_3
          try clear hfz11_4
          try clear hfz11_5
          try clear hfz11_6
          try clear hfz11_7
          try clear hfz11_8
          try clear hfz11_9
          try clear hfz16_0
          try clear hfz16_1
          try clear hfz16_2
          try clear hfz16_3
          try clear hfz16_4
          try clear hfz16_5
          try clear hfz17_0
          try clear hfz17_1
          try clear hfz17_10
          try clear hfz17_2
          try clear hfz17_3
          try clear hfz17_4
          try clear hfz17_5
          try clear hfz17_6
          try clear hfz17_7
          try clear hfz17_8
          try clear hfz17_9
          try clear hfz18_0
          try clear hfz18_1
          try clear hfz18_2
          try clear hfz18_3
          try clear hfz18_4
          try clear hfz23_0
          try clear hfz23_1
          try clear hfz23_2
          try clear hfz23_3
          try clear hfz23_4
          try clear hfz24_0
          try clear hfz24_1
          try clear hfz24_10
          try clear hfz24_2
          try clear hfz24_3
          try clear hfz24_4
          try clear hfz24_5
          try clear hfz24_6
          try clear hfz24_7
          try clear hfz24_8
          try clear hfz24_9
          try clear hfz29_0
          try clear hfz29_1
          try clear hfz29_2
          try clear hfz29_3
          try clear hfz29_4
          try clear hfz29_5
          try clear hfz30_0
          try clear hfz30_1
          try clear hfz30_10
          try clear hfz30_2
          try clear hfz30_3
          try clear hfz30_4
          try clear hfz30_5
          try clear hfz30_6
          try clear hfz30_7
          try clear hfz30_8
          try clear hfz30_9
          try clear hfz31_0
          try clear hfz31_1
          try clear hfz31_2
          try clear hfz31_3
          try clear hfz31_4
          try clear hfz35_0
          try clear hfz35_1
          try clear hfz35_10
          try clear hfz35_2
          try clear hfz35_3
          try clear hfz35_4
          try clear hfz35_5
          try clear hfz35_6
          try clear hfz35_7
          try clear hfz35_8
          try clear hfz35_9
          try clear hfz37_0
          try clear hfz37_1
          try clear hfz37_2
          try clear hfz37_3
          try clear hfz37_4
          try clear hfz37_5
          try clear hfz40_0
          try clear hfz40_1
          try clear hfz40_10
          try clear hfz40_2
          try clear hfz40_3
          try clear hfz40_4
          try clear hfz40_5
          try clear hfz40_6
          try clear hfz40_7
          try clear hfz40_8
          try clear hfz40_9
          try clear hfz42_0
          try clear hfz42_1
          try clear hfz42_2
          try clear hfz42_3
          try clear hfz42_4
          try clear hfz42_5
          obtain ⟨kq, x28_18, rfl, HA, HJ18, BK117, BK118, BK126, HB⟩ := hcut
          cases kq with
          | zero => exact absurd HA.out (by simp [session_Judge.j0])
          | succ kj18 =>
            have H := HA.out
            clear HA
            simp only [session_Judge.j0] at H
            by_cases c43 : x28_18 = true
            · subst c43
              have H1 : (some ((⟨#[]⟩ : ByteArray), 12)) = some (r1, r2) := by rw [if_pos rfl] at H; exact H
              clear H
              have H := H1
              clear H1
              simp only [Option.some.injEq, Prod.mk.injEq] at H
              obtain ⟨rfl, rfl⟩ := H
              go_wp2
              go_ret2
              exact ⟨by first | rfl | (simp [errW_none, errW_some] <;> rfl) | (simp [*, errW_none, errW_some] <;> rfl), by repeat (first | (with_reducible first | exact HB.out | apply below_alloc | apply pw_below_drewN | apply below_drew1 | refine below_set ?_ GE117.out | refine below_set ?_ GE118.out | refine below_set ?_ GE126.out) | exact HB.out)⟩
            · replace c43 := Bool.eq_false_iff.mpr c43
              subst c43
              have H1 : (if a1_3 = t120 then (some (t122, 8)) else (if a1_3 = (wrap64 (t120 + 1)) then (session_Judge.j1 kj18 t121 a1_0 a1_1 a1_2 a1_3 a1_4 a1_5 a1_6 a1_7 a1_8 a1_9 a1_10 t119 t120 t121 t122 t123 t124) else (session_Judge.j1 kj18 false a1_0 a1_1 a1_2 a1_3 a1_4 a1_5 a1_6 a1_7 a1_8 a1_9 a1_10 t119 t120 t121 t122 t123 t124))) = some (r1, r2) := by rw [if_neg (show ¬ (false = true) by decide)] at H; exact H
              clear H
              have H := H1
              clear H1
              by_cases c44 : a1_3 = t120
              · rw [if_pos c44] at H
                have c44b0 : (a1_3 == t120) = true := beq_iff_eq.mpr c44
                have c44b1 : (a1_3 != t120) = false := bne_eq_false_iff_eq.mpr c44
                clear c44
                simp only [Option.some.injEq, Prod.mk.injEq] at H
                obtain ⟨rfl, rfl⟩ := H
                have hnb45 := NB118_117.out
                have hnc45 := NB117_118.out
                have hnb46 := NB118_126.out
                have hnc46 := NB126_118.out
                have hcz47_0 : wc.cell? ⟨gb118, 0, none⟩ = some (.int .i64 a1_0) := (blk_cell BK118.out 0).trans rfl
                have hcz47_1 : wc.cell? ⟨gb118, 1, none⟩ = some (.int .i64 a1_1) := (blk_cell BK118.out 1).trans rfl
                have hcz47_2 : wc.cell? ⟨gb118, 2, none⟩ = some (.int .i64 a1_2) := (blk_cell BK118.out 2).trans rfl
                have hcz47_3 : wc.cell? ⟨gb118, 3, none⟩ = some (.int .i64 a1_3) := (blk_cell BK118.out 3).trans rfl
                have hcz47_4 : wc.cell? ⟨gb118, 4, none⟩ = some (.string a1_4) := (blk_cell BK118.out 4).trans rfl
                have hcz47_5 : wc.cell? ⟨gb118, 5, none⟩ = some (.int .i64 a1_5) := (blk_cell BK118.out 5).trans rfl
                have hcz47_6 : wc.cell? ⟨gb118, 6, none⟩ = some (.string a1_6) := (blk_cell BK118.out 6).trans rfl
                have hcz47_7 : wc.cell? ⟨gb118, 7, none⟩ = some (.string a1_7) := (blk_cell BK118.out 7).trans rfl
                have hcz47_8 : wc.cell? ⟨gb118, 8, none⟩ = some (.string a1_8) := (blk_cell BK118.out 8).trans rfl
                have hcz47_9 : wc.cell? ⟨gb118, 9, none⟩ = some (.string a1_9) := (blk_cell BK118.out 9).trans rfl
                have hcz47_10 : wc.cell? ⟨gb118, 10, none⟩ = some (.int .i64 a1_10) := (blk_cell BK118.out 10).trans rfl
                have hfz47_0 := blk_frozen BK118.out 0
                have hfz47_1 := blk_frozen BK118.out 1
                have hfz47_2 := blk_frozen BK118.out 2
                have hfz47_3 := blk_frozen BK118.out 3
                have hfz47_4 := blk_frozen BK118.out 4
                have hfz47_5 := blk_frozen BK118.out 5
                have hfz47_6 := blk_frozen BK118.out 6
                have hfz47_7 := blk_frozen BK118.out 7
                have hfz47_8 := blk_frozen BK118.out 8
                have hfz47_9 := blk_frozen BK118.out 9
                have hfz47_10 := blk_frozen BK118.out 10
                have hnb48 := NB126_117.out
                have hnc48 := NB117_126.out
                have hcz49_0 : wc.cell? ⟨gb126, 0, none⟩ = some (.int .i64 t119) := (blk_cell BK126.out 0).trans rfl
                have hcz49_1 : wc.cell? ⟨gb126, 1, none⟩ = some (.int .i64 t120) := (blk_cell BK126.out 1).trans rfl
                have hcz49_2 : wc.cell? ⟨gb126, 2, none⟩ = some (.bool t121) := (blk_cell BK126.out 2).trans rfl
                have hcz49_3 : wc.cell? ⟨gb126, 3, none⟩ = some (.string t122) := (blk_cell BK126.out 3).trans rfl
                have hcz49_4 : wc.cell? ⟨gb126, 4, none⟩ = some (.int .i64 t123) := (blk_cell BK126.out 4).trans rfl
                have hcz49_5 : wc.cell? ⟨gb126, 5, none⟩ = some (.int .i64 t124) := (blk_cell BK126.out 5).trans rfl
                have hfz49_0 := blk_frozen BK126.out 0
                have hfz49_1 := blk_frozen BK126.out 1
                have hfz49_2 := blk_frozen BK126.out 2
                have hfz49_3 := blk_frozen BK126.out 3
                have hfz49_4 := blk_frozen BK126.out 4
                have hfz49_5 := blk_frozen BK126.out 5
                go_wp2
                go_ret2
                exact ⟨by first | rfl | (simp [errW_none, errW_some] <;> rfl) | (simp [*, errW_none, errW_some] <;> rfl), by repeat (first | (with_reducible first | exact HB.out | apply below_alloc | apply pw_below_drewN | apply below_drew1 | refine below_set ?_ GE117.out | refine below_set ?_ GE118.out | refine below_set ?_ GE126.out) | exact HB.out)⟩
              · rw [if_neg c44] at H
                have c44b0 : (a1_3 == t120) = false := beq_eq_false_iff_ne.mpr c44
                have c44b1 : (a1_3 != t120) = true := bne_iff_ne.mpr c44
                have HC50 := Aside0.mk H
                clear H
                have hnb51 := NB118_117.out
                have hnc51 := NB117_118.out
                have hnb52 := NB118_126.out
                have hnc52 := NB126_118.out
                have hcz53_0 : wc.cell? ⟨gb118, 0, none⟩ = some (.int .i64 a1_0) := (blk_cell BK118.out 0).trans rfl
                have hcz53_1 : wc.cell? ⟨gb118, 1, none⟩ = some (.int .i64 a1_1) := (blk_cell BK118.out 1).trans rfl
                have hcz53_2 : wc.cell? ⟨gb118, 2, none⟩ = some (.int .i64 a1_2) := (blk_cell BK118.out 2).trans rfl
                have hcz53_3 : wc.cell? ⟨gb118, 3, none⟩ = some (.int .i64 a1_3) := (blk_cell BK118.out 3).trans rfl
                have hcz53_4 : wc.cell? ⟨gb118, 4, none⟩ = some (.string a1_4) := (blk_cell BK118.out 4).trans rfl
                have hcz53_5 : wc.cell? ⟨gb118, 5, none⟩ = some (.int .i64 a1_5) := (blk_cell BK118.out 5).trans rfl
                have hcz53_6 : wc.cell? ⟨gb118, 6, none⟩ = some (.string a1_6) := (blk_cell BK118.out 6).trans rfl
                have hcz53_7 : wc.cell? ⟨gb118, 7, none⟩ = some (.string a1_7) := (blk_cell BK118.out 7).trans rfl
                have hcz53_8 : wc.cell? ⟨gb118, 8, none⟩ = some (.string a1_8) := (blk_cell BK118.out 8).trans rfl
                have hcz53_9 : wc.cell? ⟨gb118, 9, none⟩ = some (.string a1_9) := (blk_cell BK118.out 9).trans rfl
                have hcz53_10 : wc.cell? ⟨gb118, 10, none⟩ = some (.int .i64 a1_10) := (blk_cell BK118.out 10).trans rfl
                have hfz53_0 := blk_frozen BK118.out 0
                have hfz53_1 := blk_frozen BK118.out 1
                have hfz53_2 := blk_frozen BK118.out 2
                have hfz53_3 := blk_frozen BK118.out 3
                have hfz53_4 := blk_frozen BK118.out 4
                have hfz53_5 := blk_frozen BK118.out 5
                have hfz53_6 := blk_frozen BK118.out 6
                have hfz53_7 := blk_frozen BK118.out 7
                have hfz53_8 := blk_frozen BK118.out 8
                have hfz53_9 := blk_frozen BK118.out 9
                have hfz53_10 := blk_frozen BK118.out 10
                have hnb54 := NB126_117.out
                have hnc54 := NB117_126.out
                have hcz55_0 : wc.cell? ⟨gb126, 0, none⟩ = some (.int .i64 t119) := (blk_cell BK126.out 0).trans rfl
                have hcz55_1 : wc.cell? ⟨gb126, 1, none⟩ = some (.int .i64 t120) := (blk_cell BK126.out 1).trans rfl
                have hcz55_2 : wc.cell? ⟨gb126, 2, none⟩ = some (.bool t121) := (blk_cell BK126.out 2).trans rfl
                have hcz55_3 : wc.cell? ⟨gb126, 3, none⟩ = some (.string t122) := (blk_cell BK126.out 3).trans rfl
                have hcz55_4 : wc.cell? ⟨gb126, 4, none⟩ = some (.int .i64 t123) := (blk_cell BK126.out 4).trans rfl
                have hcz55_5 : wc.cell? ⟨gb126, 5, none⟩ = some (.int .i64 t124) := (blk_cell BK126.out 5).trans rfl
                have hfz55_0 := blk_frozen BK126.out 0
                have hfz55_1 := blk_frozen BK126.out 1
                have hfz55_2 := blk_frozen BK126.out 2
                have hfz55_3 := blk_frozen BK126.out 3
                have hfz55_4 := blk_frozen BK126.out 4
                have hfz55_5 := blk_frozen BK126.out 5
                go_upto_region 7 with (fail)
                go_cut [44] (fun v44 wc => ∃ (kq : Nat) (x44_49 : Bool), v44 = .bool x44_49 ∧ Aside0 (session_Judge.j1 kq x44_49 a1_0 a1_1 a1_2 a1_3 a1_4 a1_5 a1_6 a1_7 a1_8 a1_9 a1_10 t119 t120 t121 t122 t123 t124 = some (r1, r2)) ∧ Aside0 (kq ≤ kj18) ∧ Aside0 (wc.heap[gb117]? = some (.cells #[.int .i64 a0_0, (.slice A0_1 l0_1.length c0_1), (.slice A0_2 l0_2.length c0_2), .int .i64 a0_3, .int .u64 a0_4] 26 (0, 0))) ∧ Aside0 (wc.heap[gb118]? = some (.cells #[.int .i64 a1_0, .int .i64 a1_1, .int .i64 a1_2, .int .i64 a1_3, .string a1_4, .int .i64 a1_5, .string a1_6, .string a1_7, .string a1_8, .string a1_9, .int .i64 a1_10] 30 (0, 0))) ∧ Aside0 (wc.heap[gb126]? = some (.cells #[.int .i64 t119, .int .i64 t120, .bool t121, .string t122, .int .i64 t123, .int .i64 t124] 42 (0, 0))) ∧ Aside0 (Below w.heap.size w wc))
                case first =>
                  have H := HC50.out
                  clear HC50
                  by_cases c56 : a1_3 = (wrap64 (t120 + 1))
                  · rw [if_pos c56] at H
                    have c56b0 : (a1_3 == (wrap64 (t120 + 1))) = true := beq_iff_eq.mpr c56
                    have c56b1 : (a1_3 != (wrap64 (t120 + 1))) = false := bne_eq_false_iff_eq.mpr c56
                    clear c56
                    (first | rw [c56b0] | (simp only [i64_w, i32_w]; rw [c56b0]) | skip)
                    have H' := Aside0.mk H
                    clear H
                    have hnb57 := NB118_117.out
                    have hnc57 := NB117_118.out
                    have hnb58 := NB118_126.out
                    have hnc58 := NB126_118.out
                    have hcz59_0 : wc.cell? ⟨gb118, 0, none⟩ = some (.int .i64 a1_0) := (blk_cell BK118.out 0).trans rfl
                    have hcz59_1 : wc.cell? ⟨gb118, 1, none⟩ = some (.int .i64 a1_1) := (blk_cell BK118.out 1).trans rfl
                    have hcz59_2 : wc.cell? ⟨gb118, 2, none⟩ = some (.int .i64 a1_2) := (blk_cell BK118.out 2).trans rfl
                    have hcz59_3 : wc.cell? ⟨gb118, 3, none⟩ = some (.int .i64 a1_3) := (blk_cell BK118.out 3).trans rfl
                    have hcz59_4 : wc.cell? ⟨gb118, 4, none⟩ = some (.string a1_4) := (blk_cell BK118.out 4).trans rfl
                    have hcz59_5 : wc.cell? ⟨gb118, 5, none⟩ = some (.int .i64 a1_5) := (blk_cell BK118.out 5).trans rfl
                    have hcz59_6 : wc.cell? ⟨gb118, 6, none⟩ = some (.string a1_6) := (blk_cell BK118.out 6).trans rfl
                    have hcz59_7 : wc.cell? ⟨gb118, 7, none⟩ = some (.string a1_7) := (blk_cell BK118.out 7).trans rfl
                    have hcz59_8 : wc.cell? ⟨gb118, 8, none⟩ = some (.string a1_8) := (blk_cell BK118.out 8).trans rfl
                    have hcz59_9 : wc.cell? ⟨gb118, 9, none⟩ = some (.string a1_9) := (blk_cell BK118.out 9).trans rfl
                    have hcz59_10 : wc.cell? ⟨gb118, 10, none⟩ = some (.int .i64 a1_10) := (blk_cell BK118.out 10).trans rfl
                    have hfz59_0 := blk_frozen BK118.out 0
                    have hfz59_1 := blk_frozen BK118.out 1
                    have hfz59_2 := blk_frozen BK118.out 2
                    have hfz59_3 := blk_frozen BK118.out 3
                    have hfz59_4 := blk_frozen BK118.out 4
                    have hfz59_5 := blk_frozen BK118.out 5
                    have hfz59_6 := blk_frozen BK118.out 6
                    have hfz59_7 := blk_frozen BK118.out 7
                    have hfz59_8 := blk_frozen BK118.out 8
                    have hfz59_9 := blk_frozen BK118.out 9
                    have hfz59_10 := blk_frozen BK118.out 10
                    have hnb60 := NB126_117.out
                    have hnc60 := NB117_126.out
                    have hcz61_0 : wc.cell? ⟨gb126, 0, none⟩ = some (.int .i64 t119) := (blk_cell BK126.out 0).trans rfl
                    have hcz61_1 : wc.cell? ⟨gb126, 1, none⟩ = some (.int .i64 t120) := (blk_cell BK126.out 1).trans rfl
                    have hcz61_2 : wc.cell? ⟨gb126, 2, none⟩ = some (.bool t121) := (blk_cell BK126.out 2).trans rfl
                    have hcz61_3 : wc.cell? ⟨gb126, 3, none⟩ = some (.string t122) := (blk_cell BK126.out 3).trans rfl
                    have hcz61_4 : wc.cell? ⟨gb126, 4, none⟩ = some (.int .i64 t123) := (blk_cell BK126.out 4).trans rfl
                    have hcz61_5 : wc.cell? ⟨gb126, 5, none⟩ = some (.int .i64 t124) := (blk_cell BK126.out 5).trans rfl
                    have hfz61_0 := blk_frozen BK126.out 0
                    have hfz61_1 := blk_frozen BK126.out 1
                    have hfz61_2 := blk_frozen BK126.out 2
                    have hfz61_3 := blk_frozen BK126.out 3
                    have hfz61_4 := blk_frozen BK126.out 4
                    have hfz61_5 := blk_frozen BK126.out 5
                    go_wp2
                    go_meet
                    case rel => exact ⟨_, (t121), (by first | rfl | (simp; done) | (simp [*]; done)), H', ⟨by have := HJ18.out; first | omega | exact Nat.le_refl _⟩, ⟨by (with_reducible repeat (first | refine blk_drewN ?_ _ | refine blk_drew ?_ | refine blk_alloc ?_ _)); exact BK117.out⟩, ⟨by (with_reducible repeat (first | refine blk_drewN ?_ _ | refine blk_drew ?_ | refine blk_alloc ?_ _)); exact BK118.out⟩, ⟨by (with_reducible repeat (first | refine blk_drewN ?_ _ | refine blk_drew ?_ | refine blk_alloc ?_ _)); exact BK126.out⟩, ⟨by repeat (first | (with_reducible first | exact HB.out | apply below_alloc | apply pw_below_drewN | apply below_drew1 | refine below_set ?_ GE117.out | refine below_set ?_ GE118.out | refine below_set ?_ GE126.out) | exact HB.out)⟩⟩
                  · rw [if_neg c56] at H
                    have c56b0 : (a1_3 == (wrap64 (t120 + 1))) = false := beq_eq_false_iff_ne.mpr c56
                    have c56b1 : (a1_3 != (wrap64 (t120 + 1))) = true := bne_iff_ne.mpr c56
                    (first | rw [c56b0] | (simp only [i64_w, i32_w]; rw [c56b0]) | skip)
                    have H' := Aside0.mk H
                    clear H
                    have hnb62 := NB118_117.out
                    have hnc62 := NB117_118.out
                    have hnb63 := NB118_126.out
                    have hnc63 := NB126_118.out
                    have hcz64_0 : wc.cell? ⟨gb118, 0, none⟩ = some (.int .i64 a1_0) := (blk_cell BK118.out 0).trans rfl
                    have hcz64_1 : wc.cell? ⟨gb118, 1, none⟩ = some (.int .i64 a1_1) := (blk_cell BK118.out 1).trans rfl
                    have hcz64_2 : wc.cell? ⟨gb118, 2, none⟩ = some (.int .i64 a1_2) := (blk_cell BK118.out 2).trans rfl
                    have hcz64_3 : wc.cell? ⟨gb118, 3, none⟩ = some (.int .i64 a1_3) := (blk_cell BK118.out 3).trans rfl
                    have hcz64_4 : wc.cell? ⟨gb118, 4, none⟩ = some (.string a1_4) := (blk_cell BK118.out 4).trans rfl
                    have hcz64_5 : wc.cell? ⟨gb118, 5, none⟩ = some (.int .i64 a1_5) := (blk_cell BK118.out 5).trans rfl
                    have hcz64_6 : wc.cell? ⟨gb118, 6, none⟩ = some (.string a1_6) := (blk_cell BK118.out 6).trans rfl
                    have hcz64_7 : wc.cell? ⟨gb118, 7, none⟩ = some (.string a1_7) := (blk_cell BK118.out 7).trans rfl
                    have hcz64_8 : wc.cell? ⟨gb118, 8, none⟩ = some (.string a1_8) := (blk_cell BK118.out 8).trans rfl
                    have hcz64_9 : wc.cell? ⟨gb118, 9, none⟩ = some (.string a1_9) := (blk_cell BK118.out 9).trans rfl
                    have hcz64_10 : wc.cell? ⟨gb118, 10, none⟩ = some (.int .i64 a1_10) := (blk_cell BK118.out 10).trans rfl
                    have hfz64_0 := blk_frozen BK118.out 0
                    have hfz64_1 := blk_frozen BK118.out 1
                    have hfz64_2 := blk_frozen BK118.out 2
                    have hfz64_3 := blk_frozen BK118.out 3
                    have hfz64_4 := blk_frozen BK118.out 4
                    have hfz64_5 := blk_frozen BK118.out 5
                    have hfz64_6 := blk_frozen BK118.out 6
                    have hfz64_7 := blk_frozen BK118.out 7
                    have hfz64_8 := blk_frozen BK118.out 8
                    have hfz64_9 := blk_frozen BK118.out 9
                    have hfz64_10 := blk_frozen BK118.out 10
                    have hnb65 := NB126_117.out
                    have hnc65 := NB117_126.out
                    have hcz66_0 : wc.cell? ⟨gb126, 0, none⟩ = some (.int .i64 t119) := (blk_cell BK126.out 0).trans rfl
                    have hcz66_1 : wc.cell? ⟨gb126, 1, none⟩ = some (.int .i64 t120) := (blk_cell BK126.out 1).trans rfl
                    have hcz66_2 : wc.cell? ⟨gb126, 2, none⟩ = some (.bool t121) := (blk_cell BK126.out 2).trans rfl
                    have hcz66_3 : wc.cell? ⟨gb126, 3, none⟩ = some (.string t122) := (blk_cell BK126.out 3).trans rfl
                    have hcz66_4 : wc.cell? ⟨gb126, 4, none⟩ = some (.int .i64 t123) := (blk_cell BK126.out 4).trans rfl
                    have hcz66_5 : wc.cell? ⟨gb126, 5, none⟩ = some (.int .i64 t124) := (blk_cell BK126.out 5).trans rfl
                    have hfz66_0 := blk_frozen BK126.out 0
                    have hfz66_1 := blk_frozen BK126.out 1
                    have hfz66_2 := blk_frozen BK126.out 2
                    have hfz66_3 := blk_frozen BK126.out 3
                    have hfz66_4 := blk_frozen BK126.out 4
                    have hfz66_5 := blk_frozen BK126.out 5
                    go_wp2
                    go_meet
                    case rel => exact ⟨_, (false), (by first | rfl | (simp; done) | (simp [*]; done)), H', ⟨by have := HJ18.out; first | omega | exact Nat.le_refl _⟩, ⟨by (with_reducible repeat (first | refine blk_drewN ?_ _ | refine blk_drew ?_ | refine blk_alloc ?_ _)); exact BK117.out⟩, ⟨by (with_reducible repeat (first | refine blk_drewN ?_ _ | refine blk_drew ?_ | refine blk_alloc ?_ _)); exact BK118.out⟩, ⟨by (with_reducible repeat (first | refine blk_drewN ?_ _ | refine blk_drew ?_ | refine blk_alloc ?_ _)); exact BK126.out⟩, ⟨by repeat (first | (with_reducible first | exact HB.out | apply below_alloc | apply pw_below_drewN | apply below_drew1 | refine below_set ?_ GE117.out | refine below_set ?_ GE118.out | refine below_set ?_ GE126.out) | exact HB.out)⟩⟩
                case rest =>
                  clear HC50
                  try clear c1
                  try clear c2
                  try clear p2
                  try clear c3
                  try clear c4
                  try clear c4b0
                  try clear c4b1
                  try clear c5
                  try clear c6
                  try clear c6b0
                  try clear p6
                  try clear c9
                  try clear c11
                  try clear c14
                  try clear c15
                  try clear c22
                  try clear c27
                  try clear c28
                  try clear c32
                  try clear c32b0
                  try clear c32b1
                  try clear c33
                  try clear c34
                  try clear c36
                  try clear c38
                  try clear c39
                  try clear c41
                  try clear c43
                  try clear c44
                  try clear c44b0
                  try clear c44b1
                  try clear c45
                  try clear c46
                  try clear c48
                  try clear c51
                  try clear c52
                  try clear c54
                  try clear c56
                  try clear c56b0
                  try clear c56b1
                  try clear c57
                  try clear c58
                  try clear c60
                  try clear c62
                  try clear c63
                  try clear p64
                  try clear c65
                  try clear hcz10_0
                  try clear hcz10_1
                  try clear hcz10_2
                  try clear hcz10_3
                  try clear hcz10_4
                  try clear hcz11_0
                  try clear hcz11_1
                  try clear hcz11_10
                  try clear hcz11_2
                  try clear hcz11_3
                  try clear hcz11_4
                  try clear hcz11_5
                  try clear hcz11_6
                  try clear hcz11_7
                  try clear hcz11_8
                  try clear hcz11_9
                  try clear hcz16_0
                  try clear hcz16_1
                  try clear hcz16_2
                  try clear hcz16_3
                  try clear hcz16_4
                  try clear hcz16_5
                  try clear hcz17_0
                  try clear hcz17_1
                  try clear hcz17_10
                  try clear hcz17_2
                  try clear hcz17_3
                  try clear hcz17_4
                  try clear hcz17_5
                  try clear hcz17_6
                  try clear hcz17_7
                  try clear hcz17_8
                  try clear hcz17_9
                  try clear hcz18_0
                  try clear hcz18_1
                  try clear hcz18_2
                  try clear hcz18_3
                  try clear hcz18_4
                  try clear hcz23_0
                  try clear hcz23_1
                  try clear hcz23_2
                  try clear hcz23_3
                  try clear hcz23_4
                  try clear hcz24_0
                  try clear hcz24_1
                  try clear hcz24_10
                  try clear hcz24_2
                  try clear hcz24_3
                  try clear hcz24_4
                  try clear hcz24_5
                  try clear hcz24_6
                  try clear hcz24_7
                  try clear hcz24_8
                  try clear hcz24_9
                  try clear hcz29_0
                  try clear hcz29_1
                  try clear hcz29_2
                  try clear hcz29_3
                  try clear hcz29_4
                  try clear hcz29_5
                  try clear hcz30_0
                  try clear hcz30_1
                  try clear hcz30_10
                  try clear hcz30_2
                  try clear hcz30_3
                  try clear hcz30_4
                  try clear hcz30_5
                  try clear hcz30_6
                  try clear hcz30_7
                  try clear hcz30_8
                  try clear hcz30_9
                  try clear hcz31_0
                  try clear hcz31_1
                  try clear hcz31_2
                  try clear hcz31_3
                  try clear hcz31_4
                  try clear hcz35_0
                  try clear hcz35_1
                  try clear hcz35_10
                  try clear hcz35_2
                  try clear hcz35_3
                  try clear hcz35_4
                  try clear hcz35_5
                  try clear hcz35_6
                  try clear hcz35_7
                  try clear hcz35_8
                  try clear hcz35_9
                  try clear hcz37_0
                  try clear hcz37_1
                  try clear hcz37_2
                  try clear hcz37_3
                  try clear hcz37_4
                  try clear hcz37_5
                  try clear hcz40_0
                  try clear hcz40_1
                  try clear hcz40_10
                  try clear hcz40_2
                  try clear hcz40_3
                  try clear hcz40_4
                  try clear hcz40_5
                  try clear hcz40_6
                  try clear hcz40_7
                  try clear hcz40_8
                  try clear hcz40_9
                  try clear hcz42_0
                  try clear hcz42_1
                  try clear hcz42_2
                  try clear hcz42_3
                  try clear hcz42_4
                  try clear hcz42_5
                  try clear hcz47_0
                  try clear hcz47_1
                  try clear hcz47_10
                  try clear hcz47_2
                  try clear hcz47_3
                  try clear hcz47_4
                  try clear hcz47_5
                  try clear hcz47_6
                  try clear hcz47_7
                  try clear hcz47_8
                  try clear hcz47_9
                  try clear hcz49_0
                  try clear hcz49_1
                  try clear hcz49_2
                  try clear hcz49_3
                  try clear hcz49_4
                  try clear hcz49_5
                  try clear hcz53_0
                  try clear hcz53_1
                  try clear hcz53_10
                  try clear hcz53_2
                  try clear hcz53_3
                  try clear hcz53_4
                  try clear hcz53_5
                  try clear hcz53_6
                  try clear hcz53_7
                  try clear hcz53_8
                  try clear hcz53_9
                  try clear hcz55_0
                  try clear hcz55_1
                  try clear hcz55_2
                  try clear hcz55_3
                  try clear hcz55_4
                  try clear hcz55_5
                  try clear hcz59_0
                  try clear hcz59_1
                  try clear hcz59_10
                  try clear hcz59_2
                  try clear hcz59_3
                  try clear hcz59_4
                  try clear hcz59_5
                  try clear hcz59_6
                  try clear hcz59_7
                  try clear hcz59_8
                  try clear hcz59_9
                  try clear hcz61_0
                  try clear hcz61_1
                  try clear hcz61_2
                  try clear hcz61_3
                  try clear hcz61_4
                  try clear hcz61_5
                  try clear hcz64_0
                  try clear hcz64_1
                  try clear hcz64_10
                  try clear hcz64_2
                  try clear hcz64_3
                  try clear hcz64_4
                  try clear hcz64_5
                  try clear hcz64_6
                  try clear hcz64_7
                  try clear hcz64_8
                  try clear hcz64_9
                  try clear hcz66_0
                  try clear hcz66_1
                  try clear hcz66_2
                  try clear hcz66_3
                  try clear hcz66_4
                  try clear hcz66_5
                  try clear hfz10_0
                  try clear hfz10_1
                  try clear hfz10_2
                  try clear hfz10_3
                  try clear hfz10_4
                  try clear hfz11_0
                  try clear hfz11_1
                  try clear hfz11_10
                  try clear hfz11_2
                  try clear hfz11_3
                  try clear hfz11_4
                  try clear hfz11_5
                  try clear hfz11_6
                  try clear hfz11_7
                  try clear hfz11_8
                  try clear hfz11_9
                  try clear hfz16_0
                  try clear hfz16_1
                  try clear hfz16_2
                  try clear hfz16_3
                  try clear hfz16_4
                  try clear hfz16_5
                  try clear hfz17_0
                  try clear hfz17_1
                  try clear hfz17_10
                  try clear hfz17_2
                  try clear hfz17_3
                  try clear hfz17_4
                  try clear hfz17_5
                  try clear hfz17_6
                  try clear hfz17_7
                  try clear hfz17_8
                  try clear hfz17_9
                  try clear hfz18_0
                  try clear hfz18_1
                  try clear hfz18_2
                  try clear hfz18_3
                  try clear hfz18_4
                  try clear hfz23_0
                  try clear hfz23_1
                  try clear hfz23_2
                  try clear hfz23_3
                  try clear hfz23_4
                  try clear hfz24_0
                  try clear hfz24_1
                  try clear hfz24_10
                  try clear hfz24_2
                  try clear hfz24_3
                  try clear hfz24_4
                  try clear hfz24_5
                  try clear hfz24_6
                  try clear hfz24_7
                  try clear hfz24_8
                  try clear hfz24_9
                  try clear hfz29_0
                  try clear hfz29_1
                  try clear hfz29_2
                  try clear hfz29_3
                  try clear hfz29_4
                  try clear hfz29_5
                  try clear hfz30_0
                  try clear hfz30_1
                  try clear hfz30_10
                  try clear hfz30_2
                  try clear hfz30_3
                  try clear hfz30_4
                  try clear hfz30_5
                  try clear hfz30_6
                  try clear hfz30_7
                  try clear hfz30_8
                  try clear hfz30_9
                  try clear hfz31_0
                  try clear hfz31_1
                  try clear hfz31_2
                  try clear hfz31_3
                  try clear hfz31_4
                  try clear hfz35_0
                  try clear hfz35_1
                  try clear hfz35_10
                  try clear hfz35_2
                  try clear hfz35_3
                  try clear hfz35_4
                  try clear hfz35_5
                  try clear hfz35_6
                  try clear hfz35_7
                  try clear hfz35_8
                  try clear hfz35_9
                  try clear hfz37_0
                  try clear hfz37_1
                  try clear hfz37_2
                  try clear hfz37_3
                  try clear hfz37_4
                  try clear hfz37_5
                  try clear hfz40_0
                  try clear hfz40_1
                  try clear hfz40_10
                  try clear hfz40_2
                  try clear hfz40_3
                  try clear hfz40_4
                  try clear hfz40_5
                  try clear hfz40_6
                  try clear hfz40_7
                  try clear hfz40_8
                  try clear hfz40_9
                  try clear hfz42_0
                  try clear hfz42_1
                  try clear hfz42_2
                  try clear hfz42_3
                  try clear hfz42_4
                  try clear hfz42_5
                  try clear hfz47_0
                  try clear hfz47_1
                  try clear hfz47_10
                  try clear hfz47_2
                  try clear hfz47_3
                  try clear hfz47_4
                  try clear hfz47_5
                  try clear hfz47_6
                  try clear hfz47_7
                  try clear hfz47_8
                  try clear hfz47_9
                  try clear hfz49_0
                  try clear hfz49_1
                  try clear hfz49_2
                  try clear hfz49_3
                  try clear hfz49_4
                  try clear hfz49_5
                  try clear hfz53_0
                  try clear hfz53_1
                  try clear hfz53_10
                  try clear hfz53_2
                  try clear hfz53_3
                  try clear hfz53_4
                  try clear hfz53_5
                  try clear hfz53_6
                  try clear hfz53_7
                  try clear hfz53_8
                  try clear hfz53_9
                  try clear hfz55_0
                  try clear hfz55_1
                  try clear hfz55_2
                  try clear hfz55_3
                  try clear hfz55_4
                  try clear hfz55_5
                  try clear hfz59_0
                  try clear hfz59_1
                  try clear hfz59_10
                  try clear hfz59_2
                  try clear hfz59_3
                  try clear hfz59_4
                  try clear hfz59_5
                  try clear hfz59_6
                  try clear hfz59_7
                  try clear hfz59_8
                  try clear hfz59_9
                  try clear hfz61_0
                  try clear hfz61_1
                  try clear hfz61_2
                  try clear hfz61_3
                  try clear hfz61_4
                  try clear hfz61_5
                  try clear hfz64_0
                  try clear hfz64_1
                  try clear hfz64_10
                  try clear hfz64_2
                  try clear hfz64_3
                  try clear hfz64_4
                  try clear hfz64_5
                  try clear hfz64_6
                  try clear hfz64_7
                  try clear hfz64_8
                  try clear hfz64_9
                  try clear hfz66_0
                  try clear hfz66_1
                  try clear hfz66_2
                  try clear hfz66_3
                  try clear hfz66_4
                  try clear hfz66_5
                  try clear p2
                  obtain ⟨kq, x44_49, rfl, HA, HJ49, BK117, BK118, BK126, HB⟩ := hcut
                  cases kq with
                  | zero => exact absurd HA.out (by simp [session_Judge.j1])
                  | succ kj49 =>
                    have H := HA.out
                    clear HA
                    simp only [session_Judge.j1] at H
                    by_cases c67 : x44_49 = true
                    · subst c67
                      have H1 : (some ((⟨#[]⟩ : ByteArray), 11)) = some (r1, r2) := by rw [if_pos rfl] at H; exact H
                      clear H
                      have H := H1
                      clear H1
                      simp only [Option.some.injEq, Prod.mk.injEq] at H
                      obtain ⟨rfl, rfl⟩ := H
                      go_wp2
                      go_ret2
                      exact ⟨by first | rfl | (simp [errW_none, errW_some] <;> rfl) | (simp [*, errW_none, errW_some] <;> rfl), by repeat (first | (with_reducible first | exact HB.out | apply below_alloc | apply pw_below_drewN | apply below_drew1 | refine below_set ?_ GE117.out | refine below_set ?_ GE118.out | refine below_set ?_ GE126.out) | exact HB.out)⟩
                    · replace c67 := Bool.eq_false_iff.mpr c67
                      subst c67
                      have H1 : (if a1_3 < t120 then (some ((⟨#[]⟩ : ByteArray), 15)) else (if a1_3 = (wrap64 (t120 + 1)) then (some ((⟨#[]⟩ : ByteArray), 0)) else (some ((⟨#[]⟩ : ByteArray), 15)))) = some (r1, r2) := by rw [if_neg (show ¬ (false = true) by decide)] at H; exact H
                      clear H
                      have H := H1
                      clear H1
                      by_cases c68 : a1_3 < t120
                      · rw [if_pos c68] at H
                        have c68b0 : decide (a1_3 < t120) = true := decide_eq_true c68
                        clear c68
                        simp only [Option.some.injEq, Prod.mk.injEq] at H
                        obtain ⟨rfl, rfl⟩ := H
                        have hnb69 := NB118_117.out
                        have hnc69 := NB117_118.out
                        have hnb70 := NB118_126.out
                        have hnc70 := NB126_118.out
                        have hcz71_0 : wc.cell? ⟨gb118, 0, none⟩ = some (.int .i64 a1_0) := (blk_cell BK118.out 0).trans rfl
                        have hcz71_1 : wc.cell? ⟨gb118, 1, none⟩ = some (.int .i64 a1_1) := (blk_cell BK118.out 1).trans rfl
                        have hcz71_2 : wc.cell? ⟨gb118, 2, none⟩ = some (.int .i64 a1_2) := (blk_cell BK118.out 2).trans rfl
                        have hcz71_3 : wc.cell? ⟨gb118, 3, none⟩ = some (.int .i64 a1_3) := (blk_cell BK118.out 3).trans rfl
                        have hcz71_4 : wc.cell? ⟨gb118, 4, none⟩ = some (.string a1_4) := (blk_cell BK118.out 4).trans rfl
                        have hcz71_5 : wc.cell? ⟨gb118, 5, none⟩ = some (.int .i64 a1_5) := (blk_cell BK118.out 5).trans rfl
                        have hcz71_6 : wc.cell? ⟨gb118, 6, none⟩ = some (.string a1_6) := (blk_cell BK118.out 6).trans rfl
                        have hcz71_7 : wc.cell? ⟨gb118, 7, none⟩ = some (.string a1_7) := (blk_cell BK118.out 7).trans rfl
                        have hcz71_8 : wc.cell? ⟨gb118, 8, none⟩ = some (.string a1_8) := (blk_cell BK118.out 8).trans rfl
                        have hcz71_9 : wc.cell? ⟨gb118, 9, none⟩ = some (.string a1_9) := (blk_cell BK118.out 9).trans rfl
                        have hcz71_10 : wc.cell? ⟨gb118, 10, none⟩ = some (.int .i64 a1_10) := (blk_cell BK118.out 10).trans rfl
                        have hfz71_0 := blk_frozen BK118.out 0
                        have hfz71_1 := blk_frozen BK118.out 1
                        have hfz71_2 := blk_frozen BK118.out 2
                        have hfz71_3 := blk_frozen BK118.out 3
                        have hfz71_4 := blk_frozen BK118.out 4
                        have hfz71_5 := blk_frozen BK118.out 5
                        have hfz71_6 := blk_frozen BK118.out 6
                        have hfz71_7 := blk_frozen BK118.out 7
                        have hfz71_8 := blk_frozen BK118.out 8
                        have hfz71_9 := blk_frozen BK118.out 9
                        have hfz71_10 := blk_frozen BK118.out 10
                        have hnb72 := NB126_117.out
                        have hnc72 := NB117_126.out
                        have hcz73_0 : wc.cell? ⟨gb126, 0, none⟩ = some (.int .i64 t119) := (blk_cell BK126.out 0).trans rfl
                        have hcz73_1 : wc.cell? ⟨gb126, 1, none⟩ = some (.int .i64 t120) := (blk_cell BK126.out 1).trans rfl
                        have hcz73_2 : wc.cell? ⟨gb126, 2, none⟩ = some (.bool t121) := (blk_cell BK126.out 2).trans rfl
                        have hcz73_3 : wc.cell? ⟨gb126, 3, none⟩ = some (.string t122) := (blk_cell BK126.out 3).trans rfl
                        have hcz73_4 : wc.cell? ⟨gb126, 4, none⟩ = some (.int .i64 t123) := (blk_cell BK126.out 4).trans rfl
                        have hcz73_5 : wc.cell? ⟨gb126, 5, none⟩ = some (.int .i64 t124) := (blk_cell BK126.out 5).trans rfl
                        have hfz73_0 := blk_frozen BK126.out 0
                        have hfz73_1 := blk_frozen BK126.out 1
                        have hfz73_2 := blk_frozen BK126.out 2
                        have hfz73_3 := blk_frozen BK126.out 3
                        have hfz73_4 := blk_frozen BK126.out 4
                        have hfz73_5 := blk_frozen BK126.out 5
                        go_wp2
                        go_ret2
                        exact ⟨by first | rfl | (simp [errW_none, errW_some] <;> rfl) | (simp [*, errW_none, errW_some] <;> rfl), by repeat (first | (with_reducible first | exact HB.out | apply below_alloc | apply pw_below_drewN | apply below_drew1 | refine below_set ?_ GE117.out | refine below_set ?_ GE118.out | refine below_set ?_ GE126.out) | exact HB.out)⟩
                      · rw [if_neg c68] at H
                        have c68b0 : decide (a1_3 < t120) = false := decide_eq_false c68
                        clear c68
                        by_cases c74 : a1_3 = (wrap64 (t120 + 1))
                        · rw [if_pos c74] at H
                          have c74b0 : (a1_3 == (wrap64 (t120 + 1))) = true := beq_iff_eq.mpr c74
                          have c74b1 : (a1_3 != (wrap64 (t120 + 1))) = false := bne_eq_false_iff_eq.mpr c74
                          clear c74
                          simp only [Option.some.injEq, Prod.mk.injEq] at H
                          obtain ⟨rfl, rfl⟩ := H
                          have hnb75 := NB118_117.out
                          have hnc75 := NB117_118.out
                          have hnb76 := NB118_126.out
                          have hnc76 := NB126_118.out
                          have hcz77_0 : wc.cell? ⟨gb118, 0, none⟩ = some (.int .i64 a1_0) := (blk_cell BK118.out 0).trans rfl
                          have hcz77_1 : wc.cell? ⟨gb118, 1, none⟩ = some (.int .i64 a1_1) := (blk_cell BK118.out 1).trans rfl
                          have hcz77_2 : wc.cell? ⟨gb118, 2, none⟩ = some (.int .i64 a1_2) := (blk_cell BK118.out 2).trans rfl
                          have hcz77_3 : wc.cell? ⟨gb118, 3, none⟩ = some (.int .i64 a1_3) := (blk_cell BK118.out 3).trans rfl
                          have hcz77_4 : wc.cell? ⟨gb118, 4, none⟩ = some (.string a1_4) := (blk_cell BK118.out 4).trans rfl
                          have hcz77_5 : wc.cell? ⟨gb118, 5, none⟩ = some (.int .i64 a1_5) := (blk_cell BK118.out 5).trans rfl
                          have hcz77_6 : wc.cell? ⟨gb118, 6, none⟩ = some (.string a1_6) := (blk_cell BK118.out 6).trans rfl
                          have hcz77_7 : wc.cell? ⟨gb118, 7, none⟩ = some (.string a1_7) := (blk_cell BK118.out 7).trans rfl
                          have hcz77_8 : wc.cell? ⟨gb118, 8, none⟩ = some (.string a1_8) := (blk_cell BK118.out 8).trans rfl
                          have hcz77_9 : wc.cell? ⟨gb118, 9, none⟩ = some (.string a1_9) := (blk_cell BK118.out 9).trans rfl
                          have hcz77_10 : wc.cell? ⟨gb118, 10, none⟩ = some (.int .i64 a1_10) := (blk_cell BK118.out 10).trans rfl
                          have hfz77_0 := blk_frozen BK118.out 0
                          have hfz77_1 := blk_frozen BK118.out 1
                          have hfz77_2 := blk_frozen BK118.out 2
                          have hfz77_3 := blk_frozen BK118.out 3
                          have hfz77_4 := blk_frozen BK118.out 4
                          have hfz77_5 := blk_frozen BK118.out 5
                          have hfz77_6 := blk_frozen BK118.out 6
                          have hfz77_7 := blk_frozen BK118.out 7
                          have hfz77_8 := blk_frozen BK118.out 8
                          have hfz77_9 := blk_frozen BK118.out 9
                          have hfz77_10 := blk_frozen BK118.out 10
                          have hnb78 := NB126_117.out
                          have hnc78 := NB117_126.out
                          have hcz79_0 : wc.cell? ⟨gb126, 0, none⟩ = some (.int .i64 t119) := (blk_cell BK126.out 0).trans rfl
                          have hcz79_1 : wc.cell? ⟨gb126, 1, none⟩ = some (.int .i64 t120) := (blk_cell BK126.out 1).trans rfl
                          have hcz79_2 : wc.cell? ⟨gb126, 2, none⟩ = some (.bool t121) := (blk_cell BK126.out 2).trans rfl
                          have hcz79_3 : wc.cell? ⟨gb126, 3, none⟩ = some (.string t122) := (blk_cell BK126.out 3).trans rfl
                          have hcz79_4 : wc.cell? ⟨gb126, 4, none⟩ = some (.int .i64 t123) := (blk_cell BK126.out 4).trans rfl
                          have hcz79_5 : wc.cell? ⟨gb126, 5, none⟩ = some (.int .i64 t124) := (blk_cell BK126.out 5).trans rfl
                          have hfz79_0 := blk_frozen BK126.out 0
                          have hfz79_1 := blk_frozen BK126.out 1
                          have hfz79_2 := blk_frozen BK126.out 2
                          have hfz79_3 := blk_frozen BK126.out 3
                          have hfz79_4 := blk_frozen BK126.out 4
                          have hfz79_5 := blk_frozen BK126.out 5
                          go_wp2
                          go_ret2
                          exact ⟨by first | rfl | (simp [errW_none, errW_some] <;> rfl) | (simp [*, errW_none, errW_some] <;> rfl), by repeat (first | (with_reducible first | exact HB.out | apply below_alloc | apply pw_below_drewN | apply below_drew1 | refine below_set ?_ GE117.out | refine below_set ?_ GE118.out | refine below_set ?_ GE126.out) | exact HB.out)⟩
                        · rw [if_neg c74] at H
                          have c74b0 : (a1_3 == (wrap64 (t120 + 1))) = false := beq_eq_false_iff_ne.mpr c74
                          have c74b1 : (a1_3 != (wrap64 (t120 + 1))) = true := bne_iff_ne.mpr c74
                          simp only [Option.some.injEq, Prod.mk.injEq] at H
                          obtain ⟨rfl, rfl⟩ := H
                          have hnb80 := NB118_117.out
                          have hnc80 := NB117_118.out
                          have hnb81 := NB118_126.out
                          have hnc81 := NB126_118.out
                          have hcz82_0 : wc.cell? ⟨gb118, 0, none⟩ = some (.int .i64 a1_0) := (blk_cell BK118.out 0).trans rfl
                          have hcz82_1 : wc.cell? ⟨gb118, 1, none⟩ = some (.int .i64 a1_1) := (blk_cell BK118.out 1).trans rfl
                          have hcz82_2 : wc.cell? ⟨gb118, 2, none⟩ = some (.int .i64 a1_2) := (blk_cell BK118.out 2).trans rfl
                          have hcz82_3 : wc.cell? ⟨gb118, 3, none⟩ = some (.int .i64 a1_3) := (blk_cell BK118.out 3).trans rfl
                          have hcz82_4 : wc.cell? ⟨gb118, 4, none⟩ = some (.string a1_4) := (blk_cell BK118.out 4).trans rfl
                          have hcz82_5 : wc.cell? ⟨gb118, 5, none⟩ = some (.int .i64 a1_5) := (blk_cell BK118.out 5).trans rfl
                          have hcz82_6 : wc.cell? ⟨gb118, 6, none⟩ = some (.string a1_6) := (blk_cell BK118.out 6).trans rfl
                          have hcz82_7 : wc.cell? ⟨gb118, 7, none⟩ = some (.string a1_7) := (blk_cell BK118.out 7).trans rfl
                          have hcz82_8 : wc.cell? ⟨gb118, 8, none⟩ = some (.string a1_8) := (blk_cell BK118.out 8).trans rfl
                          have hcz82_9 : wc.cell? ⟨gb118, 9, none⟩ = some (.string a1_9) := (blk_cell BK118.out 9).trans rfl
                          have hcz82_10 : wc.cell? ⟨gb118, 10, none⟩ = some (.int .i64 a1_10) := (blk_cell BK118.out 10).trans rfl
                          have hfz82_0 := blk_frozen BK118.out 0
                          have hfz82_1 := blk_frozen BK118.out 1
                          have hfz82_2 := blk_frozen BK118.out 2
                          have hfz82_3 := blk_frozen BK118.out 3
                          have hfz82_4 := blk_frozen BK118.out 4
                          have hfz82_5 := blk_frozen BK118.out 5
                          have hfz82_6 := blk_frozen BK118.out 6
                          have hfz82_7 := blk_frozen BK118.out 7
                          have hfz82_8 := blk_frozen BK118.out 8
                          have hfz82_9 := blk_frozen BK118.out 9
                          have hfz82_10 := blk_frozen BK118.out 10
                          have hnb83 := NB126_117.out
                          have hnc83 := NB117_126.out
                          have hcz84_0 : wc.cell? ⟨gb126, 0, none⟩ = some (.int .i64 t119) := (blk_cell BK126.out 0).trans rfl
                          have hcz84_1 : wc.cell? ⟨gb126, 1, none⟩ = some (.int .i64 t120) := (blk_cell BK126.out 1).trans rfl
                          have hcz84_2 : wc.cell? ⟨gb126, 2, none⟩ = some (.bool t121) := (blk_cell BK126.out 2).trans rfl
                          have hcz84_3 : wc.cell? ⟨gb126, 3, none⟩ = some (.string t122) := (blk_cell BK126.out 3).trans rfl
                          have hcz84_4 : wc.cell? ⟨gb126, 4, none⟩ = some (.int .i64 t123) := (blk_cell BK126.out 4).trans rfl
                          have hcz84_5 : wc.cell? ⟨gb126, 5, none⟩ = some (.int .i64 t124) := (blk_cell BK126.out 5).trans rfl
                          have hfz84_0 := blk_frozen BK126.out 0
                          have hfz84_1 := blk_frozen BK126.out 1
                          have hfz84_2 := blk_frozen BK126.out 2
                          have hfz84_3 := blk_frozen BK126.out 3
                          have hfz84_4 := blk_frozen BK126.out 4
                          have hfz84_5 := blk_frozen BK126.out 5
                          go_wp2
                          go_ret2
                          exact ⟨by first | rfl | (simp [errW_none, errW_some] <;> rfl) | (simp [*, errW_none, errW_some] <;> rfl), by repeat (first | (with_reducible first | exact HB.out | apply below_alloc | apply pw_below_drewN | apply below_drew1 | refine below_set ?_ GE117.out | refine below_set ?_ GE118.out | refine below_set ?_ GE126.out) | exact HB.out)⟩
    · replace c5 := Bool.eq_false_iff.mpr c5
      subst c5
      have H1 : (some ((⟨#[]⟩ : ByteArray), 7)) = some (r1, r2) := by rw [if_neg (show ¬ (false = true) by decide)] at H; exact H
      clear H
      have H := H1
      clear H1
      simp only [Option.some.injEq, Prod.mk.injEq] at H
      obtain ⟨rfl, rfl⟩ := H
      go_enter Try.func11, Try.ntmps11
      go_wp2_with (first | ((with_reducible refine gate_dst (N := 2) rfl ?_); refine box_event ?hg (N := 2) ?hd (cs := #[.int .i64 a0_0, .slice A0_1 l0_1.length c0_1, .slice A0_2 l0_2.length c0_2, .int .i64 a0_3, .int .u64 a0_4]) (t := 26) ?hr ?_; (case hd => rfl); (case hg => rfl); (case hr => first | (go_simp; done) | (go_simp; rfl)); intro gb117 hg w85 hbox hb; have n0_ := Aside0.mk (below_step (by repeat (first | (with_reducible first | exact HB.out | apply below_alloc | apply pw_below_drewN | apply below_drew1) | exact HB.out)) hb); have n1_ := Aside0.mk (hbox); have n2_ := Aside0.mk ((by rw [hg]; exact (below_size (by repeat (first | (with_reducible first | exact HB.out | apply below_alloc | apply pw_below_drewN | apply below_drew1) | exact HB.out))) : w.heap.size ≤ gb117)); have n3_ := Aside0.mk ((by rw [hg]; exact (below_size (by repeat (first | (with_reducible first | exact HB.out | apply below_alloc | apply pw_below_drewN | apply below_drew1) | exact HB.out))) : w.heap.size ≤ gb117)); clear HB; have HB := n0_; have BK117 := n1_; have GW117 := n2_; have GE117 := n3_; clear n0_ n1_ n2_ n3_; clear hb hbox hg) | ((with_reducible refine gate_dst (N := 3) rfl ?_); refine box_event ?hg (N := 3) ?hd (cs := #[.int .i64 a1_0, .int .i64 a1_1, .int .i64 a1_2, .int .i64 a1_3, .string a1_4, .int .i64 a1_5, .string a1_6, .string a1_7, .string a1_8, .string a1_9, .int .i64 a1_10]) (t := 30) ?hr ?_; (case hd => rfl); (case hg => rfl); (case hr => first | (go_simp; done) | (go_simp; rfl)); intro gb118 hg w86 hbox hb; have n0_ := Aside0.mk (blk_below (g := gb117) (o := .cells #[.int .i64 a0_0, .slice A0_1 l0_1.length c0_1, .slice A0_2 l0_2.length c0_2, .int .i64 a0_3, .int .u64 a0_4] 26 (0, 0)) (by (with_reducible repeat (first | refine blk_drewN ?_ _ | refine blk_drew ?_ | refine blk_alloc ?_ _)); exact BK117.out) hb); have n1_ := Aside0.mk (below_step (by repeat (first | (with_reducible first | exact HB.out | apply below_alloc | apply pw_below_drewN | apply below_drew1 | refine below_set ?_ GE117.out) | exact HB.out)) hb); have n2_ := Aside0.mk (hbox); have n3_ := Aside0.mk ((by rw [hg]; exact (below_size (by repeat (first | (with_reducible first | exact HB.out | apply below_alloc | apply pw_below_drewN | apply below_drew1 | refine below_set ?_ GE117.out) | exact HB.out))) : w.heap.size ≤ gb118)); have n4_ := Aside0.mk ((by rw [hg]; exact (below_size (by repeat (first | (with_reducible first | exact HB.out | apply below_alloc | apply pw_below_drewN | apply below_drew1 | refine below_set ?_ GE117.out) | exact HB.out))) : w.heap.size ≤ gb118)); have n5_ := Aside0.mk ((by rw [hg]; exact Nat.ne_of_lt (blk_lt (g := gb117) (o := .cells #[.int .i64 a0_0, .slice A0_1 l0_1.length c0_1, .slice A0_2 l0_2.length c0_2, .int .i64 a0_3, .int .u64 a0_4] 26 (0, 0)) (by (with_reducible repeat (first | refine blk_drewN ?_ _ | refine blk_drew ?_ | refine blk_alloc ?_ _)); exact BK117.out)) : gb117 ≠ gb118)); have n6_ := Aside0.mk ((by rw [hg]; exact Nat.ne_of_gt (blk_lt (g := gb117) (o := .cells #[.int .i64 a0_0, .slice A0_1 l0_1.length c0_1, .slice A0_2 l0_2.length c0_2, .int .i64 a0_3, .int .u64 a0_4] 26 (0, 0)) (by (with_reducible repeat (first | refine blk_drewN ?_ _ | refine blk_drew ?_ | refine blk_alloc ?_ _)); exact BK117.out)) : gb118 ≠ gb117)); clear BK117; clear HB; have BK117 := n0_; have HB := n1_; have BK118 := n2_; have GW118 := n3_; have GE118 := n4_; have NB117_118 := n5_; have NB118_117 := n6_; clear n0_ n1_ n2_ n3_ n4_ n5_ n6_; clear hb hbox hg; have hnb87 := NB117_118.out; have hnc87 := NB118_117.out; have hcz88_0 : w86.cell? ⟨gb117, 0, none⟩ = some (.int .i64 a0_0) := (blk_cell BK117.out 0).trans rfl; have hcz88_1 : w86.cell? ⟨gb117, 1, none⟩ = some (.slice A0_1 l0_1.length c0_1) := (blk_cell BK117.out 1).trans rfl; have hcz88_2 : w86.cell? ⟨gb117, 2, none⟩ = some (.slice A0_2 l0_2.length c0_2) := (blk_cell BK117.out 2).trans rfl; have hcz88_3 : w86.cell? ⟨gb117, 3, none⟩ = some (.int .i64 a0_3) := (blk_cell BK117.out 3).trans rfl; have hcz88_4 : w86.cell? ⟨gb117, 4, none⟩ = some (.int .u64 a0_4) := (blk_cell BK117.out 4).trans rfl; have hfz88_0 := blk_frozen BK117.out 0; have hfz88_1 := blk_frozen BK117.out 1; have hfz88_2 := blk_frozen BK117.out 2; have hfz88_3 := blk_frozen BK117.out 3; have hfz88_4 := blk_frozen BK117.out 4; have hcz89_0 : w86.cell? ⟨gb118, 0, none⟩ = some (.int .i64 a1_0) := (blk_cell BK118.out 0).trans rfl; have hcz89_1 : w86.cell? ⟨gb118, 1, none⟩ = some (.int .i64 a1_1) := (blk_cell BK118.out 1).trans rfl; have hcz89_2 : w86.cell? ⟨gb118, 2, none⟩ = some (.int .i64 a1_2) := (blk_cell BK118.out 2).trans rfl; have hcz89_3 : w86.cell? ⟨gb118, 3, none⟩ = some (.int .i64 a1_3) := (blk_cell BK118.out 3).trans rfl; have hcz89_4 : w86.cell? ⟨gb118, 4, none⟩ = some (.string a1_4) := (blk_cell BK118.out 4).trans rfl; have hcz89_5 : w86.cell? ⟨gb118, 5, none⟩ = some (.int .i64 a1_5) := (blk_cell BK118.out 5).trans rfl; have hcz89_6 : w86.cell? ⟨gb118, 6, none⟩ = some (.string a1_6) := (blk_cell BK118.out 6).trans rfl; have hcz89_7 : w86.cell? ⟨gb118, 7, none⟩ = some (.string a1_7) := (blk_cell BK118.out 7).trans rfl; have hcz89_8 : w86.cell? ⟨gb118, 8, none⟩ = some (.string a1_8) := (blk_cell BK118.out 8).trans rfl; have hcz89_9 : w86.cell? ⟨gb118, 9, none⟩ = some (.string a1_9) := (blk_cell BK118.out 9).trans rfl; have hcz89_10 : w86.cell? ⟨gb118, 10, none⟩ = some (.int .i64 a1_10) := (blk_cell BK118.out 10).trans rfl; have hfz89_0 := blk_frozen BK118.out 0; have hfz89_1 := blk_frozen BK118.out 1; have hfz89_2 := blk_frozen BK118.out 2; have hfz89_3 := blk_frozen BK118.out 3; have hfz89_4 := blk_frozen BK118.out 4; have hfz89_5 := blk_frozen BK118.out 5; have hfz89_6 := blk_frozen BK118.out 6; have hfz89_7 := blk_frozen BK118.out 7; have hfz89_8 := blk_frozen BK118.out 8; have hfz89_9 := blk_frozen BK118.out 9; have hfz89_10 := blk_frozen BK118.out 10) | ((with_reducible refine gate_callee (f := 14) rfl ?_); refine goesL_ (some 12) rfl rfl Try.func14 (by kernel_rfl) rfl #[.agg #[.int .i64 a0_0, .slice A0_1 l0_1.length c0_1, .slice A0_2 l0_2.length c0_2, .int .i64 a0_3, .int .u64 a0_4], .int .i64 a1_2] rfl (by (try simp only [List.map_toArray, List.map_cons, List.map_nil]); first | done | rfl | (simp only [List.length_drop, List.length_take]; rfl)) ?_; (with_reducible refine (session_Find.calls a0_0 _ _ l0_1 _ _ l0_2 a0_3 a0_4 a1_2 t119 t120 t121 t122 t123 t124 false _ ?side1 ?side2 ?side3 ?side4 A3.out).mono ?_); (case side1 => repeat (first | exact (Kd.C_below HR0_1.out HB.out) | (with_reducible refine Kd.C_alloc ?_ _) | (with_reducible refine Kd.C_drewN ?_ _) | (with_reducible refine Kd.C_drew ?_))); (case side2 => exact HC0_1.out); (case side3 => repeat (first | exact (Kd.C_below HR0_2.out HB.out) | (with_reducible refine Kd.C_alloc ?_ _) | (with_reducible refine Kd.C_drewN ?_ _) | (with_reducible refine Kd.C_drew ?_))); (case side4 => exact HC0_2.out); rintro e w90 ⟨rfl, hb⟩; refine ⟨_, rfl, ?_⟩; have n0_ := Aside0.mk (blk_below (g := gb117) (o := .cells #[.int .i64 a0_0, .slice A0_1 l0_1.length c0_1, .slice A0_2 l0_2.length c0_2, .int .i64 a0_3, .int .u64 a0_4] 26 (0, 0)) (by (with_reducible repeat (first | refine blk_drewN ?_ _ | refine blk_drew ?_ | refine blk_alloc ?_ _)); exact BK117.out) hb); have n1_ := Aside0.mk (blk_below (g := gb118) (o := .cells #[.int .i64 a1_0, .int .i64 a1_1, .int .i64 a1_2, .int .i64 a1_3, .string a1_4, .int .i64 a1_5, .string a1_6, .string a1_7, .string a1_8, .string a1_9, .int .i64 a1_10] 30 (0, 0)) (by (with_reducible repeat (first | refine blk_drewN ?_ _ | refine blk_drew ?_ | refine blk_alloc ?_ _)); exact BK118.out) hb); have n2_ := Aside0.mk (below_step (by repeat (first | (with_reducible first | exact HB.out | apply below_alloc | apply pw_below_drewN | apply below_drew1 | refine below_set ?_ GE117.out | refine below_set ?_ GE118.out) | exact HB.out)) hb); clear BK117; clear BK118; clear HB; have BK117 := n0_; have BK118 := n1_; have HB := n2_; clear n0_ n1_ n2_; (try clear hb); (try clear hb2); (try clear hk); (try clear hi)) | ((with_reducible refine gate_dst (N := 6) rfl ?_); refine box_event ?hg (N := 6) ?hd (cs := #[.int .i64 0, .int .i64 0, .bool false, .string (⟨#[]⟩ : ByteArray), .int .i64 0, .int .i64 0]) (t := 42) ?hr ?_; (case hd => rfl); (case hg => rfl); (case hr => first | (go_simp; done) | (go_simp; rfl)); intro gb126 hg w91 hbox hb; have n0_ := Aside0.mk (blk_below (g := gb117) (o := .cells #[.int .i64 a0_0, .slice A0_1 l0_1.length c0_1, .slice A0_2 l0_2.length c0_2, .int .i64 a0_3, .int .u64 a0_4] 26 (0, 0)) (by (with_reducible repeat (first | refine blk_drewN ?_ _ | refine blk_drew ?_ | refine blk_alloc ?_ _)); exact BK117.out) hb); have n1_ := Aside0.mk (blk_below (g := gb118) (o := .cells #[.int .i64 a1_0, .int .i64 a1_1, .int .i64 a1_2, .int .i64 a1_3, .string a1_4, .int .i64 a1_5, .string a1_6, .string a1_7, .string a1_8, .string a1_9, .int .i64 a1_10] 30 (0, 0)) (by (with_reducible repeat (first | refine blk_drewN ?_ _ | refine blk_drew ?_ | refine blk_alloc ?_ _)); exact BK118.out) hb); have n2_ := Aside0.mk (below_step (by repeat (first | (with_reducible first | exact HB.out | apply below_alloc | apply pw_below_drewN | apply below_drew1 | refine below_set ?_ GE117.out | refine below_set ?_ GE118.out) | exact HB.out)) hb); have n3_ := Aside0.mk (hbox); have n4_ := Aside0.mk ((by rw [hg]; exact (below_size (by repeat (first | (with_reducible first | exact HB.out | apply below_alloc | apply pw_below_drewN | apply below_drew1 | refine below_set ?_ GE117.out | refine below_set ?_ GE118.out) | exact HB.out))) : w.heap.size ≤ gb126)); have n5_ := Aside0.mk ((by rw [hg]; exact (below_size (by repeat (first | (with_reducible first | exact HB.out | apply below_alloc | apply pw_below_drewN | apply below_drew1 | refine below_set ?_ GE117.out | refine below_set ?_ GE118.out) | exact HB.out))) : w.heap.size ≤ gb126)); have n6_ := Aside0.mk ((by rw [hg]; exact Nat.ne_of_lt (blk_lt (g := gb117) (o := .cells #[.int .i64 a0_0, .slice A0_1 l0_1.length c0_1, .slice A0_2 l0_2.length c0_2, .int .i64 a0_3, .int .u64 a0_4] 26 (0, 0)) (by (with_reducible repeat (first | refine blk_drewN ?_ _ | refine blk_drew ?_ | refine blk_alloc ?_ _)); exact BK117.out)) : gb117 ≠ gb126)); have n7_ := Aside0.mk ((by rw [hg]; exact Nat.ne_of_gt (blk_lt (g := gb117) (o := .cells #[.int .i64 a0_0, .slice A0_1 l0_1.length c0_1, .slice A0_2 l0_2.length c0_2, .int .i64 a0_3, .int .u64 a0_4] 26 (0, 0)) (by (with_reducible repeat (first | refine blk_drewN ?_ _ | refine blk_drew ?_ | refine blk_alloc ?_ _)); exact BK117.out)) : gb126 ≠ gb117)); have n8_ := Aside0.mk ((by rw [hg]; exact Nat.ne_of_lt (blk_lt (g := gb118) (o := .cells #[.int .i64 a1_0, .int .i64 a1_1, .int .i64 a1_2, .int .i64 a1_3, .string a1_4, .int .i64 a1_5, .string a1_6, .string a1_7, .string a1_8, .string a1_9, .int .i64 a1_10] 30 (0, 0)) (by (with_reducible repeat (first | refine blk_drewN ?_ _ | refine blk_drew ?_ | refine blk_alloc ?_ _)); exact BK118.out)) : gb118 ≠ gb126)); have n9_ := Aside0.mk ((by rw [hg]; exact Nat.ne_of_gt (blk_lt (g := gb118) (o := .cells #[.int .i64 a1_0, .int .i64 a1_1, .int .i64 a1_2, .int .i64 a1_3, .string a1_4, .int .i64 a1_5, .string a1_6, .string a1_7, .string a1_8, .string a1_9, .int .i64 a1_10] 30 (0, 0)) (by (with_reducible repeat (first | refine blk_drewN ?_ _ | refine blk_drew ?_ | refine blk_alloc ?_ _)); exact BK118.out)) : gb126 ≠ gb118)); clear BK117; clear BK118; clear HB; have BK117 := n0_; have BK118 := n1_; have HB := n2_; have BK126 := n3_; have GW126 := n4_; have GE126 := n5_; have NB117_126 := n6_; have NB126_117 := n7_; have NB118_126 := n8_; have NB126_118 := n9_; clear n0_ n1_ n2_ n3_ n4_ n5_ n6_ n7_ n8_ n9_; clear hb hbox hg; have hnb92 := NB126_117.out; have hnc92 := NB117_126.out; have hnb93 := NB126_118.out; have hnc93 := NB118_126.out; have hcz94_0 : w91.cell? ⟨gb126, 0, none⟩ = some (.int .i64 0) := (blk_cell BK126.out 0).trans rfl; have hcz94_1 : w91.cell? ⟨gb126, 1, none⟩ = some (.int .i64 0) := (blk_cell BK126.out 1).trans rfl; have hcz94_2 : w91.cell? ⟨gb126, 2, none⟩ = some (.bool false) := (blk_cell BK126.out 2).trans rfl; have hcz94_3 : w91.cell? ⟨gb126, 3, none⟩ = some (.string (⟨#[]⟩ : ByteArray)) := (blk_cell BK126.out 3).trans rfl; have hcz94_4 : w91.cell? ⟨gb126, 4, none⟩ = some (.int .i64 0) := (blk_cell BK126.out 4).trans rfl; have hcz94_5 : w91.cell? ⟨gb126, 5, none⟩ = some (.int .i64 0) := (blk_cell BK126.out 5).trans rfl; have hfz94_0 := blk_frozen BK126.out 0; have hfz94_1 := blk_frozen BK126.out 1; have hfz94_2 := blk_frozen BK126.out 2; have hfz94_3 := blk_frozen BK126.out 3; have hfz94_4 := blk_frozen BK126.out 4; have hfz94_5 := blk_frozen BK126.out 5; have hcz95_0 : w91.cell? ⟨gb118, 0, none⟩ = some (.int .i64 a1_0) := (blk_cell BK118.out 0).trans rfl; have hcz95_1 : w91.cell? ⟨gb118, 1, none⟩ = some (.int .i64 a1_1) := (blk_cell BK118.out 1).trans rfl; have hcz95_2 : w91.cell? ⟨gb118, 2, none⟩ = some (.int .i64 a1_2) := (blk_cell BK118.out 2).trans rfl; have hcz95_3 : w91.cell? ⟨gb118, 3, none⟩ = some (.int .i64 a1_3) := (blk_cell BK118.out 3).trans rfl; have hcz95_4 : w91.cell? ⟨gb118, 4, none⟩ = some (.string a1_4) := (blk_cell BK118.out 4).trans rfl; have hcz95_5 : w91.cell? ⟨gb118, 5, none⟩ = some (.int .i64 a1_5) := (blk_cell BK118.out 5).trans rfl; have hcz95_6 : w91.cell? ⟨gb118, 6, none⟩ = some (.string a1_6) := (blk_cell BK118.out 6).trans rfl; have hcz95_7 : w91.cell? ⟨gb118, 7, none⟩ = some (.string a1_7) := (blk_cell BK118.out 7).trans rfl; have hcz95_8 : w91.cell? ⟨gb118, 8, none⟩ = some (.string a1_8) := (blk_cell BK118.out 8).trans rfl; have hcz95_9 : w91.cell? ⟨gb118, 9, none⟩ = some (.string a1_9) := (blk_cell BK118.out 9).trans rfl; have hcz95_10 : w91.cell? ⟨gb118, 10, none⟩ = some (.int .i64 a1_10) := (blk_cell BK118.out 10).trans rfl; have hfz95_0 := blk_frozen BK118.out 0; have hfz95_1 := blk_frozen BK118.out 1; have hfz95_2 := blk_frozen BK118.out 2; have hfz95_3 := blk_frozen BK118.out 3; have hfz95_4 := blk_frozen BK118.out 4; have hfz95_5 := blk_frozen BK118.out 5; have hfz95_6 := blk_frozen BK118.out 6; have hfz95_7 := blk_frozen BK118.out 7; have hfz95_8 := blk_frozen BK118.out 8; have hfz95_9 := blk_frozen BK118.out 9; have hfz95_10 := blk_frozen BK118.out 10; have hcz96_0 : w91.cell? ⟨gb117, 0, none⟩ = some (.int .i64 a0_0) := (blk_cell BK117.out 0).trans rfl; have hcz96_1 : w91.cell? ⟨gb117, 1, none⟩ = some (.slice A0_1 l0_1.length c0_1) := (blk_cell BK117.out 1).trans rfl; have hcz96_2 : w91.cell? ⟨gb117, 2, none⟩ = some (.slice A0_2 l0_2.length c0_2) := (blk_cell BK117.out 2).trans rfl; have hcz96_3 : w91.cell? ⟨gb117, 3, none⟩ = some (.int .i64 a0_3) := (blk_cell BK117.out 3).trans rfl; have hcz96_4 : w91.cell? ⟨gb117, 4, none⟩ = some (.int .u64 a0_4) := (blk_cell BK117.out 4).trans rfl; have hfz96_0 := blk_frozen BK117.out 0; have hfz96_1 := blk_frozen BK117.out 1; have hfz96_2 := blk_frozen BK117.out 2; have hfz96_3 := blk_frozen BK117.out 3; have hfz96_4 := blk_frozen BK117.out 4))
      go_ret2
      exact ⟨by first | rfl | (simp [errW_none, errW_some] <;> rfl) | (simp [*, errW_none, errW_some] <;> rfl), by repeat (first | (with_reducible first | exact HB.out | apply below_alloc | apply pw_below_drewN | apply below_drew1 | refine below_set ?_ GE117.out | refine below_set ?_ GE118.out | refine below_set ?_ GE126.out) | exact HB.out)⟩
  · rw [if_neg c4] at H
    have c4b0 : (a1_1 == a0_0) = false := beq_eq_false_iff_ne.mpr c4
    have c4b1 : (a1_1 != a0_0) = true := bne_iff_ne.mpr c4
    simp only [Option.some.injEq, Prod.mk.injEq] at H
    obtain ⟨rfl, rfl⟩ := H
    go_enter Try.func11, Try.ntmps11
    go_wp2_with (first | ((with_reducible refine gate_dst (N := 2) rfl ?_); refine box_event ?hg (N := 2) ?hd (cs := #[.int .i64 a0_0, .slice A0_1 l0_1.length c0_1, .slice A0_2 l0_2.length c0_2, .int .i64 a0_3, .int .u64 a0_4]) (t := 26) ?hr ?_; (case hd => rfl); (case hg => rfl); (case hr => first | (go_simp; done) | (go_simp; rfl)); intro gb117 hg w97 hbox hb; have n0_ := Aside0.mk (below_step (by repeat (first | (with_reducible first | exact HB.out | apply below_alloc | apply pw_below_drewN | apply below_drew1) | exact HB.out)) hb); have n1_ := Aside0.mk (hbox); have n2_ := Aside0.mk ((by rw [hg]; exact (below_size (by repeat (first | (with_reducible first | exact HB.out | apply below_alloc | apply pw_below_drewN | apply below_drew1) | exact HB.out))) : w.heap.size ≤ gb117)); have n3_ := Aside0.mk ((by rw [hg]; exact (below_size (by repeat (first | (with_reducible first | exact HB.out | apply below_alloc | apply pw_below_drewN | apply below_drew1) | exact HB.out))) : w.heap.size ≤ gb117)); clear HB; have HB := n0_; have BK117 := n1_; have GW117 := n2_; have GE117 := n3_; clear n0_ n1_ n2_ n3_; clear hb hbox hg) | ((with_reducible refine gate_dst (N := 3) rfl ?_); refine box_event ?hg (N := 3) ?hd (cs := #[.int .i64 a1_0, .int .i64 a1_1, .int .i64 a1_2, .int .i64 a1_3, .string a1_4, .int .i64 a1_5, .string a1_6, .string a1_7, .string a1_8, .string a1_9, .int .i64 a1_10]) (t := 30) ?hr ?_; (case hd => rfl); (case hg => rfl); (case hr => first | (go_simp; done) | (go_simp; rfl)); intro gb118 hg w98 hbox hb; have n0_ := Aside0.mk (blk_below (g := gb117) (o := .cells #[.int .i64 a0_0, .slice A0_1 l0_1.length c0_1, .slice A0_2 l0_2.length c0_2, .int .i64 a0_3, .int .u64 a0_4] 26 (0, 0)) (by (with_reducible repeat (first | refine blk_drewN ?_ _ | refine blk_drew ?_ | refine blk_alloc ?_ _)); exact BK117.out) hb); have n1_ := Aside0.mk (below_step (by repeat (first | (with_reducible first | exact HB.out | apply below_alloc | apply pw_below_drewN | apply below_drew1 | refine below_set ?_ GE117.out) | exact HB.out)) hb); have n2_ := Aside0.mk (hbox); have n3_ := Aside0.mk ((by rw [hg]; exact (below_size (by repeat (first | (with_reducible first | exact HB.out | apply below_alloc | apply pw_below_drewN | apply below_drew1 | refine below_set ?_ GE117.out) | exact HB.out))) : w.heap.size ≤ gb118)); have n4_ := Aside0.mk ((by rw [hg]; exact (below_size (by repeat (first | (with_reducible first | exact HB.out | apply below_alloc | apply pw_below_drewN | apply below_drew1 | refine below_set ?_ GE117.out) | exact HB.out))) : w.heap.size ≤ gb118)); have n5_ := Aside0.mk ((by rw [hg]; exact Nat.ne_of_lt (blk_lt (g := gb117) (o := .cells #[.int .i64 a0_0, .slice A0_1 l0_1.length c0_1, .slice A0_2 l0_2.length c0_2, .int .i64 a0_3, .int .u64 a0_4] 26 (0, 0)) (by (with_reducible repeat (first | refine blk_drewN ?_ _ | refine blk_drew ?_ | refine blk_alloc ?_ _)); exact BK117.out)) : gb117 ≠ gb118)); have n6_ := Aside0.mk ((by rw [hg]; exact Nat.ne_of_gt (blk_lt (g := gb117) (o := .cells #[.int .i64 a0_0, .slice A0_1 l0_1.length c0_1, .slice A0_2 l0_2.length c0_2, .int .i64 a0_3, .int .u64 a0_4] 26 (0, 0)) (by (with_reducible repeat (first | refine blk_drewN ?_ _ | refine blk_drew ?_ | refine blk_alloc ?_ _)); exact BK117.out)) : gb118 ≠ gb117)); clear BK117; clear HB; have BK117 := n0_; have HB := n1_; have BK118 := n2_; have GW118 := n3_; have GE118 := n4_; have NB117_118 := n5_; have NB118_117 := n6_; clear n0_ n1_ n2_ n3_ n4_ n5_ n6_; clear hb hbox hg; have hnb99 := NB117_118.out; have hnc99 := NB118_117.out; have hcz100_0 : w98.cell? ⟨gb117, 0, none⟩ = some (.int .i64 a0_0) := (blk_cell BK117.out 0).trans rfl; have hcz100_1 : w98.cell? ⟨gb117, 1, none⟩ = some (.slice A0_1 l0_1.length c0_1) := (blk_cell BK117.out 1).trans rfl; have hcz100_2 : w98.cell? ⟨gb117, 2, none⟩ = some (.slice A0_2 l0_2.length c0_2) := (blk_cell BK117.out 2).trans rfl; have hcz100_3 : w98.cell? ⟨gb117, 3, none⟩ = some (.int .i64 a0_3) := (blk_cell BK117.out 3).trans rfl; have hcz100_4 : w98.cell? ⟨gb117, 4, none⟩ = some (.int .u64 a0_4) := (blk_cell BK117.out 4).trans rfl; have hfz100_0 := blk_frozen BK117.out 0; have hfz100_1 := blk_frozen BK117.out 1; have hfz100_2 := blk_frozen BK117.out 2; have hfz100_3 := blk_frozen BK117.out 3; have hfz100_4 := blk_frozen BK117.out 4; have hcz101_0 : w98.cell? ⟨gb118, 0, none⟩ = some (.int .i64 a1_0) := (blk_cell BK118.out 0).trans rfl; have hcz101_1 : w98.cell? ⟨gb118, 1, none⟩ = some (.int .i64 a1_1) := (blk_cell BK118.out 1).trans rfl; have hcz101_2 : w98.cell? ⟨gb118, 2, none⟩ = some (.int .i64 a1_2) := (blk_cell BK118.out 2).trans rfl; have hcz101_3 : w98.cell? ⟨gb118, 3, none⟩ = some (.int .i64 a1_3) := (blk_cell BK118.out 3).trans rfl; have hcz101_4 : w98.cell? ⟨gb118, 4, none⟩ = some (.string a1_4) := (blk_cell BK118.out 4).trans rfl; have hcz101_5 : w98.cell? ⟨gb118, 5, none⟩ = some (.int .i64 a1_5) := (blk_cell BK118.out 5).trans rfl; have hcz101_6 : w98.cell? ⟨gb118, 6, none⟩ = some (.string a1_6) := (blk_cell BK118.out 6).trans rfl; have hcz101_7 : w98.cell? ⟨gb118, 7, none⟩ = some (.string a1_7) := (blk_cell BK118.out 7).trans rfl; have hcz101_8 : w98.cell? ⟨gb118, 8, none⟩ = some (.string a1_8) := (blk_cell BK118.out 8).trans rfl; have hcz101_9 : w98.cell? ⟨gb118, 9, none⟩ = some (.string a1_9) := (blk_cell BK118.out 9).trans rfl; have hcz101_10 : w98.cell? ⟨gb118, 10, none⟩ = some (.int .i64 a1_10) := (blk_cell BK118.out 10).trans rfl; have hfz101_0 := blk_frozen BK118.out 0; have hfz101_1 := blk_frozen BK118.out 1; have hfz101_2 := blk_frozen BK118.out 2; have hfz101_3 := blk_frozen BK118.out 3; have hfz101_4 := blk_frozen BK118.out 4; have hfz101_5 := blk_frozen BK118.out 5; have hfz101_6 := blk_frozen BK118.out 6; have hfz101_7 := blk_frozen BK118.out 7; have hfz101_8 := blk_frozen BK118.out 8; have hfz101_9 := blk_frozen BK118.out 9; have hfz101_10 := blk_frozen BK118.out 10) | ((with_reducible refine gate_callee (f := 14) rfl ?_); refine goesL_ (some 12) rfl rfl Try.func14 (by kernel_rfl) rfl #[.agg #[.int .i64 a0_0, .slice A0_1 l0_1.length c0_1, .slice A0_2 l0_2.length c0_2, .int .i64 a0_3, .int .u64 a0_4], .int .i64 a1_2] rfl (by (try simp only [List.map_toArray, List.map_cons, List.map_nil]); first | done | rfl | (simp only [List.length_drop, List.length_take]; rfl)) ?_; (with_reducible refine (session_Find.calls a0_0 _ _ l0_1 _ _ l0_2 a0_3 a0_4 a1_2 t119 t120 t121 t122 t123 t124 t125 _ ?side1 ?side2 ?side3 ?side4 A3.out).mono ?_); (case side1 => repeat (first | exact (Kd.C_below HR0_1.out HB.out) | (with_reducible refine Kd.C_alloc ?_ _) | (with_reducible refine Kd.C_drewN ?_ _) | (with_reducible refine Kd.C_drew ?_))); (case side2 => exact HC0_1.out); (case side3 => repeat (first | exact (Kd.C_below HR0_2.out HB.out) | (with_reducible refine Kd.C_alloc ?_ _) | (with_reducible refine Kd.C_drewN ?_ _) | (with_reducible refine Kd.C_drew ?_))); (case side4 => exact HC0_2.out); rintro e w102 ⟨rfl, hb⟩; refine ⟨_, rfl, ?_⟩; have n0_ := Aside0.mk (blk_below (g := gb117) (o := .cells #[.int .i64 a0_0, .slice A0_1 l0_1.length c0_1, .slice A0_2 l0_2.length c0_2, .int .i64 a0_3, .int .u64 a0_4] 26 (0, 0)) (by (with_reducible repeat (first | refine blk_drewN ?_ _ | refine blk_drew ?_ | refine blk_alloc ?_ _)); exact BK117.out) hb); have n1_ := Aside0.mk (blk_below (g := gb118) (o := .cells #[.int .i64 a1_0, .int .i64 a1_1, .int .i64 a1_2, .int .i64 a1_3, .string a1_4, .int .i64 a1_5, .string a1_6, .string a1_7, .string a1_8, .string a1_9, .int .i64 a1_10] 30 (0, 0)) (by (with_reducible repeat (first | refine blk_drewN ?_ _ | refine blk_drew ?_ | refine blk_alloc ?_ _)); exact BK118.out) hb); have n2_ := Aside0.mk (below_step (by repeat (first | (with_reducible first | exact HB.out | apply below_alloc | apply pw_below_drewN | apply below_drew1 | refine below_set ?_ GE117.out | refine below_set ?_ GE118.out) | exact HB.out)) hb); clear BK117; clear BK118; clear HB; have BK117 := n0_; have BK118 := n1_; have HB := n2_; clear n0_ n1_ n2_; (try clear hb); (try clear hb2); (try clear hk); (try clear hi)) | ((with_reducible refine gate_dst (N := 6) rfl ?_); refine box_event ?hg (N := 6) ?hd (cs := #[.int .i64 0, .int .i64 0, .bool false, .string (⟨#[]⟩ : ByteArray), .int .i64 0, .int .i64 0]) (t := 42) ?hr ?_; (case hd => rfl); (case hg => rfl); (case hr => first | (go_simp; done) | (go_simp; rfl)); intro gb126 hg w103 hbox hb; have n0_ := Aside0.mk (blk_below (g := gb117) (o := .cells #[.int .i64 a0_0, .slice A0_1 l0_1.length c0_1, .slice A0_2 l0_2.length c0_2, .int .i64 a0_3, .int .u64 a0_4] 26 (0, 0)) (by (with_reducible repeat (first | refine blk_drewN ?_ _ | refine blk_drew ?_ | refine blk_alloc ?_ _)); exact BK117.out) hb); have n1_ := Aside0.mk (blk_below (g := gb118) (o := .cells #[.int .i64 a1_0, .int .i64 a1_1, .int .i64 a1_2, .int .i64 a1_3, .string a1_4, .int .i64 a1_5, .string a1_6, .string a1_7, .string a1_8, .string a1_9, .int .i64 a1_10] 30 (0, 0)) (by (with_reducible repeat (first | refine blk_drewN ?_ _ | refine blk_drew ?_ | refine blk_alloc ?_ _)); exact BK118.out) hb); have n2_ := Aside0.mk (below_step (by repeat (first | (with_reducible first | exact HB.out | apply below_alloc | apply pw_below_drewN | apply below_drew1 | refine below_set ?_ GE117.out | refine below_set ?_ GE118.out) | exact HB.out)) hb); have n3_ := Aside0.mk (hbox); have n4_ := Aside0.mk ((by rw [hg]; exact (below_size (by repeat (first | (with_reducible first | exact HB.out | apply below_alloc | apply pw_below_drewN | apply below_drew1 | refine below_set ?_ GE117.out | refine below_set ?_ GE118.out) | exact HB.out))) : w.heap.size ≤ gb126)); have n5_ := Aside0.mk ((by rw [hg]; exact (below_size (by repeat (first | (with_reducible first | exact HB.out | apply below_alloc | apply pw_below_drewN | apply below_drew1 | refine below_set ?_ GE117.out | refine below_set ?_ GE118.out) | exact HB.out))) : w.heap.size ≤ gb126)); have n6_ := Aside0.mk ((by rw [hg]; exact Nat.ne_of_lt (blk_lt (g := gb117) (o := .cells #[.int .i64 a0_0, .slice A0_1 l0_1.length c0_1, .slice A0_2 l0_2.length c0_2, .int .i64 a0_3, .int .u64 a0_4] 26 (0, 0)) (by (with_reducible repeat (first | refine blk_drewN ?_ _ | refine blk_drew ?_ | refine blk_alloc ?_ _)); exact BK117.out)) : gb117 ≠ gb126)); have n7_ := Aside0.mk ((by rw [hg]; exact Nat.ne_of_gt (blk_lt (g := gb117) (o := .cells #[.int .i64 a0_0, .slice A0_1 l0_1.length c0_1, .slice A0_2 l0_2.length c0_2, .int .i64 a0_3, .int .u64 a0_4] 26 (0, 0)) (by (with_reducible repeat (first | refine blk_drewN ?_ _ | refine blk_drew ?_ | refine blk_alloc ?_ _)); exact BK117.out)) : gb126 ≠ gb117)); have n8_ := Aside0.mk ((by rw [hg]; exact Nat.ne_of_lt (blk_lt (g := gb118) (o := .cells #[.int .i64 a1_0, .int .i64 a1_1, .int .i64 a1_2, .int .i64 a1_3, .string a1_4, .int .i64 a1_5, .string a1_6, .string a1_7, .string a1_8, .string a1_9, .int .i64 a1_10] 30 (0, 0)) (by (with_reducible repeat (first | refine blk_drewN ?_ _ | refine blk_drew ?_ | refine blk_alloc ?_ _)); exact BK118.out)) : gb118 ≠ gb126)); have n9_ := Aside0.mk ((by rw [hg]; exact Nat.ne_of_gt (blk_lt (g := gb118) (o := .cells #[.int .i64 a1_0, .int .i64 a1_1, .int .i64 a1_2, .int .i64 a1_3, .string a1_4, .int .i64 a1_5, .string a1_6, .string a1_7, .string a1_8, .string a1_9, .int .i64 a1_10] 30 (0, 0)) (by (with_reducible repeat (first | refine blk_drewN ?_ _ | refine blk_drew ?_ | refine blk_alloc ?_ _)); exact BK118.out)) : gb126 ≠ gb118)); clear BK117; clear BK118; clear HB; have BK117 := n0_; have BK118 := n1_; have HB := n2_; have BK126 := n3_; have GW126 := n4_; have GE126 := n5_; have NB117_126 := n6_; have NB126_117 := n7_; have NB118_126 := n8_; have NB126_118 := n9_; clear n0_ n1_ n2_ n3_ n4_ n5_ n6_ n7_ n8_ n9_; clear hb hbox hg; have hnb104 := NB126_117.out; have hnc104 := NB117_126.out; have hnb105 := NB126_118.out; have hnc105 := NB118_126.out; have hcz106_0 : w103.cell? ⟨gb126, 0, none⟩ = some (.int .i64 0) := (blk_cell BK126.out 0).trans rfl; have hcz106_1 : w103.cell? ⟨gb126, 1, none⟩ = some (.int .i64 0) := (blk_cell BK126.out 1).trans rfl; have hcz106_2 : w103.cell? ⟨gb126, 2, none⟩ = some (.bool false) := (blk_cell BK126.out 2).trans rfl; have hcz106_3 : w103.cell? ⟨gb126, 3, none⟩ = some (.string (⟨#[]⟩ : ByteArray)) := (blk_cell BK126.out 3).trans rfl; have hcz106_4 : w103.cell? ⟨gb126, 4, none⟩ = some (.int .i64 0) := (blk_cell BK126.out 4).trans rfl; have hcz106_5 : w103.cell? ⟨gb126, 5, none⟩ = some (.int .i64 0) := (blk_cell BK126.out 5).trans rfl; have hfz106_0 := blk_frozen BK126.out 0; have hfz106_1 := blk_frozen BK126.out 1; have hfz106_2 := blk_frozen BK126.out 2; have hfz106_3 := blk_frozen BK126.out 3; have hfz106_4 := blk_frozen BK126.out 4; have hfz106_5 := blk_frozen BK126.out 5; have hcz107_0 : w103.cell? ⟨gb118, 0, none⟩ = some (.int .i64 a1_0) := (blk_cell BK118.out 0).trans rfl; have hcz107_1 : w103.cell? ⟨gb118, 1, none⟩ = some (.int .i64 a1_1) := (blk_cell BK118.out 1).trans rfl; have hcz107_2 : w103.cell? ⟨gb118, 2, none⟩ = some (.int .i64 a1_2) := (blk_cell BK118.out 2).trans rfl; have hcz107_3 : w103.cell? ⟨gb118, 3, none⟩ = some (.int .i64 a1_3) := (blk_cell BK118.out 3).trans rfl; have hcz107_4 : w103.cell? ⟨gb118, 4, none⟩ = some (.string a1_4) := (blk_cell BK118.out 4).trans rfl; have hcz107_5 : w103.cell? ⟨gb118, 5, none⟩ = some (.int .i64 a1_5) := (blk_cell BK118.out 5).trans rfl; have hcz107_6 : w103.cell? ⟨gb118, 6, none⟩ = some (.string a1_6) := (blk_cell BK118.out 6).trans rfl; have hcz107_7 : w103.cell? ⟨gb118, 7, none⟩ = some (.string a1_7) := (blk_cell BK118.out 7).trans rfl; have hcz107_8 : w103.cell? ⟨gb118, 8, none⟩ = some (.string a1_8) := (blk_cell BK118.out 8).trans rfl; have hcz107_9 : w103.cell? ⟨gb118, 9, none⟩ = some (.string a1_9) := (blk_cell BK118.out 9).trans rfl; have hcz107_10 : w103.cell? ⟨gb118, 10, none⟩ = some (.int .i64 a1_10) := (blk_cell BK118.out 10).trans rfl; have hfz107_0 := blk_frozen BK118.out 0; have hfz107_1 := blk_frozen BK118.out 1; have hfz107_2 := blk_frozen BK118.out 2; have hfz107_3 := blk_frozen BK118.out 3; have hfz107_4 := blk_frozen BK118.out 4; have hfz107_5 := blk_frozen BK118.out 5; have hfz107_6 := blk_frozen BK118.out 6; have hfz107_7 := blk_frozen BK118.out 7; have hfz107_8 := blk_frozen BK118.out 8; have hfz107_9 := blk_frozen BK118.out 9; have hfz107_10 := blk_frozen BK118.out 10; have hcz108_0 : w103.cell? ⟨gb117, 0, none⟩ = some (.int .i64 a0_0) := (blk_cell BK117.out 0).trans rfl; have hcz108_1 : w103.cell? ⟨gb117, 1, none⟩ = some (.slice A0_1 l0_1.length c0_1) := (blk_cell BK117.out 1).trans rfl; have hcz108_2 : w103.cell? ⟨gb117, 2, none⟩ = some (.slice A0_2 l0_2.length c0_2) := (blk_cell BK117.out 2).trans rfl; have hcz108_3 : w103.cell? ⟨gb117, 3, none⟩ = some (.int .i64 a0_3) := (blk_cell BK117.out 3).trans rfl; have hcz108_4 : w103.cell? ⟨gb117, 4, none⟩ = some (.int .u64 a0_4) := (blk_cell BK117.out 4).trans rfl; have hfz108_0 := blk_frozen BK117.out 0; have hfz108_1 := blk_frozen BK117.out 1; have hfz108_2 := blk_frozen BK117.out 2; have hfz108_3 := blk_frozen BK117.out 3; have hfz108_4 := blk_frozen BK117.out 4))
    go_ret2
    exact ⟨by first | rfl | (simp [errW_none, errW_some] <;> rfl) | (simp [*, errW_none, errW_some] <;> rfl), by repeat (first | (with_reducible first | exact HB.out | apply below_alloc | apply pw_below_drewN | apply below_drew1 | refine below_set ?_ GE117.out | refine below_set ?_ GE118.out | refine below_set ?_ GE126.out) | exact HB.out)⟩

end Go.Proofs.Ytnpmjboofmdflaa.PB
