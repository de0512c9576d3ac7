-- Made by a program of this workplace out of the translation (wip/tools in the repo). Not trusted: Lean checks it.
import Derived.Test.YtlacmlceedkfoaaPEx0
import Derived.Test.YtlacmlceedkfoaaPEx3
import Derived.Test.YtlacmlceedkfoaaPEx8
import Derived.Test.YtlacmlceedkfoaaPEx9
namespace Go.Proofs.Ytlacmlceedkfoaa.PE
open Go.RowKit Go.Proofs.YtlacmlceedkfoaaW.PrintWords Go.Proofs.YtlacmlceedkfoaaW.PrintLast Go.Proofs.YtlacmlceedkfoaaW.PrintMore
attribute [local go_sem] max2_int min2_int max_two min_two max_three min_three max_four min_four   -- for this text's walks alone
set_option linter.unusedVariables false
set_option linter.unusedSimpArgs false

/-! ### stanchionref19_Step: function 12 -/
def stanchionref19_Step.T4 : Bool × List (List Nat × List Nat) := (true, [([], []), ([], []), ([], []), ([2], [2]), ([1, 3], [1, 3]), ([4], [4]), ([5], [5]), ([5], [5]), ([7, 5], [5, 7]), ([6, 8, 5], [5, 6, 8]), ([5, 9], [5, 9]), ([0, 5, 0], [0]), ([10, 11, 0, 1, 2, 3, 4, 5, 6, 7, 8, 9, 10, 11], [10])])
def stanchionref19_Step.B4 : List Nat := [0, 0, 0, 4, 14, 30, 62, 62, 190, 510, 1022, 63, 4095]
theorem stanchionref19_Step.tab4 : rtab .any (opsOf Try.f12 4) = stanchionref19_Step.T4 := by kernel_rfl
theorem stanchionref19_Step.bits4 : waitsOk stanchionref19_Step.T4.2 stanchionref19_Step.B4 = true := by kernel_rfl
def stanchionref19_Step.T10 : Bool × List (List Nat × List Nat) := (true, [([], []), ([], []), ([], []), ([2], [2]), ([], []), ([4], [4]), ([], []), ([6], [6]), ([0, 1, 3, 5, 7], [0, 1, 3, 5, 7]), ([], []), ([9], [9]), ([8, 10, 8], [8, 10]), ([11, 11, 0, 1, 2, 3, 4, 5, 6, 7, 8, 9, 10, 11], [11])])
def stanchionref19_Step.B10 : List Nat := [0, 0, 0, 4, 0, 16, 0, 64, 255, 0, 512, 2047, 4095]
theorem stanchionref19_Step.tab10 : rtab .any (opsOf Try.f12 10) = stanchionref19_Step.T10 := by kernel_rfl
theorem stanchionref19_Step.bits10 : waitsOk stanchionref19_Step.T10.2 stanchionref19_Step.B10 = true := by kernel_rfl
set_option maxHeartbeats 8000000 in
set_option maxRecDepth 100000 in
theorem stanchionref19_Step.calls (k : Nat) (P0_ : Nat → Prop) (A0 : Option Addr) (c0 : Nat) (l0 : List (S61)) (A1 : Option Addr) (c1 : Nat) (l1 : List (S59)) (a2_0 : Int) (a2_1 : ByteArray) (a2_2 : ByteArray) (a2_3 : ByteArray) (a2_4 : ByteArray) (a2_5 : Int) (a2_6 : ByteArray) (a2_7 : Bool) (A2_8 : Option Addr) (c2_8 : Nat) (l2_8 : List (S59)) (r1 : List (S61)) (r2 : Bool) (w : World) (hs0 : Kd.V k61 61 w w.heap.size (fun k_ => P0_ k_) (.slice A0 l0.length c0) l0) (hr1 : Kd.C k59 w A1 l1.length l1) (hc1 : l1.length ≤ c1) (hr2_8 : Kd.C k59 w A2_8 l2_8.length l2_8) (hc2_8 : l2_8.length ≤ c2_8) (h : stanchionref19_Step.f k l0 l1 a2_0 a2_1 a2_2 a2_3 a2_4 a2_5 a2_6 a2_7 l2_8 = some (r1, r2)) :
    Calls Try.prog 12 #[.slice A0 l0.length c0, .slice A1 l1.length c1, .agg #[.int .i64 a2_0, .string a2_1, .string a2_2, .string a2_3, .string a2_4, .int .i64 a2_5, .string a2_6, .bool a2_7, .slice A2_8 l2_8.length c2_8]] w fun e w' => ∃ v0_ : Value, e = .returned (.tuple #[v0_, .bool r2]) ∧ Kd.V k61 61 w' w.heap.size (fun k_ => (P0_ k_ ∨ w.heap.size ≤ k_)) v0_ r1 ∧ Below w.heap.size w w' := by
  have hu27 := Try.underlying27
  have hu25 := Try.underlying25
  have hu61 := Try.underlying61
  have HO0 := Aside0.mk (show Kd.V k61 61 w w.heap.size (fun k_ => (P0_ k_ ∨ w.heap.size ≤ k_)) (.slice A0 l0.length c0) l0 from Kd.V_mono hs0 (fun k_ hk => .inl hk))
  have HR1 := Aside0.mk hr1
  have HC1 := Aside0.mk hc1
  clear hr1 hc1
  have HR2_8 := Aside0.mk hr2_8
  have HC2_8 := Aside0.mk hc2_8
  clear hr2_8 hc2_8
  have HB := Aside0.mk (Below.refl w.heap.size w)
  have H : (if a2_0 = 1 then ((stanchionref12_Get.f k l0 l1 a2_1).bind fun bt251 => (if bt251.1.toList = a2_6.toList then (some (l0, (bt251.2 == a2_7))) else (some (l0, false)))) else (if a2_0 = 2 then ((stanchionref12_Set.f k l0 a2_1 a2_2 false).bind fun t253 => (some (t253, true))) else (if a2_0 = 3 then ((stanchionref12_Set.f k l0 a2_1 (⟨#[]⟩ : ByteArray) true).bind fun t256 => (some (t256, true))) else (if a2_0 = 4 then ((stanchionref12_Scan.f k l0 l1 a2_3 a2_4 a2_5).bind fun t259 => ((stanchionref05_Same.f k t259 l2_8).bind fun t262 => (some (l0, t262)))) else (some (l0, true)))))) = some (r1, r2) := h
  clear h
  by_cases c4 : a2_0 = 1
  · rw [if_pos c4] at H
    have c4b0 : (a2_0 == 1) = true := beq_iff_eq.mpr c4
    have c4b1 : (a2_0 != 1) = false := bne_eq_false_iff_eq.mpr c4
    clear c4
    replace H := Option.bind_eq_some_iff.mp H
    obtain ⟨⟨t251, t252⟩, A50, H⟩ := H
    replace H : (if t251.toList = a2_6.toList then (some (l0, (t252 == a2_7))) else (some (l0, false))) = some (r1, r2) := H
    have A5 := Aside0.mk A50
    clear A50
    by_cases c6 : t251.toList = a2_6.toList
    · rw [if_pos c6] at H
      have c6b0 : (t251.toList == a2_6.toList) = true := beq_iff_eq.mpr c6
      have c6b1 : (t251.toList != a2_6.toList) = false := bne_eq_false_iff_eq.mpr c6
      clear c6
      simp only [Option.some.injEq, Prod.mk.injEq] at H
      obtain ⟨rfl, rfl⟩ := H
      go_enter Try.func12, Try.ntmps12
      try go_wp2_with (first | ((with_reducible refine gate_dst (N := 5) rfl ?_); refine box_event ?hg (N := 5) ?hd (cs := #[.int .i64 a2_0, .string a2_1, .string a2_2, .string a2_3, .string a2_4, .int .i64 a2_5, .string a2_6, .bool a2_7, .slice A2_8 l2_8.length c2_8]) (t := 27) ?hr ?_; (case hd => rfl); (case hg => rfl); (case hr => first | (go_simp; done) | (go_simp; rfl)); intro gb249 hg w7 hbox hb; have n0_ := Aside0.mk (Kd.V_below (Kd.V_elderB (by (with_reducible repeat (first | apply Kd.V_alloc | apply Kd.V_drewN | apply Kd.V_drew)); exact HO0.out) gb249 (Nat.le_of_eq hg.symm)) hb); have n1_ := Aside0.mk (below_step (by repeat (first | (with_reducible first | exact HB.out | apply below_alloc | apply pw_below_drewN | apply below_drew1) | exact HB.out)) hb); have n2_ := Aside0.mk (hbox); have n3_ := Aside0.mk ((by rw [hg]; exact (below_size (by repeat (first | (with_reducible first | exact HB.out | apply below_alloc | apply pw_below_drewN | apply below_drew1) | exact HB.out))) : w.heap.size ≤ gb249)); have n4_ := Aside0.mk ((by rw [hg]; exact (below_size (by repeat (first | (with_reducible first | exact HB.out | apply below_alloc | apply pw_below_drewN | apply below_drew1) | exact HB.out))) : w.heap.size ≤ gb249)); clear HO0; clear HB; have HO0 := n0_; have HB := n1_; have BK249 := n2_; have GW249 := n3_; have GE249 := n4_; clear n0_ n1_ n2_ n3_ n4_; clear hb hbox hg; have hcz8_0 : w7.cell? ⟨gb249, 0, none⟩ = some (.int .i64 a2_0) := (blk_cell BK249.out 0).trans rfl; have hcz8_1 : w7.cell? ⟨gb249, 1, none⟩ = some (.string a2_1) := (blk_cell BK249.out 1).trans rfl; have hcz8_2 : w7.cell? ⟨gb249, 2, none⟩ = some (.string a2_2) := (blk_cell BK249.out 2).trans rfl; have hcz8_3 : w7.cell? ⟨gb249, 3, none⟩ = some (.string a2_3) := (blk_cell BK249.out 3).trans rfl; have hcz8_4 : w7.cell? ⟨gb249, 4, none⟩ = some (.string a2_4) := (blk_cell BK249.out 4).trans rfl; have hcz8_5 : w7.cell? ⟨gb249, 5, none⟩ = some (.int .i64 a2_5) := (blk_cell BK249.out 5).trans rfl; have hcz8_6 : w7.cell? ⟨gb249, 6, none⟩ = some (.string a2_6) := (blk_cell BK249.out 6).trans rfl; have hcz8_7 : w7.cell? ⟨gb249, 7, none⟩ = some (.bool a2_7) := (blk_cell BK249.out 7).trans rfl; have hcz8_8 : w7.cell? ⟨gb249, 8, none⟩ = some (.slice A2_8 l2_8.length c2_8) := (blk_cell BK249.out 8).trans rfl; have hfz8_0 := blk_frozen BK249.out 0; have hfz8_1 := blk_frozen BK249.out 1; have hfz8_2 := blk_frozen BK249.out 2; have hfz8_3 := blk_frozen BK249.out 3; have hfz8_4 := blk_frozen BK249.out 4; have hfz8_5 := blk_frozen BK249.out 5; have hfz8_6 := blk_frozen BK249.out 6; have hfz8_7 := blk_frozen BK249.out 7; have hfz8_8 := blk_frozen BK249.out 8) | ((with_reducible refine gate_dst (N := 8) rfl ?_); refine box_event ?hg (N := 8) ?hd (cs := #[.int .i64 0, .string (⟨#[]⟩ : ByteArray), .string (⟨#[]⟩ : ByteArray), .string (⟨#[]⟩ : ByteArray), .string (⟨#[]⟩ : ByteArray), .int .i64 0]) (t := 25) ?hr ?_; (case hd => rfl); (case hg => rfl); (case hr => first | (go_simp; done) | (go_simp; rfl)); intro gb250 hg w9 hbox hb; have n0_ := Aside0.mk (Kd.V_below (Kd.V_elderB (by (with_reducible repeat (first | apply Kd.V_alloc | apply Kd.V_drewN | apply Kd.V_drew)); exact HO0.out) gb250 (Nat.le_of_eq hg.symm)) hb); have n1_ := Aside0.mk (blk_below (g := gb249) (o := .cells #[.int .i64 a2_0, .string a2_1, .string a2_2, .string a2_3, .string a2_4, .int .i64 a2_5, .string a2_6, .bool a2_7, .slice A2_8 l2_8.length c2_8] 27 (0, 0)) (by (with_reducible repeat (first | refine blk_drewN ?_ _ | refine blk_drew ?_ | refine blk_alloc ?_ _)); exact BK249.out) hb); have n2_ := Aside0.mk (below_step (by repeat (first | (with_reducible first | exact HB.out | apply below_alloc | apply pw_below_drewN | apply below_drew1 | refine below_set ?_ GE249.out) | exact HB.out)) hb); have n3_ := Aside0.mk (hbox); have n4_ := Aside0.mk ((by rw [hg]; exact (below_size (by repeat (first | (with_reducible first | exact HB.out | apply below_alloc | apply pw_below_drewN | apply below_drew1 | refine below_set ?_ GE249.out) | exact HB.out))) : w.heap.size ≤ gb250)); have n5_ := Aside0.mk ((by rw [hg]; exact (below_size (by repeat (first | (with_reducible first | exact HB.out | apply below_alloc | apply pw_below_drewN | apply below_drew1 | refine below_set ?_ GE249.out) | exact HB.out))) : w.heap.size ≤ gb250)); have n6_ := Aside0.mk ((by rw [hg]; exact Nat.ne_of_lt (blk_lt (g := gb249) (o := .cells #[.int .i64 a2_0, .string a2_1, .string a2_2, .string a2_3, .string a2_4, .int .i64 a2_5, .string a2_6, .bool a2_7, .slice A2_8 l2_8.length c2_8] 27 (0, 0)) (by (with_reducible repeat (first | refine blk_drewN ?_ _ | refine blk_drew ?_ | refine blk_alloc ?_ _)); exact BK249.out)) : gb249 ≠ gb250)); have n7_ := Aside0.mk ((by rw [hg]; exact Nat.ne_of_gt (blk_lt (g := gb249) (o := .cells #[.int .i64 a2_0, .string a2_1, .string a2_2, .string a2_3, .string a2_4, .int .i64 a2_5, .string a2_6, .bool a2_7, .slice A2_8 l2_8.length c2_8] 27 (0, 0)) (by (with_reducible repeat (first | refine blk_drewN ?_ _ | refine blk_drew ?_ | refine blk_alloc ?_ _)); exact BK249.out)) : gb250 ≠ gb249)); clear HO0; clear BK249; clear HB; have HO0 := n0_; have BK249 := n1_; have HB := n2_; have BK250 := n3_; have GW250 := n4_; have GE250 := n5_; have NB249_250 := n6_; have NB250_249 := n7_; clear n0_ n1_ n2_ n3_ n4_ n5_ n6_ n7_; clear hb hbox hg; have hnb10 := NB250_249.out; have hnc10 := NB249_250.out; have hcz11_0 : w9.cell? ⟨gb250, 0, none⟩ = some (.int .i64 0) := (blk_cell BK250.out 0).trans rfl; have hcz11_1 : w9.cell? ⟨gb250, 1, none⟩ = some (.string (⟨#[]⟩ : ByteArray)) := (blk_cell BK250.out 1).trans rfl; have hcz11_2 : w9.cell? ⟨gb250, 2, none⟩ = some (.string (⟨#[]⟩ : ByteArray)) := (blk_cell BK250.out 2).trans rfl; have hcz11_3 : w9.cell? ⟨gb250, 3, none⟩ = some (.string (⟨#[]⟩ : ByteArray)) := (blk_cell BK250.out 3).trans rfl; have hcz11_4 : w9.cell? ⟨gb250, 4, none⟩ = some (.string (⟨#[]⟩ : ByteArray)) := (blk_cell BK250.out 4).trans rfl; have hcz11_5 : w9.cell? ⟨gb250, 5, none⟩ = some (.int .i64 0) := (blk_cell BK250.out 5).trans rfl; have hfz11_0 := blk_frozen BK250.out 0; have hfz11_1 := blk_frozen BK250.out 1; have hfz11_2 := blk_frozen BK250.out 2; have hfz11_3 := blk_frozen BK250.out 3; have hfz11_4 := blk_frozen BK250.out 4; have hfz11_5 := blk_frozen BK250.out 5) | ((with_reducible refine gate_callee (f := 27) rfl ?_); refine goesL_ (some 22) rfl rfl Try.func27 (by kernel_rfl) rfl #[.slice A0 l0.length c0, .slice A1 l1.length c1, .string a2_1] rfl (by (try simp only [List.map_toArray, List.map_cons, List.map_nil]); first | done | rfl | (simp only [List.length_drop, List.length_take]; rfl)) ?_; (with_reducible refine (stanchionref12_Get.calls k _ _ l0 _ _ l1 a2_1 t251 t252 _ ?side1 ?side2 ?side3 ?side4 A5.out).mono ?_); (case side1 => refine (Kd.V_reads' (e := 61) (base := w.heap.size) (ok := fun k_ => (((P0_ k_ ∨ w.heap.size ≤ k_) ∧ k_ ≠ gb249) ∧ k_ ≠ gb250)) (n := l0.length) (c := c0) ?_).2.2; exact (by (with_reducible repeat (first | apply Kd.V_alloc | apply Kd.V_drewN | apply Kd.V_drew)); exact (Kd.V_mono (Kd.V_far (p := ⟨gb250, 5, none⟩) (Kd.V_far (p := ⟨gb250, 4, none⟩) (Kd.V_far (p := ⟨gb250, 3, none⟩) (Kd.V_far (p := ⟨gb250, 2, none⟩) (Kd.V_far (p := ⟨gb250, 1, none⟩) (Kd.V_far (p := ⟨gb250, 0, none⟩) (Kd.V_mono HO0.out (fun k_ hk => (⟨hk, hk.2⟩ : _ ∧ k_ ≠ gb250))) (fun _ hk => hk.2) (.int .i64 a2_0)) (fun _ hk => hk.2) (.string a2_1)) (fun _ hk => hk.2) (.string a2_2)) (fun _ hk => hk.2) (.string a2_3)) (fun _ hk => hk.2) (.string a2_4)) (fun _ hk => hk.2) (.int .i64 a2_5)) (fun _ h_ => h_.1)))); (case side2 => exact (Kd.V_reads' HO0.out).2.1); (case side3 => exact Kd.C_below HR1.out (by repeat (first | (with_reducible first | exact HB.out | apply below_alloc | apply pw_below_drewN | apply below_drew1 | refine below_set ?_ GE249.out | refine below_set ?_ GE250.out) | exact HB.out))); (case side4 => exact HC1.out); rintro e w' ⟨rfl, ⟨nd, rfl⟩⟩; refine ⟨_, rfl, ?_⟩))
      have n0_ : Aside0 (Kd.V k61 61 ((((((w9.setCell ⟨gb250, 0, none⟩ (.int .i64 a2_0)).setCell ⟨gb250, 1, none⟩ (.string a2_1)).setCell ⟨gb250, 2, none⟩ (.string a2_2)).setCell ⟨gb250, 3, none⟩ (.string a2_3)).setCell ⟨gb250, 4, none⟩ (.string a2_4)).setCell ⟨gb250, 5, none⟩ (.int .i64 a2_5)) w.heap.size (fun k_ => (P0_ k_ ∨ w.heap.size ≤ k_) ∧ k_ ≠ gb249 ∧ k_ ≠ gb250) (.slice A0 l0.length c0) l0) := ⟨by (with_reducible repeat (first | apply Kd.V_alloc | apply Kd.V_drewN | apply Kd.V_drew)); exact Kd.V_mono (Kd.V_far (p := ⟨gb250, 5, none⟩) (Kd.V_far (p := ⟨gb250, 4, none⟩) (Kd.V_far (p := ⟨gb250, 3, none⟩) (Kd.V_far (p := ⟨gb250, 2, none⟩) (Kd.V_far (p := ⟨gb250, 1, none⟩) (Kd.V_far (p := ⟨gb250, 0, none⟩) (Kd.V_mono HO0.out (fun k_ hk => (⟨hk, hk.2⟩ : _ ∧ k_ ≠ gb250))) (fun _ hk => hk.2) (.int .i64 a2_0)) (fun _ hk => hk.2) (.string a2_1)) (fun _ hk => hk.2) (.string a2_2)) (fun _ hk => hk.2) (.string a2_3)) (fun _ hk => hk.2) (.string a2_4)) (fun _ hk => hk.2) (.int .i64 a2_5)) (fun _ hk => ⟨hk.1.1.1, ⟨hk.1.1.2, hk.1.2⟩⟩)⟩
      have n1_ : Aside0 (((((((w9.setCell ⟨gb250, 0, none⟩ (.int .i64 a2_0)).setCell ⟨gb250, 1, none⟩ (.string a2_1)).setCell ⟨gb250, 2, none⟩ (.string a2_2)).setCell ⟨gb250, 3, none⟩ (.string a2_3)).setCell ⟨gb250, 4, none⟩ (.string a2_4)).setCell ⟨gb250, 5, none⟩ (.int .i64 a2_5)).heap[gb249]? = some (.cells #[.int .i64 a2_0, .string a2_1, .string a2_2, .string a2_3, .string a2_4, .int .i64 a2_5, .string a2_6, .bool a2_7, .slice A2_8 l2_8.length c2_8] 27 (0, 0))) := ⟨by (with_reducible repeat (first | refine blk_drewN ?_ _ | refine blk_drew ?_ | refine blk_alloc ?_ _)); refine blk_far ?_ NB249_250.out _; (with_reducible repeat (first | refine blk_drewN ?_ _ | refine blk_drew ?_ | refine blk_alloc ?_ _)); refine blk_far ?_ NB249_250.out _; (with_reducible repeat (first | refine blk_drewN ?_ _ | refine blk_drew ?_ | refine blk_alloc ?_ _)); refine blk_far ?_ NB249_250.out _; (with_reducible repeat (first | refine blk_drewN ?_ _ | refine blk_drew ?_ | refine blk_alloc ?_ _)); refine blk_far ?_ NB249_250.out _; (with_reducible repeat (first | refine blk_drewN ?_ _ | refine blk_drew ?_ | refine blk_alloc ?_ _)); refine blk_far ?_ NB249_250.out _; (with_reducible repeat (first | refine blk_drewN ?_ _ | refine blk_drew ?_ | refine blk_alloc ?_ _)); refine blk_far ?_ NB249_250.out _; (with_reducible repeat (first | refine blk_drewN ?_ _ | refine blk_drew ?_ | refine blk_alloc ?_ _)); exact BK249.out⟩
      have n2_ : Aside0 (((((((w9.setCell ⟨gb250, 0, none⟩ (.int .i64 a2_0)).setCell ⟨gb250, 1, none⟩ (.string a2_1)).setCell ⟨gb250, 2, none⟩ (.string a2_2)).setCell ⟨gb250, 3, none⟩ (.string a2_3)).setCell ⟨gb250, 4, none⟩ (.string a2_4)).setCell ⟨gb250, 5, none⟩ (.int .i64 a2_5)).heap[gb250]? = some (.cells #[.int .i64 a2_0, .string a2_1, .string a2_2, .string a2_3, .string a2_4, .int .i64 a2_5] 25 (0, 0))) := ⟨by (with_reducible repeat (first | refine blk_drewN ?_ _ | refine blk_drew ?_ | refine blk_alloc ?_ _)); refine blk_put (cs := #[.int .i64 a2_0, .string a2_1, .string a2_2, .string a2_3, .string a2_4, .int .i64 0]) ?_ 5 _ rfl; (with_reducible repeat (first | refine blk_drewN ?_ _ | refine blk_drew ?_ | refine blk_alloc ?_ _)); refine blk_put (cs := #[.int .i64 a2_0, .string a2_1, .string a2_2, .string a2_3, .string (⟨#[]⟩ : ByteArray), .int .i64 0]) ?_ 4 _ rfl; (with_reducible repeat (first | refine blk_drewN ?_ _ | refine blk_drew ?_ | refine blk_alloc ?_ _)); refine blk_put (cs := #[.int .i64 a2_0, .string a2_1, .string a2_2, .string (⟨#[]⟩ : ByteArray), .string (⟨#[]⟩ : ByteArray), .int .i64 0]) ?_ 3 _ rfl; (with_reducible repeat (first | refine blk_drewN ?_ _ | refine blk_drew ?_ | refine blk_alloc ?_ _)); refine blk_put (cs := #[.int .i64 a2_0, .string a2_1, .string (⟨#[]⟩ : ByteArray), .string (⟨#[]⟩ : ByteArray), .string (⟨#[]⟩ : ByteArray), .int .i64 0]) ?_ 2 _ rfl; (with_reducible repeat (first | refine blk_drewN ?_ _ | refine blk_drew ?_ | refine blk_alloc ?_ _)); refine blk_put (cs := #[.int .i64 a2_0, .string (⟨#[]⟩ : ByteArray), .string (⟨#[]⟩ : ByteArray), .string (⟨#[]⟩ : ByteArray), .string (⟨#[]⟩ : ByteArray), .int .i64 0]) ?_ 1 _ rfl; (with_reducible repeat (first | refine blk_drewN ?_ _ | refine blk_drew ?_ | refine blk_alloc ?_ _)); refine blk_put (cs := #[.int .i64 0, .string (⟨#[]⟩ : ByteArray), .string (⟨#[]⟩ : ByteArray), .string (⟨#[]⟩ : ByteArray), .string (⟨#[]⟩ : ByteArray), .int .i64 0]) ?_ 0 _ rfl; (with_reducible repeat (first | refine blk_drewN ?_ _ | refine blk_drew ?_ | refine blk_alloc ?_ _)); exact BK250.out⟩
      have n3_ : Aside0 (Below w.heap.size w ((((((w9.setCell ⟨gb250, 0, none⟩ (.int .i64 a2_0)).setCell ⟨gb250, 1, none⟩ (.string a2_1)).setCell ⟨gb250, 2, none⟩ (.string a2_2)).setCell ⟨gb250, 3, none⟩ (.string a2_3)).setCell ⟨gb250, 4, none⟩ (.string a2_4)).setCell ⟨gb250, 5, none⟩ (.int .i64 a2_5))) := ⟨by repeat (first | (with_reducible first | exact HB.out | apply below_alloc | apply pw_below_drewN | apply below_drew1 | refine below_set ?_ GE249.out | refine below_set ?_ GE250.out) | exact HB.out)⟩
      (try clear HO0)
      (try clear BK249)
      (try clear BK250)
      (try clear HB)
      generalize ((((((w9.setCell ⟨gb250, 0, none⟩ (.int .i64 a2_0)).setCell ⟨gb250, 1, none⟩ (.string a2_1)).setCell ⟨gb250, 2, none⟩ (.string a2_2)).setCell ⟨gb250, 3, none⟩ (.string a2_3)).setCell ⟨gb250, 4, none⟩ (.string a2_4)).setCell ⟨gb250, 5, none⟩ (.int .i64 a2_5)) = w12 at n0_ n1_ n2_ n3_ ⊢
      have HO0 := n0_
      have BK249 := n1_
      have BK250 := n2_
      have HB := n3_
      clear n0_ n1_ n2_ n3_
      (try (rw [drewN_self w12]; generalize hq_ : World.drewN w12 _ = w12; have n0_ : Aside0 (Kd.V k61 61 w12 w.heap.size (fun k_ => (P0_ k_ ∨ w.heap.size ≤ k_) ∧ k_ ≠ gb249 ∧ k_ ≠ gb250) (.slice A0 l0.length c0) l0) := ⟨by rw [← hq_]; exact (by (with_reducible repeat (first | apply Kd.V_alloc | apply Kd.V_drewN | apply Kd.V_drew)); exact HO0.out)⟩; have n1_ : Aside0 (w12.heap[gb249]? = some (.cells #[.int .i64 a2_0, .string a2_1, .string a2_2, .string a2_3, .string a2_4, .int .i64 a2_5, .string a2_6, .bool a2_7, .slice A2_8 l2_8.length c2_8] 27 (0, 0))) := ⟨by rw [← hq_]; exact (by (with_reducible repeat (first | refine blk_drewN ?_ _ | refine blk_drew ?_ | refine blk_alloc ?_ _)); exact BK249.out)⟩; have n2_ : Aside0 (w12.heap[gb250]? = some (.cells #[.int .i64 a2_0, .string a2_1, .string a2_2, .string a2_3, .string a2_4, .int .i64 a2_5] 25 (0, 0))) := ⟨by rw [← hq_]; exact (by (with_reducible repeat (first | refine blk_drewN ?_ _ | refine blk_drew ?_ | refine blk_alloc ?_ _)); exact BK250.out)⟩; have n3_ : Aside0 (Below w.heap.size w w12) := ⟨by rw [← hq_]; exact (by repeat (first | (with_reducible first | exact HB.out | apply below_alloc | apply pw_below_drewN | apply below_drew1 | refine below_set ?_ GE249.out | refine below_set ?_ GE250.out) | exact HB.out))⟩; clear HO0 BK249 BK250 HB hq_; have HO0 := n0_; have BK249 := n1_; have BK250 := n2_; have HB := n3_; clear n0_ n1_ n2_ n3_))
      have n0_ := Aside0.mk (Kd.V_drew HO0.out)
      have n1_ := Aside0.mk (blk_drew BK249.out)
      have n2_ := Aside0.mk (blk_drew BK250.out)
      have n3_ := Aside0.mk (below_drew1 HB.out)
      clear HO0
      clear BK249
      clear BK250
      clear HB
      have HO0 := n0_
      have BK249 := n1_
      have BK250 := n2_
      have HB := n3_
      clear n0_ n1_ n2_ n3_
      refine start_ (n := 13) (S := fun w' => w'.cell? ⟨gb249, 0, none⟩ = some (.int .i64 a2_0) ∧ w'.cell? ⟨gb249, 1, none⟩ = some (.string a2_1) ∧ w'.cell? ⟨gb249, 2, none⟩ = some (.string a2_2) ∧ w'.cell? ⟨gb249, 3, none⟩ = some (.string a2_3) ∧ w'.cell? ⟨gb249, 4, none⟩ = some (.string a2_4) ∧ w'.cell? ⟨gb249, 5, none⟩ = some (.int .i64 a2_5) ∧ w'.cell? ⟨gb249, 6, none⟩ = some (.string a2_6) ∧ w'.cell? ⟨gb249, 7, none⟩ = some (.bool a2_7) ∧ w'.cell? ⟨gb249, 8, none⟩ = some (.slice A2_8 l2_8.length c2_8)) (ds := []) #[false, false, false, false, false, false, false, false, false, false, false, false, false] (by kernel_rfl) rfl rfl ⟨(blk_cell BK249.out 0).trans rfl, (blk_cell BK249.out 1).trans rfl, (blk_cell BK249.out 2).trans rfl, (blk_cell BK249.out 3).trans rfl, (blk_cell BK249.out 4).trans rfl, (blk_cell BK249.out 5).trans rfl, (blk_cell BK249.out 6).trans rfl, (blk_cell BK249.out 7).trans rfl, (blk_cell BK249.out 8).trans rfl⟩ (fun hHeld => ?_); refine with_tabW stanchionref19_Step.tab4 stanchionref19_Step.bits4 (fun HT_ HW_ => ?_)
      generalize w12.drew = w13 at HO0 BK249 BK250 HB hHeld ⊢
      refine pure_ (i := 0) (N := some 25) (v := ?_) (a' := ?_) #[true, false, false, false, false, false, false, false, false, false, false, false, false] rfl rfl (any_of HT_.out (by kernel_rfl)) (fun _ _ _ h => h) (Or.inl ⟨by rfl, ?_⟩) ?_ ?_
      rotate_left
      · intro w'
        go_simp
        with_reducible rfl
      rotate_left
      · simp only [Act.put, List.setIfInBounds_toArray, List.set_cons_zero, List.set_cons_succ, i64_w, i32_w]
        rfl
      refine pure_ (i := 1) (N := some 26) (v := ?_) (a' := ?_) #[true, true, false, false, false, false, false, false, false, false, false, false, false] rfl rfl (any_of HT_.out (by kernel_rfl)) (fun _ _ _ h => h) (Or.inl ⟨by rfl, ?_⟩) ?_ ?_
      rotate_left
      · intro w'
        go_simp
        with_reducible rfl
      rotate_left
      · simp only [Act.put, List.setIfInBounds_toArray, List.set_cons_zero, List.set_cons_succ, i64_w, i32_w]
        rfl
      refine pure_ (i := 2) (N := some 27) (v := ?_) (a' := ?_) #[true, true, true, false, false, false, false, false, false, false, false, false, false] rfl rfl (any_of HT_.out (by kernel_rfl)) (fun _ _ _ h => h) (Or.inl ⟨by rfl, ?_⟩) ?_ ?_
      rotate_left
      · intro w'
        go_simp
        with_reducible rfl
      rotate_left
      · simp only [Act.put, List.setIfInBounds_toArray, List.set_cons_zero, List.set_cons_succ, i64_w, i32_w]
        rfl
      refine take_ (i := 3) (N := some 28) (v := ?_) (a' := ?_) #[true, true, true, true, false, false, false, false, false, false, false, false, false] rfl rfl (take_ofW HT_.out HW_.out (by kernel_rfl)) (fun _ _ _ h => h) (Or.inl ⟨by rfl, ?_⟩) hHeld ?_ ?_
      rotate_left
      · rintro w' ⟨s0, s1, s2, s3, s4, s5, s6, s7, s8⟩
        go_simp
        with_reducible rfl
      rotate_left
      · simp only [Act.put, List.setIfInBounds_toArray, List.set_cons_zero, List.set_cons_succ, i64_w, i32_w]
        rfl
      refine pure_ (i := 4) (N := some 29) (v := ?_) (a' := ?_) #[true, true, true, true, true, false, false, false, false, false, false, false, false] rfl rfl (any_of HT_.out (by kernel_rfl)) (fun _ _ _ h => h) (Or.inl ⟨by rfl, ?_⟩) ?_ ?_
      rotate_left
      · intro w'
        go_simp
        with_reducible rfl
      rotate_left
      · simp only [Act.put, List.setIfInBounds_toArray, List.set_cons_zero, List.set_cons_succ, i64_w, i32_w]
        rfl
      refine pure_ (i := 5) (N := some 30) (v := ?_) (a' := ?_) #[true, true, true, true, true, true, false, false, false, false, false, false, false] rfl rfl (any_of HT_.out (by kernel_rfl)) (fun _ _ _ h => h) (Or.inl ⟨by rfl, ?_⟩) ?_ ?_
      rotate_left
      · intro w'
        go_simp
        with_reducible rfl
      rotate_left
      · simp only [Act.put, List.setIfInBounds_toArray, List.set_cons_zero, List.set_cons_succ, i64_w, i32_w]
        rfl
      refine pure_ (i := 6) (N := some 31) (v := ?_) (a' := ?_) #[true, true, true, true, true, true, true, false, false, false, false, false, false] rfl rfl (any_of HT_.out (by kernel_rfl)) (fun _ _ _ h => h) (Or.inl ⟨by rfl, ?_⟩) ?_ ?_
      rotate_left
      · intro w'
        go_simp
        with_reducible rfl
      rotate_left
      · simp only [Act.put, List.setIfInBounds_toArray, List.set_cons_zero, List.set_cons_succ, i64_w, i32_w]
        rfl
      refine pure_ (i := 7) (N := some 32) (v := ?_) (a' := ?_) #[true, true, true, true, true, true, true, true, false, false, false, false, false] rfl rfl (any_of HT_.out (by kernel_rfl)) (fun _ _ _ h => h) (Or.inl ⟨by rfl, ?_⟩) ?_ ?_
      rotate_left
      · intro w'
        go_simp
        with_reducible rfl
      rotate_left
      · simp only [Act.put, List.setIfInBounds_toArray, List.set_cons_zero, List.set_cons_succ, i64_w, i32_w]
        rfl
      refine pure_ (i := 11) (N := some 6) (v := ?_) (a' := ?_) #[true, true, true, true, true, true, true, true, false, false, false, true, false] rfl rfl (any_of HT_.out (by kernel_rfl)) (fun _ _ _ h => h) (Or.inl ⟨by rfl, ?_⟩) ?_ ?_
      rotate_left
      · intro w'
        go_simp
        with_reducible rfl
      rotate_left
      · simp only [Act.put, List.setIfInBounds_toArray, List.set_cons_zero, List.set_cons_succ, i64_w, i32_w]
        rfl
      refine take_ (i := 8) (N := some 33) (v := ?_) (a' := ?_) #[true, true, true, true, true, true, true, true, true, false, false, true, false] rfl rfl (take_ofW HT_.out HW_.out (by kernel_rfl)) (fun _ _ _ h => h) (Or.inl ⟨by rfl, ?_⟩) hHeld ?_ ?_
      rotate_left
      · rintro w' ⟨s0, s1, s2, s3, s4, s5, s6, s7, s8⟩
        go_simp
        with_reducible rfl
      rotate_left
      · simp only [Act.put, List.setIfInBounds_toArray, List.set_cons_zero, List.set_cons_succ, i64_w, i32_w]
        rfl
      refine pure_ (i := 9) (N := some 34) (v := ?_) (a' := ?_) #[true, true, true, true, true, true, true, true, true, true, false, true, false] rfl rfl (any_of HT_.out (by kernel_rfl)) (fun _ _ _ h => h) (Or.inl ⟨by rfl, ?_⟩) ?_ ?_
      rotate_left
      · intro w'
        go_simp
        with_reducible rfl
      rotate_left
      · simp only [Act.put, List.setIfInBounds_toArray, List.set_cons_zero, List.set_cons_succ, i64_w, i32_w]
        rfl
      refine pure_ (i := 10) (N := some 35) (v := ?_) (a' := ?_) #[true, true, true, true, true, true, true, true, true, true, true, true, false] rfl rfl (any_of HT_.out (by kernel_rfl)) (fun _ _ _ h => h) (Or.inl ⟨by rfl, ?_⟩) ?_ ?_
      rotate_left
      · intro w'
        go_simp
        with_reducible rfl
      rotate_left
      · simp only [Act.put, List.setIfInBounds_toArray, List.set_cons_zero, List.set_cons_succ, i64_w, i32_w]
        rfl
      refine pure_ (i := 12) (N := some 7) (v := ?_) (a' := ?_) #[true, true, true, true, true, true, true, true, true, true, true, true, true] rfl rfl (any_of HT_.out (by kernel_rfl)) (fun _ _ _ h => h) (Or.inl ⟨by rfl, ?_⟩) ?_ ?_
      rotate_left
      · intro w'
        go_simp
        with_reducible rfl
      rotate_left
      · simp only [Act.put, List.setIfInBounds_toArray, List.set_cons_zero, List.set_cons_succ, i64_w, i32_w]
        rfl
      refine done_ (done_of HT_.out (by kernel_rfl)) ?_
      try go_wp2
      go_ret2
      exact ⟨_, by first | rfl | (simp [errW_none, errW_some] <;> rfl) | (simp [*, errW_none, errW_some] <;> rfl), by (with_reducible repeat (first | apply Kd.V_alloc | apply Kd.V_drewN | apply Kd.V_drew)); exact Kd.V_mono HO0.out (fun _ hk => hk.1), by repeat (first | (with_reducible first | exact HB.out | apply below_alloc | apply pw_below_drewN | apply below_drew1 | refine below_set ?_ GE249.out | refine below_set ?_ GE250.out) | exact HB.out)⟩
    · rw [if_neg c6] at H
      have c6b0 : (t251.toList == a2_6.toList) = false := beq_eq_false_iff_ne.mpr c6
      have c6b1 : (t251.toList != a2_6.toList) = true := bne_iff_ne.mpr c6
      simp only [Option.some.injEq, Prod.mk.injEq] at H
      obtain ⟨rfl, rfl⟩ := H
      go_enter Try.func12, Try.ntmps12
      try go_wp2_with (first | ((with_reducible refine gate_dst (N := 5) rfl ?_); refine box_event ?hg (N := 5) ?hd (cs := #[.int .i64 a2_0, .string a2_1, .string a2_2, .string a2_3, .string a2_4, .int .i64 a2_5, .string a2_6, .bool a2_7, .slice A2_8 l2_8.length c2_8]) (t := 27) ?hr ?_; (case hd => rfl); (case hg => rfl); (case hr => first | (go_simp; done) | (go_simp; rfl)); intro gb249 hg w14 hbox hb; have n0_ := Aside0.mk (Kd.V_below (Kd.V_elderB (by (with_reducible repeat (first | apply Kd.V_alloc | apply Kd.V_drewN | apply Kd.V_drew)); exact HO0.out) gb249 (Nat.le_of_eq hg.symm)) hb); have n1_ := Aside0.mk (below_step (by repeat (first | (with_reducible first | exact HB.out | apply below_alloc | apply pw_below_drewN | apply below_drew1) | exact HB.out)) hb); have n2_ := Aside0.mk (hbox); have n3_ := Aside0.mk ((by rw [hg]; exact (below_size (by repeat (first | (with_reducible first | exact HB.out | apply below_alloc | apply pw_below_drewN | apply below_drew1) | exact HB.out))) : w.heap.size ≤ gb249)); have n4_ := Aside0.mk ((by rw [hg]; exact (below_size (by repeat (first | (with_reducible first | exact HB.out | apply below_alloc | apply pw_below_drewN | apply below_drew1) | exact HB.out))) : w.heap.size ≤ gb249)); clear HO0; clear HB; have HO0 := n0_; have HB := n1_; have BK249 := n2_; have GW249 := n3_; have GE249 := n4_; clear n0_ n1_ n2_ n3_ n4_; clear hb hbox hg; have hcz15_0 : w14.cell? ⟨gb249, 0, none⟩ = some (.int .i64 a2_0) := (blk_cell BK249.out 0).trans rfl; have hcz15_1 : w14.cell? ⟨gb249, 1, none⟩ = some (.string a2_1) := (blk_cell BK249.out 1).trans rfl; have hcz15_2 : w14.cell? ⟨gb249, 2, none⟩ = some (.string a2_2) := (blk_cell BK249.out 2).trans rfl; have hcz15_3 : w14.cell? ⟨gb249, 3, none⟩ = some (.string a2_3) := (blk_cell BK249.out 3).trans rfl; have hcz15_4 : w14.cell? ⟨gb249, 4, none⟩ = some (.string a2_4) := (blk_cell BK249.out 4).trans rfl; have hcz15_5 : w14.cell? ⟨gb249, 5, none⟩ = some (.int .i64 a2_5) := (blk_cell BK249.out 5).trans rfl; have hcz15_6 : w14.cell? ⟨gb249, 6, none⟩ = some (.string a2_6) := (blk_cell BK249.out 6).trans rfl; have hcz15_7 : w14.cell? ⟨gb249, 7, none⟩ = some (.bool a2_7) := (blk_cell BK249.out 7).trans rfl; have hcz15_8 : w14.cell? ⟨gb249, 8, none⟩ = some (.slice A2_8 l2_8.length c2_8) := (blk_cell BK249.out 8).trans rfl; have hfz15_0 := blk_frozen BK249.out 0; have hfz15_1 := blk_frozen BK249.out 1; have hfz15_2 := blk_frozen BK249.out 2; have hfz15_3 := blk_frozen BK249.out 3; have hfz15_4 := blk_frozen BK249.out 4; have hfz15_5 := blk_frozen BK249.out 5; have hfz15_6 := blk_frozen BK249.out 6; have hfz15_7 := blk_frozen BK249.out 7; have hfz15_8 := blk_frozen BK249.out 8) | ((with_reducible refine gate_dst (N := 8) rfl ?_); refine box_event ?hg (N := 8) ?hd (cs := #[.int .i64 0, .string (⟨#[]⟩ : ByteArray), .string (⟨#[]⟩ : ByteArray), .string (⟨#[]⟩ : ByteArray), .string (⟨#[]⟩ : ByteArray), .int .i64 0]) (t := 25) ?hr ?_; (case hd => rfl); (case hg => rfl); (case hr => first | (go_simp; done) | (go_simp; rfl)); intro gb250 hg w16 hbox hb; have n0_ := Aside0.mk (Kd.V_below (Kd.V_elderB (by (with_reducible repeat (first | apply Kd.V_alloc | apply Kd.V_drewN | apply Kd.V_drew)); exact HO0.out) gb250 (Nat.le_of_eq hg.symm)) hb); have n1_ := Aside0.mk (blk_below (g := gb249) (o := .cells #[.int .i64 a2_0, .string a2_1, .string a2_2, .string a2_3, .string a2_4, .int .i64 a2_5, .string a2_6, .bool a2_7, .slice A2_8 l2_8.length c2_8] 27 (0, 0)) (by (with_reducible repeat (first | refine blk_drewN ?_ _ | refine blk_drew ?_ | refine blk_alloc ?_ _)); exact BK249.out) hb); have n2_ := Aside0.mk (below_step (by repeat (first | (with_reducible first | exact HB.out | apply below_alloc | apply pw_below_drewN | apply below_drew1 | refine below_set ?_ GE249.out) | exact HB.out)) hb); have n3_ := Aside0.mk (hbox); have n4_ := Aside0.mk ((by rw [hg]; exact (below_size (by repeat (first | (with_reducible first | exact HB.out | apply below_alloc | apply pw_below_drewN | apply below_drew1 | refine below_set ?_ GE249.out) | exact HB.out))) : w.heap.size ≤ gb250)); have n5_ := Aside0.mk ((by rw [hg]; exact (below_size (by repeat (first | (with_reducible first | exact HB.out | apply below_alloc | apply pw_below_drewN | apply below_drew1 | refine below_set ?_ GE249.out) | exact HB.out))) : w.heap.size ≤ gb250)); have n6_ := Aside0.mk ((by rw [hg]; exact Nat.ne_of_lt (blk_lt (g := gb249) (o := .cells #[.int .i64 a2_0, .string a2_1, .string a2_2, .string a2_3, .string a2_4, .int .i64 a2_5, .string a2_6, .bool a2_7, .slice A2_8 l2_8.length c2_8] 27 (0, 0)) (by (with_reducible repeat (first | refine blk_drewN ?_ _ | refine blk_drew ?_ | refine blk_alloc ?_ _)); exact BK249.out)) : gb249 ≠ gb250)); have n7_ := Aside0.mk ((by rw [hg]; exact Nat.ne_of_gt (blk_lt (g := gb249) (o := .cells #[.int .i64 a2_0, .string a2_1, .string a2_2, .string a2_3, .string a2_4, .int .i64 a2_5, .string a2_6, .bool a2_7, .slice A2_8 l2_8.length c2_8] 27 (0, 0)) (by (with_reducible repeat (first | refine blk_drewN ?_ _ | refine blk_drew ?_ | refine blk_alloc ?_ _)); exact BK249.out)) : gb250 ≠ gb249)); clear HO0; clear BK249; clear HB; have HO0 := n0_; have BK249 := n1_; have HB := n2_; have BK250 := n3_; have GW250 := n4_; have GE250 := n5_; have NB249_250 := n6_; have NB250_249 := n7_; clear n0_ n1_ n2_ n3_ n4_ n5_ n6_ n7_; clear hb hbox hg; have hnb17 := NB250_249.out; have hnc17 := NB249_250.out; have hcz18_0 : w16.cell? ⟨gb250, 0, none⟩ = some (.int .i64 0) := (blk_cell BK250.out 0).trans rfl; have hcz18_1 : w16.cell? ⟨gb250, 1, none⟩ = some (.string (⟨#[]⟩ : ByteArray)) := (blk_cell BK250.out 1).trans rfl; have hcz18_2 : w16.cell? ⟨gb250, 2, none⟩ = some (.string (⟨#[]⟩ : ByteArray)) := (blk_cell BK250.out 2).trans rfl; have hcz18_3 : w16.cell? ⟨gb250, 3, none⟩ = some (.string (⟨#[]⟩ : ByteArray)) := (blk_cell BK250.out 3).trans rfl; have hcz18_4 : w16.cell? ⟨gb250, 4, none⟩ = some (.string (⟨#[]⟩ : ByteArray)) := (blk_cell BK250.out 4).trans rfl; have hcz18_5 : w16.cell? ⟨gb250, 5, none⟩ = some (.int .i64 0) := (blk_cell BK250.out 5).trans rfl; have hfz18_0 := blk_frozen BK250.out 0; have hfz18_1 := blk_frozen BK250.out 1; have hfz18_2 := blk_frozen BK250.out 2; have hfz18_3 := blk_frozen BK250.out 3; have hfz18_4 := blk_frozen BK250.out 4; have hfz18_5 := blk_frozen BK250.out 5) | ((with_reducible refine gate_callee (f := 27) rfl ?_); refine goesL_ (some 22) rfl rfl Try.func27 (by kernel_rfl) rfl #[.slice A0 l0.length c0, .slice A1 l1.length c1, .string a2_1] rfl (by (try simp only [List.map_toArray, List.map_cons, List.map_nil]); first | done | rfl | (simp only [List.length_drop, List.length_take]; rfl)) ?_; (with_reducible refine (stanchionref12_Get.calls k _ _ l0 _ _ l1 a2_1 t251 t252 _ ?side1 ?side2 ?side3 ?side4 A5.out).mono ?_); (case side1 => refine (Kd.V_reads' (e := 61) (base := w.heap.size) (ok := fun k_ => (((P0_ k_ ∨ w.heap.size ≤ k_) ∧ k_ ≠ gb249) ∧ k_ ≠ gb250)) (n := l0.length) (c := c0) ?_).2.2; exact (by (with_reducible repeat (first | apply Kd.V_alloc | apply Kd.V_drewN | apply Kd.V_drew)); exact (Kd.V_mono (Kd.V_far (p := ⟨gb250, 5, none⟩) (Kd.V_far (p := ⟨gb250, 4, none⟩) (Kd.V_far (p := ⟨gb250, 3, none⟩) (Kd.V_far (p := ⟨gb250, 2, none⟩) (Kd.V_far (p := ⟨gb250, 1, none⟩) (Kd.V_far (p := ⟨gb250, 0, none⟩) (Kd.V_mono HO0.out (fun k_ hk => (⟨hk, hk.2⟩ : _ ∧ k_ ≠ gb250))) (fun _ hk => hk.2) (.int .i64 a2_0)) (fun _ hk => hk.2) (.string a2_1)) (fun _ hk => hk.2) (.string a2_2)) (fun _ hk => hk.2) (.string a2_3)) (fun _ hk => hk.2) (.string a2_4)) (fun _ hk => hk.2) (.int .i64 a2_5)) (fun _ h_ => h_.1)))); (case side2 => exact (Kd.V_reads' HO0.out).2.1); (case side3 => exact Kd.C_below HR1.out (by repeat (first | (with_reducible first | exact HB.out | apply below_alloc | apply pw_below_drewN | apply below_drew1 | refine below_set ?_ GE249.out | refine below_set ?_ GE250.out) | exact HB.out))); (case side4 => exact HC1.out); rintro e w' ⟨rfl, ⟨nd, rfl⟩⟩; refine ⟨_, rfl, ?_⟩))
      have n0_ : Aside0 (Kd.V k61 61 ((((((w16.setCell ⟨gb250, 0, none⟩ (.int .i64 a2_0)).setCell ⟨gb250, 1, none⟩ (.string a2_1)).setCell ⟨gb250, 2, none⟩ (.string a2_2)).setCell ⟨gb250, 3, none⟩ (.string a2_3)).setCell ⟨gb250, 4, none⟩ (.string a2_4)).setCell ⟨gb250, 5, none⟩ (.int .i64 a2_5)) w.heap.size (fun k_ => (P0_ k_ ∨ w.heap.size ≤ k_) ∧ k_ ≠ gb249 ∧ k_ ≠ gb250) (.slice A0 l0.length c0) l0) := ⟨by (with_reducible repeat (first | apply Kd.V_alloc | apply Kd.V_drewN | apply Kd.V_drew)); exact Kd.V_mono (Kd.V_far (p := ⟨gb250, 5, none⟩) (Kd.V_far (p := ⟨gb250, 4, none⟩) (Kd.V_far (p := ⟨gb250, 3, none⟩) (Kd.V_far (p := ⟨gb250, 2, none⟩) (Kd.V_far (p := ⟨gb250, 1, none⟩) (Kd.V_far (p := ⟨gb250, 0, none⟩) (Kd.V_mono HO0.out (fun k_ hk => (⟨hk, hk.2⟩ : _ ∧ k_ ≠ gb250))) (fun _ hk => hk.2) (.int .i64 a2_0)) (fun _ hk => hk.2) (.string a2_1)) (fun _ hk => hk.2) (.string a2_2)) (fun _ hk => hk.2) (.string a2_3)) (fun _ hk => hk.2) (.string a2_4)) (fun _ hk => hk.2) (.int .i64 a2_5)) (fun _ hk => ⟨hk.1.1.1, ⟨hk.1.1.2, hk.1.2⟩⟩)⟩
      have n1_ : Aside0 (((((((w16.setCell ⟨gb250, 0, none⟩ (.int .i64 a2_0)).setCell ⟨gb250, 1, none⟩ (.string a2_1)).setCell ⟨gb250, 2, none⟩ (.string a2_2)).setCell ⟨gb250, 3, none⟩ (.string a2_3)).setCell ⟨gb250, 4, none⟩ (.string a2_4)).setCell ⟨gb250, 5, none⟩ (.int .i64 a2_5)).heap[gb249]? = some (.cells #[.int .i64 a2_0, .string a2_1, .string a2_2, .string a2_3, .string a2_4, .int .i64 a2_5, .string a2_6, .bool a2_7, .slice A2_8 l2_8.length c2_8] 27 (0, 0))) := ⟨by (with_reducible repeat (first | refine blk_drewN ?_ _ | refine blk_drew ?_ | refine blk_alloc ?_ _)); refine blk_far ?_ NB249_250.out _; (with_reducible repeat (first | refine blk_drewN ?_ _ | refine blk_drew ?_ | refine blk_alloc ?_ _)); refine blk_far ?_ NB249_250.out _; (with_reducible repeat (first | refine blk_drewN ?_ _ | refine blk_drew ?_ | refine blk_alloc ?_ _)); refine blk_far ?_ NB249_250.out _; (with_reducible repeat (first | refine blk_drewN ?_ _ | refine blk_drew ?_ | refine blk_alloc ?_ _)); refine blk_far ?_ NB249_250.out _; (with_reducible repeat (first | refine blk_drewN ?_ _ | refine blk_drew ?_ | refine blk_alloc ?_ _)); refine blk_far ?_ NB249_250.out _; (with_reducible repeat (first | refine blk_drewN ?_ _ | refine blk_drew ?_ | refine blk_alloc ?_ _)); refine blk_far ?_ NB249_250.out _; (with_reducible repeat (first | refine blk_drewN ?_ _ | refine blk_drew ?_ | refine blk_alloc ?_ _)); exact BK249.out⟩
      have n2_ : Aside0 (((((((w16.setCell ⟨gb250, 0, none⟩ (.int .i64 a2_0)).setCell ⟨gb250, 1, none⟩ (.string a2_1)).setCell ⟨gb250, 2, none⟩ (.string a2_2)).setCell ⟨gb250, 3, none⟩ (.string a2_3)).setCell ⟨gb250, 4, none⟩ (.string a2_4)).setCell ⟨gb250, 5, none⟩ (.int .i64 a2_5)).heap[gb250]? = some (.cells #[.int .i64 a2_0, .string a2_1, .string a2_2, .string a2_3, .string a2_4, .int .i64 a2_5] 25 (0, 0))) := ⟨by (with_reducible repeat (first | refine blk_drewN ?_ _ | refine blk_drew ?_ | refine blk_alloc ?_ _)); refine blk_put (cs := #[.int .i64 a2_0, .string a2_1, .string a2_2, .string a2_3, .string a2_4, .int .i64 0]) ?_ 5 _ rfl; (with_reducible repeat (first | refine blk_drewN ?_ _ | refine blk_drew ?_ | refine blk_alloc ?_ _)); refine blk_put (cs := #[.int .i64 a2_0, .string a2_1, .string a2_2, .string a2_3, .string (⟨#[]⟩ : ByteArray), .int .i64 0]) ?_ 4 _ rfl; (with_reducible repeat (first | refine blk_drewN ?_ _ | refine blk_drew ?_ | refine blk_alloc ?_ _)); refine blk_put (cs := #[.int .i64 a2_0, .string a2_1, .string a2_2, .string (⟨#[]⟩ : ByteArray), .string (⟨#[]⟩ : ByteArray), .int .i64 0]) ?_ 3 _ rfl; (with_reducible repeat (first | refine blk_drewN ?_ _ | refine blk_drew ?_ | refine blk_alloc ?_ _)); refine blk_put (cs := #[.int .i64 a2_0, .string a2_1, .string (⟨#[]⟩ : ByteArray), .string (⟨#[]⟩ : ByteArray), .string (⟨#[]⟩ : ByteArray), .int .i64 0]) ?_ 2 _ rfl; (with_reducible repeat (first | refine blk_drewN ?_ _ | refine blk_drew ?_ | refine blk_alloc ?_ _)); refine blk_put (cs := #[.int .i64 a2_0, .string (⟨#[]⟩ : ByteArray), .string (⟨#[]⟩ : ByteArray), .string (⟨#[]⟩ : ByteArray), .string (⟨#[]⟩ : ByteArray), .int .i64 0]) ?_ 1 _ rfl; (with_reducible repeat (first | refine blk_drewN ?_ _ | refine blk_drew ?_ | refine blk_alloc ?_ _)); refine blk_put (cs := #[.int .i64 0, .string (⟨#[]⟩ : ByteArray), .string (⟨#[]⟩ : ByteArray), .string (⟨#[]⟩ : ByteArray), .string (⟨#[]⟩ : ByteArray), .int .i64 0]) ?_ 0 _ rfl; (with_reducible repeat (first | refine blk_drewN ?_ _ | refine blk_drew ?_ | refine blk_alloc ?_ _)); exact BK250.out⟩
      have n3_ : Aside0 (Below w.heap.size w ((((((w16.setCell ⟨gb250, 0, none⟩ (.int .i64 a2_0)).setCell ⟨gb250, 1, none⟩ (.string a2_1)).setCell ⟨gb250, 2, none⟩ (.string a2_2)).setCell ⟨gb250, 3, none⟩ (.string a2_3)).setCell ⟨gb250, 4, none⟩ (.string a2_4)).setCell ⟨gb250, 5, none⟩ (.int .i64 a2_5))) := ⟨by repeat (first | (with_reducible first | exact HB.out | apply below_alloc | apply pw_below_drewN | apply below_drew1 | refine below_set ?_ GE249.out | refine below_set ?_ GE250.out) | exact HB.out)⟩
      (try clear HO0)
      (try clear BK249)
      (try clear BK250)
      (try clear HB)
      generalize ((((((w16.setCell ⟨gb250, 0, none⟩ (.int .i64 a2_0)).setCell ⟨gb250, 1, none⟩ (.string a2_1)).setCell ⟨gb250, 2, none⟩ (.string a2_2)).setCell ⟨gb250, 3, none⟩ (.string a2_3)).setCell ⟨gb250, 4, none⟩ (.string a2_4)).setCell ⟨gb250, 5, none⟩ (.int .i64 a2_5)) = w19 at n0_ n1_ n2_ n3_ ⊢
      have HO0 := n0_
      have BK249 := n1_
      have BK250 := n2_
      have HB := n3_
      clear n0_ n1_ n2_ n3_
      (try (rw [drewN_self w19]; generalize hq_ : World.drewN w19 _ = w19; have n0_ : Aside0 (Kd.V k61 61 w19 w.heap.size (fun k_ => (P0_ k_ ∨ w.heap.size ≤ k_) ∧ k_ ≠ gb249 ∧ k_ ≠ gb250) (.slice A0 l0.length c0) l0) := ⟨by rw [← hq_]; exact (by (with_reducible repeat (first | apply Kd.V_alloc | apply Kd.V_drewN | apply Kd.V_drew)); exact HO0.out)⟩; have n1_ : Aside0 (w19.heap[gb249]? = some (.cells #[.int .i64 a2_0, .string a2_1, .string a2_2, .string a2_3, .string a2_4, .int .i64 a2_5, .string a2_6, .bool a2_7, .slice A2_8 l2_8.length c2_8] 27 (0, 0))) := ⟨by rw [← hq_]; exact (by (with_reducible repeat (first | refine blk_drewN ?_ _ | refine blk_drew ?_ | refine blk_alloc ?_ _)); exact BK249.out)⟩; have n2_ : Aside0 (w19.heap[gb250]? = some (.cells #[.int .i64 a2_0, .string a2_1, .string a2_2, .string a2_3, .string a2_4, .int .i64 a2_5] 25 (0, 0))) := ⟨by rw [← hq_]; exact (by (with_reducible repeat (first | refine blk_drewN ?_ _ | refine blk_drew ?_ | refine blk_alloc ?_ _)); exact BK250.out)⟩; have n3_ : Aside0 (Below w.heap.size w w19) := ⟨by rw [← hq_]; exact (by repeat (first | (with_reducible first | exact HB.out | apply below_alloc | apply pw_below_drewN | apply below_drew1 | refine below_set ?_ GE249.out | refine below_set ?_ GE250.out) | exact HB.out))⟩; clear HO0 BK249 BK250 HB hq_; have HO0 := n0_; have BK249 := n1_; have BK250 := n2_; have HB := n3_; clear n0_ n1_ n2_ n3_))
      have n0_ := Aside0.mk (Kd.V_drew HO0.out)
      have n1_ := Aside0.mk (blk_drew BK249.out)
      have n2_ := Aside0.mk (blk_drew BK250.out)
      have n3_ := Aside0.mk (below_drew1 HB.out)
      clear HO0
      clear BK249
      clear BK250
      clear HB
      have HO0 := n0_
      have BK249 := n1_
      have BK250 := n2_
      have HB := n3_
      clear n0_ n1_ n2_ n3_
      refine start_ (n := 13) (S := fun w' => w'.cell? ⟨gb249, 0, none⟩ = some (.int .i64 a2_0) ∧ w'.cell? ⟨gb249, 1, none⟩ = some (.string a2_1) ∧ w'.cell? ⟨gb249, 2, none⟩ = some (.string a2_2) ∧ w'.cell? ⟨gb249, 3, none⟩ = some (.string a2_3) ∧ w'.cell? ⟨gb249, 4, none⟩ = some (.string a2_4) ∧ w'.cell? ⟨gb249, 5, none⟩ = some (.int .i64 a2_5) ∧ w'.cell? ⟨gb249, 6, none⟩ = some (.string a2_6) ∧ w'.cell? ⟨gb249, 7, none⟩ = some (.bool a2_7) ∧ w'.cell? ⟨gb249, 8, none⟩ = some (.slice A2_8 l2_8.length c2_8)) (ds := []) #[false, false, false, false, false, false, false, false, false, false, false, false, false] (by kernel_rfl) rfl rfl ⟨(blk_cell BK249.out 0).trans rfl, (blk_cell BK249.out 1).trans rfl, (blk_cell BK249.out 2).trans rfl, (blk_cell BK249.out 3).trans rfl, (blk_cell BK249.out 4).trans rfl, (blk_cell BK249.out 5).trans rfl, (blk_cell BK249.out 6).trans rfl, (blk_cell BK249.out 7).trans rfl, (blk_cell BK249.out 8).trans rfl⟩ (fun hHeld => ?_); refine with_tabW stanchionref19_Step.tab4 stanchionref19_Step.bits4 (fun HT_ HW_ => ?_)
      generalize w19.drew = w20 at HO0 BK249 BK250 HB hHeld ⊢
      refine pure_ (i := 0) (N := some 25) (v := ?_) (a' := ?_) #[true, false, false, false, false, false, false, false, false, false, false, false, false] rfl rfl (any_of HT_.out (by kernel_rfl)) (fun _ _ _ h => h) (Or.inl ⟨by rfl, ?_⟩) ?_ ?_
      rotate_left
      · intro w'
        go_simp
        with_reducible rfl
      rotate_left
      · simp only [Act.put, List.setIfInBounds_toArray, List.set_cons_zero, List.set_cons_succ, i64_w, i32_w]
        rfl
      refine pure_ (i := 1) (N := some 26) (v := ?_) (a' := ?_) #[true, true, false, false, false, false, false, false, false, false, false, false, false] rfl rfl (any_of HT_.out (by kernel_rfl)) (fun _ _ _ h => h) (Or.inl ⟨by rfl, ?_⟩) ?_ ?_
      rotate_left
      · intro w'
        go_simp
        with_reducible rfl
      rotate_left
      · simp only [Act.put, List.setIfInBounds_toArray, List.set_cons_zero, List.set_cons_succ, i64_w, i32_w]
        rfl
      refine pure_ (i := 2) (N := some 27) (v := ?_) (a' := ?_) #[true, true, true, false, false, false, false, false, false, false, false, false, false] rfl rfl (any_of HT_.out (by kernel_rfl)) (fun _ _ _ h => h) (Or.inl ⟨by rfl, ?_⟩) ?_ ?_
      rotate_left
      · intro w'
        go_simp
        with_reducible rfl
      rotate_left
      · simp only [Act.put, List.setIfInBounds_toArray, List.set_cons_zero, List.set_cons_succ, i64_w, i32_w]
        rfl
      refine take_ (i := 3) (N := some 28) (v := ?_) (a' := ?_) #[true, true, true, true, false, false, false, false, false, false, false, false, false] rfl rfl (take_ofW HT_.out HW_.out (by kernel_rfl)) (fun _ _ _ h => h) (Or.inl ⟨by rfl, ?_⟩) hHeld ?_ ?_
      rotate_left
      · rintro w' ⟨s0, s1, s2, s3, s4, s5, s6, s7, s8⟩
        go_simp
        with_reducible rfl
      rotate_left
      · simp only [Act.put, List.setIfInBounds_toArray, List.set_cons_zero, List.set_cons_succ, i64_w, i32_w]
        rfl
      refine pure_ (i := 4) (N := some 29) (v := ?_) (a' := ?_) #[true, true, true, true, true, false, false, false, false, false, false, false, false] rfl rfl (any_of HT_.out (by kernel_rfl)) (fun _ _ _ h => h) (Or.inl ⟨by rfl, ?_⟩) ?_ ?_
      rotate_left
      · intro w'
        go_simp
        with_reducible rfl
      rotate_left
      · simp only [Act.put, List.setIfInBounds_toArray, List.set_cons_zero, List.set_cons_succ, i64_w, i32_w]
        rfl
      refine pure_ (i := 5) (N := some 30) (v := ?_) (a' := ?_) #[true, true, true, true, true, true, false, false, false, false, false, false, false] rfl rfl (any_of HT_.out (by kernel_rfl)) (fun _ _ _ h => h) (Or.inl ⟨by rfl, ?_⟩) ?_ ?_
      rotate_left
      · intro w'
        go_simp
        with_reducible rfl
      rotate_left
      · simp only [Act.put, List.setIfInBounds_toArray, List.set_cons_zero, List.set_cons_succ, i64_w, i32_w]
        rfl
      refine pure_ (i := 6) (N := some 31) (v := undef) (a' := ?_) #[true, true, true, true, true, true, true, false, false, false, false, false, false] rfl rfl (any_of HT_.out (by kernel_rfl)) (fun _ _ _ h => h) (Or.inr ⟨by rfl, rfl⟩) ?_ ?_
      rotate_left
      · simp only [Act.put, List.setIfInBounds_toArray, List.set_cons_zero, List.set_cons_succ, i64_w, i32_w]
        rfl
      refine pure_ (i := 7) (N := some 32) (v := undef) (a' := ?_) #[true, true, true, true, true, true, true, true, false, false, false, false, false] rfl rfl (any_of HT_.out (by kernel_rfl)) (fun _ _ _ h => h) (Or.inr ⟨by rfl, rfl⟩) ?_ ?_
      rotate_left
      · simp only [Act.put, List.setIfInBounds_toArray, List.set_cons_zero, List.set_cons_succ, i64_w, i32_w]
        rfl
      refine pure_ (i := 8) (N := some 33) (v := undef) (a' := ?_) #[true, true, true, true, true, true, true, true, true, false, false, false, false] rfl rfl (any_of HT_.out (by kernel_rfl)) (fun _ _ _ h => h) (Or.inr ⟨by rfl, rfl⟩) ?_ ?_
      rotate_left
      · simp only [Act.put, List.setIfInBounds_toArray, List.set_cons_zero, List.set_cons_succ, i64_w, i32_w]
        rfl
      refine pure_ (i := 9) (N := some 34) (v := undef) (a' := ?_) #[true, true, true, true, true, true, true, true, true, true, false, false, false] rfl rfl (any_of HT_.out (by kernel_rfl)) (fun _ _ _ h => h) (Or.inr ⟨by rfl, rfl⟩) ?_ ?_
      rotate_left
      · simp only [Act.put, List.setIfInBounds_toArray, List.set_cons_zero, List.set_cons_succ, i64_w, i32_w]
        rfl
      refine pure_ (i := 10) (N := some 35) (v := ?_) (a' := ?_) #[true, true, true, true, true, true, true, true, true, true, true, false, false] rfl rfl (any_of HT_.out (by kernel_rfl)) (fun _ _ _ h => h) (Or.inl ⟨by rfl, ?_⟩) ?_ ?_
      rotate_left
      · intro w'
        go_simp
        with_reducible rfl
      rotate_left
      · simp only [Act.put, List.setIfInBounds_toArray, List.set_cons_zero, List.set_cons_succ, i64_w, i32_w]
        rfl
      refine pure_ (i := 11) (N := some 6) (v := ?_) (a' := ?_) #[true, true, true, true, true, true, true, true, true, true, true, true, false] rfl rfl (any_of HT_.out (by kernel_rfl)) (fun _ _ _ h => h) (Or.inl ⟨by rfl, ?_⟩) ?_ ?_
      rotate_left
      · intro w'
        go_simp
        with_reducible rfl
      rotate_left
      · simp only [Act.put, List.setIfInBounds_toArray, List.set_cons_zero, List.set_cons_succ, i64_w, i32_w]
        rfl
      refine pure_ (i := 12) (N := some 7) (v := ?_) (a' := ?_) #[true, true, true, true, true, true, true, true, true, true, true, true, true] rfl rfl (any_of HT_.out (by kernel_rfl)) (fun _ _ _ h => h) (Or.inl ⟨by rfl, ?_⟩) ?_ ?_
      rotate_left
      · intro w'
        go_simp
        with_reducible rfl
      rotate_left
      · simp only [Act.put, List.setIfInBounds_toArray, List.set_cons_zero, List.set_cons_succ, i64_w, i32_w]
        rfl
      refine done_ (done_of HT_.out (by kernel_rfl)) ?_
      try go_wp2
      go_ret2
      exact ⟨_, by first | rfl | (simp [errW_none, errW_some] <;> rfl) | (simp [*, errW_none, errW_some] <;> rfl), by (with_reducible repeat (first | apply Kd.V_alloc | apply Kd.V_drewN | apply Kd.V_drew)); exact Kd.V_mono HO0.out (fun _ hk => hk.1), by repeat (first | (with_reducible first | exact HB.out | apply below_alloc | apply pw_below_drewN | apply below_drew1 | refine below_set ?_ GE249.out | refine below_set ?_ GE250.out) | exact HB.out)⟩
  · rw [if_neg c4] at H
    have c4b0 : (a2_0 == 1) = false := beq_eq_false_iff_ne.mpr c4
    have c4b1 : (a2_0 != 1) = true := bne_iff_ne.mpr c4
    by_cases c21 : a2_0 = 2
    · rw [if_pos c21] at H
      have c21b0 : (a2_0 == 2) = true := beq_iff_eq.mpr c21
      have c21b1 : (a2_0 != 2) = false := bne_eq_false_iff_eq.mpr c21
      clear c21
      replace H := Option.bind_eq_some_iff.mp H
      obtain ⟨t253, A220, H⟩ := H
      replace H : (some (t253, true)) = some (r1, r2) := H
      have A22 := Aside0.mk A220
      clear A220
      simp only [Option.some.injEq, Prod.mk.injEq] at H
      obtain ⟨rfl, rfl⟩ := H
      go_enter Try.func12, Try.ntmps12
      go_wp2_with (first | ((with_reducible refine gate_dst (N := 5) rfl ?_); refine box_event ?hg (N := 5) ?hd (cs := #[.int .i64 a2_0, .string a2_1, .string a2_2, .string a2_3, .string a2_4, .int .i64 a2_5, .string a2_6, .bool a2_7, .slice A2_8 l2_8.length c2_8]) (t := 27) ?hr ?_; (case hd => rfl); (case hg => rfl); (case hr => first | (go_simp; done) | (go_simp; rfl)); intro gb249 hg w23 hbox hb; have n0_ := Aside0.mk (Kd.V_below (Kd.V_elderB (by (with_reducible repeat (first | apply Kd.V_alloc | apply Kd.V_drewN | apply Kd.V_drew)); exact HO0.out) gb249 (Nat.le_of_eq hg.symm)) hb); have n1_ := Aside0.mk (below_step (by repeat (first | (with_reducible first | exact HB.out | apply below_alloc | apply pw_below_drewN | apply below_drew1) | exact HB.out)) hb); have n2_ := Aside0.mk (hbox); have n3_ := Aside0.mk ((by rw [hg]; exact (below_size (by repeat (first | (with_reducible first | exact HB.out | apply below_alloc | apply pw_below_drewN | apply below_drew1) | exact HB.out))) : w.heap.size ≤ gb249)); have n4_ := Aside0.mk ((by rw [hg]; exact (below_size (by repeat (first | (with_reducible first | exact HB.out | apply below_alloc | apply pw_below_drewN | apply below_drew1) | exact HB.out))) : w.heap.size ≤ gb249)); clear HO0; clear HB; have HO0 := n0_; have HB := n1_; have BK249 := n2_; have GW249 := n3_; have GE249 := n4_; clear n0_ n1_ n2_ n3_ n4_; clear hb hbox hg; have hcz24_0 : w23.cell? ⟨gb249, 0, none⟩ = some (.int .i64 a2_0) := (blk_cell BK249.out 0).trans rfl; have hcz24_1 : w23.cell? ⟨gb249, 1, none⟩ = some (.string a2_1) := (blk_cell BK249.out 1).trans rfl; have hcz24_2 : w23.cell? ⟨gb249, 2, none⟩ = some (.string a2_2) := (blk_cell BK249.out 2).trans rfl; have hcz24_3 : w23.cell? ⟨gb249, 3, none⟩ = some (.string a2_3) := (blk_cell BK249.out 3).trans rfl; have hcz24_4 : w23.cell? ⟨gb249, 4, none⟩ = some (.string a2_4) := (blk_cell BK249.out 4).trans rfl; have hcz24_5 : w23.cell? ⟨gb249, 5, none⟩ = some (.int .i64 a2_5) := (blk_cell BK249.out 5).trans rfl; have hcz24_6 : w23.cell? ⟨gb249, 6, none⟩ = some (.string a2_6) := (blk_cell BK249.out 6).trans rfl; have hcz24_7 : w23.cell? ⟨gb249, 7, none⟩ = some (.bool a2_7) := (blk_cell BK249.out 7).trans rfl; have hcz24_8 : w23.cell? ⟨gb249, 8, none⟩ = some (.slice A2_8 l2_8.length c2_8) := (blk_cell BK249.out 8).trans rfl; have hfz24_0 := blk_frozen BK249.out 0; have hfz24_1 := blk_frozen BK249.out 1; have hfz24_2 := blk_frozen BK249.out 2; have hfz24_3 := blk_frozen BK249.out 3; have hfz24_4 := blk_frozen BK249.out 4; have hfz24_5 := blk_frozen BK249.out 5; have hfz24_6 := blk_frozen BK249.out 6; have hfz24_7 := blk_frozen BK249.out 7; have hfz24_8 := blk_frozen BK249.out 8) | ((with_reducible refine gate_dst (N := 8) rfl ?_); refine box_event ?hg (N := 8) ?hd (cs := #[.int .i64 0, .string (⟨#[]⟩ : ByteArray), .string (⟨#[]⟩ : ByteArray), .string (⟨#[]⟩ : ByteArray), .string (⟨#[]⟩ : ByteArray), .int .i64 0]) (t := 25) ?hr ?_; (case hd => rfl); (case hg => rfl); (case hr => first | (go_simp; done) | (go_simp; rfl)); intro gb250 hg w25 hbox hb; have n0_ := Aside0.mk (Kd.V_below (Kd.V_elderB (by (with_reducible repeat (first | apply Kd.V_alloc | apply Kd.V_drewN | apply Kd.V_drew)); exact HO0.out) gb250 (Nat.le_of_eq hg.symm)) hb); have n1_ := Aside0.mk (blk_below (g := gb249) (o := .cells #[.int .i64 a2_0, .string a2_1, .string a2_2, .string a2_3, .string a2_4, .int .i64 a2_5, .string a2_6, .bool a2_7, .slice A2_8 l2_8.length c2_8] 27 (0, 0)) (by (with_reducible repeat (first | refine blk_drewN ?_ _ | refine blk_drew ?_ | refine blk_alloc ?_ _)); exact BK249.out) hb); have n2_ := Aside0.mk (below_step (by repeat (first | (with_reducible first | exact HB.out | apply below_alloc | apply pw_below_drewN | apply below_drew1 | refine below_set ?_ GE249.out) | exact HB.out)) hb); have n3_ := Aside0.mk (hbox); have n4_ := Aside0.mk ((by rw [hg]; exact (below_size (by repeat (first | (with_reducible first | exact HB.out | apply below_alloc | apply pw_below_drewN | apply below_drew1 | refine below_set ?_ GE249.out) | exact HB.out))) : w.heap.size ≤ gb250)); have n5_ := Aside0.mk ((by rw [hg]; exact (below_size (by repeat (first | (with_reducible first | exact HB.out | apply below_alloc | apply pw_below_drewN | apply below_drew1 | refine below_set ?_ GE249.out) | exact HB.out))) : w.heap.size ≤ gb250)); have n6_ := Aside0.mk ((by rw [hg]; exact Nat.ne_of_lt (blk_lt (g := gb249) (o := .cells #[.int .i64 a2_0, .string a2_1, .string a2_2, .string a2_3, .string a2_4, .int .i64 a2_5, .string a2_6, .bool a2_7, .slice A2_8 l2_8.length c2_8] 27 (0, 0)) (by (with_reducible repeat (first | refine blk_drewN ?_ _ | refine blk_drew ?_ | refine blk_alloc ?_ _)); exact BK249.out)) : gb249 ≠ gb250)); have n7_ := Aside0.mk ((by rw [hg]; exact Nat.ne_of_gt (blk_lt (g := gb249) (o := .cells #[.int .i64 a2_0, .string a2_1, .string a2_2, .string a2_3, .string a2_4, .int .i64 a2_5, .string a2_6, .bool a2_7, .slice A2_8 l2_8.length c2_8] 27 (0, 0)) (by (with_reducible repeat (first | refine blk_drewN ?_ _ | refine blk_drew ?_ | refine blk_alloc ?_ _)); exact BK249.out)) : gb250 ≠ gb249)); clear HO0; clear BK249; clear HB; have HO0 := n0_; have BK249 := n1_; have HB := n2_; have BK250 := n3_; have GW250 := n4_; have GE250 := n5_; have NB249_250 := n6_; have NB250_249 := n7_; clear n0_ n1_ n2_ n3_ n4_ n5_ n6_ n7_; clear hb hbox hg; have hnb26 := NB250_249.out; have hnc26 := NB249_250.out; have hcz27_0 : w25.cell? ⟨gb250, 0, none⟩ = some (.int .i64 0) := (blk_cell BK250.out 0).trans rfl; have hcz27_1 : w25.cell? ⟨gb250, 1, none⟩ = some (.string (⟨#[]⟩ : ByteArray)) := (blk_cell BK250.out 1).trans rfl; have hcz27_2 : w25.cell? ⟨gb250, 2, none⟩ = some (.string (⟨#[]⟩ : ByteArray)) := (blk_cell BK250.out 2).trans rfl; have hcz27_3 : w25.cell? ⟨gb250, 3, none⟩ = some (.string (⟨#[]⟩ : ByteArray)) := (blk_cell BK250.out 3).trans rfl; have hcz27_4 : w25.cell? ⟨gb250, 4, none⟩ = some (.string (⟨#[]⟩ : ByteArray)) := (blk_cell BK250.out 4).trans rfl; have hcz27_5 : w25.cell? ⟨gb250, 5, none⟩ = some (.int .i64 0) := (blk_cell BK250.out 5).trans rfl; have hfz27_0 := blk_frozen BK250.out 0; have hfz27_1 := blk_frozen BK250.out 1; have hfz27_2 := blk_frozen BK250.out 2; have hfz27_3 := blk_frozen BK250.out 3; have hfz27_4 := blk_frozen BK250.out 4; have hfz27_5 := blk_frozen BK250.out 5) | ((with_reducible refine gate_callee (f := 28) rfl ?_); refine goesL_ (some 45) rfl rfl Try.func28 (by kernel_rfl) rfl #[.slice A0 l0.length c0, .agg #[.string a2_1, .string a2_2, .bool false]] rfl (by (try simp only [List.map_toArray, List.map_cons, List.map_nil]); first | done | rfl | (simp only [List.length_drop, List.length_take]; rfl)) ?_; (with_reducible refine (stanchionref12_Set.calls k _ _ l0 a2_1 a2_2 false t253 _ ?side1 ?side2 A22.out).mono ?_); (case side1 => refine (Kd.V_reads' (e := 61) (base := w.heap.size) (ok := fun k_ => (((P0_ k_ ∨ w.heap.size ≤ k_) ∧ k_ ≠ gb249) ∧ k_ ≠ gb250)) (n := l0.length) (c := c0) ?_).2.2; exact (by (with_reducible repeat (first | apply Kd.V_alloc | apply Kd.V_drewN | apply Kd.V_drew)); exact (Kd.V_mono (Kd.V_far (p := ⟨gb250, 5, none⟩) (Kd.V_far (p := ⟨gb250, 4, none⟩) (Kd.V_far (p := ⟨gb250, 3, none⟩) (Kd.V_far (p := ⟨gb250, 2, none⟩) (Kd.V_far (p := ⟨gb250, 1, none⟩) (Kd.V_far (p := ⟨gb250, 0, none⟩) (Kd.V_mono HO0.out (fun k_ hk => (⟨hk, hk.2⟩ : _ ∧ k_ ≠ gb250))) (fun _ hk => hk.2) (.int .i64 a2_0)) (fun _ hk => hk.2) (.string a2_1)) (fun _ hk => hk.2) (.string a2_2)) (fun _ hk => hk.2) (.string a2_3)) (fun _ hk => hk.2) (.string a2_4)) (fun _ hk => hk.2) (.int .i64 a2_5)) (fun _ h_ => h_.1)))); (case side2 => exact (Kd.V_reads' HO0.out).2.1); rintro e w28 ⟨v254, rfl, ho0, hb⟩; refine ⟨_, rfl, ?_⟩; have n0_ := Aside0.mk (Kd.V_elder' (by (with_reducible repeat (first | apply Kd.V_alloc | apply Kd.V_drewN | apply Kd.V_drew)); exact (Kd.V_mono (Kd.V_far (p := ⟨gb250, 5, none⟩) (Kd.V_far (p := ⟨gb250, 4, none⟩) (Kd.V_far (p := ⟨gb250, 3, none⟩) (Kd.V_far (p := ⟨gb250, 2, none⟩) (Kd.V_far (p := ⟨gb250, 1, none⟩) (Kd.V_far (p := ⟨gb250, 0, none⟩) (Kd.V_mono HO0.out (fun k_ hk => (⟨hk, hk.2⟩ : _ ∧ k_ ≠ gb250))) (fun _ hk => hk.2) (.int .i64 a2_0)) (fun _ hk => hk.2) (.string a2_1)) (fun _ hk => hk.2) (.string a2_2)) (fun _ hk => hk.2) (.string a2_3)) (fun _ hk => hk.2) (.string a2_4)) (fun _ hk => hk.2) (.int .i64 a2_5)) (fun _ h_ => h_.1))) (Kd.R_base ho0) hb); have n1_ := Aside0.mk (Kd.R_lower (Kd.R_newM (M := fun k_ => (w.heap.size ≤ k_)) ho0 (below_size (by repeat (first | (with_reducible first | exact HB.out | apply below_alloc | apply pw_below_drewN | apply below_drew1 | refine below_set ?_ GE249.out | refine below_set ?_ GE250.out) | exact HB.out))) (fun k_ h_ => h_)) (below_size (by repeat (first | (with_reducible first | exact HB.out | apply below_alloc | apply pw_below_drewN | apply below_drew1 | refine below_set ?_ GE249.out | refine below_set ?_ GE250.out) | exact HB.out)))); have n2_ := Aside0.mk (blk_below (g := gb249) (o := .cells #[.int .i64 a2_0, .string a2_1, .string a2_2, .string a2_3, .string a2_4, .int .i64 a2_5, .string a2_6, .bool a2_7, .slice A2_8 l2_8.length c2_8] 27 (0, 0)) (by (with_reducible repeat (first | refine blk_drewN ?_ _ | refine blk_drew ?_ | refine blk_alloc ?_ _)); refine blk_far ?_ NB249_250.out _; (with_reducible repeat (first | refine blk_drewN ?_ _ | refine blk_drew ?_ | refine blk_alloc ?_ _)); refine blk_far ?_ NB249_250.out _; (with_reducible repeat (first | refine blk_drewN ?_ _ | refine blk_drew ?_ | refine blk_alloc ?_ _)); refine blk_far ?_ NB249_250.out _; (with_reducible repeat (first | refine blk_drewN ?_ _ | refine blk_drew ?_ | refine blk_alloc ?_ _)); refine blk_far ?_ NB249_250.out _; (with_reducible repeat (first | refine blk_drewN ?_ _ | refine blk_drew ?_ | refine blk_alloc ?_ _)); refine blk_far ?_ NB249_250.out _; (with_reducible repeat (first | refine blk_drewN ?_ _ | refine blk_drew ?_ | refine blk_alloc ?_ _)); refine blk_far ?_ NB249_250.out _; (with_reducible repeat (first | refine blk_drewN ?_ _ | refine blk_drew ?_ | refine blk_alloc ?_ _)); exact BK249.out) hb); have n3_ := Aside0.mk (blk_below (g := gb250) (o := .cells #[.int .i64 a2_0, .string a2_1, .string a2_2, .string a2_3, .string a2_4, .int .i64 a2_5] 25 (0, 0)) (by (with_reducible repeat (first | refine blk_drewN ?_ _ | refine blk_drew ?_ | refine blk_alloc ?_ _)); refine blk_put (cs := #[.int .i64 a2_0, .string a2_1, .string a2_2, .string a2_3, .string a2_4, .int .i64 0]) ?_ 5 _ rfl; (with_reducible repeat (first | refine blk_drewN ?_ _ | refine blk_drew ?_ | refine blk_alloc ?_ _)); refine blk_put (cs := #[.int .i64 a2_0, .string a2_1, .string a2_2, .string a2_3, .string (⟨#[]⟩ : ByteArray), .int .i64 0]) ?_ 4 _ rfl; (with_reducible repeat (first | refine blk_drewN ?_ _ | refine blk_drew ?_ | refine blk_alloc ?_ _)); refine blk_put (cs := #[.int .i64 a2_0, .string a2_1, .string a2_2, .string (⟨#[]⟩ : ByteArray), .string (⟨#[]⟩ : ByteArray), .int .i64 0]) ?_ 3 _ rfl; (with_reducible repeat (first | refine blk_drewN ?_ _ | refine blk_drew ?_ | refine blk_alloc ?_ _)); refine blk_put (cs := #[.int .i64 a2_0, .string a2_1, .string (⟨#[]⟩ : ByteArray), .string (⟨#[]⟩ : ByteArray), .string (⟨#[]⟩ : ByteArray), .int .i64 0]) ?_ 2 _ rfl; (with_reducible repeat (first | refine blk_drewN ?_ _ | refine blk_drew ?_ | refine blk_alloc ?_ _)); refine blk_put (cs := #[.int .i64 a2_0, .string (⟨#[]⟩ : ByteArray), .string (⟨#[]⟩ : ByteArray), .string (⟨#[]⟩ : ByteArray), .string (⟨#[]⟩ : ByteArray), .int .i64 0]) ?_ 1 _ rfl; (with_reducible repeat (first | refine blk_drewN ?_ _ | refine blk_drew ?_ | refine blk_alloc ?_ _)); refine blk_put (cs := #[.int .i64 0, .string (⟨#[]⟩ : ByteArray), .string (⟨#[]⟩ : ByteArray), .string (⟨#[]⟩ : ByteArray), .string (⟨#[]⟩ : ByteArray), .int .i64 0]) ?_ 0 _ rfl; (with_reducible repeat (first | refine blk_drewN ?_ _ | refine blk_drew ?_ | refine blk_alloc ?_ _)); exact BK250.out) hb); have n4_ := Aside0.mk (below_step (by repeat (first | (with_reducible first | exact HB.out | apply below_alloc | apply pw_below_drewN | apply below_drew1 | refine below_set ?_ GE249.out | refine below_set ?_ GE250.out) | exact HB.out)) hb); clear HO0; clear BK249; clear BK250; clear HB; have HO0 := n0_; have HO255 := n1_; have BK249 := n2_; have BK250 := n3_; have HB := n4_; clear n0_ n1_ n2_ n3_ n4_; (try clear hb); (try clear hb2); (try clear hk); (try clear hi); (try clear ho0)))
      go_ret2
      exact ⟨_, by first | rfl | (simp [errW_none, errW_some] <;> rfl) | (simp [*, errW_none, errW_some] <;> rfl), Kd.V_mono (Kd.R_V (by (with_reducible repeat (first | apply Kd.R_alloc | apply Kd.R_drewN | apply Kd.R_drew)); exact Kd.R_mono HO255.out (fun _ hk => hk.1))) (fun k_ hk => by first | exact ⟨(.inr (hk.1)), hk.2⟩ | exact (.inr (hk))), by repeat (first | (with_reducible first | exact HB.out | apply below_alloc | apply pw_below_drewN | apply below_drew1 | refine below_set ?_ GE249.out | refine below_set ?_ GE250.out) | exact HB.out)⟩
    · rw [if_neg c21] at H
      have c21b0 : (a2_0 == 2) = false := beq_eq_false_iff_ne.mpr c21
      have c21b1 : (a2_0 != 2) = true := bne_iff_ne.mpr c21
      by_cases c29 : a2_0 = 3
      · rw [if_pos c29] at H
        have c29b0 : (a2_0 == 3) = true := beq_iff_eq.mpr c29
        have c29b1 : (a2_0 != 3) = false := bne_eq_false_iff_eq.mpr c29
        clear c29
        replace H := Option.bind_eq_some_iff.mp H
        obtain ⟨t256, A300, H⟩ := H
        replace H : (some (t256, true)) = some (r1, r2) := H
        have A30 := Aside0.mk A300
        clear A300
        simp only [Option.some.injEq, Prod.mk.injEq] at H
        obtain ⟨rfl, rfl⟩ := H
        go_enter Try.func12, Try.ntmps12
        go_wp2_with (first | ((with_reducible refine gate_dst (N := 5) rfl ?_); refine box_event ?hg (N := 5) ?hd (cs := #[.int .i64 a2_0, .string a2_1, .string a2_2, .string a2_3, .string a2_4, .int .i64 a2_5, .string a2_6, .bool a2_7, .slice A2_8 l2_8.length c2_8]) (t := 27) ?hr ?_; (case hd => rfl); (case hg => rfl); (case hr => first | (go_simp; done) | (go_simp; rfl)); intro gb249 hg w31 hbox hb; have n0_ := Aside0.mk (Kd.V_below (Kd.V_elderB (by (with_reducible repeat (first | apply Kd.V_alloc | apply Kd.V_drewN | apply Kd.V_drew)); exact HO0.out) gb249 (Nat.le_of_eq hg.symm)) hb); have n1_ := Aside0.mk (below_step (by repeat (first | (with_reducible first | exact HB.out | apply below_alloc | apply pw_below_drewN | apply below_drew1) | exact HB.out)) hb); have n2_ := Aside0.mk (hbox); have n3_ := Aside0.mk ((by rw [hg]; exact (below_size (by repeat (first | (with_reducible first | exact HB.out | apply below_alloc | apply pw_below_drewN | apply below_drew1) | exact HB.out))) : w.heap.size ≤ gb249)); have n4_ := Aside0.mk ((by rw [hg]; exact (below_size (by repeat (first | (with_reducible first | exact HB.out | apply below_alloc | apply pw_below_drewN | apply below_drew1) | exact HB.out))) : w.heap.size ≤ gb249)); clear HO0; clear HB; have HO0 := n0_; have HB := n1_; have BK249 := n2_; have GW249 := n3_; have GE249 := n4_; clear n0_ n1_ n2_ n3_ n4_; clear hb hbox hg; have hcz32_0 : w31.cell? ⟨gb249, 0, none⟩ = some (.int .i64 a2_0) := (blk_cell BK249.out 0).trans rfl; have hcz32_1 : w31.cell? ⟨gb249, 1, none⟩ = some (.string a2_1) := (blk_cell BK249.out 1).trans rfl; have hcz32_2 : w31.cell? ⟨gb249, 2, none⟩ = some (.string a2_2) := (blk_cell BK249.out 2).trans rfl; have hcz32_3 : w31.cell? ⟨gb249, 3, none⟩ = some (.string a2_3) := (blk_cell BK249.out 3).trans rfl; have hcz32_4 : w31.cell? ⟨gb249, 4, none⟩ = some (.string a2_4) := (blk_cell BK249.out 4).trans rfl; have hcz32_5 : w31.cell? ⟨gb249, 5, none⟩ = some (.int .i64 a2_5) := (blk_cell BK249.out 5).trans rfl; have hcz32_6 : w31.cell? ⟨gb249, 6, none⟩ = some (.string a2_6) := (blk_cell BK249.out 6).trans rfl; have hcz32_7 : w31.cell? ⟨gb249, 7, none⟩ = some (.bool a2_7) := (blk_cell BK249.out 7).trans rfl; have hcz32_8 : w31.cell? ⟨gb249, 8, none⟩ = some (.slice A2_8 l2_8.length c2_8) := (blk_cell BK249.out 8).trans rfl; have hfz32_0 := blk_frozen BK249.out 0; have hfz32_1 := blk_frozen BK249.out 1; have hfz32_2 := blk_frozen BK249.out 2; have hfz32_3 := blk_frozen BK249.out 3; have hfz32_4 := blk_frozen BK249.out 4; have hfz32_5 := blk_frozen BK249.out 5; have hfz32_6 := blk_frozen BK249.out 6; have hfz32_7 := blk_frozen BK249.out 7; have hfz32_8 := blk_frozen BK249.out 8) | ((with_reducible refine gate_dst (N := 8) rfl ?_); refine box_event ?hg (N := 8) ?hd (cs := #[.int .i64 0, .string (⟨#[]⟩ : ByteArray), .string (⟨#[]⟩ : ByteArray), .string (⟨#[]⟩ : ByteArray), .string (⟨#[]⟩ : ByteArray), .int .i64 0]) (t := 25) ?hr ?_; (case hd => rfl); (case hg => rfl); (case hr => first | (go_simp; done) | (go_simp; rfl)); intro gb250 hg w33 hbox hb; have n0_ := Aside0.mk (Kd.V_below (Kd.V_elderB (by (with_reducible repeat (first | apply Kd.V_alloc | apply Kd.V_drewN | apply Kd.V_drew)); exact HO0.out) gb250 (Nat.le_of_eq hg.symm)) hb); have n1_ := Aside0.mk (blk_below (g := gb249) (o := .cells #[.int .i64 a2_0, .string a2_1, .string a2_2, .string a2_3, .string a2_4, .int .i64 a2_5, .string a2_6, .bool a2_7, .slice A2_8 l2_8.length c2_8] 27 (0, 0)) (by (with_reducible repeat (first | refine blk_drewN ?_ _ | refine blk_drew ?_ | refine blk_alloc ?_ _)); exact BK249.out) hb); have n2_ := Aside0.mk (below_step (by repeat (first | (with_reducible first | exact HB.out | apply below_alloc | apply pw_below_drewN | apply below_drew1 | refine below_set ?_ GE249.out) | exact HB.out)) hb); have n3_ := Aside0.mk (hbox); have n4_ := Aside0.mk ((by rw [hg]; exact (below_size (by repeat (first | (with_reducible first | exact HB.out | apply below_alloc | apply pw_below_drewN | apply below_drew1 | refine below_set ?_ GE249.out) | exact HB.out))) : w.heap.size ≤ gb250)); have n5_ := Aside0.mk ((by rw [hg]; exact (below_size (by repeat (first | (with_reducible first | exact HB.out | apply below_alloc | apply pw_below_drewN | apply below_drew1 | refine below_set ?_ GE249.out) | exact HB.out))) : w.heap.size ≤ gb250)); have n6_ := Aside0.mk ((by rw [hg]; exact Nat.ne_of_lt (blk_lt (g := gb249) (o := .cells #[.int .i64 a2_0, .string a2_1, .string a2_2, .string a2_3, .string a2_4, .int .i64 a2_5, .string a2_6, .bool a2_7, .slice A2_8 l2_8.length c2_8] 27 (0, 0)) (by (with_reducible repeat (first | refine blk_drewN ?_ _ | refine blk_drew ?_ | refine blk_alloc ?_ _)); exact BK249.out)) : gb249 ≠ gb250)); have n7_ := Aside0.mk ((by rw [hg]; exact Nat.ne_of_gt (blk_lt (g := gb249) (o := .cells #[.int .i64 a2_0, .string a2_1, .string a2_2, .string a2_3, .string a2_4, .int .i64 a2_5, .string a2_6, .bool a2_7, .slice A2_8 l2_8.length c2_8] 27 (0, 0)) (by (with_reducible repeat (first | refine blk_drewN ?_ _ | refine blk_drew ?_ | refine blk_alloc ?_ _)); exact BK249.out)) : gb250 ≠ gb249)); clear HO0; clear BK249; clear HB; have HO0 := n0_; have BK249 := n1_; have HB := n2_; have BK250 := n3_; have GW250 := n4_; have GE250 := n5_; have NB249_250 := n6_; have NB250_249 := n7_; clear n0_ n1_ n2_ n3_ n4_ n5_ n6_ n7_; clear hb hbox hg; have hnb34 := NB250_249.out; have hnc34 := NB249_250.out; have hcz35_0 : w33.cell? ⟨gb250, 0, none⟩ = some (.int .i64 0) := (blk_cell BK250.out 0).trans rfl; have hcz35_1 : w33.cell? ⟨gb250, 1, none⟩ = some (.string (⟨#[]⟩ : ByteArray)) := (blk_cell BK250.out 1).trans rfl; have hcz35_2 : w33.cell? ⟨gb250, 2, none⟩ = some (.string (⟨#[]⟩ : ByteArray)) := (blk_cell BK250.out 2).trans rfl; have hcz35_3 : w33.cell? ⟨gb250, 3, none⟩ = some (.string (⟨#[]⟩ : ByteArray)) := (blk_cell BK250.out 3).trans rfl; have hcz35_4 : w33.cell? ⟨gb250, 4, none⟩ = some (.string (⟨#[]⟩ : ByteArray)) := (blk_cell BK250.out 4).trans rfl; have hcz35_5 : w33.cell? ⟨gb250, 5, none⟩ = some (.int .i64 0) := (blk_cell BK250.out 5).trans rfl; have hfz35_0 := blk_frozen BK250.out 0; have hfz35_1 := blk_frozen BK250.out 1; have hfz35_2 := blk_frozen BK250.out 2; have hfz35_3 := blk_frozen BK250.out 3; have hfz35_4 := blk_frozen BK250.out 4; have hfz35_5 := blk_frozen BK250.out 5) | ((with_reducible refine gate_callee (f := 28) rfl ?_); refine goesL_ (some 53) rfl rfl Try.func28 (by kernel_rfl) rfl #[.slice A0 l0.length c0, .agg #[.string a2_1, .string (⟨#[]⟩ : ByteArray), .bool true]] rfl (by (try simp only [List.map_toArray, List.map_cons, List.map_nil]); first | done | rfl | (simp only [List.length_drop, List.length_take]; rfl)) ?_; (with_reducible refine (stanchionref12_Set.calls k _ _ l0 a2_1 (⟨#[]⟩ : ByteArray) true t256 _ ?side1 ?side2 A30.out).mono ?_); (case side1 => refine (Kd.V_reads' (e := 61) (base := w.heap.size) (ok := fun k_ => (((P0_ k_ ∨ w.heap.size ≤ k_) ∧ k_ ≠ gb249) ∧ k_ ≠ gb250)) (n := l0.length) (c := c0) ?_).2.2; exact (by (with_reducible repeat (first | apply Kd.V_alloc | apply Kd.V_drewN | apply Kd.V_drew)); exact (Kd.V_mono (Kd.V_far (p := ⟨gb250, 5, none⟩) (Kd.V_far (p := ⟨gb250, 4, none⟩) (Kd.V_far (p := ⟨gb250, 3, none⟩) (Kd.V_far (p := ⟨gb250, 2, none⟩) (Kd.V_far (p := ⟨gb250, 1, none⟩) (Kd.V_far (p := ⟨gb250, 0, none⟩) (Kd.V_mono HO0.out (fun k_ hk => (⟨hk, hk.2⟩ : _ ∧ k_ ≠ gb250))) (fun _ hk => hk.2) (.int .i64 a2_0)) (fun _ hk => hk.2) (.string a2_1)) (fun _ hk => hk.2) (.string a2_2)) (fun _ hk => hk.2) (.string a2_3)) (fun _ hk => hk.2) (.string a2_4)) (fun _ hk => hk.2) (.int .i64 a2_5)) (fun _ h_ => h_.1)))); (case side2 => exact (Kd.V_reads' HO0.out).2.1); rintro e w36 ⟨v257, rfl, ho0, hb⟩; refine ⟨_, rfl, ?_⟩; have n0_ := Aside0.mk (Kd.V_elder' (by (with_reducible repeat (first | apply Kd.V_alloc | apply Kd.V_drewN | apply Kd.V_drew)); exact (Kd.V_mono (Kd.V_far (p := ⟨gb250, 5, none⟩) (Kd.V_far (p := ⟨gb250, 4, none⟩) (Kd.V_far (p := ⟨gb250, 3, none⟩) (Kd.V_far (p := ⟨gb250, 2, none⟩) (Kd.V_far (p := ⟨gb250, 1, none⟩) (Kd.V_far (p := ⟨gb250, 0, none⟩) (Kd.V_mono HO0.out (fun k_ hk => (⟨hk, hk.2⟩ : _ ∧ k_ ≠ gb250))) (fun _ hk => hk.2) (.int .i64 a2_0)) (fun _ hk => hk.2) (.string a2_1)) (fun _ hk => hk.2) (.string a2_2)) (fun _ hk => hk.2) (.string a2_3)) (fun _ hk => hk.2) (.string a2_4)) (fun _ hk => hk.2) (.int .i64 a2_5)) (fun _ h_ => h_.1))) (Kd.R_base ho0) hb); have n1_ := Aside0.mk (Kd.R_lower (Kd.R_newM (M := fun k_ => (w.heap.size ≤ k_)) ho0 (below_size (by repeat (first | (with_reducible first | exact HB.out | apply below_alloc | apply pw_below_drewN | apply below_drew1 | refine below_set ?_ GE249.out | refine below_set ?_ GE250.out) | exact HB.out))) (fun k_ h_ => h_)) (below_size (by repeat (first | (with_reducible first | exact HB.out | apply below_alloc | apply pw_below_drewN | apply below_drew1 | refine below_set ?_ GE249.out | refine below_set ?_ GE250.out) | exact HB.out)))); have n2_ := Aside0.mk (blk_below (g := gb249) (o := .cells #[.int .i64 a2_0, .string a2_1, .string a2_2, .string a2_3, .string a2_4, .int .i64 a2_5, .string a2_6, .bool a2_7, .slice A2_8 l2_8.length c2_8] 27 (0, 0)) (by (with_reducible repeat (first | refine blk_drewN ?_ _ | refine blk_drew ?_ | refine blk_alloc ?_ _)); refine blk_far ?_ NB249_250.out _; (with_reducible repeat (first | refine blk_drewN ?_ _ | refine blk_drew ?_ | refine blk_alloc ?_ _)); refine blk_far ?_ NB249_250.out _; (with_reducible repeat (first | refine blk_drewN ?_ _ | refine blk_drew ?_ | refine blk_alloc ?_ _)); refine blk_far ?_ NB249_250.out _; (with_reducible repeat (first | refine blk_drewN ?_ _ | refine blk_drew ?_ | refine blk_alloc ?_ _)); refine blk_far ?_ NB249_250.out _; (with_reducible repeat (first | refine blk_drewN ?_ _ | refine blk_drew ?_ | refine blk_alloc ?_ _)); refine blk_far ?_ NB249_250.out _; (with_reducible repeat (first | refine blk_drewN ?_ _ | refine blk_drew ?_ | refine blk_alloc ?_ _)); refine blk_far ?_ NB249_250.out _; (with_reducible repeat (first | refine blk_drewN ?_ _ | refine blk_drew ?_ | refine blk_alloc ?_ _)); exact BK249.out) hb); have n3_ := Aside0.mk (blk_below (g := gb250) (o := .cells #[.int .i64 a2_0, .string a2_1, .string a2_2, .string a2_3, .string a2_4, .int .i64 a2_5] 25 (0, 0)) (by (with_reducible repeat (first | refine blk_drewN ?_ _ | refine blk_drew ?_ | refine blk_alloc ?_ _)); refine blk_put (cs := #[.int .i64 a2_0, .string a2_1, .string a2_2, .string a2_3, .string a2_4, .int .i64 0]) ?_ 5 _ rfl; (with_reducible repeat (first | refine blk_drewN ?_ _ | refine blk_drew ?_ | refine blk_alloc ?_ _)); refine blk_put (cs := #[.int .i64 a2_0, .string a2_1, .string a2_2, .string a2_3, .string (⟨#[]⟩ : ByteArray), .int .i64 0]) ?_ 4 _ rfl; (with_reducible repeat (first | refine blk_drewN ?_ _ | refine blk_drew ?_ | refine blk_alloc ?_ _)); refine blk_put (cs := #[.int .i64 a2_0, .string a2_1, .string a2_2, .string (⟨#[]⟩ : ByteArray), .string (⟨#[]⟩ : ByteArray), .int .i64 0]) ?_ 3 _ rfl; (with_reducible repeat (first | refine blk_drewN ?_ _ | refine blk_drew ?_ | refine blk_alloc ?_ _)); refine blk_put (cs := #[.int .i64 a2_0, .string a2_1, .string (⟨#[]⟩ : ByteArray), .string (⟨#[]⟩ : ByteArray), .string (⟨#[]⟩ : ByteArray), .int .i64 0]) ?_ 2 _ rfl; (with_reducible repeat (first | refine blk_drewN ?_ _ | refine blk_drew ?_ | refine blk_alloc ?_ _)); refine blk_put (cs := #[.int .i64 a2_0, .string (⟨#[]⟩ : ByteArray), .string (⟨#[]⟩ : ByteArray), .string (⟨#[]⟩ : ByteArray), .string (⟨#[]⟩ : ByteArray), .int .i64 0]) ?_ 1 _ rfl; (with_reducible repeat (first | refine blk_drewN ?_ _ | refine blk_drew ?_ | refine blk_alloc ?_ _)); refine blk_put (cs := #[.int .i64 0, .string (⟨#[]⟩ : ByteArray), .string (⟨#[]⟩ : ByteArray), .string (⟨#[]⟩ : ByteArray), .string (⟨#[]⟩ : ByteArray), .int .i64 0]) ?_ 0 _ rfl; (with_reducible repeat (first | refine blk_drewN ?_ _ | refine blk_drew ?_ | refine blk_alloc ?_ _)); exact BK250.out) hb); have n4_ := Aside0.mk (below_step (by repeat (first | (with_reducible first | exact HB.out | apply below_alloc | apply pw_below_drewN | apply below_drew1 | refine below_set ?_ GE249.out | refine below_set ?_ GE250.out) | exact HB.out)) hb); clear HO0; clear BK249; clear BK250; clear HB; have HO0 := n0_; have HO258 := n1_; have BK249 := n2_; have BK250 := n3_; have HB := n4_; clear n0_ n1_ n2_ n3_ n4_; (try clear hb); (try clear hb2); (try clear hk); (try clear hi); (try clear ho0)))
        go_ret2
        exact ⟨_, by first | rfl | (simp [errW_none, errW_some] <;> rfl) | (simp [*, errW_none, errW_some] <;> rfl), Kd.V_mono (Kd.R_V (by (with_reducible repeat (first | apply Kd.R_alloc | apply Kd.R_drewN | apply Kd.R_drew)); exact Kd.R_mono HO258.out (fun _ hk => hk.1))) (fun k_ hk => by first | exact ⟨(.inr (hk.1)), hk.2⟩ | exact (.inr (hk))), by repeat (first | (with_reducible first | exact HB.out | apply below_alloc | apply pw_below_drewN | apply below_drew1 | refine below_set ?_ GE249.out | refine below_set ?_ GE250.out) | exact HB.out)⟩
      · rw [if_neg c29] at H
        have c29b0 : (a2_0 == 3) = false := beq_eq_false_iff_ne.mpr c29
        have c29b1 : (a2_0 != 3) = true := bne_iff_ne.mpr c29
        by_cases c37 : a2_0 = 4
        · rw [if_pos c37] at H
          have c37b0 : (a2_0 == 4) = true := beq_iff_eq.mpr c37
          have c37b1 : (a2_0 != 4) = false := bne_eq_false_iff_eq.mpr c37
          clear c37
          replace H := Option.bind_eq_some_iff.mp H
          obtain ⟨t259, A380, H⟩ := H
          replace H : ((stanchionref05_Same.f k t259 l2_8).bind fun t262 => (some (l0, t262))) = some (r1, r2) := H
          have A38 := Aside0.mk A380
          clear A380
          replace H := Option.bind_eq_some_iff.mp H
          obtain ⟨t262, A390, H⟩ := H
          replace H : (some (l0, t262)) = some (r1, r2) := H
          have A39 := Aside0.mk A390
          clear A390
          simp only [Option.some.injEq, Prod.mk.injEq] at H
          obtain ⟨rfl, rfl⟩ := H
          go_enter Try.func12, Try.ntmps12
          try go_wp2_with (first | ((with_reducible refine gate_dst (N := 5) rfl ?_); refine box_event ?hg (N := 5) ?hd (cs := #[.int .i64 a2_0, .string a2_1, .string a2_2, .string a2_3, .string a2_4, .int .i64 a2_5, .string a2_6, .bool a2_7, .slice A2_8 l2_8.length c2_8]) (t := 27) ?hr ?_; (case hd => rfl); (case hg => rfl); (case hr => first | (go_simp; done) | (go_simp; rfl)); intro gb249 hg w40 hbox hb; have n0_ := Aside0.mk (Kd.V_below (Kd.V_elderB (by (with_reducible repeat (first | apply Kd.V_alloc | apply Kd.V_drewN | apply Kd.V_drew)); exact HO0.out) gb249 (Nat.le_of_eq hg.symm)) hb); have n1_ := Aside0.mk (below_step (by repeat (first | (with_reducible first | exact HB.out | apply below_alloc | apply pw_below_drewN | apply below_drew1) | exact HB.out)) hb); have n2_ := Aside0.mk (hbox); have n3_ := Aside0.mk ((by rw [hg]; exact (below_size (by repeat (first | (with_reducible first | exact HB.out | apply below_alloc | apply pw_below_drewN | apply below_drew1) | exact HB.out))) : w.heap.size ≤ gb249)); have n4_ := Aside0.mk ((by rw [hg]; exact (below_size (by repeat (first | (with_reducible first | exact HB.out | apply below_alloc | apply pw_below_drewN | apply below_drew1) | exact HB.out))) : w.heap.size ≤ gb249)); clear HO0; clear HB; have HO0 := n0_; have HB := n1_; have BK249 := n2_; have GW249 := n3_; have GE249 := n4_; clear n0_ n1_ n2_ n3_ n4_; clear hb hbox hg; have hcz41_0 : w40.cell? ⟨gb249, 0, none⟩ = some (.int .i64 a2_0) := (blk_cell BK249.out 0).trans rfl; have hcz41_1 : w40.cell? ⟨gb249, 1, none⟩ = some (.string a2_1) := (blk_cell BK249.out 1).trans rfl; have hcz41_2 : w40.cell? ⟨gb249, 2, none⟩ = some (.string a2_2) := (blk_cell BK249.out 2).trans rfl; have hcz41_3 : w40.cell? ⟨gb249, 3, none⟩ = some (.string a2_3) := (blk_cell BK249.out 3).trans rfl; have hcz41_4 : w40.cell? ⟨gb249, 4, none⟩ = some (.string a2_4) := (blk_cell BK249.out 4).trans rfl; have hcz41_5 : w40.cell? ⟨gb249, 5, none⟩ = some (.int .i64 a2_5) := (blk_cell BK249.out 5).trans rfl; have hcz41_6 : w40.cell? ⟨gb249, 6, none⟩ = some (.string a2_6) := (blk_cell BK249.out 6).trans rfl; have hcz41_7 : w40.cell? ⟨gb249, 7, none⟩ = some (.bool a2_7) := (blk_cell BK249.out 7).trans rfl; have hcz41_8 : w40.cell? ⟨gb249, 8, none⟩ = some (.slice A2_8 l2_8.length c2_8) := (blk_cell BK249.out 8).trans rfl; have hfz41_0 := blk_frozen BK249.out 0; have hfz41_1 := blk_frozen BK249.out 1; have hfz41_2 := blk_frozen BK249.out 2; have hfz41_3 := blk_frozen BK249.out 3; have hfz41_4 := blk_frozen BK249.out 4; have hfz41_5 := blk_frozen BK249.out 5; have hfz41_6 := blk_frozen BK249.out 6; have hfz41_7 := blk_frozen BK249.out 7; have hfz41_8 := blk_frozen BK249.out 8) | ((with_reducible refine gate_dst (N := 8) rfl ?_); refine box_event ?hg (N := 8) ?hd (cs := #[.int .i64 0, .string (⟨#[]⟩ : ByteArray), .string (⟨#[]⟩ : ByteArray), .string (⟨#[]⟩ : ByteArray), .string (⟨#[]⟩ : ByteArray), .int .i64 0]) (t := 25) ?hr ?_; (case hd => rfl); (case hg => rfl); (case hr => first | (go_simp; done) | (go_simp; rfl)); intro gb250 hg w42 hbox hb; have n0_ := Aside0.mk (Kd.V_below (Kd.V_elderB (by (with_reducible repeat (first | apply Kd.V_alloc | apply Kd.V_drewN | apply Kd.V_drew)); exact HO0.out) gb250 (Nat.le_of_eq hg.symm)) hb); have n1_ := Aside0.mk (blk_below (g := gb249) (o := .cells #[.int .i64 a2_0, .string a2_1, .string a2_2, .string a2_3, .string a2_4, .int .i64 a2_5, .string a2_6, .bool a2_7, .slice A2_8 l2_8.length c2_8] 27 (0, 0)) (by (with_reducible repeat (first | refine blk_drewN ?_ _ | refine blk_drew ?_ | refine blk_alloc ?_ _)); exact BK249.out) hb); have n2_ := Aside0.mk (below_step (by repeat (first | (with_reducible first | exact HB.out | apply below_alloc | apply pw_below_drewN | apply below_drew1 | refine below_set ?_ GE249.out) | exact HB.out)) hb); have n3_ := Aside0.mk (hbox); have n4_ := Aside0.mk ((by rw [hg]; exact (below_size (by repeat (first | (with_reducible first | exact HB.out | apply below_alloc | apply pw_below_drewN | apply below_drew1 | refine below_set ?_ GE249.out) | exact HB.out))) : w.heap.size ≤ gb250)); have n5_ := Aside0.mk ((by rw [hg]; exact (below_size (by repeat (first | (with_reducible first | exact HB.out | apply below_alloc | apply pw_below_drewN | apply below_drew1 | refine below_set ?_ GE249.out) | exact HB.out))) : w.heap.size ≤ gb250)); have n6_ := Aside0.mk ((by rw [hg]; exact Nat.ne_of_lt (blk_lt (g := gb249) (o := .cells #[.int .i64 a2_0, .string a2_1, .string a2_2, .string a2_3, .string a2_4, .int .i64 a2_5, .string a2_6, .bool a2_7, .slice A2_8 l2_8.length c2_8] 27 (0, 0)) (by (with_reducible repeat (first | refine blk_drewN ?_ _ | refine blk_drew ?_ | refine blk_alloc ?_ _)); exact BK249.out)) : gb249 ≠ gb250)); have n7_ := Aside0.mk ((by rw [hg]; exact Nat.ne_of_gt (blk_lt (g := gb249) (o := .cells #[.int .i64 a2_0, .string a2_1, .string a2_2, .string a2_3, .string a2_4, .int .i64 a2_5, .string a2_6, .bool a2_7, .slice A2_8 l2_8.length c2_8] 27 (0, 0)) (by (with_reducible repeat (first | refine blk_drewN ?_ _ | refine blk_drew ?_ | refine blk_alloc ?_ _)); exact BK249.out)) : gb250 ≠ gb249)); clear HO0; clear BK249; clear HB; have HO0 := n0_; have BK249 := n1_; have HB := n2_; have BK250 := n3_; have GW250 := n4_; have GE250 := n5_; have NB249_250 := n6_; have NB250_249 := n7_; clear n0_ n1_ n2_ n3_ n4_ n5_ n6_ n7_; clear hb hbox hg; have hnb43 := NB250_249.out; have hnc43 := NB249_250.out; have hcz44_0 : w42.cell? ⟨gb250, 0, none⟩ = some (.int .i64 0) := (blk_cell BK250.out 0).trans rfl; have hcz44_1 : w42.cell? ⟨gb250, 1, none⟩ = some (.string (⟨#[]⟩ : ByteArray)) := (blk_cell BK250.out 1).trans rfl; have hcz44_2 : w42.cell? ⟨gb250, 2, none⟩ = some (.string (⟨#[]⟩ : ByteArray)) := (blk_cell BK250.out 2).trans rfl; have hcz44_3 : w42.cell? ⟨gb250, 3, none⟩ = some (.string (⟨#[]⟩ : ByteArray)) := (blk_cell BK250.out 3).trans rfl; have hcz44_4 : w42.cell? ⟨gb250, 4, none⟩ = some (.string (⟨#[]⟩ : ByteArray)) := (blk_cell BK250.out 4).trans rfl; have hcz44_5 : w42.cell? ⟨gb250, 5, none⟩ = some (.int .i64 0) := (blk_cell BK250.out 5).trans rfl; have hfz44_0 := blk_frozen BK250.out 0; have hfz44_1 := blk_frozen BK250.out 1; have hfz44_2 := blk_frozen BK250.out 2; have hfz44_3 := blk_frozen BK250.out 3; have hfz44_4 := blk_frozen BK250.out 4; have hfz44_5 := blk_frozen BK250.out 5))
          have n0_ : Aside0 (Kd.V k61 61 ((((((w42.setCell ⟨gb250, 0, none⟩ (.int .i64 a2_0)).setCell ⟨gb250, 1, none⟩ (.string a2_1)).setCell ⟨gb250, 2, none⟩ (.string a2_2)).setCell ⟨gb250, 3, none⟩ (.string a2_3)).setCell ⟨gb250, 4, none⟩ (.string a2_4)).setCell ⟨gb250, 5, none⟩ (.int .i64 a2_5)) w.heap.size (fun k_ => (P0_ k_ ∨ w.heap.size ≤ k_) ∧ k_ ≠ gb249 ∧ k_ ≠ gb250) (.slice A0 l0.length c0) l0) := ⟨by (with_reducible repeat (first | apply Kd.V_alloc | apply Kd.V_drewN | apply Kd.V_drew)); exact Kd.V_mono (Kd.V_far (p := ⟨gb250, 5, none⟩) (Kd.V_far (p := ⟨gb250, 4, none⟩) (Kd.V_far (p := ⟨gb250, 3, none⟩) (Kd.V_far (p := ⟨gb250, 2, none⟩) (Kd.V_far (p := ⟨gb250, 1, none⟩) (Kd.V_far (p := ⟨gb250, 0, none⟩) (Kd.V_mono HO0.out (fun k_ hk => (⟨hk, hk.2⟩ : _ ∧ k_ ≠ gb250))) (fun _ hk => hk.2) (.int .i64 a2_0)) (fun _ hk => hk.2) (.string a2_1)) (fun _ hk => hk.2) (.string a2_2)) (fun _ hk => hk.2) (.string a2_3)) (fun _ hk => hk.2) (.string a2_4)) (fun _ hk => hk.2) (.int .i64 a2_5)) (fun _ hk => ⟨hk.1.1.1, ⟨hk.1.1.2, hk.1.2⟩⟩)⟩
          have n1_ : Aside0 (((((((w42.setCell ⟨gb250, 0, none⟩ (.int .i64 a2_0)).setCell ⟨gb250, 1, none⟩ (.string a2_1)).setCell ⟨gb250, 2, none⟩ (.string a2_2)).setCell ⟨gb250, 3, none⟩ (.string a2_3)).setCell ⟨gb250, 4, none⟩ (.string a2_4)).setCell ⟨gb250, 5, none⟩ (.int .i64 a2_5)).heap[gb249]? = some (.cells #[.int .i64 a2_0, .string a2_1, .string a2_2, .string a2_3, .string a2_4, .int .i64 a2_5, .string a2_6, .bool a2_7, .slice A2_8 l2_8.length c2_8] 27 (0, 0))) := ⟨by (with_reducible repeat (first | refine blk_drewN ?_ _ | refine blk_drew ?_ | refine blk_alloc ?_ _)); refine blk_far ?_ NB249_250.out _; (with_reducible repeat (first | refine blk_drewN ?_ _ | refine blk_drew ?_ | refine blk_alloc ?_ _)); refine blk_far ?_ NB249_250.out _; (with_reducible repeat (first | refine blk_drewN ?_ _ | refine blk_drew ?_ | refine blk_alloc ?_ _)); refine blk_far ?_ NB249_250.out _; (with_reducible repeat (first | refine blk_drewN ?_ _ | refine blk_drew ?_ | refine blk_alloc ?_ _)); refine blk_far ?_ NB249_250.out _; (with_reducible repeat (first | refine blk_drewN ?_ _ | refine blk_drew ?_ | refine blk_alloc ?_ _)); refine blk_far ?_ NB249_250.out _; (with_reducible repeat (first | refine blk_drewN ?_ _ | refine blk_drew ?_ | refine blk_alloc ?_ _)); refine blk_far ?_ NB249_250.out _; (with_reducible repeat (first | refine blk_drewN ?_ _ | refine blk_drew ?_ | refine blk_alloc ?_ _)); exact BK249.out⟩
          have n2_ : Aside0 (((((((w42.setCell ⟨gb250, 0, none⟩ (.int .i64 a2_0)).setCell ⟨gb250, 1, none⟩ (.string a2_1)).setCell ⟨gb250, 2, none⟩ (.string a2_2)).setCell ⟨gb250, 3, none⟩ (.string a2_3)).setCell ⟨gb250, 4, none⟩ (.string a2_4)).setCell ⟨gb250, 5, none⟩ (.int .i64 a2_5)).heap[gb250]? = some (.cells #[.int .i64 a2_0, .string a2_1, .string a2_2, .string a2_3, .string a2_4, .int .i64 a2_5] 25 (0, 0))) := ⟨by (with_reducible repeat (first | refine blk_drewN ?_ _ | refine blk_drew ?_ | refine blk_alloc ?_ _)); refine blk_put (cs := #[.int .i64 a2_0, .string a2_1, .string a2_2, .string a2_3, .string a2_4, .int .i64 0]) ?_ 5 _ rfl; (with_reducible repeat (first | refine blk_drewN ?_ _ | refine blk_drew ?_ | refine blk_alloc ?_ _)); refine blk_put (cs := #[.int .i64 a2_0, .string a2_1, .string a2_2, .string a2_3, .string (⟨#[]⟩ : ByteArray), .int .i64 0]) ?_ 4 _ rfl; (with_reducible repeat (first | refine blk_drewN ?_ _ | refine blk_drew ?_ | refine blk_alloc ?_ _)); refine blk_put (cs := #[.int .i64 a2_0, .string a2_1, .string a2_2, .string (⟨#[]⟩ : ByteArray), .string (⟨#[]⟩ : ByteArray), .int .i64 0]) ?_ 3 _ rfl; (with_reducible repeat (first | refine blk_drewN ?_ _ | refine blk_drew ?_ | refine blk_alloc ?_ _)); refine blk_put (cs := #[.int .i64 a2_0, .string a2_1, .string (⟨#[]⟩ : ByteArray), .string (⟨#[]⟩ : ByteArray), .string (⟨#[]⟩ : ByteArray), .int .i64 0]) ?_ 2 _ rfl; (with_reducible repeat (first | refine blk_drewN ?_ _ | refine blk_drew ?_ | refine blk_alloc ?_ _)); refine blk_put (cs := #[.int .i64 a2_0, .string (⟨#[]⟩ : ByteArray), .string (⟨#[]⟩ : ByteArray), .string (⟨#[]⟩ : ByteArray), .string (⟨#[]⟩ : ByteArray), .int .i64 0]) ?_ 1 _ rfl; (with_reducible repeat (first | refine blk_drewN ?_ _ | refine blk_drew ?_ | refine blk_alloc ?_ _)); refine blk_put (cs := #[.int .i64 0, .string (⟨#[]⟩ : ByteArray), .string (⟨#[]⟩ : ByteArray), .string (⟨#[]⟩ : ByteArray), .string (⟨#[]⟩ : ByteArray), .int .i64 0]) ?_ 0 _ rfl; (with_reducible repeat (first | refine blk_drewN ?_ _ | refine blk_drew ?_ | refine blk_alloc ?_ _)); exact BK250.out⟩
          have n3_ : Aside0 (Below w.heap.size w ((((((w42.setCell ⟨gb250, 0, none⟩ (.int .i64 a2_0)).setCell ⟨gb250, 1, none⟩ (.string a2_1)).setCell ⟨gb250, 2, none⟩ (.string a2_2)).setCell ⟨gb250, 3, none⟩ (.string a2_3)).setCell ⟨gb250, 4, none⟩ (.string a2_4)).setCell ⟨gb250, 5, none⟩ (.int .i64 a2_5))) := ⟨by repeat (first | (with_reducible first | exact HB.out | apply below_alloc | apply pw_below_drewN | apply below_drew1 | refine below_set ?_ GE249.out | refine below_set ?_ GE250.out) | exact HB.out)⟩
          (try clear HO0)
          (try clear BK249)
          (try clear BK250)
          (try clear HB)
          generalize ((((((w42.setCell ⟨gb250, 0, none⟩ (.int .i64 a2_0)).setCell ⟨gb250, 1, none⟩ (.string a2_1)).setCell ⟨gb250, 2, none⟩ (.string a2_2)).setCell ⟨gb250, 3, none⟩ (.string a2_3)).setCell ⟨gb250, 4, none⟩ (.string a2_4)).setCell ⟨gb250, 5, none⟩ (.int .i64 a2_5)) = w45 at n0_ n1_ n2_ n3_ ⊢
          have HO0 := n0_
          have BK249 := n1_
          have BK250 := n2_
          have HB := n3_
          clear n0_ n1_ n2_ n3_
          have n0_ := Aside0.mk (Kd.V_drew HO0.out)
          have n1_ := Aside0.mk (blk_drew BK249.out)
          have n2_ := Aside0.mk (blk_drew BK250.out)
          have n3_ := Aside0.mk (below_drew1 HB.out)
          clear HO0
          clear BK249
          clear BK250
          clear HB
          have HO0 := n0_
          have BK249 := n1_
          have BK250 := n2_
          have HB := n3_
          clear n0_ n1_ n2_ n3_
          refine start_ (n := 13) (S := fun w' => w'.cell? ⟨gb250, 0, none⟩ = some (.int .i64 a2_0) ∧ w'.cell? ⟨gb250, 1, none⟩ = some (.string a2_1) ∧ w'.cell? ⟨gb250, 2, none⟩ = some (.string a2_2) ∧ w'.cell? ⟨gb250, 3, none⟩ = some (.string a2_3) ∧ w'.cell? ⟨gb250, 4, none⟩ = some (.string a2_4) ∧ w'.cell? ⟨gb250, 5, none⟩ = some (.int .i64 a2_5) ∧ w'.cell? ⟨gb249, 0, none⟩ = some (.int .i64 a2_0) ∧ w'.cell? ⟨gb249, 1, none⟩ = some (.string a2_1) ∧ w'.cell? ⟨gb249, 2, none⟩ = some (.string a2_2) ∧ w'.cell? ⟨gb249, 3, none⟩ = some (.string a2_3) ∧ w'.cell? ⟨gb249, 4, none⟩ = some (.string a2_4) ∧ w'.cell? ⟨gb249, 5, none⟩ = some (.int .i64 a2_5) ∧ w'.cell? ⟨gb249, 6, none⟩ = some (.string a2_6) ∧ w'.cell? ⟨gb249, 7, none⟩ = some (.bool a2_7) ∧ w'.cell? ⟨gb249, 8, none⟩ = some (.slice A2_8 l2_8.length c2_8)) (ds := []) #[false, false, false, false, false, false, false, false, false, false, false, false, false] (by kernel_rfl) rfl rfl ⟨(blk_cell BK250.out 0).trans rfl, (blk_cell BK250.out 1).trans rfl, (blk_cell BK250.out 2).trans rfl, (blk_cell BK250.out 3).trans rfl, (blk_cell BK250.out 4).trans rfl, (blk_cell BK250.out 5).trans rfl, (blk_cell BK249.out 0).trans rfl, (blk_cell BK249.out 1).trans rfl, (blk_cell BK249.out 2).trans rfl, (blk_cell BK249.out 3).trans rfl, (blk_cell BK249.out 4).trans rfl, (blk_cell BK249.out 5).trans rfl, (blk_cell BK249.out 6).trans rfl, (blk_cell BK249.out 7).trans rfl, (blk_cell BK249.out 8).trans rfl⟩ (fun hHeld => ?_); refine with_tabW stanchionref19_Step.tab10 stanchionref19_Step.bits10 (fun HT_ HW_ => ?_)
          generalize w45.drew = w46 at HO0 BK249 BK250 HB hHeld ⊢
          refine pure_ (i := 0) (N := some 57) (v := ?_) (a' := ?_) #[true, false, false, false, false, false, false, false, false, false, false, false, false] rfl rfl (any_of HT_.out (by kernel_rfl)) (fun _ _ _ h => h) (Or.inl ⟨by rfl, ?_⟩) ?_ ?_
          rotate_left
          · intro w'
            go_simp
            with_reducible rfl
          rotate_left
          · simp only [Act.put, List.setIfInBounds_toArray, List.set_cons_zero, List.set_cons_succ, i64_w, i32_w]
            rfl
          refine pure_ (i := 1) (N := some 58) (v := ?_) (a' := ?_) #[true, true, false, false, false, false, false, false, false, false, false, false, false] rfl rfl (any_of HT_.out (by kernel_rfl)) (fun _ _ _ h => h) (Or.inl ⟨by rfl, ?_⟩) ?_ ?_
          rotate_left
          · intro w'
            go_simp
            with_reducible rfl
          rotate_left
          · simp only [Act.put, List.setIfInBounds_toArray, List.set_cons_zero, List.set_cons_succ, i64_w, i32_w]
            rfl
          refine pure_ (i := 2) (N := some 59) (v := ?_) (a' := ?_) #[true, true, true, false, false, false, false, false, false, false, false, false, false] rfl rfl (any_of HT_.out (by kernel_rfl)) (fun _ _ _ h => h) (Or.inl ⟨by rfl, ?_⟩) ?_ ?_
          rotate_left
          · intro w'
            go_simp
            with_reducible rfl
          rotate_left
          · simp only [Act.put, List.setIfInBounds_toArray, List.set_cons_zero, List.set_cons_succ, i64_w, i32_w]
            rfl
          refine pure_ (i := 4) (N := some 61) (v := ?_) (a' := ?_) #[true, true, true, false, true, false, false, false, false, false, false, false, false] rfl rfl (any_of HT_.out (by kernel_rfl)) (fun _ _ _ h => h) (Or.inl ⟨by rfl, ?_⟩) ?_ ?_
          rotate_left
          · intro w'
            go_simp
            with_reducible rfl
          rotate_left
          · simp only [Act.put, List.setIfInBounds_toArray, List.set_cons_zero, List.set_cons_succ, i64_w, i32_w]
            rfl
          refine pure_ (i := 6) (N := some 63) (v := ?_) (a' := ?_) #[true, true, true, false, true, false, true, false, false, false, false, false, false] rfl rfl (any_of HT_.out (by kernel_rfl)) (fun _ _ _ h => h) (Or.inl ⟨by rfl, ?_⟩) ?_ ?_
          rotate_left
          · intro w'
            go_simp
            with_reducible rfl
          rotate_left
          · simp only [Act.put, List.setIfInBounds_toArray, List.set_cons_zero, List.set_cons_succ, i64_w, i32_w]
            rfl
          refine pure_ (i := 9) (N := some 66) (v := ?_) (a' := ?_) #[true, true, true, false, true, false, true, false, false, true, false, false, false] rfl rfl (any_of HT_.out (by kernel_rfl)) (fun _ _ _ h => h) (Or.inl ⟨by rfl, ?_⟩) ?_ ?_
          rotate_left
          · intro w'
            go_simp
            with_reducible rfl
          rotate_left
          · simp only [Act.put, List.setIfInBounds_toArray, List.set_cons_zero, List.set_cons_succ, i64_w, i32_w]
            rfl
          refine take_ (i := 3) (N := some 60) (v := ?_) (a' := ?_) #[true, true, true, true, true, false, true, false, false, true, false, false, false] rfl rfl (take_ofW HT_.out HW_.out (by kernel_rfl)) (fun _ _ _ h => h) (Or.inl ⟨by rfl, ?_⟩) hHeld ?_ ?_
          rotate_left
          · rintro w' ⟨s0, s1, s2, s3, s4, s5, s6, s7, s8, s9, s10, s11, s12, s13, s14⟩
            go_simp
            with_reducible rfl
          rotate_left
          · simp only [Act.put, List.setIfInBounds_toArray, List.set_cons_zero, List.set_cons_succ, i64_w, i32_w]
            rfl
          refine take_ (i := 5) (N := some 62) (v := ?_) (a' := ?_) #[true, true, true, true, true, true, true, false, false, true, false, false, false] rfl rfl (take_ofW HT_.out HW_.out (by kernel_rfl)) (fun _ _ _ h => h) (Or.inl ⟨by rfl, ?_⟩) hHeld ?_ ?_
          rotate_left
          · rintro w' ⟨s0, s1, s2, s3, s4, s5, s6, s7, s8, s9, s10, s11, s12, s13, s14⟩
            go_simp
            with_reducible rfl
          rotate_left
          · simp only [Act.put, List.setIfInBounds_toArray, List.set_cons_zero, List.set_cons_succ, i64_w, i32_w]
            rfl
          refine take_ (i := 7) (N := some 64) (v := ?_) (a' := ?_) #[true, true, true, true, true, true, true, true, false, true, false, false, false] rfl rfl (take_ofW HT_.out HW_.out (by kernel_rfl)) (fun _ _ _ h => h) (Or.inl ⟨by rfl, ?_⟩) hHeld ?_ ?_
          rotate_left
          · rintro w' ⟨s0, s1, s2, s3, s4, s5, s6, s7, s8, s9, s10, s11, s12, s13, s14⟩
            go_simp
            with_reducible rfl
          rotate_left
          · simp only [Act.put, List.setIfInBounds_toArray, List.set_cons_zero, List.set_cons_succ, i64_w, i32_w]
            rfl
          refine take_ (i := 10) (N := some 67) (v := ?_) (a' := ?_) #[true, true, true, true, true, true, true, true, false, true, true, false, false] rfl rfl (take_ofW HT_.out HW_.out (by kernel_rfl)) (fun _ _ _ h => h) (Or.inl ⟨by rfl, ?_⟩) hHeld ?_ ?_
          rotate_left
          · rintro w' ⟨s0, s1, s2, s3, s4, s5, s6, s7, s8, s9, s10, s11, s12, s13, s14⟩
            go_simp
            with_reducible rfl
          rotate_left
          · simp only [Act.put, List.setIfInBounds_toArray, List.set_cons_zero, List.set_cons_succ, i64_w, i32_w]
            rfl
          refine one_ (i := 8) (N := some 65) #[true, true, true, true, true, true, true, true, true, true, true, false, false] rfl rfl (one_of HT_.out (by kernel_rfl)) (by decide) (fun K hK => ?_)
          refine goes_ Try.func29 (by kernel_rfl) rfl #[.slice A0 l0.length c0, .slice A1 l1.length c1, .string a2_3, .string a2_4, .int .i64 a2_5] (by rfl) rfl rfl (by (try simp only [List.map_toArray, List.map_cons, List.map_nil]); first | done | rfl | (simp only [List.length_drop, List.length_take]; rfl)) ?_
          with_reducible refine (stanchionref12_Scan.calls k _ _ l0 _ _ l1 a2_3 a2_4 a2_5 t259 _ ?side1 ?side2 ?side3 ?side4 A38.out).mono ?_
          (case side1 => repeat (first | exact (Kd.V_reads' HO0.out).2.2 | (with_reducible refine Kd.C_alloc ?_ _) | (with_reducible refine Kd.C_drewN ?_ _) | (with_reducible refine Kd.C_drew ?_)))
          (case side2 => exact (Kd.V_reads' HO0.out).2.1)
          (case side3 => repeat (first | exact (Kd.C_below HR1.out HB.out) | (with_reducible refine Kd.C_alloc ?_ _) | (with_reducible refine Kd.C_drewN ?_ _) | (with_reducible refine Kd.C_drew ?_)))
          (case side4 => exact HC1.out)
          rintro e w47 ⟨v260, rfl, ho0, hb⟩
          refine ⟨_, rfl, ?_⟩
          have n0_ := Aside0.mk (Kd.V_elder' (by (with_reducible repeat (first | apply Kd.V_alloc | apply Kd.V_drewN | apply Kd.V_drew)); exact HO0.out) (Kd.R_base ho0) hb)
          have n1_ := Aside0.mk (Kd.R_lower (Kd.R_newM (M := fun k_ => (w.heap.size ≤ k_)) ho0 (below_size (by repeat (first | (with_reducible first | exact HB.out | apply below_alloc | apply pw_below_drewN | apply below_drew1 | refine below_set ?_ GE249.out | refine below_set ?_ GE250.out) | exact HB.out))) (fun k_ h_ => h_)) (below_size (by repeat (first | (with_reducible first | exact HB.out | apply below_alloc | apply pw_below_drewN | apply below_drew1 | refine below_set ?_ GE249.out | refine below_set ?_ GE250.out) | exact HB.out))))
          have n2_ := Aside0.mk (blk_below (g := gb249) (o := .cells #[.int .i64 a2_0, .string a2_1, .string a2_2, .string a2_3, .string a2_4, .int .i64 a2_5, .string a2_6, .bool a2_7, .slice A2_8 l2_8.length c2_8] 27 (0, 0)) (by (with_reducible repeat (first | refine blk_drewN ?_ _ | refine blk_drew ?_ | refine blk_alloc ?_ _)); exact BK249.out) hb)
          have n3_ := Aside0.mk (blk_below (g := gb250) (o := .cells #[.int .i64 a2_0, .string a2_1, .string a2_2, .string a2_3, .string a2_4, .int .i64 a2_5] 25 (0, 0)) (by (with_reducible repeat (first | refine blk_drewN ?_ _ | refine blk_drew ?_ | refine blk_alloc ?_ _)); exact BK250.out) hb)
          have n4_ := Aside0.mk (below_step (by repeat (first | (with_reducible first | exact HB.out | apply below_alloc | apply pw_below_drewN | apply below_drew1 | refine below_set ?_ GE249.out | refine below_set ?_ GE250.out) | exact HB.out)) hb)
          clear HO0
          clear BK249
          clear BK250
          clear HB
          have HO0 := n0_
          have HO261 := n1_
          have BK249 := n2_
          have BK250 := n3_
          have HB := n4_
          clear n0_ n1_ n2_ n3_ n4_
          (try clear hb)
          (try clear hb2)
          (try clear hk)
          (try clear hi)
          (try clear ho0)
          obtain ⟨Ao48, co48, eo48⟩ := Kd.R_slice HO261.out
          (first | subst eo48 | (injection eo48 with f1_ f2_ f3_; have f4_ := f1_.symm; have f5_ := f3_.symm; clear f1_ f2_ f3_; subst f4_; subst f5_))
          refine hK.out _ _ ⟨(blk_cell BK250.out 0).trans rfl, (blk_cell BK250.out 1).trans rfl, (blk_cell BK250.out 2).trans rfl, (blk_cell BK250.out 3).trans rfl, (blk_cell BK250.out 4).trans rfl, (blk_cell BK250.out 5).trans rfl, (blk_cell BK249.out 0).trans rfl, (blk_cell BK249.out 1).trans rfl, (blk_cell BK249.out 2).trans rfl, (blk_cell BK249.out 3).trans rfl, (blk_cell BK249.out 4).trans rfl, (blk_cell BK249.out 5).trans rfl, (blk_cell BK249.out 6).trans rfl, (blk_cell BK249.out 7).trans rfl, (blk_cell BK249.out 8).trans rfl⟩ (fun hHeld => ?_)
          clear hK K
          refine norm_ (a' := ?_) ?_ ?_
          rotate_left
          · show Act.put _ (some 65) _ = _
            simp only [Act.put, List.setIfInBounds_toArray, List.set_cons_zero, List.set_cons_succ, i64_w, i32_w]
            rfl
          refine one_ (i := 11) (N := some 68) #[true, true, true, true, true, true, true, true, true, true, true, true, false] rfl rfl (one_of HT_.out (by kernel_rfl)) (by decide) (fun K hK => ?_)
          refine goes_ Try.func17 (by kernel_rfl) rfl #[.slice Ao48 t259.length co48, .slice A2_8 l2_8.length c2_8] (by rfl) rfl rfl (by (try simp only [List.map_toArray, List.map_cons, List.map_nil]); first | done | rfl | (simp only [List.length_drop, List.length_take]; rfl)) ?_
          with_reducible refine (stanchionref05_Same.calls k _ _ t259 _ _ l2_8 t262 _ ?side1 ?side2 ?side3 ?side4 A39.out).mono ?_
          (case side1 => repeat (first | exact (Kd.R_reads' HO261.out).2.2 | (with_reducible refine Kd.C_alloc ?_ _) | (with_reducible refine Kd.C_drewN ?_ _) | (with_reducible refine Kd.C_drew ?_)))
          (case side2 => exact (Kd.R_reads' HO261.out).2.1)
          (case side3 => repeat (first | exact (Kd.C_below HR2_8.out HB.out) | (with_reducible refine Kd.C_alloc ?_ _) | (with_reducible refine Kd.C_drewN ?_ _) | (with_reducible refine Kd.C_drew ?_)))
          (case side4 => exact HC2_8.out)
          rintro e w' ⟨rfl, ⟨nd, rfl⟩⟩
          refine ⟨_, rfl, ?_⟩
          refine hK.out _ _ ⟨(blk_cell BK250.out 0).trans rfl, (blk_cell BK250.out 1).trans rfl, (blk_cell BK250.out 2).trans rfl, (blk_cell BK250.out 3).trans rfl, (blk_cell BK250.out 4).trans rfl, (blk_cell BK250.out 5).trans rfl, (blk_cell BK249.out 0).trans rfl, (blk_cell BK249.out 1).trans rfl, (blk_cell BK249.out 2).trans rfl, (blk_cell BK249.out 3).trans rfl, (blk_cell BK249.out 4).trans rfl, (blk_cell BK249.out 5).trans rfl, (blk_cell BK249.out 6).trans rfl, (blk_cell BK249.out 7).trans rfl, (blk_cell BK249.out 8).trans rfl⟩ (fun hHeld => ?_)
          clear hK K
          refine norm_ (a' := ?_) ?_ ?_
          rotate_left
          · show Act.put _ (some 68) _ = _
            simp only [Act.put, List.setIfInBounds_toArray, List.set_cons_zero, List.set_cons_succ, i64_w, i32_w]
            rfl
          refine pure_ (i := 12) (N := some 11) (v := ?_) (a' := ?_) #[true, true, true, true, true, true, true, true, true, true, true, true, true] rfl rfl (any_of HT_.out (by kernel_rfl)) (fun _ _ _ h => h) (Or.inl ⟨by rfl, ?_⟩) ?_ ?_
          rotate_left
          · intro w'
            go_simp
            with_reducible rfl
          rotate_left
          · simp only [Act.put, List.setIfInBounds_toArray, List.set_cons_zero, List.set_cons_succ, i64_w, i32_w]
            rfl
          refine done_ (done_of HT_.out (by kernel_rfl)) ?_
          try go_wp2
          go_ret2
          exact ⟨_, by first | rfl | (simp [errW_none, errW_some] <;> rfl) | (simp [*, errW_none, errW_some] <;> rfl), by (with_reducible repeat (first | apply Kd.V_alloc | apply Kd.V_drewN | apply Kd.V_drew)); exact Kd.V_mono HO0.out (fun _ hk => hk.1.1), by repeat (first | (with_reducible first | exact HB.out | apply below_alloc | apply pw_below_drewN | apply below_drew1 | refine below_set ?_ GE249.out | refine below_set ?_ GE250.out) | exact HB.out)⟩
        · rw [if_neg c37] at H
          have c37b0 : (a2_0 == 4) = false := beq_eq_false_iff_ne.mpr c37
          have c37b1 : (a2_0 != 4) = true := bne_iff_ne.mpr c37
          simp only [Option.some.injEq, Prod.mk.injEq] at H
          obtain ⟨rfl, rfl⟩ := H
          go_enter Try.func12, Try.ntmps12
          go_wp2_with (first | ((with_reducible refine gate_dst (N := 5) rfl ?_); refine box_event ?hg (N := 5) ?hd (cs := #[.int .i64 a2_0, .string a2_1, .string a2_2, .string a2_3, .string a2_4, .int .i64 a2_5, .string a2_6, .bool a2_7, .slice A2_8 l2_8.length c2_8]) (t := 27) ?hr ?_; (case hd => rfl); (case hg => rfl); (case hr => first | (go_simp; done) | (go_simp; rfl)); intro gb249 hg w49 hbox hb; have n0_ := Aside0.mk (Kd.V_below (Kd.V_elderB (by (with_reducible repeat (first | apply Kd.V_alloc | apply Kd.V_drewN | apply Kd.V_drew)); exact HO0.out) gb249 (Nat.le_of_eq hg.symm)) hb); have n1_ := Aside0.mk (below_step (by repeat (first | (with_reducible first | exact HB.out | apply below_alloc | apply pw_below_drewN | apply below_drew1) | exact HB.out)) hb); have n2_ := Aside0.mk (hbox); have n3_ := Aside0.mk ((by rw [hg]; exact (below_size (by repeat (first | (with_reducible first | exact HB.out | apply below_alloc | apply pw_below_drewN | apply below_drew1) | exact HB.out))) : w.heap.size ≤ gb249)); have n4_ := Aside0.mk ((by rw [hg]; exact (below_size (by repeat (first | (with_reducible first | exact HB.out | apply below_alloc | apply pw_below_drewN | apply below_drew1) | exact HB.out))) : w.heap.size ≤ gb249)); clear HO0; clear HB; have HO0 := n0_; have HB := n1_; have BK249 := n2_; have GW249 := n3_; have GE249 := n4_; clear n0_ n1_ n2_ n3_ n4_; clear hb hbox hg; have hcz50_0 : w49.cell? ⟨gb249, 0, none⟩ = some (.int .i64 a2_0) := (blk_cell BK249.out 0).trans rfl; have hcz50_1 : w49.cell? ⟨gb249, 1, none⟩ = some (.string a2_1) := (blk_cell BK249.out 1).trans rfl; have hcz50_2 : w49.cell? ⟨gb249, 2, none⟩ = some (.string a2_2) := (blk_cell BK249.out 2).trans rfl; have hcz50_3 : w49.cell? ⟨gb249, 3, none⟩ = some (.string a2_3) := (blk_cell BK249.out 3).trans rfl; have hcz50_4 : w49.cell? ⟨gb249, 4, none⟩ = some (.string a2_4) := (blk_cell BK249.out 4).trans rfl; have hcz50_5 : w49.cell? ⟨gb249, 5, none⟩ = some (.int .i64 a2_5) := (blk_cell BK249.out 5).trans rfl; have hcz50_6 : w49.cell? ⟨gb249, 6, none⟩ = some (.string a2_6) := (blk_cell BK249.out 6).trans rfl; have hcz50_7 : w49.cell? ⟨gb249, 7, none⟩ = some (.bool a2_7) := (blk_cell BK249.out 7).trans rfl; have hcz50_8 : w49.cell? ⟨gb249, 8, none⟩ = some (.slice A2_8 l2_8.length c2_8) := (blk_cell BK249.out 8).trans rfl; have hfz50_0 := blk_frozen BK249.out 0; have hfz50_1 := blk_frozen BK249.out 1; have hfz50_2 := blk_frozen BK249.out 2; have hfz50_3 := blk_frozen BK249.out 3; have hfz50_4 := blk_frozen BK249.out 4; have hfz50_5 := blk_frozen BK249.out 5; have hfz50_6 := blk_frozen BK249.out 6; have hfz50_7 := blk_frozen BK249.out 7; have hfz50_8 := blk_frozen BK249.out 8) | ((with_reducible refine gate_dst (N := 8) rfl ?_); refine box_event ?hg (N := 8) ?hd (cs := #[.int .i64 0, .string (⟨#[]⟩ : ByteArray), .string (⟨#[]⟩ : ByteArray), .string (⟨#[]⟩ : ByteArray), .string (⟨#[]⟩ : ByteArray), .int .i64 0]) (t := 25) ?hr ?_; (case hd => rfl); (case hg => rfl); (case hr => first | (go_simp; done) | (go_simp; rfl)); intro gb250 hg w51 hbox hb; have n0_ := Aside0.mk (Kd.V_below (Kd.V_elderB (by (with_reducible repeat (first | apply Kd.V_alloc | apply Kd.V_drewN | apply Kd.V_drew)); exact HO0.out) gb250 (Nat.le_of_eq hg.symm)) hb); have n1_ := Aside0.mk (blk_below (g := gb249) (o := .cells #[.int .i64 a2_0, .string a2_1, .string a2_2, .string a2_3, .string a2_4, .int .i64 a2_5, .string a2_6, .bool a2_7, .slice A2_8 l2_8.length c2_8] 27 (0, 0)) (by (with_reducible repeat (first | refine blk_drewN ?_ _ | refine blk_drew ?_ | refine blk_alloc ?_ _)); exact BK249.out) hb); have n2_ := Aside0.mk (below_step (by repeat (first | (with_reducible first | exact HB.out | apply below_alloc | apply pw_below_drewN | apply below_drew1 | refine below_set ?_ GE249.out) | exact HB.out)) hb); have n3_ := Aside0.mk (hbox); have n4_ := Aside0.mk ((by rw [hg]; exact (below_size (by repeat (first | (with_reducible first | exact HB.out | apply below_alloc | apply pw_below_drewN | apply below_drew1 | refine below_set ?_ GE249.out) | exact HB.out))) : w.heap.size ≤ gb250)); have n5_ := Aside0.mk ((by rw [hg]; exact (below_size (by repeat (first | (with_reducible first | exact HB.out | apply below_alloc | apply pw_below_drewN | apply below_drew1 | refine below_set ?_ GE249.out) | exact HB.out))) : w.heap.size ≤ gb250)); have n6_ := Aside0.mk ((by rw [hg]; exact Nat.ne_of_lt (blk_lt (g := gb249) (o := .cells #[.int .i64 a2_0, .string a2_1, .string a2_2, .string a2_3, .string a2_4, .int .i64 a2_5, .string a2_6, .bool a2_7, .slice A2_8 l2_8.length c2_8] 27 (0, 0)) (by (with_reducible repeat (first | refine blk_drewN ?_ _ | refine blk_drew ?_ | refine blk_alloc ?_ _)); exact BK249.out)) : gb249 ≠ gb250)); have n7_ := Aside0.mk ((by rw [hg]; exact Nat.ne_of_gt (blk_lt (g := gb249) (o := .cells #[.int .i64 a2_0, .string a2_1, .string a2_2, .string a2_3, .string a2_4, .int .i64 a2_5, .string a2_6, .bool a2_7, .slice A2_8 l2_8.length c2_8] 27 (0, 0)) (by (with_reducible repeat (first | refine blk_drewN ?_ _ | refine blk_drew ?_ | refine blk_alloc ?_ _)); exact BK249.out)) : gb250 ≠ gb249)); clear HO0; clear BK249; clear HB; have HO0 := n0_; have BK249 := n1_; have HB := n2_; have BK250 := n3_; have GW250 := n4_; have GE250 := n5_; have NB249_250 := n6_; have NB250_249 := n7_; clear n0_ n1_ n2_ n3_ n4_ n5_ n6_ n7_; clear hb hbox hg; have hnb52 := NB250_249.out; have hnc52 := NB249_250.out; have hcz53_0 : w51.cell? ⟨gb250, 0, none⟩ = some (.int .i64 0) := (blk_cell BK250.out 0).trans rfl; have hcz53_1 : w51.cell? ⟨gb250, 1, none⟩ = some (.string (⟨#[]⟩ : ByteArray)) := (blk_cell BK250.out 1).trans rfl; have hcz53_2 : w51.cell? ⟨gb250, 2, none⟩ = some (.string (⟨#[]⟩ : ByteArray)) := (blk_cell BK250.out 2).trans rfl; have hcz53_3 : w51.cell? ⟨gb250, 3, none⟩ = some (.string (⟨#[]⟩ : ByteArray)) := (blk_cell BK250.out 3).trans rfl; have hcz53_4 : w51.cell? ⟨gb250, 4, none⟩ = some (.string (⟨#[]⟩ : ByteArray)) := (blk_cell BK250.out 4).trans rfl; have hcz53_5 : w51.cell? ⟨gb250, 5, none⟩ = some (.int .i64 0) := (blk_cell BK250.out 5).trans rfl; have hfz53_0 := blk_frozen BK250.out 0; have hfz53_1 := blk_frozen BK250.out 1; have hfz53_2 := blk_frozen BK250.out 2; have hfz53_3 := blk_frozen BK250.out 3; have hfz53_4 := blk_frozen BK250.out 4; have hfz53_5 := blk_frozen BK250.out 5))
          go_ret2
          exact ⟨_, by first | rfl | (simp [errW_none, errW_some] <;> rfl) | (simp [*, errW_none, errW_some] <;> rfl), by (with_reducible repeat (first | apply Kd.V_alloc | apply Kd.V_drewN | apply Kd.V_drew)); exact Kd.V_mono (Kd.V_far (p := ⟨gb250, 5, none⟩) (Kd.V_far (p := ⟨gb250, 4, none⟩) (Kd.V_far (p := ⟨gb250, 3, none⟩) (Kd.V_far (p := ⟨gb250, 2, none⟩) (Kd.V_far (p := ⟨gb250, 1, none⟩) (Kd.V_far (p := ⟨gb250, 0, none⟩) (Kd.V_mono HO0.out (fun k_ hk => (⟨hk, hk.2⟩ : _ ∧ k_ ≠ gb250))) (fun _ hk => hk.2) (.int .i64 a2_0)) (fun _ hk => hk.2) (.string a2_1)) (fun _ hk => hk.2) (.string a2_2)) (fun _ hk => hk.2) (.string a2_3)) (fun _ hk => hk.2) (.string a2_4)) (fun _ hk => hk.2) (.int .i64 a2_5)) (fun _ hk => hk.1.1.1), by repeat (first | (with_reducible first | exact HB.out | apply below_alloc | apply pw_below_drewN | apply below_drew1 | refine below_set ?_ GE249.out | refine below_set ?_ GE250.out) | exact HB.out)⟩

/-! ### stanchionref19_One: function 14 -/
set_option maxHeartbeats 8000000 in
set_option maxRecDepth 100000 in
theorem stanchionref19_One.calls (k : Nat) (A0 : Option Addr) (c0 : Nat) (l0 : List (S59)) (A1 : Option Addr) (c1 : Nat) (l1 : List (S27)) (r1 : List (S61)) (r2 : Bool) (w : World) (hr0 : Kd.C k59 w A0 l0.length l0) (hc0 : l0.length ≤ c0) (hr1 : Kd.C k27 w A1 l1.length l1) (hc1 : l1.length ≤ c1) (h : stanchionref19_One.f k l0 l1 = some (r1, r2)) :
    Calls Try.prog 14 #[.slice A0 l0.length c0, .slice A1 l1.length c1] w fun e w' => ∃ v0_ : Value, e = .returned (.tuple #[v0_, .bool r2]) ∧ Kd.V k61 61 w' w.heap.size (fun k_ => (w.heap.size ≤ k_)) v0_ r1 ∧ Below w.heap.size w w' := by
  have hu27 := Try.underlying27
  have HR0 := Aside0.mk hr0
  have HC0 := Aside0.mk hc0
  clear hr0 hc0
  have HR1 := Aside0.mk hr1
  have HC1 := Aside0.mk hc1
  clear hr1 hc1
  have HB := Aside0.mk (Below.refl w.heap.size w)
  have H : (stanchionref19_One.l0 k l0 l1 ([] : List (S61)) 0) = some (r1, r2) := h
  clear h
  have H' := Aside0.mk H
  clear H
  go_enter Try.func14, Try.ntmps14
  go_wp2
  go_loopg [6, 7] k (fun kq v6 v7 w' => ∃ (x6_1 : List (S61)) (x7_1 : Int), v7 = .int .i64 x7_1 ∧ Aside0 (stanchionref19_One.l0 kq l0 l1 x6_1 x7_1 = some (r1, r2)) ∧ Aside0 (kq ≤ k) ∧ Aside0 (Kd.V k61 61 w' w.heap.size (fun k_ => (w.heap.size ≤ k_)) v6 x6_1) ∧ Aside0 (Below w.heap.size w w'))
  case atStart => exact ⟨(([] : List (S61))), (0), (by first | rfl | (simp; done) | (simp [*]; done)), H', ⟨Nat.le_refl _⟩, ⟨Kd.V_nil _ _ _ _ _⟩, ⟨by repeat (first | (with_reducible first | exact HB.out | apply below_alloc | apply pw_below_drewN | apply below_drew1) | exact HB.out)⟩⟩
  case round =>
    clear H'
    try clear c1
    try clear p2
    obtain ⟨x6_1, x7_1, rfl, HA, HK1, HO_6, HB⟩ := hrel
    cases gk with
    | zero => exact absurd HA.out (by simp [stanchionref19_One.l0])
    | succ k1 =>
      have H := HA.out
      clear HA
      simp only [stanchionref19_One.l0] at H
      by_cases c3 : x7_1 < (l1.length : Int)
      · rw [if_pos c3] at H
        have c3b0 : decide (x7_1 < (l1.length : Int)) = true := decide_eq_true c3
        clear c3
        by_cases c4 : 0 ≤ x7_1
        · rw [if_pos c4] at H
          have c4b0 : decide (0 ≤ x7_1) = true := decide_eq_true c4
          clear c4
          replace H := Option.bind_eq_some_iff.mp H
          obtain ⟨⟨t264, t267⟩, A50, H⟩ := H
          replace H : (if t267 = true then (stanchionref19_One.l0 k1 l0 l1 t264 (wrap64 (x7_1 + 1))) else (some (([] : List (S61)), false))) = some (r1, r2) := H
          have A5 := Aside0.mk A50
          clear A50
          by_cases c6 : t267 = true
          · subst c6
            have H1 : (stanchionref19_One.l0 k1 l0 l1 t264 (wrap64 (x7_1 + 1))) = some (r1, r2) := by rw [if_pos rfl] at H; exact H
            clear H
            have H := H1
            clear H1
            have H' := Aside0.mk H
            clear H
            have p263 : 0 ≤ (x7_1 : Int) := of_decide_eq_true (by first | (with_reducible assumption) | assumption)
            have q263 : x7_1 < (l1.length : Int) := of_decide_eq_true (by first | (with_reducible assumption) | assumption)
            obtain ⟨ad263, A263_8, c263_8, e263, hx263_0, hx263_1, hx263_2, hx263_3, hx263_4, hx263_5, hx263_6, hx263_7, hx263_8, hl263_8, hi263_8⟩ := at_T27 HR1.out x7_1 p263 q263
            cases e263
            replace hx263_0 := (HB.out.cell (World.block_lt_of_cell? w _ hx263_0)).trans hx263_0
            replace hx263_1 := (HB.out.cell (World.block_lt_of_cell? w _ hx263_1)).trans hx263_1
            replace hx263_2 := (HB.out.cell (World.block_lt_of_cell? w _ hx263_2)).trans hx263_2
            replace hx263_3 := (HB.out.cell (World.block_lt_of_cell? w _ hx263_3)).trans hx263_3
            replace hx263_4 := (HB.out.cell (World.block_lt_of_cell? w _ hx263_4)).trans hx263_4
            replace hx263_5 := (HB.out.cell (World.block_lt_of_cell? w _ hx263_5)).trans hx263_5
            replace hx263_6 := (HB.out.cell (World.block_lt_of_cell? w _ hx263_6)).trans hx263_6
            replace hx263_7 := (HB.out.cell (World.block_lt_of_cell? w _ hx263_7)).trans hx263_7
            replace hx263_8 := (HB.out.cell (World.block_lt_of_cell? w _ hx263_8)).trans hx263_8
            have HR263_8 := Aside0.mk hi263_8
            have HC263_8 := Aside0.mk hl263_8
            clear hi263_8 hl263_8
            replace p263 := eq_true p263
            replace q263 := eq_true q263
            obtain ⟨Ao7, co7, eo7⟩ := Kd.V_slice HO_6.out
            subst eo7
            go_wp2_with (first | ((with_reducible refine gate_callee (f := 12) rfl ?_); refine goesL_ (some 23) rfl rfl Try.func12 (by kernel_rfl) rfl #[.slice Ao7 x6_1.length co7, .slice A0 l0.length c0, .agg #[.int .i64 ((rd_T27 l1 x7_1).f0.f0), .string ((rd_T27 l1 x7_1).f0.f1), .string ((rd_T27 l1 x7_1).f0.f2), .string ((rd_T27 l1 x7_1).f0.f3), .string ((rd_T27 l1 x7_1).f0.f4), .int .i64 ((rd_T27 l1 x7_1).f0.f5), .string ((rd_T27 l1 x7_1).f1), .bool ((rd_T27 l1 x7_1).f2), .slice A263_8 ((rd_T27 l1 x7_1).f3).length c263_8]] rfl (by (try simp only [List.map_toArray, List.map_cons, List.map_nil]); first | done | rfl | (simp only [List.length_drop, List.length_take]; rfl)) ?_; (with_reducible refine (stanchionref19_Step.calls k1 (fun k_ => (w.heap.size ≤ k_)) _ _ x6_1 _ _ l0 ((rd_T27 l1 x7_1).f0.f0) ((rd_T27 l1 x7_1).f0.f1) ((rd_T27 l1 x7_1).f0.f2) ((rd_T27 l1 x7_1).f0.f3) ((rd_T27 l1 x7_1).f0.f4) ((rd_T27 l1 x7_1).f0.f5) ((rd_T27 l1 x7_1).f1) ((rd_T27 l1 x7_1).f2) _ _ ((rd_T27 l1 x7_1).f3) t264 true _ ?side1 ?side2 ?side3 ?side4 ?side5 A5.out).mono ?_); (case side1 => exact HO_6.out); (case side2 => repeat (first | exact (Kd.C_below HR0.out HB.out) | (with_reducible refine Kd.C_alloc ?_ _) | (with_reducible refine Kd.C_drewN ?_ _) | (with_reducible refine Kd.C_drew ?_))); (case side3 => exact HC0.out); (case side4 => repeat (first | exact (Kd.C_below HR263_8.out HB.out) | (with_reducible refine Kd.C_alloc ?_ _) | (with_reducible refine Kd.C_drewN ?_ _) | (with_reducible refine Kd.C_drew ?_))); (case side5 => exact HC263_8.out); rintro e w8 ⟨v265, rfl, ho0, hb⟩; refine ⟨_, rfl, ?_⟩; have n0_ := Aside0.mk (Kd.V_below (by (with_reducible repeat (first | apply Kd.V_alloc | apply Kd.V_drewN | apply Kd.V_drew)); exact HO_6.out) hb); have n1_ := Aside0.mk (Kd.V_lower (Kd.V_mono (ok' := fun k_ => (w.heap.size ≤ k_)) ho0 (fun k_ hk_ => Or.elim hk_ (fun hs_ => hs_) (fun hn_ => (Nat.le_trans (below_size (by repeat (first | (with_reducible first | exact HB.out | apply below_alloc | apply pw_below_drewN | apply below_drew1) | exact HB.out))) hn_)))) (below_size (by repeat (first | (with_reducible first | exact HB.out | apply below_alloc | apply pw_below_drewN | apply below_drew1) | exact HB.out)))); have n2_ := Aside0.mk (below_step (by repeat (first | (with_reducible first | exact HB.out | apply below_alloc | apply pw_below_drewN | apply below_drew1) | exact HB.out)) hb); clear HO_6; clear HB; have HO_6 := n0_; have HO266 := n1_; have HB := n2_; clear n0_ n1_ n2_; (try clear hb); (try clear hb2); (try clear hk); (try clear hi); (try clear ho0)))
            go_roundg k1
            case measure => have := HK1.out; omega
            case rel => exact ⟨(t264), (wrap64 (x7_1 + 1)), (by first | rfl | (simp; done) | (simp [*]; done)), H', ⟨by have := HK1.out; omega⟩, ⟨by (with_reducible repeat (first | apply Kd.V_alloc | apply Kd.V_drewN | apply Kd.V_drew)); exact HO266.out⟩, ⟨by repeat (first | (with_reducible first | exact HB.out | apply below_alloc | apply pw_below_drewN | apply below_drew1) | exact HB.out)⟩⟩
          · replace c6 := Bool.eq_false_iff.mpr c6
            subst c6
            have H1 : (some (([] : List (S61)), false)) = some (r1, r2) := by rw [if_neg (show ¬ (false = true) by decide)] at H; exact H
            clear H
            have H := H1
            clear H1
            simp only [Option.some.injEq, Prod.mk.injEq] at H
            obtain ⟨rfl, rfl⟩ := H
            have p263 : 0 ≤ (x7_1 : Int) := of_decide_eq_true (by first | (with_reducible assumption) | assumption)
            have q263 : x7_1 < (l1.length : Int) := of_decide_eq_true (by first | (with_reducible assumption) | assumption)
            obtain ⟨ad263, A263_8, c263_8, e263, hx263_0, hx263_1, hx263_2, hx263_3, hx263_4, hx263_5, hx263_6, hx263_7, hx263_8, hl263_8, hi263_8⟩ := at_T27 HR1.out x7_1 p263 q263
            cases e263
            replace hx263_0 := (HB.out.cell (World.block_lt_of_cell? w _ hx263_0)).trans hx263_0
            replace hx263_1 := (HB.out.cell (World.block_lt_of_cell? w _ hx263_1)).trans hx263_1
            replace hx263_2 := (HB.out.cell (World.block_lt_of_cell? w _ hx263_2)).trans hx263_2
            replace hx263_3 := (HB.out.cell (World.block_lt_of_cell? w _ hx263_3)).trans hx263_3
            replace hx263_4 := (HB.out.cell (World.block_lt_of_cell? w _ hx263_4)).trans hx263_4
            replace hx263_5 := (HB.out.cell (World.block_lt_of_cell? w _ hx263_5)).trans hx263_5
            replace hx263_6 := (HB.out.cell (World.block_lt_of_cell? w _ hx263_6)).trans hx263_6
            replace hx263_7 := (HB.out.cell (World.block_lt_of_cell? w _ hx263_7)).trans hx263_7
            replace hx263_8 := (HB.out.cell (World.block_lt_of_cell? w _ hx263_8)).trans hx263_8
            have HR263_8 := Aside0.mk hi263_8
            have HC263_8 := Aside0.mk hl263_8
            clear hi263_8 hl263_8
            replace p263 := eq_true p263
            replace q263 := eq_true q263
            obtain ⟨Ao9, co9, eo9⟩ := Kd.V_slice HO_6.out
            subst eo9
            go_wp2_with (first | ((with_reducible refine gate_callee (f := 12) rfl ?_); refine goesL_ (some 23) rfl rfl Try.func12 (by kernel_rfl) rfl #[.slice Ao9 x6_1.length co9, .slice A0 l0.length c0, .agg #[.int .i64 ((rd_T27 l1 x7_1).f0.f0), .string ((rd_T27 l1 x7_1).f0.f1), .string ((rd_T27 l1 x7_1).f0.f2), .string ((rd_T27 l1 x7_1).f0.f3), .string ((rd_T27 l1 x7_1).f0.f4), .int .i64 ((rd_T27 l1 x7_1).f0.f5), .string ((rd_T27 l1 x7_1).f1), .bool ((rd_T27 l1 x7_1).f2), .slice A263_8 ((rd_T27 l1 x7_1).f3).length c263_8]] rfl (by (try simp only [List.map_toArray, List.map_cons, List.map_nil]); first | done | rfl | (simp only [List.length_drop, List.length_take]; rfl)) ?_; (with_reducible refine (stanchionref19_Step.calls k1 (fun k_ => (w.heap.size ≤ k_)) _ _ x6_1 _ _ l0 ((rd_T27 l1 x7_1).f0.f0) ((rd_T27 l1 x7_1).f0.f1) ((rd_T27 l1 x7_1).f0.f2) ((rd_T27 l1 x7_1).f0.f3) ((rd_T27 l1 x7_1).f0.f4) ((rd_T27 l1 x7_1).f0.f5) ((rd_T27 l1 x7_1).f1) ((rd_T27 l1 x7_1).f2) _ _ ((rd_T27 l1 x7_1).f3) t264 false _ ?side1 ?side2 ?side3 ?side4 ?side5 A5.out).mono ?_); (case side1 => exact HO_6.out); (case side2 => repeat (first | exact (Kd.C_below HR0.out HB.out) | (with_reducible refine Kd.C_alloc ?_ _) | (with_reducible refine Kd.C_drewN ?_ _) | (with_reducible refine Kd.C_drew ?_))); (case side3 => exact HC0.out); (case side4 => repeat (first | exact (Kd.C_below HR263_8.out HB.out) | (with_reducible refine Kd.C_alloc ?_ _) | (with_reducible refine Kd.C_drewN ?_ _) | (with_reducible refine Kd.C_drew ?_))); (case side5 => exact HC263_8.out); rintro e w10 ⟨v265, rfl, ho0, hb⟩; refine ⟨_, rfl, ?_⟩; have n0_ := Aside0.mk (Kd.V_below (by (with_reducible repeat (first | apply Kd.V_alloc | apply Kd.V_drewN | apply Kd.V_drew)); exact HO_6.out) hb); have n1_ := Aside0.mk (Kd.V_lower (Kd.V_mono (ok' := fun k_ => (w.heap.size ≤ k_)) ho0 (fun k_ hk_ => Or.elim hk_ (fun hs_ => hs_) (fun hn_ => (Nat.le_trans (below_size (by repeat (first | (with_reducible first | exact HB.out | apply below_alloc | apply pw_below_drewN | apply below_drew1) | exact HB.out))) hn_)))) (below_size (by repeat (first | (with_reducible first | exact HB.out | apply below_alloc | apply pw_below_drewN | apply below_drew1) | exact HB.out)))); have n2_ := Aside0.mk (below_step (by repeat (first | (with_reducible first | exact HB.out | apply below_alloc | apply pw_below_drewN | apply below_drew1) | exact HB.out)) hb); clear HO_6; clear HB; have HO_6 := n0_; have HO266 := n1_; have HB := n2_; clear n0_ n1_ n2_; (try clear hb); (try clear hb2); (try clear hk); (try clear hi); (try clear ho0)))
            go_ret2
            exact ⟨_, by first | rfl | (simp [errW_none, errW_some] <;> rfl) | (simp [*, errW_none, errW_some] <;> rfl), Kd.V_nil _ _ _ _ _, by repeat (first | (with_reducible first | exact HB.out | apply below_alloc | apply pw_below_drewN | apply below_drew1) | exact HB.out)⟩
        · rw [if_neg c4] at H
          exact absurd H (by simp)
      · rw [if_neg c3] at H
        have c3b0 : decide (x7_1 < (l1.length : Int)) = false := decide_eq_false c3
        clear c3
        simp only [Option.some.injEq, Prod.mk.injEq] at H
        obtain ⟨rfl, rfl⟩ := H
        go_wp2
        go_ret2
        exact ⟨_, by first | rfl | (simp [errW_none, errW_some] <;> rfl) | (simp [*, errW_none, errW_some] <;> rfl), by (with_reducible repeat (first | apply Kd.V_alloc | apply Kd.V_drewN | apply Kd.V_drew)); exact HO_6.out, by repeat (first | (with_reducible first | exact HB.out | apply below_alloc | apply pw_below_drewN | apply below_drew1) | exact HB.out)⟩

/-! ### stanchionref19_Serial: function 19 -/
set_option maxHeartbeats 8000000 in
set_option maxRecDepth 100000 in
theorem stanchionref19_Serial.calls (k : Nat) (P0_ : Nat → Prop) (A0 : Option Addr) (c0 : Nat) (l0 : List (S59)) (A1 : Option Addr) (c1 : Nat) (l1 : List (S46)) (r1 : List (S59)) (r2 : Int) (w : World) (hs0 : Kd.V k59 59 w w.heap.size (fun k_ => P0_ k_) (.slice A0 l0.length c0) l0) (hr1 : Kd.C k46 w A1 l1.length l1) (hc1 : l1.length ≤ c1) (h : stanchionref19_Serial.f k l0 l1 = some (r1, r2)) :
    Calls Try.prog 19 #[.slice A0 l0.length c0, .slice A1 l1.length c1] w fun e w' => ∃ v0_ : Value, e = .returned (.tuple #[v0_, .int .i64 r2]) ∧ Kd.V k59 59 w' w.heap.size (fun k_ => (P0_ k_ ∨ w.heap.size ≤ k_)) v0_ r1 ∧ Below w.heap.size w w' := by
  have HO0 := Aside0.mk (show Kd.V k59 59 w w.heap.size (fun k_ => (P0_ k_ ∨ w.heap.size ≤ k_)) (.slice A0 l0.length c0) l0 from Kd.V_mono hs0 (fun k_ hk => .inl hk))
  have HR1 := Aside0.mk hr1
  have HC1 := Aside0.mk hc1
  clear hr1 hc1
  have HB := Aside0.mk (Below.refl w.heap.size w)
  have H : (stanchionref19_Serial.l0 k l0 l1 0) = some (r1, r2) := h
  clear h
  have H' := Aside0.mk H
  clear H
  go_enter Try.func19, Try.ntmps19
  go_wp2
  go_loopg [0, 6] k (fun kq v0 v6 w' => ∃ (x0_1 : List (S59)) (x6_1 : Int), v6 = .int .i64 x6_1 ∧ Aside0 (stanchionref19_Serial.l0 kq x0_1 l1 x6_1 = some (r1, r2)) ∧ Aside0 (kq ≤ k) ∧ Aside0 (Kd.V k59 59 w' w.heap.size (fun k_ => (P0_ k_ ∨ w.heap.size ≤ k_)) v0 x0_1) ∧ Aside0 (Below w.heap.size w w'))
  case atStart => exact ⟨(l0), (0), (by first | rfl | (simp; done) | (simp [*]; done)), H', ⟨Nat.le_refl _⟩, ⟨by (with_reducible repeat (first | apply Kd.V_alloc | apply Kd.V_drewN | apply Kd.V_drew)); exact HO0.out⟩, ⟨by repeat (first | (with_reducible first | exact HB.out | apply below_alloc | apply pw_below_drewN | apply below_drew1) | exact HB.out)⟩⟩
  case round =>
    clear H'
    try clear c1
    try clear p2
    obtain ⟨x0_1, x6_1, rfl, HA, HK1, HO_0, HB⟩ := hrel
    cases gk with
    | zero => exact absurd HA.out (by simp [stanchionref19_Serial.l0])
    | succ k1 =>
      have H := HA.out
      clear HA
      simp only [stanchionref19_Serial.l0] at H
      by_cases c3 : x6_1 < (l1.length : Int)
      · rw [if_pos c3] at H
        have c3b0 : decide (x6_1 < (l1.length : Int)) = true := decide_eq_true c3
        clear c3
        by_cases c4 : 0 ≤ x6_1
        · rw [if_pos c4] at H
          have c4b0 : decide (0 ≤ x6_1) = true := decide_eq_true c4
          clear c4
          replace H := Option.bind_eq_some_iff.mp H
          obtain ⟨⟨t269, t272⟩, A50, H⟩ := H
          replace H : (if t272 = true then ((stanchionref05_Apply.f k1 x0_1 t269).bind fun t273 => (stanchionref19_Serial.l0 k1 t273 l1 (wrap64 (x6_1 + 1)))) else (some (x0_1, x6_1))) = some (r1, r2) := H
          have A5 := Aside0.mk A50
          clear A50
          by_cases c6 : t272 = true
          · subst c6
            have H1 : ((stanchionref05_Apply.f k1 x0_1 t269).bind fun t273 => (stanchionref19_Serial.l0 k1 t273 l1 (wrap64 (x6_1 + 1)))) = some (r1, r2) := by rw [if_pos rfl] at H; exact H
            clear H
            have H := H1
            clear H1
            replace H := Option.bind_eq_some_iff.mp H
            obtain ⟨t273, A70, H⟩ := H
            replace H : (stanchionref19_Serial.l0 k1 t273 l1 (wrap64 (x6_1 + 1))) = some (r1, r2) := H
            have A7 := Aside0.mk A70
            clear A70
            have H' := Aside0.mk H
            clear H
            have p268 : 0 ≤ (x6_1 : Int) := of_decide_eq_true (by first | (with_reducible assumption) | assumption)
            have q268 : x6_1 < (l1.length : Int) := of_decide_eq_true (by first | (with_reducible assumption) | assumption)
            obtain ⟨ad268, A268_1, c268_1, e268, hx268_0, hx268_1, hl268_1, hi268_1⟩ := at_T46 HR1.out x6_1 p268 q268
            cases e268
            replace hx268_0 := (HB.out.cell (World.block_lt_of_cell? w _ hx268_0)).trans hx268_0
            replace hx268_1 := (HB.out.cell (World.block_lt_of_cell? w _ hx268_1)).trans hx268_1
            have HR268_1 := Aside0.mk hi268_1
            have HC268_1 := Aside0.mk hl268_1
            clear hi268_1 hl268_1
            replace p268 := eq_true p268
            replace q268 := eq_true q268
            obtain ⟨Ao8, co8, eo8⟩ := Kd.V_slice HO_0.out
            subst eo8
            go_wp2_with (first | ((with_reducible refine gate_callee (f := 14) rfl ?_); refine goesL_ (some 22) rfl rfl Try.func14 (by kernel_rfl) rfl #[.slice Ao8 x0_1.length co8, .slice A268_1 ((rd_T46 l1 x6_1).f1).length c268_1] rfl (by (try simp only [List.map_toArray, List.map_cons, List.map_nil]); first | done | rfl | (simp only [List.length_drop, List.length_take]; rfl)) ?_; (with_reducible refine (stanchionref19_One.calls k1 _ _ x0_1 _ _ ((rd_T46 l1 x6_1).f1) t269 true _ ?side1 ?side2 ?side3 ?side4 A5.out).mono ?_); (case side1 => repeat (first | exact (Kd.V_reads' HO_0.out).2.2 | (with_reducible refine Kd.C_alloc ?_ _) | (with_reducible refine Kd.C_drewN ?_ _) | (with_reducible refine Kd.C_drew ?_))); (case side2 => exact (Kd.V_reads' HO_0.out).2.1); (case side3 => repeat (first | exact (Kd.C_below HR268_1.out HB.out) | (with_reducible refine Kd.C_alloc ?_ _) | (with_reducible refine Kd.C_drewN ?_ _) | (with_reducible refine Kd.C_drew ?_))); (case side4 => exact HC268_1.out); rintro e w9 ⟨v270, rfl, ho0, hb⟩; refine ⟨_, rfl, ?_⟩; have n0_ := Aside0.mk (Kd.V_below (by (with_reducible repeat (first | apply Kd.V_alloc | apply Kd.V_drewN | apply Kd.V_drew)); exact HO_0.out) hb); have n1_ := Aside0.mk (Kd.V_lower (Kd.V_mono (ok' := fun k_ => (P0_ k_ ∨ w.heap.size ≤ k_)) ho0 (fun k_ hk_ => (.inr (Nat.le_trans (below_size (by repeat (first | (with_reducible first | exact HB.out | apply below_alloc | apply pw_below_drewN | apply below_drew1) | exact HB.out))) hk_)))) (below_size (by repeat (first | (with_reducible first | exact HB.out | apply below_alloc | apply pw_below_drewN | apply below_drew1) | exact HB.out)))); have n2_ := Aside0.mk (below_step (by repeat (first | (with_reducible first | exact HB.out | apply below_alloc | apply pw_below_drewN | apply below_drew1) | exact HB.out)) hb); clear HO_0; clear HB; have HO_0 := n0_; have HO271 := n1_; have HB := n2_; clear n0_ n1_ n2_; (try clear hb); (try clear hb2); (try clear hk); (try clear hi); (try clear ho0); obtain ⟨Ao10, co10, eo10⟩ := Kd.V_slice HO271.out; subst eo10) | ((with_reducible refine gate_callee (f := 31) rfl ?_); refine goesL_ (some 31) rfl rfl Try.func31 (by kernel_rfl) rfl #[.slice Ao8 x0_1.length co8, .slice Ao10 t269.length co10] rfl (by (try simp only [List.map_toArray, List.map_cons, List.map_nil]); first | done | rfl | (simp only [List.length_drop, List.length_take]; rfl)) ?_; (with_reducible refine (stanchionref05_Apply.calls k1 _ _ x0_1 _ _ t269 t273 _ ?side1 ?side2 ?side3 ?side4 A7.out).mono ?_); (case side1 => repeat (first | exact (Kd.V_reads' HO_0.out).2.2 | (with_reducible refine Kd.C_alloc ?_ _) | (with_reducible refine Kd.C_drewN ?_ _) | (with_reducible refine Kd.C_drew ?_))); (case side2 => exact (Kd.V_reads' HO_0.out).2.1); (case side3 => repeat (first | exact (Kd.V_reads' HO271.out).2.2 | (with_reducible refine Kd.C_alloc ?_ _) | (with_reducible refine Kd.C_drewN ?_ _) | (with_reducible refine Kd.C_drew ?_))); (case side4 => exact (Kd.V_reads' HO271.out).2.1); rintro e w11 ⟨v274, rfl, ho0, hb⟩; refine ⟨_, rfl, ?_⟩; have n0_ := Aside0.mk (Kd.V_elder' (by (with_reducible repeat (first | apply Kd.V_alloc | apply Kd.V_drewN | apply Kd.V_drew)); exact HO_0.out) (Kd.R_base ho0) hb); have n1_ := Aside0.mk (Kd.V_elder' (by (with_reducible repeat (first | apply Kd.V_alloc | apply Kd.V_drewN | apply Kd.V_drew)); exact HO271.out) (Kd.R_base ho0) hb); have n2_ := Aside0.mk (Kd.R_lower (Kd.R_newM (M := fun k_ => (w.heap.size ≤ k_)) ho0 (below_size (by repeat (first | (with_reducible first | exact HB.out | apply below_alloc | apply pw_below_drewN | apply below_drew1) | exact HB.out))) (fun k_ h_ => h_)) (below_size (by repeat (first | (with_reducible first | exact HB.out | apply below_alloc | apply pw_below_drewN | apply below_drew1) | exact HB.out)))); have n3_ := Aside0.mk (below_step (by repeat (first | (with_reducible first | exact HB.out | apply below_alloc | apply pw_below_drewN | apply below_drew1) | exact HB.out)) hb); clear HO_0; clear HO271; clear HB; have HO_0 := n0_; have HO271 := n1_; have HO275 := n2_; have HB := n3_; clear n0_ n1_ n2_ n3_; (try clear hb); (try clear hb2); (try clear hk); (try clear hi); (try clear ho0)))
            go_roundg k1
            case measure => have := HK1.out; omega
            case rel => exact ⟨(t273), (wrap64 (x6_1 + 1)), (by first | rfl | (simp; done) | (simp [*]; done)), H', ⟨by have := HK1.out; omega⟩, ⟨Kd.V_mono (Kd.R_V (by (with_reducible repeat (first | apply Kd.R_alloc | apply Kd.R_drewN | apply Kd.R_drew)); exact Kd.R_mono HO275.out (fun _ hk => hk.1))) (fun k_ hk => by first | exact ⟨(.inr (hk.1)), hk.2⟩ | exact (.inr (hk)))⟩, ⟨by repeat (first | (with_reducible first | exact HB.out | apply below_alloc | apply pw_below_drewN | apply below_drew1) | exact HB.out)⟩⟩
          · replace c6 := Bool.eq_false_iff.mpr c6
            subst c6
            have H1 : (some (x0_1, x6_1)) = some (r1, r2) := by rw [if_neg (show ¬ (false = true) by decide)] at H; exact H
            clear H
            have H := H1
            clear H1
            simp only [Option.some.injEq, Prod.mk.injEq] at H
            obtain ⟨rfl, rfl⟩ := H
            have p268 : 0 ≤ (x6_1 : Int) := of_decide_eq_true (by first | (with_reducible assumption) | assumption)
            have q268 : x6_1 < (l1.length : Int) := of_decide_eq_true (by first | (with_reducible assumption) | assumption)
            obtain ⟨ad268, A268_1, c268_1, e268, hx268_0, hx268_1, hl268_1, hi268_1⟩ := at_T46 HR1.out x6_1 p268 q268
            cases e268
            replace hx268_0 := (HB.out.cell (World.block_lt_of_cell? w _ hx268_0)).trans hx268_0
            replace hx268_1 := (HB.out.cell (World.block_lt_of_cell? w _ hx268_1)).trans hx268_1
            have HR268_1 := Aside0.mk hi268_1
            have HC268_1 := Aside0.mk hl268_1
            clear hi268_1 hl268_1
            replace p268 := eq_true p268
            replace q268 := eq_true q268
            obtain ⟨Ao12, co12, eo12⟩ := Kd.V_slice HO_0.out
            subst eo12
            go_wp2_with (first | ((with_reducible refine gate_callee (f := 14) rfl ?_); refine goesL_ (some 22) rfl rfl Try.func14 (by kernel_rfl) rfl #[.slice Ao12 x0_1.length co12, .slice A268_1 ((rd_T46 l1 x6_1).f1).length c268_1] rfl (by (try simp only [List.map_toArray, List.map_cons, List.map_nil]); first | done | rfl | (simp only [List.length_drop, List.length_take]; rfl)) ?_; (with_reducible refine (stanchionref19_One.calls k1 _ _ x0_1 _ _ ((rd_T46 l1 x6_1).f1) t269 false _ ?side1 ?side2 ?side3 ?side4 A5.out).mono ?_); (case side1 => repeat (first | exact (Kd.V_reads' HO_0.out).2.2 | (with_reducible refine Kd.C_alloc ?_ _) | (with_reducible refine Kd.C_drewN ?_ _) | (with_reducible refine Kd.C_drew ?_))); (case side2 => exact (Kd.V_reads' HO_0.out).2.1); (case side3 => repeat (first | exact (Kd.C_below HR268_1.out HB.out) | (with_reducible refine Kd.C_alloc ?_ _) | (with_reducible refine Kd.C_drewN ?_ _) | (with_reducible refine Kd.C_drew ?_))); (case side4 => exact HC268_1.out); rintro e w13 ⟨v270, rfl, ho0, hb⟩; refine ⟨_, rfl, ?_⟩; have n0_ := Aside0.mk (Kd.V_below (by (with_reducible repeat (first | apply Kd.V_alloc | apply Kd.V_drewN | apply Kd.V_drew)); exact HO_0.out) hb); have n1_ := Aside0.mk (Kd.V_lower (Kd.V_mono (ok' := fun k_ => (P0_ k_ ∨ w.heap.size ≤ k_)) ho0 (fun k_ hk_ => (.inr (Nat.le_trans (below_size (by repeat (first | (with_reducible first | exact HB.out | apply below_alloc | apply pw_below_drewN | apply below_drew1) | exact HB.out))) hk_)))) (below_size (by repeat (first | (with_reducible first | exact HB.out | apply below_alloc | apply pw_below_drewN | apply below_drew1) | exact HB.out)))); have n2_ := Aside0.mk (below_step (by repeat (first | (with_reducible first | exact HB.out | apply below_alloc | apply pw_below_drewN | apply below_drew1) | exact HB.out)) hb); clear HO_0; clear HB; have HO_0 := n0_; have HO271 := n1_; have HB := n2_; clear n0_ n1_ n2_; (try clear hb); (try clear hb2); (try clear hk); (try clear hi); (try clear ho0)))
            go_ret2
            exact ⟨_, by first | rfl | (simp [errW_none, errW_some] <;> rfl) | (simp [*, errW_none, errW_some] <;> rfl), by (with_reducible repeat (first | apply Kd.V_alloc | apply Kd.V_drewN | apply Kd.V_drew)); exact HO_0.out, by repeat (first | (with_reducible first | exact HB.out | apply below_alloc | apply pw_below_drewN | apply below_drew1) | exact HB.out)⟩
        · rw [if_neg c4] at H
          exact absurd H (by simp)
      · rw [if_neg c3] at H
        have c3b0 : decide (x6_1 < (l1.length : Int)) = false := decide_eq_false c3
        clear c3
        simp only [Option.some.injEq, Prod.mk.injEq] at H
        obtain ⟨rfl, rfl⟩ := H
        go_wp2
        go_ret2
        exact ⟨_, by first | rfl | (simp [errW_none, errW_some] <;> rfl) | (simp [*, errW_none, errW_some] <;> rfl), by (with_reducible repeat (first | apply Kd.V_alloc | apply Kd.V_drewN | apply Kd.V_drew)); exact HO_0.out, by repeat (first | (with_reducible first | exact HB.out | apply below_alloc | apply pw_below_drewN | apply below_drew1) | exact HB.out)⟩

end Go.Proofs.Ytlacmlceedkfoaa.PE
