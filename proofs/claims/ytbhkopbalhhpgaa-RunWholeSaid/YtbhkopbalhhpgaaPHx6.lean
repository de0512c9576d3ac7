-- Made by a program of this workplace out of the translation (wip/tools in the repo). Not trusted: Lean checks it.
import Derived.Test.YtbhkopbalhhpgaaPHx0
import Derived.Test.YtbhkopbalhhpgaaCb
import Derived.Test.YtbhkopbalhhpgaaPHx1
namespace Go.Proofs.Ytbhkopbalhhpgaa.PH
open Go.RowKit Go.Proofs.YtbhkopbalhhpgaaW.PrintWords Go.Proofs.YtbhkopbalhhpgaaW.PrintLast Go.Proofs.YtbhkopbalhhpgaaW.PrintMore Go.Proofs.Ytbhkopbalhhpgaa
attribute [local go_sem] max2_int min2_int max_two min_two max_three min_three max_four min_four   -- for this text's walks alone
set_option linter.unusedVariables false
set_option linter.unusedSimpArgs false

/-! ### stanchionref03_Arm: function 15 -/
set_option maxHeartbeats 8000000 in
set_option maxRecDepth 100000 in
theorem stanchionref03_Arm.calls (P0_0_ : Nat → Prop) (A0_0 : Option Addr) (c0_0 : Nat) (l0_0 : List (S38)) (a0_1 : Int) (a0_2 : Int) (a0_3 : Bool) (a1 : Int) (r1 : List (S38)) (r2 : Int) (r3 : Int) (r4 : Bool) (w : World) (hs0_0 : Kd.V k38 38 w w.heap.size (fun k_ => P0_0_ k_) (.slice A0_0 l0_0.length c0_0) l0_0) (h : stanchionref03_Arm.f l0_0 a0_1 a0_2 a0_3 a1 = some (r1, r2, r3, r4)) :
    Calls Try.prog 15 #[.agg #[.slice A0_0 l0_0.length c0_0, .int .i64 a0_1, .int .i64 a0_2, .bool a0_3], .int .i64 a1] w fun e w' => ∃ v0_ : Value, e = .returned (.agg #[v0_, .int .i64 r2, .int .i64 r3, .bool r4]) ∧ Kd.V k38 38 w' w.heap.size (fun k_ => (P0_0_ k_ ∨ w.heap.size ≤ k_)) v0_ r1 ∧ Below w.heap.size w w' := by
  have hu33 := Try.underlying33
  have HO0_0 := Aside0.mk (show Kd.V k38 38 w w.heap.size (fun k_ => (P0_0_ k_ ∨ w.heap.size ≤ k_)) (.slice A0_0 l0_0.length c0_0) l0_0 from Kd.V_mono hs0_0 (fun k_ hk => .inl hk))
  have HB := Aside0.mk (Below.refl w.heap.size w)
  have H : (if a1 < 0 then (some (l0_0, a0_1, (-1), a0_3)) else (some (l0_0, a0_1, a1, a0_3))) = some (r1, r2, r3, r4) := h
  clear h
  by_cases c3 : a1 < 0
  · rw [if_pos c3] at H
    have c3b0 : decide (a1 < 0) = true := decide_eq_true c3
    clear c3
    simp only [Option.some.injEq, Prod.mk.injEq] at H
    obtain ⟨rfl, rfl, rfl, rfl⟩ := H
    go_enter Try.func15, Try.ntmps15
    go_wp2_with (first | ((with_reducible refine gate_dst (N := 2) rfl ?_); refine box_event ?hg (N := 2) ?hd (cs := #[.slice A0_0 l0_0.length c0_0, .int .i64 a0_1, .int .i64 a0_2, .bool a0_3]) (t := 33) ?hr ?_; (case hd => rfl); (case hg => rfl); (case hr => first | (go_simp; done) | (go_simp; rfl)); intro gb176 hg w4 hbox hb; obtain ⟨n_, GE176⟩ := Cb.bx (by repeat (first | (with_reducible first | exact HB.out | apply below_alloc | apply pw_below_drewN | apply below_drew1) | exact HB.out)) hg hb; have GW176 := GE176; have BK176 := Aside0.mk (hbox); replace HO0_0 := Aside0.mk (Kd.V_below (Kd.V_elderB (by (with_reducible repeat (first | apply Kd.V_alloc | apply Kd.V_drewN | apply Kd.V_drew)); exact HO0_0.out) gb176 (Nat.le_of_eq hg.symm)) hb); replace HB := n_; clear n_; clear hb hbox hg) | ((with_reducible refine gate_dst (N := 4) rfl ?_); refine box_event ?hg (N := 4) ?hd (cs := #[.slice none 0 0, .int .i64 0, .int .i64 0, .bool false]) (t := 33) ?hr ?_; (case hd => rfl); (case hg => rfl); (case hr => first | (go_simp; done) | (go_simp; rfl)); intro gb177 hg w5 hbox hb; obtain ⟨n_, GE177⟩ := Cb.bx (by repeat (first | (with_reducible first | exact HB.out | apply below_alloc | apply pw_below_drewN | apply below_drew1 | refine below_set ?_ GE176.out) | exact HB.out)) hg hb; have GW177 := GE177; obtain ⟨NB176_177, NB177_176⟩ := Cb.nb hg BK176.out; have BK177 := Aside0.mk (hbox); replace HO0_0 := Aside0.mk (Kd.V_below (Kd.V_elderB (by (with_reducible repeat (first | apply Kd.V_alloc | apply Kd.V_drewN | apply Kd.V_drew)); exact HO0_0.out) gb177 (Nat.le_of_eq hg.symm)) hb); replace BK176 := Aside0.mk (blk_below BK176.out hb); replace HB := n_; clear n_; clear hb hbox hg; have hnb6 := NB176_177.out; have hnc6 := NB177_176.out; obtain ⟨hcz7_0, hcz7_1, hcz7_2, hcz7_3⟩ := Cb.c4 BK176.out; obtain ⟨hfz7_0, hfz7_1, hfz7_2, hfz7_3⟩ := Cb.f4 BK176.out; obtain ⟨hcz8_0, hcz8_1, hcz8_2, hcz8_3⟩ := Cb.c4 BK177.out; obtain ⟨hfz8_0, hfz8_1, hfz8_2, hfz8_3⟩ := Cb.f4 BK177.out) | ((with_reducible refine gate_store (t := 33) (p := 4) rfl ?_); refine store_event (t := 33) (p := 4) (v := ?vo_w9) (w1 := ((((((w5.setCell ⟨gb176, 2, none⟩ (.int .i64 a1)).setCell ⟨gb176, 2, none⟩ (.int .i64 (-1))).setCell ⟨gb177, 0, none⟩ (.slice A0_0 l0_0.length c0_0)).setCell ⟨gb177, 1, none⟩ (.int .i64 a0_1)).setCell ⟨gb177, 2, none⟩ (.int .i64 (-1))).setCell ⟨gb177, 3, none⟩ (.bool a0_3))) ?hg ?ho ?hn ?hr ?_; (case ho => rfl); (case hg => rfl); (case hn => rfl); (case hr => first | (go_simp; done) | (go_simp; rfl)); intro w9 hw; have n0_ : Aside0 (Kd.V k38 38 w9 w.heap.size (fun k_ => (P0_0_ k_ ∨ w.heap.size ≤ k_) ∧ k_ ≠ gb176 ∧ k_ ≠ gb177) (.slice A0_0 l0_0.length c0_0) l0_0) := ⟨(by rw [hw]; exact (by exact Kd.V_mono (Kd.V_far (p := ⟨gb177, 3, none⟩) (Kd.V_far (p := ⟨gb177, 2, none⟩) (Kd.V_far (p := ⟨gb177, 1, none⟩) (Kd.V_far (p := ⟨gb177, 0, none⟩) (Kd.V_far (p := ⟨gb176, 2, none⟩) (Kd.V_far (p := ⟨gb176, 2, none⟩) (Kd.V_mono (Kd.V_mono HO0_0.out (fun k_ hk => (⟨hk, hk.1.2⟩ : _ ∧ k_ ≠ gb176))) (fun k_ hk => (⟨hk, hk.1.2⟩ : _ ∧ k_ ≠ gb177))) (fun _ hk => hk.1.2) (.int .i64 a1)) (fun _ hk => hk.1.2) (.int .i64 (-1))) (fun _ hk => hk.2) (.slice A0_0 l0_0.length c0_0)) (fun _ hk => hk.2) (.int .i64 a0_1)) (fun _ hk => hk.2) (.int .i64 (-1))) (fun _ hk => hk.2) (.bool a0_3)) (fun _ hk => ⟨hk.1.1.1.1, ⟨hk.1.1.1.2, hk.1.1.2⟩⟩)))⟩; have n1_ : Aside0 (w9.heap[gb176]? = some (.cells #[.slice A0_0 l0_0.length c0_0, .int .i64 a0_1, .int .i64 (-1), .bool a0_3] 33 (0, 0))) := ⟨(by rw [hw]; exact (by refine blk_far ?_ NB176_177.out _; refine blk_far ?_ NB176_177.out _; refine blk_far ?_ NB176_177.out _; refine blk_far ?_ NB176_177.out _; refine blk_put (cs := #[.slice A0_0 l0_0.length c0_0, .int .i64 a0_1, .int .i64 a1, .bool a0_3]) ?_ 2 _ rfl; refine blk_put (cs := #[.slice A0_0 l0_0.length c0_0, .int .i64 a0_1, .int .i64 a0_2, .bool a0_3]) ?_ 2 _ rfl; exact BK176.out))⟩; have n2_ : Aside0 (w9.heap[gb177]? = some (.cells #[.slice A0_0 l0_0.length c0_0, .int .i64 a0_1, .int .i64 (-1), .bool a0_3] 33 (0, 0))) := ⟨(by rw [hw]; exact (by refine blk_put (cs := #[.slice A0_0 l0_0.length c0_0, .int .i64 a0_1, .int .i64 (-1), .bool false]) ?_ 3 _ rfl; refine blk_put (cs := #[.slice A0_0 l0_0.length c0_0, .int .i64 a0_1, .int .i64 0, .bool false]) ?_ 2 _ rfl; refine blk_put (cs := #[.slice A0_0 l0_0.length c0_0, .int .i64 0, .int .i64 0, .bool false]) ?_ 1 _ rfl; refine blk_put (cs := #[.slice none 0 0, .int .i64 0, .int .i64 0, .bool false]) ?_ 0 _ rfl; refine blk_far ?_ NB177_176.out _; refine blk_far ?_ NB177_176.out _; exact BK177.out))⟩; have n3_ : Aside0 (Below w.heap.size w w9) := ⟨(by rw [hw]; exact (by repeat (first | exact HB.out | refine below_set ?_ GE176.out | refine below_set ?_ GE177.out)))⟩; clear hw; clear HO0_0; clear BK176; clear BK177; clear HB; have HO0_0 := n0_; have BK176 := n1_; have BK177 := n2_; have HB := n3_; clear n0_ n1_ n2_ n3_))
    refine bodyPost_ret (results_cell_row rfl _ _ gb177 33 #[.slice A0_0 l0_0.length c0_0, .int .i64 a0_1, .int .i64 (-1), .bool a0_3] (0, 0) _ rfl (by (with_reducible repeat (first | refine blk_drewN ?_ _ | refine blk_drew ?_ | refine blk_alloc ?_ _)); exact BK177.out) Try.underlying33 rfl (by kernel_rfl)) rfl ?_
    exact ⟨_, by first | rfl | (simp [errW_none, errW_some] <;> rfl) | (simp [*, errW_none, errW_some] <;> rfl), by (with_reducible repeat (first | apply Kd.V_alloc | apply Kd.V_drewN | apply Kd.V_drew)); exact Kd.V_mono HO0_0.out (fun _ hk => hk.1), by repeat (first | (with_reducible first | exact HB.out | apply below_alloc | apply pw_below_drewN | apply below_drew1 | refine below_set ?_ GE176.out | refine below_set ?_ GE177.out) | exact HB.out)⟩
  · rw [if_neg c3] at H
    have c3b0 : decide (a1 < 0) = false := decide_eq_false c3
    clear c3
    simp only [Option.some.injEq, Prod.mk.injEq] at H
    obtain ⟨rfl, rfl, rfl, rfl⟩ := H
    go_enter Try.func15, Try.ntmps15
    go_wp2_with (first | ((with_reducible refine gate_dst (N := 2) rfl ?_); refine box_event ?hg (N := 2) ?hd (cs := #[.slice A0_0 l0_0.length c0_0, .int .i64 a0_1, .int .i64 a0_2, .bool a0_3]) (t := 33) ?hr ?_; (case hd => rfl); (case hg => rfl); (case hr => first | (go_simp; done) | (go_simp; rfl)); intro gb176 hg w10 hbox hb; obtain ⟨n_, GE176⟩ := Cb.bx (by repeat (first | (with_reducible first | exact HB.out | apply below_alloc | apply pw_below_drewN | apply below_drew1) | exact HB.out)) hg hb; have GW176 := GE176; have BK176 := Aside0.mk (hbox); replace HO0_0 := Aside0.mk (Kd.V_below (Kd.V_elderB (by (with_reducible repeat (first | apply Kd.V_alloc | apply Kd.V_drewN | apply Kd.V_drew)); exact HO0_0.out) gb176 (Nat.le_of_eq hg.symm)) hb); replace HB := n_; clear n_; clear hb hbox hg) | ((with_reducible refine gate_dst (N := 4) rfl ?_); refine box_event ?hg (N := 4) ?hd (cs := #[.slice none 0 0, .int .i64 0, .int .i64 0, .bool false]) (t := 33) ?hr ?_; (case hd => rfl); (case hg => rfl); (case hr => first | (go_simp; done) | (go_simp; rfl)); intro gb177 hg w11 hbox hb; obtain ⟨n_, GE177⟩ := Cb.bx (by repeat (first | (with_reducible first | exact HB.out | apply below_alloc | apply pw_below_drewN | apply below_drew1 | refine below_set ?_ GE176.out) | exact HB.out)) hg hb; have GW177 := GE177; obtain ⟨NB176_177, NB177_176⟩ := Cb.nb hg BK176.out; have BK177 := Aside0.mk (hbox); replace HO0_0 := Aside0.mk (Kd.V_below (Kd.V_elderB (by (with_reducible repeat (first | apply Kd.V_alloc | apply Kd.V_drewN | apply Kd.V_drew)); exact HO0_0.out) gb177 (Nat.le_of_eq hg.symm)) hb); replace BK176 := Aside0.mk (blk_below BK176.out hb); replace HB := n_; clear n_; clear hb hbox hg; have hnb12 := NB176_177.out; have hnc12 := NB177_176.out; obtain ⟨hcz13_0, hcz13_1, hcz13_2, hcz13_3⟩ := Cb.c4 BK176.out; obtain ⟨hfz13_0, hfz13_1, hfz13_2, hfz13_3⟩ := Cb.f4 BK176.out; obtain ⟨hcz14_0, hcz14_1, hcz14_2, hcz14_3⟩ := Cb.c4 BK177.out; obtain ⟨hfz14_0, hfz14_1, hfz14_2, hfz14_3⟩ := Cb.f4 BK177.out) | ((with_reducible refine gate_store (t := 33) (p := 4) rfl ?_); refine store_event (t := 33) (p := 4) (v := ?vo_w15) (w1 := (((((w11.setCell ⟨gb176, 2, none⟩ (.int .i64 a1)).setCell ⟨gb177, 0, none⟩ (.slice A0_0 l0_0.length c0_0)).setCell ⟨gb177, 1, none⟩ (.int .i64 a0_1)).setCell ⟨gb177, 2, none⟩ (.int .i64 a1)).setCell ⟨gb177, 3, none⟩ (.bool a0_3))) ?hg ?ho ?hn ?hr ?_; (case ho => rfl); (case hg => rfl); (case hn => rfl); (case hr => first | (go_simp; done) | (go_simp; rfl)); intro w15 hw; have n0_ : Aside0 (Kd.V k38 38 w15 w.heap.size (fun k_ => (P0_0_ k_ ∨ w.heap.size ≤ k_) ∧ k_ ≠ gb176 ∧ k_ ≠ gb177) (.slice A0_0 l0_0.length c0_0) l0_0) := ⟨(by rw [hw]; exact (by exact Kd.V_mono (Kd.V_far (p := ⟨gb177, 3, none⟩) (Kd.V_far (p := ⟨gb177, 2, none⟩) (Kd.V_far (p := ⟨gb177, 1, none⟩) (Kd.V_far (p := ⟨gb177, 0, none⟩) (Kd.V_far (p := ⟨gb176, 2, none⟩) (Kd.V_mono (Kd.V_mono HO0_0.out (fun k_ hk => (⟨hk, hk.1.2⟩ : _ ∧ k_ ≠ gb176))) (fun k_ hk => (⟨hk, hk.1.2⟩ : _ ∧ k_ ≠ gb177))) (fun _ hk => hk.1.2) (.int .i64 a1)) (fun _ hk => hk.2) (.slice A0_0 l0_0.length c0_0)) (fun _ hk => hk.2) (.int .i64 a0_1)) (fun _ hk => hk.2) (.int .i64 a1)) (fun _ hk => hk.2) (.bool a0_3)) (fun _ hk => ⟨hk.1.1.1.1, ⟨hk.1.1.1.2, hk.1.1.2⟩⟩)))⟩; have n1_ : Aside0 (w15.heap[gb176]? = some (.cells #[.slice A0_0 l0_0.length c0_0, .int .i64 a0_1, .int .i64 a1, .bool a0_3] 33 (0, 0))) := ⟨(by rw [hw]; exact (by refine blk_far ?_ NB176_177.out _; refine blk_far ?_ NB176_177.out _; refine blk_far ?_ NB176_177.out _; refine blk_far ?_ NB176_177.out _; refine blk_put (cs := #[.slice A0_0 l0_0.length c0_0, .int .i64 a0_1, .int .i64 a0_2, .bool a0_3]) ?_ 2 _ rfl; exact BK176.out))⟩; have n2_ : Aside0 (w15.heap[gb177]? = some (.cells #[.slice A0_0 l0_0.length c0_0, .int .i64 a0_1, .int .i64 a1, .bool a0_3] 33 (0, 0))) := ⟨(by rw [hw]; exact (by refine blk_put (cs := #[.slice A0_0 l0_0.length c0_0, .int .i64 a0_1, .int .i64 a1, .bool false]) ?_ 3 _ rfl; refine blk_put (cs := #[.slice A0_0 l0_0.length c0_0, .int .i64 a0_1, .int .i64 0, .bool false]) ?_ 2 _ rfl; refine blk_put (cs := #[.slice A0_0 l0_0.length c0_0, .int .i64 0, .int .i64 0, .bool false]) ?_ 1 _ rfl; refine blk_put (cs := #[.slice none 0 0, .int .i64 0, .int .i64 0, .bool false]) ?_ 0 _ rfl; refine blk_far ?_ NB177_176.out _; exact BK177.out))⟩; have n3_ : Aside0 (Below w.heap.size w w15) := ⟨(by rw [hw]; exact (by repeat (first | exact HB.out | refine below_set ?_ GE176.out | refine below_set ?_ GE177.out)))⟩; clear hw; clear HO0_0; clear BK176; clear BK177; clear HB; have HO0_0 := n0_; have BK176 := n1_; have BK177 := n2_; have HB := n3_; clear n0_ n1_ n2_ n3_))
    refine bodyPost_ret (results_cell_row rfl _ _ gb177 33 #[.slice A0_0 l0_0.length c0_0, .int .i64 a0_1, .int .i64 a1, .bool a0_3] (0, 0) _ rfl (by (with_reducible repeat (first | refine blk_drewN ?_ _ | refine blk_drew ?_ | refine blk_alloc ?_ _)); exact BK177.out) Try.underlying33 rfl (by kernel_rfl)) rfl ?_
    exact ⟨_, by first | rfl | (simp [errW_none, errW_some] <;> rfl) | (simp [*, errW_none, errW_some] <;> rfl), by (with_reducible repeat (first | apply Kd.V_alloc | apply Kd.V_drewN | apply Kd.V_drew)); exact Kd.V_mono HO0_0.out (fun _ hk => hk.1), by repeat (first | (with_reducible first | exact HB.out | apply below_alloc | apply pw_below_drewN | apply below_drew1 | refine below_set ?_ GE176.out | refine below_set ?_ GE177.out) | exact HB.out)⟩

/-! ### stanchionref03_at: function 37 -/
set_option maxHeartbeats 8000000 in
set_option maxRecDepth 100000 in
theorem stanchionref03_at.calls (k : Nat) (A0_0 : Option Addr) (c0_0 : Nat) (l0_0 : List (S38)) (a0_1 : Int) (a0_2 : Int) (a0_3 : Bool) (a1 : ByteArray) (r : Int) (w : World) (hr0_0 : Kd.C k38 w A0_0 l0_0.length l0_0) (hc0_0 : l0_0.length ≤ c0_0) (h : stanchionref03_at.f k l0_0 a0_1 a0_2 a0_3 a1 = some r) :
    Calls Try.prog 37 #[.agg #[.slice A0_0 l0_0.length c0_0, .int .i64 a0_1, .int .i64 a0_2, .bool a0_3], .string a1] w fun e w' => e = .returned (.int .i64 r) ∧ Below w.heap.size w w' := by
  have hu33 := Try.underlying33
  have HR0_0 := Aside0.mk hr0_0
  have HC0_0 := Aside0.mk hc0_0
  clear hr0_0 hc0_0
  have HB := Aside0.mk (Below.refl w.heap.size w)
  have H : (stanchionref03_at.l0 k a1 0 l0_0 a0_1 a0_2 a0_3) = some r := h
  clear h
  have H' := Aside0.mk H
  clear H
  go_enter Try.func37, Try.ntmps37
  go_wp2_with (first | ((with_reducible refine gate_dst (N := 2) rfl ?_); refine box_event ?hg (N := 2) ?hd (cs := #[.slice A0_0 l0_0.length c0_0, .int .i64 a0_1, .int .i64 a0_2, .bool a0_3]) (t := 33) ?hr ?_; (case hd => rfl); (case hg => rfl); (case hr => first | (go_simp; done) | (go_simp; rfl)); intro gb178 hg w3 hbox hb; obtain ⟨n_, GE178⟩ := Cb.bx (by repeat (first | (with_reducible first | exact HB.out | apply below_alloc | apply pw_below_drewN | apply below_drew1) | exact HB.out)) hg hb; have GW178 := GE178; have BK178 := Aside0.mk (hbox); replace HB := n_; clear n_; clear hb hbox hg))
  go_loopg [5] k (fun kq v5 w' => ∃ (x5_1 : Int), v5 = .int .i64 x5_1 ∧ Aside0 (stanchionref03_at.l0 kq a1 x5_1 l0_0 a0_1 a0_2 a0_3 = some r) ∧ Aside0 (kq ≤ k) ∧ Aside0 (w'.heap[gb178]? = some (.cells #[(.slice A0_0 l0_0.length c0_0), .int .i64 a0_1, .int .i64 a0_2, .bool a0_3] 33 (0, 0))) ∧ Aside0 (Below w.heap.size w w'))
  case atStart => exact ⟨(0), (by first | rfl | (simp; done) | (simp [*]; done)), H', ⟨Nat.le_refl _⟩, ⟨by (with_reducible repeat (first | refine blk_drewN ?_ _ | refine blk_drew ?_ | refine blk_alloc ?_ _)); exact BK178.out⟩, ⟨by repeat (first | (with_reducible first | exact HB.out | apply below_alloc | apply pw_below_drewN | apply below_drew1 | refine below_set ?_ GE178.out) | exact HB.out)⟩⟩
  case round =>
    clear H'
    try clear p2; try clear c3
    obtain ⟨x5_1, rfl, HA, HK1, BK178, HB⟩ := hrel
    cases gk with
    | zero => exact absurd HA.out (by simp [stanchionref03_at.l0])
    | succ k1 =>
      have H := HA.out
      clear HA
      simp only [stanchionref03_at.l0] at H
      by_cases c4 : x5_1 < (l0_0.length : Int)
      · rw [if_pos c4] at H
        have c4b0 : decide (x5_1 < (l0_0.length : Int)) = true := decide_eq_true c4
        clear c4
        by_cases c5 : 0 ≤ x5_1
        · rw [if_pos c5] at H
          have c5b0 : decide (0 ≤ x5_1) = true := decide_eq_true c5
          clear c5
          by_cases c6 : ((rd_T38 l0_0 x5_1).f0).toList = a1.toList
          · rw [if_pos c6] at H
            have c6b0 : (((rd_T38 l0_0 x5_1).f0).toList == a1.toList) = true := beq_iff_eq.mpr c6
            have c6b1 : (((rd_T38 l0_0 x5_1).f0).toList != a1.toList) = false := bne_eq_false_iff_eq.mpr c6
            clear c6
            obtain rfl := Option.some.inj H
            obtain ⟨hcz7_0, hcz7_1, hcz7_2, hcz7_3⟩ := Cb.c4 BK178.out
            obtain ⟨hfz7_0, hfz7_1, hfz7_2, hfz7_3⟩ := Cb.f4 BK178.out
            have p179 : 0 ≤ (x5_1 : Int) := of_decide_eq_true (by first | (with_reducible assumption) | assumption)
            have q179 : x5_1 < (l0_0.length : Int) := of_decide_eq_true (by first | (with_reducible assumption) | assumption)
            obtain ⟨ad179, e179, hx179_0, hx179_1, hx179_2⟩ := at_T38 HR0_0.out x5_1 p179 q179
            cases e179
            replace hx179_0 := (HB.out.cell (World.block_lt_of_cell? w _ hx179_0)).trans hx179_0
            replace hx179_1 := (HB.out.cell (World.block_lt_of_cell? w _ hx179_1)).trans hx179_1
            replace hx179_2 := (HB.out.cell (World.block_lt_of_cell? w _ hx179_2)).trans hx179_2
            replace p179 := eq_true p179
            replace q179 := eq_true q179
            go_wp2
            go_ret
            exact ⟨by first | rfl | (simp [errW_none, errW_some] <;> rfl) | (simp [*, errW_none, errW_some] <;> rfl), by repeat (first | (with_reducible first | exact HB.out | apply below_alloc | apply pw_below_drewN | apply below_drew1 | refine below_set ?_ GE178.out) | exact HB.out)⟩
          · rw [if_neg c6] at H
            have c6b0 : (((rd_T38 l0_0 x5_1).f0).toList == a1.toList) = false := beq_eq_false_iff_ne.mpr c6
            have c6b1 : (((rd_T38 l0_0 x5_1).f0).toList != a1.toList) = true := bne_iff_ne.mpr c6
            have H' := Aside0.mk H
            clear H
            obtain ⟨hcz8_0, hcz8_1, hcz8_2, hcz8_3⟩ := Cb.c4 BK178.out
            obtain ⟨hfz8_0, hfz8_1, hfz8_2, hfz8_3⟩ := Cb.f4 BK178.out
            have p179 : 0 ≤ (x5_1 : Int) := of_decide_eq_true (by first | (with_reducible assumption) | assumption)
            have q179 : x5_1 < (l0_0.length : Int) := of_decide_eq_true (by first | (with_reducible assumption) | assumption)
            obtain ⟨ad179, e179, hx179_0, hx179_1, hx179_2⟩ := at_T38 HR0_0.out x5_1 p179 q179
            cases e179
            replace hx179_0 := (HB.out.cell (World.block_lt_of_cell? w _ hx179_0)).trans hx179_0
            replace hx179_1 := (HB.out.cell (World.block_lt_of_cell? w _ hx179_1)).trans hx179_1
            replace hx179_2 := (HB.out.cell (World.block_lt_of_cell? w _ hx179_2)).trans hx179_2
            replace p179 := eq_true p179
            replace q179 := eq_true q179
            go_wp2
            go_roundg k1
            case measure => have := HK1.out; omega
            case rel => exact ⟨(wrap64 (x5_1 + 1)), (by first | rfl | (simp; done) | (simp [*]; done)), H', ⟨by have := HK1.out; omega⟩, ⟨by (with_reducible repeat (first | refine blk_drewN ?_ _ | refine blk_drew ?_ | refine blk_alloc ?_ _)); exact BK178.out⟩, ⟨by repeat (first | (with_reducible first | exact HB.out | apply below_alloc | apply pw_below_drewN | apply below_drew1 | refine below_set ?_ GE178.out) | exact HB.out)⟩⟩
        · rw [if_neg c5] at H
          exact absurd H (by simp)
      · rw [if_neg c4] at H
        have c4b0 : decide (x5_1 < (l0_0.length : Int)) = false := decide_eq_false c4
        clear c4
        obtain rfl := Option.some.inj H
        obtain ⟨hcz9_0, hcz9_1, hcz9_2, hcz9_3⟩ := Cb.c4 BK178.out
        obtain ⟨hfz9_0, hfz9_1, hfz9_2, hfz9_3⟩ := Cb.f4 BK178.out
        go_wp2
        go_ret
        exact ⟨by first | rfl | (simp [errW_none, errW_some] <;> rfl) | (simp [*, errW_none, errW_some] <;> rfl), by repeat (first | (with_reducible first | exact HB.out | apply below_alloc | apply pw_below_drewN | apply below_drew1 | refine below_set ?_ GE178.out) | exact HB.out)⟩

/-! ### stanchionref03_Find: function 16 -/
set_option maxHeartbeats 8000000 in
set_option maxRecDepth 100000 in
theorem stanchionref03_Find.calls (k : Nat) (A0_0 : Option Addr) (c0_0 : Nat) (l0_0 : List (S38)) (a0_1 : Int) (a0_2 : Int) (a0_3 : Bool) (a1 : ByteArray) (r1 : ByteArray) (r2 : ByteArray) (r3 : ByteArray) (r4 : Bool) (w : World) (hr0_0 : Kd.C k38 w A0_0 l0_0.length l0_0) (hc0_0 : l0_0.length ≤ c0_0) (h : stanchionref03_Find.f k l0_0 a0_1 a0_2 a0_3 a1 = some (r1, r2, r3, r4)) :
    Calls Try.prog 16 #[.agg #[.slice A0_0 l0_0.length c0_0, .int .i64 a0_1, .int .i64 a0_2, .bool a0_3], .string a1] w fun e w' => e = .returned (.tuple #[.agg #[.string r1, .string r2, .string r3], .bool r4]) ∧ Below w.heap.size w w' := by
  have hu33 := Try.underlying33
  have hu38 := Try.underlying38
  have HR0_0 := Aside0.mk hr0_0
  have HC0_0 := Aside0.mk hc0_0
  clear hr0_0 hc0_0
  have HB := Aside0.mk (Below.refl w.heap.size w)
  have H : ((stanchionref03_at.f k l0_0 a0_1 a0_2 a0_3 a1).bind fun t182 => (if t182 < 0 then (some ((⟨#[]⟩ : ByteArray), (⟨#[]⟩ : ByteArray), (⟨#[]⟩ : ByteArray), false)) else (if 0 ≤ t182 then (if t182 < (l0_0.length : Int) then (some ((rd_T38 l0_0 t182).f0, (rd_T38 l0_0 t182).f1, (rd_T38 l0_0 t182).f2, true)) else (none)) else (none)))) = some (r1, r2, r3, r4) := h
  clear h
  replace H := Option.bind_eq_some_iff.mp H
  obtain ⟨t182, A30, H⟩ := H
  replace H : (if t182 < 0 then (some ((⟨#[]⟩ : ByteArray), (⟨#[]⟩ : ByteArray), (⟨#[]⟩ : ByteArray), false)) else (if 0 ≤ t182 then (if t182 < (l0_0.length : Int) then (some ((rd_T38 l0_0 t182).f0, (rd_T38 l0_0 t182).f1, (rd_T38 l0_0 t182).f2, true)) else (none)) else (none))) = some (r1, r2, r3, r4) := H
  have A3 := Aside0.mk A30
  clear A30
  by_cases c4 : t182 < 0
  · rw [if_pos c4] at H
    have c4b0 : decide (t182 < 0) = true := decide_eq_true c4
    clear c4
    simp only [Option.some.injEq, Prod.mk.injEq] at H
    obtain ⟨rfl, rfl, rfl, rfl⟩ := H
    go_enter Try.func16, Try.ntmps16
    go_wp2_with (first | ((with_reducible refine gate_dst (N := 2) rfl ?_); refine box_event ?hg (N := 2) ?hd (cs := #[.slice A0_0 l0_0.length c0_0, .int .i64 a0_1, .int .i64 a0_2, .bool a0_3]) (t := 33) ?hr ?_; (case hd => rfl); (case hg => rfl); (case hr => first | (go_simp; done) | (go_simp; rfl)); intro gb180 hg w5 hbox hb; obtain ⟨n_, GE180⟩ := Cb.bx (by repeat (first | (with_reducible first | exact HB.out | apply below_alloc | apply pw_below_drewN | apply below_drew1) | exact HB.out)) hg hb; have GW180 := GE180; have BK180 := Aside0.mk (hbox); replace HB := n_; clear n_; clear hb hbox hg) | ((with_reducible refine gate_dst (N := 4) rfl ?_); refine box_event ?hg (N := 4) ?hd (cs := #[.string (⟨#[]⟩ : ByteArray), .string (⟨#[]⟩ : ByteArray), .string (⟨#[]⟩ : ByteArray)]) (t := 38) ?hr ?_; (case hd => rfl); (case hg => rfl); (case hr => first | (go_simp; done) | (go_simp; rfl)); intro gb181 hg w6 hbox hb; obtain ⟨n_, GE181⟩ := Cb.bx (by repeat (first | (with_reducible first | exact HB.out | apply below_alloc | apply pw_below_drewN | apply below_drew1 | refine below_set ?_ GE180.out) | exact HB.out)) hg hb; have GW181 := GE181; obtain ⟨NB180_181, NB181_180⟩ := Cb.nb hg BK180.out; have BK181 := Aside0.mk (hbox); replace BK180 := Aside0.mk (blk_below BK180.out hb); replace HB := n_; clear n_; clear hb hbox hg; have hnb7 := NB180_181.out; have hnc7 := NB181_180.out; obtain ⟨hcz8_0, hcz8_1, hcz8_2, hcz8_3⟩ := Cb.c4 BK180.out; obtain ⟨hfz8_0, hfz8_1, hfz8_2, hfz8_3⟩ := Cb.f4 BK180.out) | ((with_reducible refine gate_callee (f := 37) rfl ?_); refine goesL_ (some 9) rfl rfl Try.func37 (by kernel_rfl) rfl #[.agg #[.slice A0_0 l0_0.length c0_0, .int .i64 a0_1, .int .i64 a0_2, .bool a0_3], .string a1] rfl (by (try simp only [List.map_toArray, List.map_cons, List.map_nil]); first | done | rfl | (simp only [List.length_drop, List.length_take]; rfl)) ?_; (with_reducible refine (stanchionref03_at.calls k _ _ l0_0 a0_1 a0_2 a0_3 a1 t182 _ ?side1 ?side2 A3.out).mono ?_); (case side1 => repeat (first | exact (Kd.C_below HR0_0.out HB.out) | (with_reducible refine Kd.C_alloc ?_ _) | (with_reducible refine Kd.C_drewN ?_ _) | (with_reducible refine Kd.C_drew ?_))); (case side2 => exact HC0_0.out); rintro e w9 ⟨rfl, hb⟩; refine ⟨_, rfl, ?_⟩; replace BK180 := Aside0.mk (blk_below BK180.out hb); replace BK181 := Aside0.mk (blk_below BK181.out hb); replace HB := Aside0.mk (below_step (by repeat (first | (with_reducible first | exact HB.out | apply below_alloc | apply pw_below_drewN | apply below_drew1 | refine below_set ?_ GE180.out | refine below_set ?_ GE181.out) | exact HB.out)) hb); (try clear hb); (try clear hb2); (try clear hk); (try clear hi); obtain ⟨hcz10_0, hcz10_1, hcz10_2⟩ := Cb.c3 BK181.out; obtain ⟨hfz10_0, hfz10_1, hfz10_2⟩ := Cb.f3 BK181.out) | ((with_reducible refine gate_store (t := 38) (p := 4) rfl ?_); refine store_event (t := 38) (p := 4) (v := ?vo_w11) (w1 := (((w9.setCell ⟨gb181, 0, none⟩ (.string (⟨#[]⟩ : ByteArray))).setCell ⟨gb181, 1, none⟩ (.string (⟨#[]⟩ : ByteArray))).setCell ⟨gb181, 2, none⟩ (.string (⟨#[]⟩ : ByteArray)))) ?hg ?ho ?hn ?hr ?_; (case ho => rfl); (case hg => rfl); (case hn => rfl); (case hr => first | (go_simp; done) | (go_simp; rfl)); intro w11 hw; have n0_ : Aside0 (w11.heap[gb180]? = some (.cells #[.slice A0_0 l0_0.length c0_0, .int .i64 a0_1, .int .i64 a0_2, .bool a0_3] 33 (0, 0))) := ⟨(by rw [hw]; exact (by refine blk_far ?_ NB180_181.out _; refine blk_far ?_ NB180_181.out _; refine blk_far ?_ NB180_181.out _; exact BK180.out))⟩; have n1_ : Aside0 (w11.heap[gb181]? = some (.cells #[.string (⟨#[]⟩ : ByteArray), .string (⟨#[]⟩ : ByteArray), .string (⟨#[]⟩ : ByteArray)] 38 (0, 0))) := ⟨(by rw [hw]; exact (by refine blk_put (cs := #[.string (⟨#[]⟩ : ByteArray), .string (⟨#[]⟩ : ByteArray), .string (⟨#[]⟩ : ByteArray)]) ?_ 2 _ rfl; refine blk_put (cs := #[.string (⟨#[]⟩ : ByteArray), .string (⟨#[]⟩ : ByteArray), .string (⟨#[]⟩ : ByteArray)]) ?_ 1 _ rfl; refine blk_put (cs := #[.string (⟨#[]⟩ : ByteArray), .string (⟨#[]⟩ : ByteArray), .string (⟨#[]⟩ : ByteArray)]) ?_ 0 _ rfl; exact BK181.out))⟩; have n2_ : Aside0 (Below w.heap.size w w11) := ⟨(by rw [hw]; exact (by repeat (first | exact HB.out | refine below_set ?_ GE181.out)))⟩; clear hw; clear BK180; clear BK181; clear HB; have BK180 := n0_; have BK181 := n1_; have HB := n2_; clear n0_ n1_ n2_))
    refine bodyPost_ret (results_ct rfl _ _ gb181 38 #[.string (⟨#[]⟩ : ByteArray), .string (⟨#[]⟩ : ByteArray), .string (⟨#[]⟩ : ByteArray)] (0, 0) _ rfl (by (with_reducible repeat (first | refine blk_drewN ?_ _ | refine blk_drew ?_ | refine blk_alloc ?_ _)); exact BK181.out) Try.underlying38 rfl (by kernel_rfl)) rfl ?_
    exact ⟨by first | rfl | (simp [errW_none, errW_some] <;> rfl) | (simp [*, errW_none, errW_some] <;> rfl), by repeat (first | (with_reducible first | exact HB.out | apply below_alloc | apply pw_below_drewN | apply below_drew1 | refine below_set ?_ GE180.out | refine below_set ?_ GE181.out) | exact HB.out)⟩
  · rw [if_neg c4] at H
    have c4b0 : decide (t182 < 0) = false := decide_eq_false c4
    clear c4
    by_cases c12 : 0 ≤ t182
    · rw [if_pos c12] at H
      have c12b0 : decide (0 ≤ t182) = true := decide_eq_true c12
      clear c12
      by_cases c13 : t182 < (l0_0.length : Int)
      · rw [if_pos c13] at H
        have c13b0 : decide (t182 < (l0_0.length : Int)) = true := decide_eq_true c13
        clear c13
        simp only [Option.some.injEq, Prod.mk.injEq] at H
        obtain ⟨rfl, rfl, rfl, rfl⟩ := H
        go_enter Try.func16, Try.ntmps16
        go_wp2_with (first | ((with_reducible refine gate_dst (N := 2) rfl ?_); refine box_event ?hg (N := 2) ?hd (cs := #[.slice A0_0 l0_0.length c0_0, .int .i64 a0_1, .int .i64 a0_2, .bool a0_3]) (t := 33) ?hr ?_; (case hd => rfl); (case hg => rfl); (case hr => first | (go_simp; done) | (go_simp; rfl)); intro gb180 hg w14 hbox hb; obtain ⟨n_, GE180⟩ := Cb.bx (by repeat (first | (with_reducible first | exact HB.out | apply below_alloc | apply pw_below_drewN | apply below_drew1) | exact HB.out)) hg hb; have GW180 := GE180; have BK180 := Aside0.mk (hbox); replace HB := n_; clear n_; clear hb hbox hg) | ((with_reducible refine gate_dst (N := 4) rfl ?_); refine box_event ?hg (N := 4) ?hd (cs := #[.string (⟨#[]⟩ : ByteArray), .string (⟨#[]⟩ : ByteArray), .string (⟨#[]⟩ : ByteArray)]) (t := 38) ?hr ?_; (case hd => rfl); (case hg => rfl); (case hr => first | (go_simp; done) | (go_simp; rfl)); intro gb181 hg w15 hbox hb; obtain ⟨n_, GE181⟩ := Cb.bx (by repeat (first | (with_reducible first | exact HB.out | apply below_alloc | apply pw_below_drewN | apply below_drew1 | refine below_set ?_ GE180.out) | exact HB.out)) hg hb; have GW181 := GE181; obtain ⟨NB180_181, NB181_180⟩ := Cb.nb hg BK180.out; have BK181 := Aside0.mk (hbox); replace BK180 := Aside0.mk (blk_below BK180.out hb); replace HB := n_; clear n_; clear hb hbox hg; have hnb16 := NB180_181.out; have hnc16 := NB181_180.out; obtain ⟨hcz17_0, hcz17_1, hcz17_2, hcz17_3⟩ := Cb.c4 BK180.out; obtain ⟨hfz17_0, hfz17_1, hfz17_2, hfz17_3⟩ := Cb.f4 BK180.out) | ((with_reducible refine gate_callee (f := 37) rfl ?_); refine goesL_ (some 9) rfl rfl Try.func37 (by kernel_rfl) rfl #[.agg #[.slice A0_0 l0_0.length c0_0, .int .i64 a0_1, .int .i64 a0_2, .bool a0_3], .string a1] rfl (by (try simp only [List.map_toArray, List.map_cons, List.map_nil]); first | done | rfl | (simp only [List.length_drop, List.length_take]; rfl)) ?_; (with_reducible refine (stanchionref03_at.calls k _ _ l0_0 a0_1 a0_2 a0_3 a1 t182 _ ?side1 ?side2 A3.out).mono ?_); (case side1 => repeat (first | exact (Kd.C_below HR0_0.out HB.out) | (with_reducible refine Kd.C_alloc ?_ _) | (with_reducible refine Kd.C_drewN ?_ _) | (with_reducible refine Kd.C_drew ?_))); (case side2 => exact HC0_0.out); rintro e w18 ⟨rfl, hb⟩; refine ⟨_, rfl, ?_⟩; replace BK180 := Aside0.mk (blk_below BK180.out hb); replace BK181 := Aside0.mk (blk_below BK181.out hb); replace HB := Aside0.mk (below_step (by repeat (first | (with_reducible first | exact HB.out | apply below_alloc | apply pw_below_drewN | apply below_drew1 | refine below_set ?_ GE180.out | refine below_set ?_ GE181.out) | exact HB.out)) hb); (try clear hb); (try clear hb2); (try clear hk); (try clear hi); obtain ⟨hcz19_0, hcz19_1, hcz19_2, hcz19_3⟩ := Cb.c4 BK180.out; obtain ⟨hfz19_0, hfz19_1, hfz19_2, hfz19_3⟩ := Cb.f4 BK180.out; have p183 : 0 ≤ (t182 : Int) := of_decide_eq_true (by first | (with_reducible assumption) | assumption); have q183 : t182 < (l0_0.length : Int) := of_decide_eq_true (by first | (with_reducible assumption) | assumption); obtain ⟨ad183, e183, hx183_0, hx183_1, hx183_2⟩ := at_T38 HR0_0.out t182 p183 q183; cases e183; replace hx183_0 := (HB.out.cell (World.block_lt_of_cell? w _ hx183_0)).trans hx183_0; replace hx183_1 := (HB.out.cell (World.block_lt_of_cell? w _ hx183_1)).trans hx183_1; replace hx183_2 := (HB.out.cell (World.block_lt_of_cell? w _ hx183_2)).trans hx183_2; replace p183 := eq_true p183; replace q183 := eq_true q183; obtain ⟨hcz20_0, hcz20_1, hcz20_2⟩ := Cb.c3 BK181.out; obtain ⟨hfz20_0, hfz20_1, hfz20_2⟩ := Cb.f3 BK181.out) | ((with_reducible refine gate_store (t := 38) (p := 4) rfl ?_); refine store_event (t := 38) (p := 4) (v := ?vo_w21) (w1 := (((w18.setCell ⟨gb181, 0, none⟩ (.string ((rd_T38 l0_0 t182).f0))).setCell ⟨gb181, 1, none⟩ (.string ((rd_T38 l0_0 t182).f1))).setCell ⟨gb181, 2, none⟩ (.string ((rd_T38 l0_0 t182).f2)))) ?hg ?ho ?hn ?hr ?_; (case ho => rfl); (case hg => rfl); (case hn => rfl); (case hr => first | (go_simp; done) | (go_simp; rfl)); intro w21 hw; have n0_ : Aside0 (w21.heap[gb180]? = some (.cells #[.slice (some ad183) l0_0.length c0_0, .int .i64 a0_1, .int .i64 a0_2, .bool a0_3] 33 (0, 0))) := ⟨(by rw [hw]; exact (by refine blk_far ?_ NB180_181.out _; refine blk_far ?_ NB180_181.out _; refine blk_far ?_ NB180_181.out _; exact BK180.out))⟩; have n1_ : Aside0 (w21.heap[gb181]? = some (.cells #[.string ((rd_T38 l0_0 t182).f0), .string ((rd_T38 l0_0 t182).f1), .string ((rd_T38 l0_0 t182).f2)] 38 (0, 0))) := ⟨(by rw [hw]; exact (by refine blk_put (cs := #[.string ((rd_T38 l0_0 t182).f0), .string ((rd_T38 l0_0 t182).f1), .string (⟨#[]⟩ : ByteArray)]) ?_ 2 _ rfl; refine blk_put (cs := #[.string ((rd_T38 l0_0 t182).f0), .string (⟨#[]⟩ : ByteArray), .string (⟨#[]⟩ : ByteArray)]) ?_ 1 _ rfl; refine blk_put (cs := #[.string (⟨#[]⟩ : ByteArray), .string (⟨#[]⟩ : ByteArray), .string (⟨#[]⟩ : ByteArray)]) ?_ 0 _ rfl; exact BK181.out))⟩; have n2_ : Aside0 (Below w.heap.size w w21) := ⟨(by rw [hw]; exact (by repeat (first | exact HB.out | refine below_set ?_ GE181.out)))⟩; clear hw; clear BK180; clear BK181; clear HB; have BK180 := n0_; have BK181 := n1_; have HB := n2_; clear n0_ n1_ n2_))
        refine bodyPost_ret (results_ct rfl _ _ gb181 38 #[.string ((rd_T38 l0_0 t182).f0), .string ((rd_T38 l0_0 t182).f1), .string ((rd_T38 l0_0 t182).f2)] (0, 0) _ rfl (by (with_reducible repeat (first | refine blk_drewN ?_ _ | refine blk_drew ?_ | refine blk_alloc ?_ _)); exact BK181.out) Try.underlying38 rfl (by kernel_rfl)) rfl ?_
        exact ⟨by first | rfl | (simp [errW_none, errW_some] <;> rfl) | (simp [*, errW_none, errW_some] <;> rfl), by repeat (first | (with_reducible first | exact HB.out | apply below_alloc | apply pw_below_drewN | apply below_drew1 | refine below_set ?_ GE180.out | refine below_set ?_ GE181.out) | exact HB.out)⟩
      · rw [if_neg c13] at H
        exact absurd H (by simp)
    · rw [if_neg c12] at H
      exact absurd H (by simp)

open Go.Proofs.Ytbhkopbalhhpgaa.Cp
/-! ### api_File_89: function 89 -/
set_option maxHeartbeats 8000000 in
set_option maxRecDepth 100000 in
theorem api_File_89.calls (p : S38 → Bool) (g : Nat) (lb : Array Value) (eg : ∀ args w, (callFunc g args).run Try.prog w = .ok (.enter g args) w) (A0 : Option Addr) (c0 : Nat) (l0 : List (S38)) (w : World) (hr0 : Kd.C k38 w A0 l0.length l0)
    (hp : ∀ (W : World) (x : S38), Below w.heap.size w W → Calls Try.prog g (#[.agg #[.string x.f0, .string x.f1, .string x.f2]] ++ lb) W fun e w' => e = .returned (.bool (p x)) ∧ Below W.heap.size W w') :
    Calls Try.prog 89 #[.slice A0 l0.length c0, .func (.func g) #[] lb] w fun e w' => e = .returned (.int .i64 (ixOf p l0)) ∧ Below w.heap.size w w' := by
  have hu38 := Try.underlying38
  have HR := Aside0.mk hr0
  have HP := Aside0.mk hp
  have hmx := hr0.2.1
  clear hr0 hp
  go_enter Try.func89, Try.ntmps89
  go_wp2
  go_loopg [5, 8] l0.length (fun gg _ s8 wr => ∃ kk : Nat, kk ≤ l0.length ∧ l0.length - kk ≤ gg ∧ s8 = .int .i64 kk ∧ Aside0 (Below w.heap.size w wr) ∧ Aside0 (∀ j, j < kk → p (l0.getD j z38) = false))
  case atStart => exact ⟨0, Nat.zero_le _, by omega, rfl, ⟨Below.refl _ w⟩, ⟨fun j hj => absurd hj (Nat.not_lt_zero _)⟩⟩
  case round =>
    obtain ⟨kk, hkk, hg, rfl, HB, A⟩ := hrel
    by_cases hlt : kk < l0.length
    · have hltz : (kk : Int) < (l0.length : Int) := by omega
      obtain ⟨ad, e, hx0, hx1, hx2⟩ := at_T38 (Kd.C_below HR.out HB.out) (kk : Int) (by omega) hltz
      cases e
      simp only [Int.toNat_natCast] at hx0 hx1 hx2
      have hcall := HP.out wr (l0.getD kk z38) HB.out
      have e0 : rd_T38 l0 (kk : Int) = l0.getD kk z38 := by simp [rd_T38]
      rw [e0] at hx0 hx1 hx2
      clear e0
      obtain ⟨y, hy⟩ : ∃ y, l0.getD kk z38 = y := ⟨_, rfl⟩
      rw [hy] at hx0 hx1 hx2 hcall
      have Y := Aside0.mk hy
      clear hy
      obtain ⟨q, hq⟩ : ∃ q, p y = q := ⟨_, rfl⟩
      rw [hq] at hcall
      have Q := Aside0.mk hq
      clear hq
      cases q with
      | true =>
        go_wp2_with (go_at_fn g; refine hcall.mono ?_; rintro e w' ⟨rfl, hb'⟩)
        go_ret
        exact ⟨by rw [ixOf_hit p l0 z38 kk hlt (by rw [Y.out]; exact Q.out) A.out]; rfl, below_step HB.out hb'⟩
      | false =>
        go_wp2_with (go_at_fn g; refine hcall.mono ?_; rintro e w' ⟨rfl, hb'⟩)
        go_roundg (l0.length - (kk + 1))
        case measure => omega
        case rel =>
          refine ⟨kk + 1, by omega, by omega, by go_num, ⟨below_step HB.out hb'⟩, ⟨fun j hj => ?_⟩⟩
          by_cases e : j = kk
          · subst e; rw [Y.out]; exact Q.out
          · exact A.out j (by omega)
    · have hltz : decide ((kk : Int) < (l0.length : Int)) = false := decide_eq_false (by omega)
      have hltn : decide (kk < l0.length) = false := decide_eq_false (by omega)
      have E := Aside0.mk (show kk = l0.length by omega)
      go_wp2
      go_ret
      exact ⟨by rw [ixOf_miss p l0 z38 (fun j hj => A.out j (by have := E.out; omega))]; rfl, HB.out⟩

/-! ### disk_at: function 64 -/
theorem enters90 : ∀ args w, (callFunc 90 args).run Try.prog w = .ok (.enter 90 args) w := enters_of Try.func90 (by kernel_rfl) rfl
set_option maxHeartbeats 8000000 in
theorem disk_at_ix_1.calls (x : S38) (a1 : ByteArray) (B : Nat) (W : World) (hc : W.cell? ⟨B, 0, none⟩ = some (.string a1)) :
    Calls Try.prog 90 #[.agg #[.string x.f0, .string x.f1, .string x.f2], .pointer (some ⟨B, 0, none⟩)] W fun e w' => e = .returned (.bool (x.f0.toList == a1.toList)) ∧ Below W.heap.size W w' := by
  have hu38 := Try.underlying38
  have hB := World.block_lt_of_cell? W _ hc
  go_enter Try.func90, Try.ntmps90
  go_wp2
  go_ret
  exact ⟨rfl, (Below.refl _ _).alloc (Nat.le_refl _) _⟩
set_option maxHeartbeats 8000000 in
theorem disk_at_ix.calls {B : Nat} (A0 : Option Addr) (c0 : Nat) (l0 : List (S38)) (a1 : ByteArray) (r : Int) (w : World) (hB : w.cell? ⟨B, 0, none⟩ = some (.string a1)) (hr0 : Kd.C k38 w A0 l0.length l0) (hc0 : l0.length ≤ c0) (h : disk_at_ix.f l0 a1 = some r) :
    Calls Try.prog 89 #[.slice A0 l0.length c0, .func (.func 90) #[] #[.pointer (some ⟨B, 0, none⟩)]] w fun e w' => e = .returned (.int .i64 r) ∧ Below w.heap.size w w' := by
  obtain rfl := Option.some.inj h
  exact api_File_89.calls (fun x => x.f0.toList == a1.toList) 90 #[.pointer (some ⟨B, 0, none⟩)] enters90 A0 c0 l0 w hr0 (fun W x hb => disk_at_ix_1.calls x a1 B W ((hb.cell (World.block_lt_of_cell? w _ hB)).trans hB))
set_option maxHeartbeats 8000000 in
set_option maxRecDepth 100000 in
theorem disk_at.calls (A0_0 : Option Addr) (c0_0 : Nat) (l0_0 : List (S38)) (a0_1 : Int) (a0_2 : Int) (a0_3 : Bool) (a1 : ByteArray) (r : Int) (w : World) (hr0_0 : Kd.C k38 w A0_0 l0_0.length l0_0) (hc0_0 : l0_0.length ≤ c0_0) (h : disk_at.f l0_0 a0_1 a0_2 a0_3 a1 = some r) :
    Calls Try.prog 64 #[.agg #[.slice A0_0 l0_0.length c0_0, .int .i64 a0_1, .int .i64 a0_2, .bool a0_3], .string a1] w fun e w' => e = .returned (.int .i64 r) ∧ Below w.heap.size w w' := by
  have hu33 := Try.underlying33
  have HR0_0 := Aside0.mk hr0_0
  have HC0_0 := Aside0.mk hc0_0
  clear hr0_0 hc0_0
  have HB := Aside0.mk (Below.refl w.heap.size w)
  have H : ((disk_at_ix.f l0_0 a1).bind fun t186 => (some t186)) = some r := h
  clear h
  replace H := Option.bind_eq_some_iff.mp H
  obtain ⟨t186, A30, H⟩ := H
  replace H : (some t186) = some r := H
  have A3 := Aside0.mk A30
  clear A30
  obtain rfl := Option.some.inj H
  go_enter Try.func64, Try.ntmps64
  go_wp2_with (first | ((with_reducible refine gate_dst (N := 2) rfl ?_); refine box_event ?hg (N := 2) ?hd (cs := #[.slice A0_0 l0_0.length c0_0, .int .i64 a0_1, .int .i64 a0_2, .bool a0_3]) (t := 33) ?hr ?_; (case hd => rfl); (case hg => rfl); (case hr => first | (go_simp; done) | (go_simp; rfl)); intro gb184 hg w4 hbox hb; obtain ⟨n_, GE184⟩ := Cb.bx (by repeat (first | (with_reducible first | exact HB.out | apply below_alloc | apply pw_below_drewN | apply below_drew1) | exact HB.out)) hg hb; have GW184 := GE184; have BK184 := Aside0.mk (hbox); replace HB := n_; clear n_; clear hb hbox hg) | ((with_reducible refine gate_dst (N := 3) rfl ?_); refine box_event ?hg (N := 3) ?hd (cs := #[.string a1]) (t := 9) ?hr ?_; (case hd => rfl); (case hg => rfl); (case hr => first | (go_simp; done) | (go_simp; rfl)); intro gb185 hg w5 hbox hb; obtain ⟨n_, GE185⟩ := Cb.bx (by repeat (first | (with_reducible first | exact HB.out | apply below_alloc | apply pw_below_drewN | apply below_drew1 | refine below_set ?_ GE184.out) | exact HB.out)) hg hb; have GW185 := GE185; obtain ⟨NB184_185, NB185_184⟩ := Cb.nb hg BK184.out; have BK185 := Aside0.mk (hbox); replace BK184 := Aside0.mk (blk_below BK184.out hb); replace HB := n_; clear n_; clear hb hbox hg; have hnb6 := NB184_185.out; have hnc6 := NB185_184.out; obtain ⟨hcz7_0, hcz7_1, hcz7_2, hcz7_3⟩ := Cb.c4 BK184.out; obtain ⟨hfz7_0, hfz7_1, hfz7_2, hfz7_3⟩ := Cb.f4 BK184.out; have hcz8_0 : w5.cell? ⟨gb185, 0, none⟩ = some (.string a1) := (blk_cell BK185.out 0).trans rfl; have hfz8_0 := blk_frozen BK185.out 0) | ((with_reducible refine gate_callee (f := 89) rfl ?_); refine goesL_ (some 8) rfl rfl Try.func89 (by kernel_rfl) rfl #[.slice A0_0 l0_0.length c0_0, .func (.func 90) #[] #[.pointer (some ⟨gb185, 0, none⟩)]] rfl (by (try simp only [List.map_toArray, List.map_cons, List.map_nil]); first | done | rfl | (simp only [List.length_drop, List.length_take]; rfl)) ?_; (with_reducible refine (disk_at_ix.calls _ _ l0_0 a1 t186 _ ?sideB ?side1 ?side2 A3.out).mono ?_); (case sideB => first | (go_simp; done) | (go_simp; rfl) | exact (blk_cell BK185.out 0).trans rfl | exact BK185.out | ((with_reducible repeat (first | refine blk_drewN ?_ _ | refine blk_drew ?_ | refine blk_alloc ?_ _)); exact BK185.out)); (case side1 => repeat (first | exact (Kd.C_below HR0_0.out HB.out) | (with_reducible refine Kd.C_alloc ?_ _) | (with_reducible refine Kd.C_drewN ?_ _) | (with_reducible refine Kd.C_drew ?_))); (case side2 => exact HC0_0.out); rintro e w9 ⟨rfl, hb⟩; refine ⟨_, rfl, ?_⟩; replace BK184 := Aside0.mk (blk_below BK184.out hb); replace BK185 := Aside0.mk (blk_below BK185.out hb); replace HB := Aside0.mk (below_step (by repeat (first | (with_reducible first | exact HB.out | apply below_alloc | apply pw_below_drewN | apply below_drew1 | refine below_set ?_ GE184.out | refine below_set ?_ GE185.out) | exact HB.out)) hb); (try clear hb); (try clear hb2); (try clear hk); (try clear hi)))
  go_ret
  exact ⟨by first | rfl | (simp [errW_none, errW_some] <;> rfl) | (simp [*, errW_none, errW_some] <;> rfl), by repeat (first | (with_reducible first | exact HB.out | apply below_alloc | apply pw_below_drewN | apply below_drew1 | refine below_set ?_ GE184.out | refine below_set ?_ GE185.out) | exact HB.out)⟩

/-! ### disk_Find: function 38 -/
set_option maxHeartbeats 8000000 in
set_option maxRecDepth 100000 in
theorem disk_Find.calls (A0_0 : Option Addr) (c0_0 : Nat) (l0_0 : List (S38)) (a0_1 : Int) (a0_2 : Int) (a0_3 : Bool) (a1 : ByteArray) (r1 : ByteArray) (r2 : ByteArray) (r3 : ByteArray) (r4 : Bool) (w : World) (hr0_0 : Kd.C k38 w A0_0 l0_0.length l0_0) (hc0_0 : l0_0.length ≤ c0_0) (h : disk_Find.f l0_0 a0_1 a0_2 a0_3 a1 = some (r1, r2, r3, r4)) :
    Calls Try.prog 38 #[.agg #[.slice A0_0 l0_0.length c0_0, .int .i64 a0_1, .int .i64 a0_2, .bool a0_3], .string a1] w fun e w' => e = .returned (.tuple #[.agg #[.string r1, .string r2, .string r3], .bool r4]) ∧ Below w.heap.size w w' := by
  have hu33 := Try.underlying33
  have hu38 := Try.underlying38
  have HR0_0 := Aside0.mk hr0_0
  have HC0_0 := Aside0.mk hc0_0
  clear hr0_0 hc0_0
  have HB := Aside0.mk (Below.refl w.heap.size w)
  have H : ((disk_at.f l0_0 a0_1 a0_2 a0_3 a1).bind fun t189 => (if t189 < 0 then (some ((⟨#[]⟩ : ByteArray), (⟨#[]⟩ : ByteArray), (⟨#[]⟩ : ByteArray), false)) else (if 0 ≤ t189 then (if t189 < (l0_0.length : Int) then (some ((rd_T38 l0_0 t189).f0, (rd_T38 l0_0 t189).f1, (rd_T38 l0_0 t189).f2, true)) else (none)) else (none)))) = some (r1, r2, r3, r4) := h
  clear h
  replace H := Option.bind_eq_some_iff.mp H
  obtain ⟨t189, A30, H⟩ := H
  replace H : (if t189 < 0 then (some ((⟨#[]⟩ : ByteArray), (⟨#[]⟩ : ByteArray), (⟨#[]⟩ : ByteArray), false)) else (if 0 ≤ t189 then (if t189 < (l0_0.length : Int) then (some ((rd_T38 l0_0 t189).f0, (rd_T38 l0_0 t189).f1, (rd_T38 l0_0 t189).f2, true)) else (none)) else (none))) = some (r1, r2, r3, r4) := H
  have A3 := Aside0.mk A30
  clear A30
  by_cases c4 : t189 < 0
  · rw [if_pos c4] at H
    have c4b0 : decide (t189 < 0) = true := decide_eq_true c4
    clear c4
    simp only [Option.some.injEq, Prod.mk.injEq] at H
    obtain ⟨rfl, rfl, rfl, rfl⟩ := H
    go_enter Try.func38, Try.ntmps38
    go_wp2_with (first | ((with_reducible refine gate_dst (N := 2) rfl ?_); refine box_event ?hg (N := 2) ?hd (cs := #[.slice A0_0 l0_0.length c0_0, .int .i64 a0_1, .int .i64 a0_2, .bool a0_3]) (t := 33) ?hr ?_; (case hd => rfl); (case hg => rfl); (case hr => first | (go_simp; done) | (go_simp; rfl)); intro gb187 hg w5 hbox hb; obtain ⟨n_, GE187⟩ := Cb.bx (by repeat (first | (with_reducible first | exact HB.out | apply below_alloc | apply pw_below_drewN | apply below_drew1) | exact HB.out)) hg hb; have GW187 := GE187; have BK187 := Aside0.mk (hbox); replace HB := n_; clear n_; clear hb hbox hg) | ((with_reducible refine gate_dst (N := 4) rfl ?_); refine box_event ?hg (N := 4) ?hd (cs := #[.string (⟨#[]⟩ : ByteArray), .string (⟨#[]⟩ : ByteArray), .string (⟨#[]⟩ : ByteArray)]) (t := 38) ?hr ?_; (case hd => rfl); (case hg => rfl); (case hr => first | (go_simp; done) | (go_simp; rfl)); intro gb188 hg w6 hbox hb; obtain ⟨n_, GE188⟩ := Cb.bx (by repeat (first | (with_reducible first | exact HB.out | apply below_alloc | apply pw_below_drewN | apply below_drew1 | refine below_set ?_ GE187.out) | exact HB.out)) hg hb; have GW188 := GE188; obtain ⟨NB187_188, NB188_187⟩ := Cb.nb hg BK187.out; have BK188 := Aside0.mk (hbox); replace BK187 := Aside0.mk (blk_below BK187.out hb); replace HB := n_; clear n_; clear hb hbox hg; have hnb7 := NB187_188.out; have hnc7 := NB188_187.out; obtain ⟨hcz8_0, hcz8_1, hcz8_2, hcz8_3⟩ := Cb.c4 BK187.out; obtain ⟨hfz8_0, hfz8_1, hfz8_2, hfz8_3⟩ := Cb.f4 BK187.out) | ((with_reducible refine gate_callee (f := 64) rfl ?_); refine goesL_ (some 9) rfl rfl Try.func64 (by kernel_rfl) rfl #[.agg #[.slice A0_0 l0_0.length c0_0, .int .i64 a0_1, .int .i64 a0_2, .bool a0_3], .string a1] rfl (by (try simp only [List.map_toArray, List.map_cons, List.map_nil]); first | done | rfl | (simp only [List.length_drop, List.length_take]; rfl)) ?_; (with_reducible refine (disk_at.calls _ _ l0_0 a0_1 a0_2 a0_3 a1 t189 _ ?side1 ?side2 A3.out).mono ?_); (case side1 => repeat (first | exact (Kd.C_below HR0_0.out HB.out) | (with_reducible refine Kd.C_alloc ?_ _) | (with_reducible refine Kd.C_drewN ?_ _) | (with_reducible refine Kd.C_drew ?_))); (case side2 => exact HC0_0.out); rintro e w9 ⟨rfl, hb⟩; refine ⟨_, rfl, ?_⟩; replace BK187 := Aside0.mk (blk_below BK187.out hb); replace BK188 := Aside0.mk (blk_below BK188.out hb); replace HB := Aside0.mk (below_step (by repeat (first | (with_reducible first | exact HB.out | apply below_alloc | apply pw_below_drewN | apply below_drew1 | refine below_set ?_ GE187.out | refine below_set ?_ GE188.out) | exact HB.out)) hb); (try clear hb); (try clear hb2); (try clear hk); (try clear hi); obtain ⟨hcz10_0, hcz10_1, hcz10_2⟩ := Cb.c3 BK188.out; obtain ⟨hfz10_0, hfz10_1, hfz10_2⟩ := Cb.f3 BK188.out) | ((with_reducible refine gate_store (t := 38) (p := 4) rfl ?_); refine store_event (t := 38) (p := 4) (v := ?vo_w11) (w1 := (((w9.setCell ⟨gb188, 0, none⟩ (.string (⟨#[]⟩ : ByteArray))).setCell ⟨gb188, 1, none⟩ (.string (⟨#[]⟩ : ByteArray))).setCell ⟨gb188, 2, none⟩ (.string (⟨#[]⟩ : ByteArray)))) ?hg ?ho ?hn ?hr ?_; (case ho => rfl); (case hg => rfl); (case hn => rfl); (case hr => first | (go_simp; done) | (go_simp; rfl)); intro w11 hw; have n0_ : Aside0 (w11.heap[gb187]? = some (.cells #[.slice A0_0 l0_0.length c0_0, .int .i64 a0_1, .int .i64 a0_2, .bool a0_3] 33 (0, 0))) := ⟨(by rw [hw]; exact (by refine blk_far ?_ NB187_188.out _; refine blk_far ?_ NB187_188.out _; refine blk_far ?_ NB187_188.out _; exact BK187.out))⟩; have n1_ : Aside0 (w11.heap[gb188]? = some (.cells #[.string (⟨#[]⟩ : ByteArray), .string (⟨#[]⟩ : ByteArray), .string (⟨#[]⟩ : ByteArray)] 38 (0, 0))) := ⟨(by rw [hw]; exact (by refine blk_put (cs := #[.string (⟨#[]⟩ : ByteArray), .string (⟨#[]⟩ : ByteArray), .string (⟨#[]⟩ : ByteArray)]) ?_ 2 _ rfl; refine blk_put (cs := #[.string (⟨#[]⟩ : ByteArray), .string (⟨#[]⟩ : ByteArray), .string (⟨#[]⟩ : ByteArray)]) ?_ 1 _ rfl; refine blk_put (cs := #[.string (⟨#[]⟩ : ByteArray), .string (⟨#[]⟩ : ByteArray), .string (⟨#[]⟩ : ByteArray)]) ?_ 0 _ rfl; exact BK188.out))⟩; have n2_ : Aside0 (Below w.heap.size w w11) := ⟨(by rw [hw]; exact (by repeat (first | exact HB.out | refine below_set ?_ GE188.out)))⟩; clear hw; clear BK187; clear BK188; clear HB; have BK187 := n0_; have BK188 := n1_; have HB := n2_; clear n0_ n1_ n2_))
    refine bodyPost_ret (results_ct rfl _ _ gb188 38 #[.string (⟨#[]⟩ : ByteArray), .string (⟨#[]⟩ : ByteArray), .string (⟨#[]⟩ : ByteArray)] (0, 0) _ rfl (by (with_reducible repeat (first | refine blk_drewN ?_ _ | refine blk_drew ?_ | refine blk_alloc ?_ _)); exact BK188.out) Try.underlying38 rfl (by kernel_rfl)) rfl ?_
    exact ⟨by first | rfl | (simp [errW_none, errW_some] <;> rfl) | (simp [*, errW_none, errW_some] <;> rfl), by repeat (first | (with_reducible first | exact HB.out | apply below_alloc | apply pw_below_drewN | apply below_drew1 | refine below_set ?_ GE187.out | refine below_set ?_ GE188.out) | exact HB.out)⟩
  · rw [if_neg c4] at H
    have c4b0 : decide (t189 < 0) = false := decide_eq_false c4
    clear c4
    by_cases c12 : 0 ≤ t189
    · rw [if_pos c12] at H
      have c12b0 : decide (0 ≤ t189) = true := decide_eq_true c12
      clear c12
      by_cases c13 : t189 < (l0_0.length : Int)
      · rw [if_pos c13] at H
        have c13b0 : decide (t189 < (l0_0.length : Int)) = true := decide_eq_true c13
        clear c13
        simp only [Option.some.injEq, Prod.mk.injEq] at H
        obtain ⟨rfl, rfl, rfl, rfl⟩ := H
        go_enter Try.func38, Try.ntmps38
        go_wp2_with (first | ((with_reducible refine gate_dst (N := 2) rfl ?_); refine box_event ?hg (N := 2) ?hd (cs := #[.slice A0_0 l0_0.length c0_0, .int .i64 a0_1, .int .i64 a0_2, .bool a0_3]) (t := 33) ?hr ?_; (case hd => rfl); (case hg => rfl); (case hr => first | (go_simp; done) | (go_simp; rfl)); intro gb187 hg w14 hbox hb; obtain ⟨n_, GE187⟩ := Cb.bx (by repeat (first | (with_reducible first | exact HB.out | apply below_alloc | apply pw_below_drewN | apply below_drew1) | exact HB.out)) hg hb; have GW187 := GE187; have BK187 := Aside0.mk (hbox); replace HB := n_; clear n_; clear hb hbox hg) | ((with_reducible refine gate_dst (N := 4) rfl ?_); refine box_event ?hg (N := 4) ?hd (cs := #[.string (⟨#[]⟩ : ByteArray), .string (⟨#[]⟩ : ByteArray), .string (⟨#[]⟩ : ByteArray)]) (t := 38) ?hr ?_; (case hd => rfl); (case hg => rfl); (case hr => first | (go_simp; done) | (go_simp; rfl)); intro gb188 hg w15 hbox hb; obtain ⟨n_, GE188⟩ := Cb.bx (by repeat (first | (with_reducible first | exact HB.out | apply below_alloc | apply pw_below_drewN | apply below_drew1 | refine below_set ?_ GE187.out) | exact HB.out)) hg hb; have GW188 := GE188; obtain ⟨NB187_188, NB188_187⟩ := Cb.nb hg BK187.out; have BK188 := Aside0.mk (hbox); replace BK187 := Aside0.mk (blk_below BK187.out hb); replace HB := n_; clear n_; clear hb hbox hg; have hnb16 := NB187_188.out; have hnc16 := NB188_187.out; obtain ⟨hcz17_0, hcz17_1, hcz17_2, hcz17_3⟩ := Cb.c4 BK187.out; obtain ⟨hfz17_0, hfz17_1, hfz17_2, hfz17_3⟩ := Cb.f4 BK187.out) | ((with_reducible refine gate_callee (f := 64) rfl ?_); refine goesL_ (some 9) rfl rfl Try.func64 (by kernel_rfl) rfl #[.agg #[.slice A0_0 l0_0.length c0_0, .int .i64 a0_1, .int .i64 a0_2, .bool a0_3], .string a1] rfl (by (try simp only [List.map_toArray, List.map_cons, List.map_nil]); first | done | rfl | (simp only [List.length_drop, List.length_take]; rfl)) ?_; (with_reducible refine (disk_at.calls _ _ l0_0 a0_1 a0_2 a0_3 a1 t189 _ ?side1 ?side2 A3.out).mono ?_); (case side1 => repeat (first | exact (Kd.C_below HR0_0.out HB.out) | (with_reducible refine Kd.C_alloc ?_ _) | (with_reducible refine Kd.C_drewN ?_ _) | (with_reducible refine Kd.C_drew ?_))); (case side2 => exact HC0_0.out); rintro e w18 ⟨rfl, hb⟩; refine ⟨_, rfl, ?_⟩; replace BK187 := Aside0.mk (blk_below BK187.out hb); replace BK188 := Aside0.mk (blk_below BK188.out hb); replace HB := Aside0.mk (below_step (by repeat (first | (with_reducible first | exact HB.out | apply below_alloc | apply pw_below_drewN | apply below_drew1 | refine below_set ?_ GE187.out | refine below_set ?_ GE188.out) | exact HB.out)) hb); (try clear hb); (try clear hb2); (try clear hk); (try clear hi); obtain ⟨hcz19_0, hcz19_1, hcz19_2, hcz19_3⟩ := Cb.c4 BK187.out; obtain ⟨hfz19_0, hfz19_1, hfz19_2, hfz19_3⟩ := Cb.f4 BK187.out; have p190 : 0 ≤ (t189 : Int) := of_decide_eq_true (by first | (with_reducible assumption) | assumption); have q190 : t189 < (l0_0.length : Int) := of_decide_eq_true (by first | (with_reducible assumption) | assumption); obtain ⟨ad190, e190, hx190_0, hx190_1, hx190_2⟩ := at_T38 HR0_0.out t189 p190 q190; cases e190; replace hx190_0 := (HB.out.cell (World.block_lt_of_cell? w _ hx190_0)).trans hx190_0; replace hx190_1 := (HB.out.cell (World.block_lt_of_cell? w _ hx190_1)).trans hx190_1; replace hx190_2 := (HB.out.cell (World.block_lt_of_cell? w _ hx190_2)).trans hx190_2; replace p190 := eq_true p190; replace q190 := eq_true q190; obtain ⟨hcz20_0, hcz20_1, hcz20_2⟩ := Cb.c3 BK188.out; obtain ⟨hfz20_0, hfz20_1, hfz20_2⟩ := Cb.f3 BK188.out) | ((with_reducible refine gate_store (t := 38) (p := 4) rfl ?_); refine store_event (t := 38) (p := 4) (v := ?vo_w21) (w1 := (((w18.setCell ⟨gb188, 0, none⟩ (.string ((rd_T38 l0_0 t189).f0))).setCell ⟨gb188, 1, none⟩ (.string ((rd_T38 l0_0 t189).f1))).setCell ⟨gb188, 2, none⟩ (.string ((rd_T38 l0_0 t189).f2)))) ?hg ?ho ?hn ?hr ?_; (case ho => rfl); (case hg => rfl); (case hn => rfl); (case hr => first | (go_simp; done) | (go_simp; rfl)); intro w21 hw; have n0_ : Aside0 (w21.heap[gb187]? = some (.cells #[.slice (some ad190) l0_0.length c0_0, .int .i64 a0_1, .int .i64 a0_2, .bool a0_3] 33 (0, 0))) := ⟨(by rw [hw]; exact (by refine blk_far ?_ NB187_188.out _; refine blk_far ?_ NB187_188.out _; refine blk_far ?_ NB187_188.out _; exact BK187.out))⟩; have n1_ : Aside0 (w21.heap[gb188]? = some (.cells #[.string ((rd_T38 l0_0 t189).f0), .string ((rd_T38 l0_0 t189).f1), .string ((rd_T38 l0_0 t189).f2)] 38 (0, 0))) := ⟨(by rw [hw]; exact (by refine blk_put (cs := #[.string ((rd_T38 l0_0 t189).f0), .string ((rd_T38 l0_0 t189).f1), .string (⟨#[]⟩ : ByteArray)]) ?_ 2 _ rfl; refine blk_put (cs := #[.string ((rd_T38 l0_0 t189).f0), .string (⟨#[]⟩ : ByteArray), .string (⟨#[]⟩ : ByteArray)]) ?_ 1 _ rfl; refine blk_put (cs := #[.string (⟨#[]⟩ : ByteArray), .string (⟨#[]⟩ : ByteArray), .string (⟨#[]⟩ : ByteArray)]) ?_ 0 _ rfl; exact BK188.out))⟩; have n2_ : Aside0 (Below w.heap.size w w21) := ⟨(by rw [hw]; exact (by repeat (first | exact HB.out | refine below_set ?_ GE188.out)))⟩; clear hw; clear BK187; clear BK188; clear HB; have BK187 := n0_; have BK188 := n1_; have HB := n2_; clear n0_ n1_ n2_))
        refine bodyPost_ret (results_ct rfl _ _ gb188 38 #[.string ((rd_T38 l0_0 t189).f0), .string ((rd_T38 l0_0 t189).f1), .string ((rd_T38 l0_0 t189).f2)] (0, 0) _ rfl (by (with_reducible repeat (first | refine blk_drewN ?_ _ | refine blk_drew ?_ | refine blk_alloc ?_ _)); exact BK188.out) Try.underlying38 rfl (by kernel_rfl)) rfl ?_
        exact ⟨by first | rfl | (simp [errW_none, errW_some] <;> rfl) | (simp [*, errW_none, errW_some] <;> rfl), by repeat (first | (with_reducible first | exact HB.out | apply below_alloc | apply pw_below_drewN | apply below_drew1 | refine below_set ?_ GE187.out | refine below_set ?_ GE188.out) | exact HB.out)⟩
      · rw [if_neg c13] at H
        exact absurd H (by simp)
    · rw [if_neg c12] at H
      exact absurd H (by simp)

/-! ### disk_change: function 65 -/
set_option maxHeartbeats 8000000 in
set_option maxRecDepth 100000 in
theorem disk_change.calls (P0_0_ : Nat → Prop) (A0_0 : Option Addr) (c0_0 : Nat) (l0_0 : List (S38)) (a0_1 : Int) (a0_2 : Int) (a0_3 : Bool) (r1 : List (S38)) (r2 : Int) (r3 : Int) (r4 : Bool) (r5 : Bool) (w : World) (hs0_0 : Kd.V k38 38 w w.heap.size (fun k_ => P0_0_ k_) (.slice A0_0 l0_0.length c0_0) l0_0) (h : disk_change.f l0_0 a0_1 a0_2 a0_3 = some (r1, r2, r3, r4, r5)) :
    Calls Try.prog 65 #[.agg #[.slice A0_0 l0_0.length c0_0, .int .i64 a0_1, .int .i64 a0_2, .bool a0_3]] w fun e w' => ∃ v0_ : Value, e = .returned (.tuple #[.agg #[v0_, .int .i64 r2, .int .i64 r3, .bool r4], .bool r5]) ∧ Kd.V k38 38 w' w.heap.size (fun k_ => (P0_0_ k_ ∨ w.heap.size ≤ k_)) v0_ r1 ∧ Below w.heap.size w w' := by
  have hu33 := Try.underlying33
  have HO0_0 := Aside0.mk (show Kd.V k38 38 w w.heap.size (fun k_ => (P0_0_ k_ ∨ w.heap.size ≤ k_)) (.slice A0_0 l0_0.length c0_0) l0_0 from Kd.V_mono hs0_0 (fun k_ hk => .inl hk))
  have HB := Aside0.mk (Below.refl w.heap.size w)
  have H : (if a0_2 = 0 then (some (l0_0, a0_1, a0_2, true, false)) else (if a0_2 > 0 then (some (l0_0, a0_1, wrap64 (a0_2 - 1), a0_3, true)) else (some (l0_0, a0_1, a0_2, a0_3, true)))) = some (r1, r2, r3, r4, r5) := h
  clear h
  by_cases c2 : a0_2 = 0
  · rw [if_pos c2] at H
    have c2b0 : (a0_2 == 0) = true := beq_iff_eq.mpr c2
    have c2b1 : (a0_2 != 0) = false := bne_eq_false_iff_eq.mpr c2
    clear c2
    simp only [Option.some.injEq, Prod.mk.injEq] at H
    obtain ⟨rfl, rfl, rfl, rfl, rfl⟩ := H
    go_enter Try.func65, Try.ntmps65
    go_wp2_with (first | ((with_reducible refine gate_dst (N := 1) rfl ?_); refine box_event ?hg (N := 1) ?hd (cs := #[.slice A0_0 l0_0.length c0_0, .int .i64 a0_1, .int .i64 a0_2, .bool a0_3]) (t := 33) ?hr ?_; (case hd => rfl); (case hg => rfl); (case hr => first | (go_simp; done) | (go_simp; rfl)); intro gb191 hg w3 hbox hb; obtain ⟨n_, GE191⟩ := Cb.bx (by repeat (first | (with_reducible first | exact HB.out | apply below_alloc | apply pw_below_drewN | apply below_drew1) | exact HB.out)) hg hb; have GW191 := GE191; have BK191 := Aside0.mk (hbox); replace HO0_0 := Aside0.mk (Kd.V_below (Kd.V_elderB (by (with_reducible repeat (first | apply Kd.V_alloc | apply Kd.V_drewN | apply Kd.V_drew)); exact HO0_0.out) gb191 (Nat.le_of_eq hg.symm)) hb); replace HB := n_; clear n_; clear hb hbox hg) | ((with_reducible refine gate_dst (N := 2) rfl ?_); refine box_event ?hg (N := 2) ?hd (cs := #[.slice none 0 0, .int .i64 0, .int .i64 0, .bool false]) (t := 33) ?hr ?_; (case hd => rfl); (case hg => rfl); (case hr => first | (go_simp; done) | (go_simp; rfl)); intro gb192 hg w4 hbox hb; obtain ⟨n_, GE192⟩ := Cb.bx (by repeat (first | (with_reducible first | exact HB.out | apply below_alloc | apply pw_below_drewN | apply below_drew1 | refine below_set ?_ GE191.out) | exact HB.out)) hg hb; have GW192 := GE192; obtain ⟨NB191_192, NB192_191⟩ := Cb.nb hg BK191.out; have BK192 := Aside0.mk (hbox); replace HO0_0 := Aside0.mk (Kd.V_below (Kd.V_elderB (by (with_reducible repeat (first | apply Kd.V_alloc | apply Kd.V_drewN | apply Kd.V_drew)); exact HO0_0.out) gb192 (Nat.le_of_eq hg.symm)) hb); replace BK191 := Aside0.mk (blk_below BK191.out hb); replace HB := n_; clear n_; clear hb hbox hg; have hnb5 := NB191_192.out; have hnc5 := NB192_191.out; obtain ⟨hcz6_0, hcz6_1, hcz6_2, hcz6_3⟩ := Cb.c4 BK191.out; obtain ⟨hfz6_0, hfz6_1, hfz6_2, hfz6_3⟩ := Cb.f4 BK191.out; obtain ⟨hcz7_0, hcz7_1, hcz7_2, hcz7_3⟩ := Cb.c4 BK192.out; obtain ⟨hfz7_0, hfz7_1, hfz7_2, hfz7_3⟩ := Cb.f4 BK192.out) | ((with_reducible refine gate_store (t := 33) (p := 2) rfl ?_); refine store_event (t := 33) (p := 2) (v := ?vo_w8) (w1 := (((((w4.setCell ⟨gb191, 3, none⟩ (.bool true)).setCell ⟨gb192, 0, none⟩ (.slice A0_0 l0_0.length c0_0)).setCell ⟨gb192, 1, none⟩ (.int .i64 a0_1)).setCell ⟨gb192, 2, none⟩ (.int .i64 a0_2)).setCell ⟨gb192, 3, none⟩ (.bool true))) ?hg ?ho ?hn ?hr ?_; (case ho => rfl); (case hg => rfl); (case hn => rfl); (case hr => first | (go_simp; done) | (go_simp; rfl)); intro w8 hw; have n0_ : Aside0 (Kd.V k38 38 w8 w.heap.size (fun k_ => (P0_0_ k_ ∨ w.heap.size ≤ k_) ∧ k_ ≠ gb191 ∧ k_ ≠ gb192) (.slice A0_0 l0_0.length c0_0) l0_0) := ⟨(by rw [hw]; exact (by exact Kd.V_mono (Kd.V_far (p := ⟨gb192, 3, none⟩) (Kd.V_far (p := ⟨gb192, 2, none⟩) (Kd.V_far (p := ⟨gb192, 1, none⟩) (Kd.V_far (p := ⟨gb192, 0, none⟩) (Kd.V_far (p := ⟨gb191, 3, none⟩) (Kd.V_mono (Kd.V_mono HO0_0.out (fun k_ hk => (⟨hk, hk.1.2⟩ : _ ∧ k_ ≠ gb191))) (fun k_ hk => (⟨hk, hk.1.2⟩ : _ ∧ k_ ≠ gb192))) (fun _ hk => hk.1.2) (.bool true)) (fun _ hk => hk.2) (.slice A0_0 l0_0.length c0_0)) (fun _ hk => hk.2) (.int .i64 a0_1)) (fun _ hk => hk.2) (.int .i64 a0_2)) (fun _ hk => hk.2) (.bool true)) (fun _ hk => ⟨hk.1.1.1.1, ⟨hk.1.1.1.2, hk.1.1.2⟩⟩)))⟩; have n1_ : Aside0 (w8.heap[gb191]? = some (.cells #[.slice A0_0 l0_0.length c0_0, .int .i64 a0_1, .int .i64 a0_2, .bool true] 33 (0, 0))) := ⟨(by rw [hw]; exact (by refine blk_far ?_ NB191_192.out _; refine blk_far ?_ NB191_192.out _; refine blk_far ?_ NB191_192.out _; refine blk_far ?_ NB191_192.out _; refine blk_put (cs := #[.slice A0_0 l0_0.length c0_0, .int .i64 a0_1, .int .i64 a0_2, .bool a0_3]) ?_ 3 _ rfl; exact BK191.out))⟩; have n2_ : Aside0 (w8.heap[gb192]? = some (.cells #[.slice A0_0 l0_0.length c0_0, .int .i64 a0_1, .int .i64 a0_2, .bool true] 33 (0, 0))) := ⟨(by rw [hw]; exact (by refine blk_put (cs := #[.slice A0_0 l0_0.length c0_0, .int .i64 a0_1, .int .i64 a0_2, .bool false]) ?_ 3 _ rfl; refine blk_put (cs := #[.slice A0_0 l0_0.length c0_0, .int .i64 a0_1, .int .i64 0, .bool false]) ?_ 2 _ rfl; refine blk_put (cs := #[.slice A0_0 l0_0.length c0_0, .int .i64 0, .int .i64 0, .bool false]) ?_ 1 _ rfl; refine blk_put (cs := #[.slice none 0 0, .int .i64 0, .int .i64 0, .bool false]) ?_ 0 _ rfl; refine blk_far ?_ NB192_191.out _; exact BK192.out))⟩; have n3_ : Aside0 (Below w.heap.size w w8) := ⟨(by rw [hw]; exact (by repeat (first | exact HB.out | refine below_set ?_ GE191.out | refine below_set ?_ GE192.out)))⟩; clear hw; clear HO0_0; clear BK191; clear BK192; clear HB; have HO0_0 := n0_; have BK191 := n1_; have BK192 := n2_; have HB := n3_; clear n0_ n1_ n2_ n3_))
    refine bodyPost_ret (results_ct rfl _ _ gb192 33 #[.slice A0_0 l0_0.length c0_0, .int .i64 a0_1, .int .i64 a0_2, .bool true] (0, 0) _ rfl (by (with_reducible repeat (first | refine blk_drewN ?_ _ | refine blk_drew ?_ | refine blk_alloc ?_ _)); exact BK192.out) Try.underlying33 rfl (by kernel_rfl)) rfl ?_
    exact ⟨_, by first | rfl | (simp [errW_none, errW_some] <;> rfl) | (simp [*, errW_none, errW_some] <;> rfl), by (with_reducible repeat (first | apply Kd.V_alloc | apply Kd.V_drewN | apply Kd.V_drew)); exact Kd.V_mono HO0_0.out (fun _ hk => hk.1), by repeat (first | (with_reducible first | exact HB.out | apply below_alloc | apply pw_below_drewN | apply below_drew1 | refine below_set ?_ GE191.out | refine below_set ?_ GE192.out) | exact HB.out)⟩
  · rw [if_neg c2] at H
    have c2b0 : (a0_2 == 0) = false := beq_eq_false_iff_ne.mpr c2
    have c2b1 : (a0_2 != 0) = true := bne_iff_ne.mpr c2
    by_cases c9 : a0_2 > 0
    · rw [if_pos c9] at H
      have c9b0 : decide (0 < a0_2) = true := decide_eq_true c9
      clear c9
      simp only [Option.some.injEq, Prod.mk.injEq] at H
      obtain ⟨rfl, rfl, rfl, rfl, rfl⟩ := H
      go_enter Try.func65, Try.ntmps65
      go_wp2_with (first | ((with_reducible refine gate_dst (N := 1) rfl ?_); refine box_event ?hg (N := 1) ?hd (cs := #[.slice A0_0 l0_0.length c0_0, .int .i64 a0_1, .int .i64 a0_2, .bool a0_3]) (t := 33) ?hr ?_; (case hd => rfl); (case hg => rfl); (case hr => first | (go_simp; done) | (go_simp; rfl)); intro gb191 hg w10 hbox hb; obtain ⟨n_, GE191⟩ := Cb.bx (by repeat (first | (with_reducible first | exact HB.out | apply below_alloc | apply pw_below_drewN | apply below_drew1) | exact HB.out)) hg hb; have GW191 := GE191; have BK191 := Aside0.mk (hbox); replace HO0_0 := Aside0.mk (Kd.V_below (Kd.V_elderB (by (with_reducible repeat (first | apply Kd.V_alloc | apply Kd.V_drewN | apply Kd.V_drew)); exact HO0_0.out) gb191 (Nat.le_of_eq hg.symm)) hb); replace HB := n_; clear n_; clear hb hbox hg) | ((with_reducible refine gate_dst (N := 2) rfl ?_); refine box_event ?hg (N := 2) ?hd (cs := #[.slice none 0 0, .int .i64 0, .int .i64 0, .bool false]) (t := 33) ?hr ?_; (case hd => rfl); (case hg => rfl); (case hr => first | (go_simp; done) | (go_simp; rfl)); intro gb192 hg w11 hbox hb; obtain ⟨n_, GE192⟩ := Cb.bx (by repeat (first | (with_reducible first | exact HB.out | apply below_alloc | apply pw_below_drewN | apply below_drew1 | refine below_set ?_ GE191.out) | exact HB.out)) hg hb; have GW192 := GE192; obtain ⟨NB191_192, NB192_191⟩ := Cb.nb hg BK191.out; have BK192 := Aside0.mk (hbox); replace HO0_0 := Aside0.mk (Kd.V_below (Kd.V_elderB (by (with_reducible repeat (first | apply Kd.V_alloc | apply Kd.V_drewN | apply Kd.V_drew)); exact HO0_0.out) gb192 (Nat.le_of_eq hg.symm)) hb); replace BK191 := Aside0.mk (blk_below BK191.out hb); replace HB := n_; clear n_; clear hb hbox hg; have hnb12 := NB191_192.out; have hnc12 := NB192_191.out; obtain ⟨hcz13_0, hcz13_1, hcz13_2, hcz13_3⟩ := Cb.c4 BK191.out; obtain ⟨hfz13_0, hfz13_1, hfz13_2, hfz13_3⟩ := Cb.f4 BK191.out; obtain ⟨hcz14_0, hcz14_1, hcz14_2, hcz14_3⟩ := Cb.c4 BK192.out; obtain ⟨hfz14_0, hfz14_1, hfz14_2, hfz14_3⟩ := Cb.f4 BK192.out) | ((with_reducible refine gate_store (t := 33) (p := 2) rfl ?_); refine store_event (t := 33) (p := 2) (v := ?vo_w15) (w1 := (((((w11.setCell ⟨gb191, 2, none⟩ (.int .i64 (wrap64 (a0_2 - 1)))).setCell ⟨gb192, 0, none⟩ (.slice A0_0 l0_0.length c0_0)).setCell ⟨gb192, 1, none⟩ (.int .i64 a0_1)).setCell ⟨gb192, 2, none⟩ (.int .i64 (wrap64 (a0_2 - 1)))).setCell ⟨gb192, 3, none⟩ (.bool a0_3))) ?hg ?ho ?hn ?hr ?_; (case ho => rfl); (case hg => rfl); (case hn => rfl); (case hr => first | (go_simp; done) | (go_simp; rfl)); intro w15 hw; have n0_ : Aside0 (Kd.V k38 38 w15 w.heap.size (fun k_ => (P0_0_ k_ ∨ w.heap.size ≤ k_) ∧ k_ ≠ gb191 ∧ k_ ≠ gb192) (.slice A0_0 l0_0.length c0_0) l0_0) := ⟨(by rw [hw]; exact (by exact Kd.V_mono (Kd.V_far (p := ⟨gb192, 3, none⟩) (Kd.V_far (p := ⟨gb192, 2, none⟩) (Kd.V_far (p := ⟨gb192, 1, none⟩) (Kd.V_far (p := ⟨gb192, 0, none⟩) (Kd.V_far (p := ⟨gb191, 2, none⟩) (Kd.V_mono (Kd.V_mono HO0_0.out (fun k_ hk => (⟨hk, hk.1.2⟩ : _ ∧ k_ ≠ gb191))) (fun k_ hk => (⟨hk, hk.1.2⟩ : _ ∧ k_ ≠ gb192))) (fun _ hk => hk.1.2) (.int .i64 (wrap64 (a0_2 - 1)))) (fun _ hk => hk.2) (.slice A0_0 l0_0.length c0_0)) (fun _ hk => hk.2) (.int .i64 a0_1)) (fun _ hk => hk.2) (.int .i64 (wrap64 (a0_2 - 1)))) (fun _ hk => hk.2) (.bool a0_3)) (fun _ hk => ⟨hk.1.1.1.1, ⟨hk.1.1.1.2, hk.1.1.2⟩⟩)))⟩; have n1_ : Aside0 (w15.heap[gb191]? = some (.cells #[.slice A0_0 l0_0.length c0_0, .int .i64 a0_1, .int .i64 (wrap64 (a0_2 - 1)), .bool a0_3] 33 (0, 0))) := ⟨(by rw [hw]; exact (by refine blk_far ?_ NB191_192.out _; refine blk_far ?_ NB191_192.out _; refine blk_far ?_ NB191_192.out _; refine blk_far ?_ NB191_192.out _; refine blk_put (cs := #[.slice A0_0 l0_0.length c0_0, .int .i64 a0_1, .int .i64 a0_2, .bool a0_3]) ?_ 2 _ rfl; exact BK191.out))⟩; have n2_ : Aside0 (w15.heap[gb192]? = some (.cells #[.slice A0_0 l0_0.length c0_0, .int .i64 a0_1, .int .i64 (wrap64 (a0_2 - 1)), .bool a0_3] 33 (0, 0))) := ⟨(by rw [hw]; exact (by refine blk_put (cs := #[.slice A0_0 l0_0.length c0_0, .int .i64 a0_1, .int .i64 (wrap64 (a0_2 - 1)), .bool false]) ?_ 3 _ rfl; refine blk_put (cs := #[.slice A0_0 l0_0.length c0_0, .int .i64 a0_1, .int .i64 0, .bool false]) ?_ 2 _ rfl; refine blk_put (cs := #[.slice A0_0 l0_0.length c0_0, .int .i64 0, .int .i64 0, .bool false]) ?_ 1 _ rfl; refine blk_put (cs := #[.slice none 0 0, .int .i64 0, .int .i64 0, .bool false]) ?_ 0 _ rfl; refine blk_far ?_ NB192_191.out _; exact BK192.out))⟩; have n3_ : Aside0 (Below w.heap.size w w15) := ⟨(by rw [hw]; exact (by repeat (first | exact HB.out | refine below_set ?_ GE191.out | refine below_set ?_ GE192.out)))⟩; clear hw; clear HO0_0; clear BK191; clear BK192; clear HB; have HO0_0 := n0_; have BK191 := n1_; have BK192 := n2_; have HB := n3_; clear n0_ n1_ n2_ n3_))
      refine bodyPost_ret (results_ct rfl _ _ gb192 33 #[.slice A0_0 l0_0.length c0_0, .int .i64 a0_1, .int .i64 (wrap64 (a0_2 - 1)), .bool a0_3] (0, 0) _ rfl (by (with_reducible repeat (first | refine blk_drewN ?_ _ | refine blk_drew ?_ | refine blk_alloc ?_ _)); exact BK192.out) Try.underlying33 rfl (by kernel_rfl)) rfl ?_
      exact ⟨_, by first | rfl | (simp [errW_none, errW_some] <;> rfl) | (simp [*, errW_none, errW_some] <;> rfl), by (with_reducible repeat (first | apply Kd.V_alloc | apply Kd.V_drewN | apply Kd.V_drew)); exact Kd.V_mono HO0_0.out (fun _ hk => hk.1), by repeat (first | (with_reducible first | exact HB.out | apply below_alloc | apply pw_below_drewN | apply below_drew1 | refine below_set ?_ GE191.out | refine below_set ?_ GE192.out) | exact HB.out)⟩
    · rw [if_neg c9] at H
      have c9b0 : decide (0 < a0_2) = false := decide_eq_false c9
      clear c9
      simp only [Option.some.injEq, Prod.mk.injEq] at H
      obtain ⟨rfl, rfl, rfl, rfl, rfl⟩ := H
      go_enter Try.func65, Try.ntmps65
      go_wp2_with (first | ((with_reducible refine gate_dst (N := 1) rfl ?_); refine box_event ?hg (N := 1) ?hd (cs := #[.slice A0_0 l0_0.length c0_0, .int .i64 a0_1, .int .i64 a0_2, .bool a0_3]) (t := 33) ?hr ?_; (case hd => rfl); (case hg => rfl); (case hr => first | (go_simp; done) | (go_simp; rfl)); intro gb191 hg w16 hbox hb; obtain ⟨n_, GE191⟩ := Cb.bx (by repeat (first | (with_reducible first | exact HB.out | apply below_alloc | apply pw_below_drewN | apply below_drew1) | exact HB.out)) hg hb; have GW191 := GE191; have BK191 := Aside0.mk (hbox); replace HO0_0 := Aside0.mk (Kd.V_below (Kd.V_elderB (by (with_reducible repeat (first | apply Kd.V_alloc | apply Kd.V_drewN | apply Kd.V_drew)); exact HO0_0.out) gb191 (Nat.le_of_eq hg.symm)) hb); replace HB := n_; clear n_; clear hb hbox hg) | ((with_reducible refine gate_dst (N := 2) rfl ?_); refine box_event ?hg (N := 2) ?hd (cs := #[.slice none 0 0, .int .i64 0, .int .i64 0, .bool false]) (t := 33) ?hr ?_; (case hd => rfl); (case hg => rfl); (case hr => first | (go_simp; done) | (go_simp; rfl)); intro gb192 hg w17 hbox hb; obtain ⟨n_, GE192⟩ := Cb.bx (by repeat (first | (with_reducible first | exact HB.out | apply below_alloc | apply pw_below_drewN | apply below_drew1 | refine below_set ?_ GE191.out) | exact HB.out)) hg hb; have GW192 := GE192; obtain ⟨NB191_192, NB192_191⟩ := Cb.nb hg BK191.out; have BK192 := Aside0.mk (hbox); replace HO0_0 := Aside0.mk (Kd.V_below (Kd.V_elderB (by (with_reducible repeat (first | apply Kd.V_alloc | apply Kd.V_drewN | apply Kd.V_drew)); exact HO0_0.out) gb192 (Nat.le_of_eq hg.symm)) hb); replace BK191 := Aside0.mk (blk_below BK191.out hb); replace HB := n_; clear n_; clear hb hbox hg; have hnb18 := NB191_192.out; have hnc18 := NB192_191.out; obtain ⟨hcz19_0, hcz19_1, hcz19_2, hcz19_3⟩ := Cb.c4 BK191.out; obtain ⟨hfz19_0, hfz19_1, hfz19_2, hfz19_3⟩ := Cb.f4 BK191.out; obtain ⟨hcz20_0, hcz20_1, hcz20_2, hcz20_3⟩ := Cb.c4 BK192.out; obtain ⟨hfz20_0, hfz20_1, hfz20_2, hfz20_3⟩ := Cb.f4 BK192.out) | ((with_reducible refine gate_store (t := 33) (p := 2) rfl ?_); refine store_event (t := 33) (p := 2) (v := ?vo_w21) (w1 := ((((w17.setCell ⟨gb192, 0, none⟩ (.slice A0_0 l0_0.length c0_0)).setCell ⟨gb192, 1, none⟩ (.int .i64 a0_1)).setCell ⟨gb192, 2, none⟩ (.int .i64 a0_2)).setCell ⟨gb192, 3, none⟩ (.bool a0_3))) ?hg ?ho ?hn ?hr ?_; (case ho => rfl); (case hg => rfl); (case hn => rfl); (case hr => first | (go_simp; done) | (go_simp; rfl)); intro w21 hw; have n0_ : Aside0 (Kd.V k38 38 w21 w.heap.size (fun k_ => (P0_0_ k_ ∨ w.heap.size ≤ k_) ∧ k_ ≠ gb191 ∧ k_ ≠ gb192) (.slice A0_0 l0_0.length c0_0) l0_0) := ⟨(by rw [hw]; exact (by exact Kd.V_mono (Kd.V_far (p := ⟨gb192, 3, none⟩) (Kd.V_far (p := ⟨gb192, 2, none⟩) (Kd.V_far (p := ⟨gb192, 1, none⟩) (Kd.V_far (p := ⟨gb192, 0, none⟩) (Kd.V_mono HO0_0.out (fun k_ hk => (⟨hk, hk.2⟩ : _ ∧ k_ ≠ gb192))) (fun _ hk => hk.2) (.slice A0_0 l0_0.length c0_0)) (fun _ hk => hk.2) (.int .i64 a0_1)) (fun _ hk => hk.2) (.int .i64 a0_2)) (fun _ hk => hk.2) (.bool a0_3)) (fun _ hk => ⟨hk.1.1.1, ⟨hk.1.1.2, hk.1.2⟩⟩)))⟩; have n1_ : Aside0 (w21.heap[gb191]? = some (.cells #[.slice A0_0 l0_0.length c0_0, .int .i64 a0_1, .int .i64 a0_2, .bool a0_3] 33 (0, 0))) := ⟨(by rw [hw]; exact (by refine blk_far ?_ NB191_192.out _; refine blk_far ?_ NB191_192.out _; refine blk_far ?_ NB191_192.out _; refine blk_far ?_ NB191_192.out _; exact BK191.out))⟩; have n2_ : Aside0 (w21.heap[gb192]? = some (.cells #[.slice A0_0 l0_0.length c0_0, .int .i64 a0_1, .int .i64 a0_2, .bool a0_3] 33 (0, 0))) := ⟨(by rw [hw]; exact (by refine blk_put (cs := #[.slice A0_0 l0_0.length c0_0, .int .i64 a0_1, .int .i64 a0_2, .bool false]) ?_ 3 _ rfl; refine blk_put (cs := #[.slice A0_0 l0_0.length c0_0, .int .i64 a0_1, .int .i64 0, .bool false]) ?_ 2 _ rfl; refine blk_put (cs := #[.slice A0_0 l0_0.length c0_0, .int .i64 0, .int .i64 0, .bool false]) ?_ 1 _ rfl; refine blk_put (cs := #[.slice none 0 0, .int .i64 0, .int .i64 0, .bool false]) ?_ 0 _ rfl; exact BK192.out))⟩; have n3_ : Aside0 (Below w.heap.size w w21) := ⟨(by rw [hw]; exact (by repeat (first | exact HB.out | refine below_set ?_ GE192.out)))⟩; clear hw; clear HO0_0; clear BK191; clear BK192; clear HB; have HO0_0 := n0_; have BK191 := n1_; have BK192 := n2_; have HB := n3_; clear n0_ n1_ n2_ n3_))
      refine bodyPost_ret (results_ct rfl _ _ gb192 33 #[.slice A0_0 l0_0.length c0_0, .int .i64 a0_1, .int .i64 a0_2, .bool a0_3] (0, 0) _ rfl (by (with_reducible repeat (first | refine blk_drewN ?_ _ | refine blk_drew ?_ | refine blk_alloc ?_ _)); exact BK192.out) Try.underlying33 rfl (by kernel_rfl)) rfl ?_
      exact ⟨_, by first | rfl | (simp [errW_none, errW_some] <;> rfl) | (simp [*, errW_none, errW_some] <;> rfl), by (with_reducible repeat (first | apply Kd.V_alloc | apply Kd.V_drewN | apply Kd.V_drew)); exact Kd.V_mono HO0_0.out (fun _ hk => hk.1), by repeat (first | (with_reducible first | exact HB.out | apply below_alloc | apply pw_below_drewN | apply below_drew1 | refine below_set ?_ GE191.out | refine below_set ?_ GE192.out) | exact HB.out)⟩

/-! ### disk_size: function 68 -/
set_option maxHeartbeats 8000000 in
set_option maxRecDepth 100000 in
theorem disk_size.calls (a0_0 : ByteArray) (a0_1 : ByteArray) (a0_2 : ByteArray) (r : Int) (w : World) (h : disk_size.f a0_0 a0_1 a0_2 = some r) :
    Calls Try.prog 68 #[.agg #[.string a0_0, .string a0_1, .string a0_2]] w fun e w' => e = .returned (.int .i64 r) ∧ Below w.heap.size w w' := by
  have hu38 := Try.underlying38
  have HB := Aside0.mk (Below.refl w.heap.size w)
  have H : (some (wrap64 ((a0_1.size : Int) + (a0_2.size : Int)))) = some r := h
  clear h
  obtain rfl := Option.some.inj H
  go_enter Try.func68, Try.ntmps68
  go_wp2_with (first | ((with_reducible refine gate_dst (N := 1) rfl ?_); refine box_event ?hg (N := 1) ?hd (cs := #[.string a0_0, .string a0_1, .string a0_2]) (t := 38) ?hr ?_; (case hd => rfl); (case hg => rfl); (case hr => first | (go_simp; done) | (go_simp; rfl)); intro gb193 hg w2 hbox hb; obtain ⟨n_, GE193⟩ := Cb.bx (by repeat (first | (with_reducible first | exact HB.out | apply below_alloc | apply pw_below_drewN | apply below_drew1) | exact HB.out)) hg hb; have GW193 := GE193; have BK193 := Aside0.mk (hbox); replace HB := n_; clear n_; clear hb hbox hg; obtain ⟨hcz3_0, hcz3_1, hcz3_2⟩ := Cb.c3 BK193.out; obtain ⟨hfz3_0, hfz3_1, hfz3_2⟩ := Cb.f3 BK193.out))
  go_ret
  exact ⟨by first | rfl | (simp [errW_none, errW_some] <;> rfl) | (simp [*, errW_none, errW_some] <;> rfl), by repeat (first | (with_reducible first | exact HB.out | apply below_alloc | apply pw_below_drewN | apply below_drew1 | refine below_set ?_ GE193.out) | exact HB.out)⟩

/-! ### api_File_69: function 69 -/
set_option maxHeartbeats 8000000 in
set_option maxRecDepth 100000 in
theorem api_File_69.calls (A0 : Option Addr) (c0 : Nat) (l0 : List (S38)) (r : List (S38)) (w : World) (hr0 : Kd.C k38 w A0 l0.length l0) (hc0 : l0.length ≤ c0) (h : api_File_69.f l0 = some r) :
    Calls Try.prog 69 #[.slice A0 l0.length c0] w fun e w' => ∃ v0_ : Value, e = .returned (v0_) ∧ Kd.R k38 38 w' w.heap.size (fun _ => True) v0_ r ∧ Below w.heap.size w w' := by
  have HR0 := Aside0.mk hr0
  have HC0 := Aside0.mk hc0
  clear hr0 hc0
  have HB := Aside0.mk (Below.refl w.heap.size w)
  have H : ((some (([] : List (S38)) : List (S38))).bind fun y194 => (if y194.length + l0.length < 2932031007402 then (some (y194 ++ l0)) else (none))) = some r := h
  clear h
  obtain ⟨y194, hy194⟩ : ∃ y_ : List (S38), y_ = (([] : List (S38))) := ⟨_, rfl⟩
  replace H : (if y194.length + l0.length < 2932031007402 then (some (y194 ++ l0)) else (none)) = some r := by first | (rw [hy194]; with_reducible exact H) | (have H2_ := (Option.bind_some _ _).symm.trans H; rw [hy194]; with_reducible exact H2_) | (have H2_ := (Option.bind_some _ _).symm.trans H; with_reducible exact H2_) | with_reducible exact H | (rw [hy194]; exact H) | exact H
  have Ny194 := Aside0.mk hy194
  clear hy194
  by_cases c2 : y194.length + l0.length < 2932031007402
  · rw [if_pos c2] at H
    have LMc2 := Aside0.mk c2
    clear c2
    obtain ⟨y197, hy197⟩ : ∃ y_ : List (S38), y_ = (y194 ++ l0) := ⟨_, rfl⟩
    replace H : (some y197) = some r := by first | (rw [hy197]; with_reducible exact H) | (have H2_ := (Option.bind_some _ _).symm.trans H; rw [hy197]; with_reducible exact H2_) | (have H2_ := (Option.bind_some _ _).symm.trans H; with_reducible exact H2_) | with_reducible exact H | (rw [hy197]; exact H) | exact H
    have Ny197 := Aside0.mk hy197
    clear hy197
    obtain rfl := Option.some.inj H
    have qT := fun (w : World) (a : Option Addr) (l c : Nat) => Lib.run_eql_slice_nil (P := Try.prog) w 31 38 a l c 0 0 Try.underlying31
    rcases A0 with _ | ad0
    · have hl : l0 = [] := by
        rcases l0 with _ | ⟨x_, l_⟩
        · rfl
        · obtain ⟨_, h_, _⟩ := HR0.out.2.2 (by simp)
          cases h_
      have hy := Aside0.mk (show y197 = [] by rw [Ny197.out, Ny194.out, hl]; rfl)
      clear hl
      go_enter Try.func69, Try.ntmps69
      go_wp2
      go_ret
      exact ⟨_, rfl, by rw [hy.out]; exact Kd.R_nil _ _ _ _ _, HB.out⟩
    · go_enter Try.func69, Try.ntmps69
      go_wp2_with (first | ((with_reducible refine gate_dst (N := 5) rfl ?_); refine Kd.R_lit k38 _ 38 ?hg (N := 5) ?hd (xs := ([] : List (S38))) (inner := []) (ok := fun _ => True) (okp := fun _ => True) ?hr ?hp (fun _ hk => hk) trivial (Below.refl _ _) (Nat.le_refl _) (by simp) ?_; (case hd => rfl); (case hg => rfl); (case hr => first | (go_simp; done) | (go_simp; rfl)); (case hp => exact (Reps.none _ _)); intro v195 w3 ho4 hb hg_ hnew_; clear hg_ hnew_; (first | rw [← Ny194.out] at ho4 | (simp only [Int.reduceToNat] at ho4; rw [← Ny194.out] at ho4)); have HO196 := Aside0.mk (Kd.R_lower ho4 (below_size (by repeat (first | (with_reducible first | exact HB.out | apply below_alloc | apply pw_below_drewN | apply below_drew1) | exact HB.out)))); replace HB := Aside0.mk (below_step (by repeat (first | (with_reducible first | exact HB.out | apply below_alloc | apply pw_below_drewN | apply below_drew1) | exact HB.out)) hb); clear hb ho4) | ((with_reducible refine gate_builtin (b := .append) (xs := #[.tmp 5, .tmp 6]) rfl ?_); at_builtin; refine Kd.R_append_rows k38 (w0 := w) w.heap.size rfl (.tmp 5) (.tmp 6) 31 38 (.agg #[(.string ⟨#[]⟩), (.string ⟨#[]⟩), (.string ⟨#[]⟩)]) 48 rfl Try.underlying31 info38 rfl (by decide) (by omega) v195 y194 l0 _ _ _ (fun _ => True) (fun _ => False) rfl rfl ?aO ?aR (fun _ _ h => h) (fun _ h => h.elim) ?aF ?aB ?aS ?aL ?_; (case aR => repeat (first | exact (Kd.C_below HR0.out HB.out) | (with_reducible refine Kd.C_alloc ?_ _) | (with_reducible refine Kd.C_drewN ?_ _) | (with_reducible refine Kd.C_drew ?_))); (case aB => exact (by repeat (first | (with_reducible first | exact HB.out | apply below_alloc | apply pw_below_drewN | apply below_drew1) | exact HB.out))); (case aF => exact (fun _ _ => trivial)); (case aO => exact (by (with_reducible repeat (first | apply Kd.R_alloc | apply Kd.R_drewN | apply Kd.R_drew)); exact HO196.out)); (case aS => exact (below_size (by repeat (first | (with_reducible first | exact HB.out | apply below_alloc | apply pw_below_drewN | apply below_drew1) | exact HB.out)))); (case aL => have := LMc2.out; omega); intro v198 w5 ho hb hg hat; rw [← Ny197.out] at ho; have n0_ := Aside0.mk (hb); have n1_ := Aside0.mk (ho); clear HB; clear HO196; have HB := n0_; have HO199 := n1_; clear n0_ n1_; clear ho hb hg hat))
      go_ret
      exact ⟨_, by first | rfl | (simp [errW_none, errW_some] <;> rfl) | (simp [*, errW_none, errW_some] <;> rfl), by (with_reducible repeat (first | apply Kd.R_alloc | apply Kd.R_drewN | apply Kd.R_drew)); exact HO199.out, by repeat (first | (with_reducible first | exact HB.out | apply below_alloc | apply pw_below_drewN | apply below_drew1) | exact HB.out)⟩
  · rw [if_neg c2] at H
    exact absurd H (by simp)

open Go.Proofs.Ytbhkopbalhhpgaa.Cp
/-! ### api_File_91: function 91 -/
def flc38 (x : S38) : List Value := [.string x.f0, .string x.f1, .string x.f2]
theorem flc38_len (x : S38) : (flc38 x).length = 3 := rfl
theorem flc38_one (xs : List S38) : ∀ v ∈ xs.flatMap flc38, v.oneCell' = true := by
  intro v hv
  obtain ⟨x, _, hx⟩ := List.mem_flatMap.1 hv
  simp only [flc38, List.mem_cons, List.not_mem_nil, or_false] at hx
  rcases hx with rfl | rfl | rfl <;> rfl
theorem own38 {w : World} {base : Nat} {ok : Nat → Prop} {v : Value} {xs : List S38} (h : Kd.R k38 38 w base ok v xs) : (∀ k, v.ownBlock = some k → ok k) ∧ w.ownsRow base 38 3 v xs.length (xs.flatMap flc38) := R_flat flc38 (fun _ _ h => k38_openM h) h
theorem row38 {w : World} {base : Nat} {ok : Nat → Prop} {v : Value} {xs : List S38} (h0 : ∀ k, v.ownBlock = some k → ok k) (h : w.ownsRow base 38 3 v xs.length (xs.flatMap flc38)) : Kd.R k38 38 w base ok v xs := flat_R flc38 (fun x => k38_mkM _ _ _ x) (fun _ => rfl) h0 h
theorem run_append_rowK_ (w : World) (t ty e : TypeId) (i : TypeInfo) (ht : Try.prog.underlying t = some (.slice e)) (hi : Try.prog.info? e = some i) (g n cap : Nat) (a : Addr) (m c : Nat) (cur : Array Value) (t' : TypeId) (cs : List Value)
    (hg : w.heap[g]? = some (.cells cur t' (0, 0))) (hl : cs.length = m * i.size) (hsrc : ∀ j v, cs[j]? = some v → w.cell? (a.add j) = some v) (hroom : n + m ≤ cap) (hfit : n * i.size + cs.length ≤ cur.size) (h1 : ∀ v ∈ cs, v.oneCell' = true) :
    (Builtin.append_ #[t, t] ty #[.slice (some ⟨g, 0, none⟩) n cap, .slice (some a) m c]).run Try.prog w = .ok (.slice (some ⟨g, 0, none⟩) (n + m) cap) (w.setRow g (cur.toList.take (n * i.size) ++ cs ++ cur.toList.drop (n * i.size + cs.length)).toArray) := by
  have hfc := run_firstCells_some (P := Try.prog) w i.size m a m c cs hl hsrc
  have hst := run_storeCells_at Try.prog g (n * i.size) t' cs 0 cur w hg (by simpa using hfit) h1
  simp only [Nat.add_zero] at hst
  simp [Builtin.append_, run_underlying ht, sizeOf, typeInfo, hi, Builtin.lenOf, hroom, hfc, Addr.add_lit, hst]
theorem step_append_run_ {ops : Array Oper} {o : Oper} {a : Act} {w : World} {K : Act → World → Prop} {Q : Exit → Act → World → Prop} {E : Prop}
    (hg : o.guard = none) (d x : Operand) (dT sT : TypeId) (hop : o.op = Op.call { callee := Callee.builtin Builtin.append, args := #[d, x], argTypes := #[dT, sT] })
    (v u : Value) (hd : a.eval d = v) (hx : a.eval x = u) {v' : Value} {w' : World} (hr : (Builtin.append_ #[dT, sT] o.type #[v, u]).run Try.prog w = .ok v' w') (hK : K (a.put o.dst v') w') :
    if Region.wanted o (yielded ops a.tmps) = true then Oper.wp Try.prog o a w K Q else E := by
  have hw : Region.wanted o (yielded ops a.tmps) = true := by simp [Region.wanted, hg]
  rw [if_pos hw]
  unfold Oper.wp execOp
  simp only [hop, resolve, invoke, builtin, Sem.run_bind, Sem.run_pure, Result.andThen_ok, List.map_toArray, List.map_cons, List.map_nil, hd, hx, hr]
  exact hK
theorem del_row3 {α : Type} (cur zs : List α) (i n : Nat) (hi : i < n) (hl : n * 3 ≤ cur.length) (hz : zs.length = 3) (cs cur1 cur2 : List α)
    (h0 : cs = (cur.drop ((i + 1) * 3)).take ((n - (i + 1)) * 3)) (h1 : cur1 = cur.take (i * 3) ++ cs ++ cur.drop (i * 3 + cs.length)) (h2 : cur2 = cur1.take ((n - 1) * 3) ++ zs ++ cur1.drop ((n - 1) * 3 + zs.length)) :
    cs.length = (n - (i + 1)) * 3 ∧ cur1.length = cur.length ∧ cur2.length = cur.length ∧ cur2.take ((n - 1) * 3) = (cur.take (n * 3)).take (i * 3) ++ (cur.take (n * 3)).drop ((i + 1) * 3) := by
  have lc : cs.length = (n - (i + 1)) * 3 := by rw [h0, List.length_take, List.length_drop]; omega
  have l1 : cur1.length = cur.length := by rw [h1, List.length_append, List.length_append, List.length_take, List.length_drop]; omega
  have l2 : cur2.length = cur.length := by rw [h2, List.length_append, List.length_append, List.length_take, List.length_drop]; omega
  refine ⟨lc, l1, l2, ?_⟩
  rw [h2, List.append_assoc, List.take_left' (by rw [List.length_take]; omega), h1, List.append_assoc, List.take_append, List.take_append]
  rw [List.length_take, List.take_of_length_le (l := cur.take (i * 3)) (by rw [List.length_take]; omega), List.take_of_length_le (l := cs) (by omega)]
  rw [show (n - 1) * 3 - min (i * 3) cur.length - cs.length = 0 by omega, List.take_zero, List.append_nil, List.take_take, show min (i * 3) (n * 3) = i * 3 by omega, h0, List.drop_take]
  congr 2
  omega
set_option maxHeartbeats 8000000 in
set_option maxRecDepth 100000 in
theorem api_File_91_core.calls (g i n c : Nat) (cur : Array Value) (w : World) (hi : i < n) (hnc : n ≤ c) (hc63 : c ≤ 9223372036854775807) (hcur : cur.size = c * 3)
    (hg : w.heap[g]? = some (.cells cur 38 (0, 0))) (h1c : ∀ v ∈ cur.toList.take (n * 3), v.oneCell' = true) :
    Calls Try.prog 91 #[.slice (some ⟨g, 0, none⟩) n c, .int .i64 i, .int .i64 ((i : Int) + 1)] w fun e w' => ∃ cur2 : List Value,
      e = .returned (.slice (some ⟨g, 0, none⟩) (n - 1) c) ∧ w' = w.drew.setRow g cur2.toArray ∧ cur2.length = cur.size ∧ cur2.take ((n - 1) * 3) = (cur.toList.take (n * 3)).take (i * 3) ++ (cur.toList.take (n * 3)).drop ((i + 1) * 3) := by
  have hu38 := Try.underlying38
  obtain ⟨i0, hi0, hz0, hzs, hzb⟩ := info_parts info38
  obtain ⟨cs, hcs⟩ : ∃ cs, cs = (cur.toList.drop ((i + 1) * 3)).take ((n - (i + 1)) * 3) := ⟨_, rfl⟩
  obtain ⟨cur1, hcur1⟩ : ∃ cur1, cur1 = cur.toList.take (i * 3) ++ cs ++ cur.toList.drop (i * 3 + cs.length) := ⟨_, rfl⟩
  obtain ⟨zs, hzs2⟩ : ∃ zs, zs = (Builtin.zeroCells (((.agg #[(.string ⟨#[]⟩), (.string ⟨#[]⟩), (.string ⟨#[]⟩)]) : Value)).cells 1).toList := ⟨_, rfl⟩
  have hzl : zs.length = 3 := by rw [hzs2, Array.length_toList, zero_size]; rfl
  obtain ⟨cur2, hcur2⟩ : ∃ cur2, cur2 = cur1.take ((n - 1) * 3) ++ zs ++ cur1.drop ((n - 1) * 3 + zs.length) := ⟨_, rfl⟩
  have lt : cur.toList.length = cur.size := Array.length_toList
  obtain ⟨lcs, l1, l2, hdel⟩ := del_row3 cur.toList zs i n hi (by rw [lt]; omega) hzl cs cur1 cur2 hcs hcur1 hcur2
  have l1 : cur1.length = cur.size := l1.trans lt
  have l2 : cur2.length = cur.size := l2.trans lt
  have hap : ∀ (ty : TypeId) (a : Addr) (c2 : Nat), (n = i + 1 ∨ a = ⟨g, (i + 1) * 3, none⟩) → (Builtin.append_ #[31, 31] ty #[.slice (some ⟨g, 0, none⟩) i c, .slice (some a) (n - (i + 1)) c2]).run Try.prog w.drew = .ok (.slice (some ⟨g, 0, none⟩) (n - 1) c) (w.drew.setRow g cur1.toArray) := fun ty a c2 ha => by
    have h := run_append_rowK_ w.drew 31 ty 38 i0 Try.underlying31 hi0 g i c a (n - (i + 1)) c2 cur 38 cs hg (by rw [hzs]; exact lcs)
      (fun j v hj => by
        rcases ha with ha | ha
        · have : cs = [] := List.eq_nil_of_length_eq_zero (by omega)
          rw [this] at hj
          simp at hj
        · subst ha
          rw [Addr.add_lit]
          show w.cell? _ = _
          rw [Cp.cell_of_blk hg, ← Array.getElem?_toList]
          rw [hcs, List.getElem?_take] at hj
          split at hj
          · rw [List.getElem?_drop] at hj; exact hj
          · cases hj) (by omega) (by rw [hzs]; omega)
      (fun v hv => h1c v (by
        rw [hcs] at hv
        have h2 : (cur.toList.drop ((i + 1) * 3)).take ((n - (i + 1)) * 3) = (cur.toList.take (n * 3)).drop ((i + 1) * 3) := by rw [List.drop_take]; congr 1; omega
        rw [h2] at hv
        exact List.mem_of_mem_drop hv))
    rw [hzs, ← hcur1, show i + (n - (i + 1)) = n - 1 by omega] at h
    exact h
  have hcl : ∀ (ty : TypeId) (c2 : Nat), (Builtin.clear_ #[31] ty #[.slice (some ⟨g, (n - 1) * 3, none⟩) 1 c2]).run Try.prog (w.drew.setRow g cur1.toArray) = .ok (.tuple #[]) (w.drew.setRow g cur2.toArray) := fun ty c2 => by
    have h := Cp.run_clear_rowK (P := Try.prog) (w.drew.setRow g cur1.toArray) 31 38 ty (.agg #[(.string ⟨#[]⟩), (.string ⟨#[]⟩), (.string ⟨#[]⟩)]) Try.underlying31 Try.zeroValue38 3 rfl (by decide) (by intro v hv; simp only [Value.cells, List.mem_cons, List.not_mem_nil, or_false] at hv; rcases hv with rfl | rfl | rfl <;> rfl) g ((n - 1) * 3) 1 c2 cur1.toArray 38 (setRow_heap w.drew g cur _ 38 _ hg) (by omega) (by rw [List.size_toArray, l1]; omega)
    rw [← hzs2, setRow_setRow, List.toList_toArray, ← hcur2] at h
    exact h
  have hw1 : ((i : Int) == (i : Int) + 1) = false := by simp; omega
  have hb0 : (0 : Int) ≤ (i : Int) := by omega
  have hb1 : (i : Int) ≤ (i : Int) + 1 := by omega
  have hb2 : (i : Int) + 1 ≤ (n : Int) := by omega
  have hb3 : (n : Int) ≤ (c : Int) := by omega
  have hb4 : (0 : Int) ≤ (i : Int) + 1 := by omega
  have hb5 : (i : Int) ≤ (c : Int) := by omega
  have hb6 : ((n - 1 : Nat) : Int) ≤ (n : Int) := by omega
  have hb7 : ¬ (c = n - 1) := by omega
  have hb8 : ¬ (c = 0) := by omega
  have hb9 : ¬ (n = i) := by omega
  have hba : (i : Int) ≤ (n : Int) := by omega
  have hbb : n - (n - 1) = 1 := by omega
  have htn : ((i : Int) + 1).toNat = i + 1 := by omega
  have X1 := Aside0.mk hdel
  have X2 := Aside0.mk l2
  have X3 := Aside0.mk hap
  have X4 := Aside0.mk hcl
  clear hcs hcur1 hcur2 hzs2 hzl lcs l1 l2 hdel lt hz0 hzs hzb hi0 h1c hcur hap hcl
  by_cases hbc : c = i + 1
  · obtain rfl : n = i + 1 := by omega
    subst hbc
    have hcw := X4.out 0 1
    rw [Nat.add_sub_cancel] at hcw
    have X5 : Aside0 (∀ ty, (Builtin.append_ #[31, 31] ty #[.slice (some ⟨g, 0, none⟩) i (i + 1), .slice (some ⟨g, 0, none⟩) 0 0]).run Try.prog w.drew = .ok (.slice (some ⟨g, 0, none⟩) i (i + 1)) (w.drew.setRow g cur1.toArray)) := ⟨fun ty => by
      have h := X3.out ty ⟨g, 0, none⟩ 0 (.inl rfl)
      rw [Nat.sub_self, Nat.add_sub_cancel] at h
      exact h⟩
    go_enter Try.func91, Try.ntmps91
    go_wp2
    go_region_law (refine step_append_run_ rfl _ _ 31 31 rfl (.slice (some ⟨g, 0, none⟩) i (i + 1)) (.slice (some ⟨g, 0, none⟩) 0 0) (by simp [Act.eval, Act.put]) (by simp [Act.eval, Act.put]) (X5.out _) ?_)
    go_wp2_with (simp only [hcw])
    go_ret
    exact ⟨cur2, rfl, rfl, X2.out, X1.out⟩
  · have hcw := X4.out 0 (c - (n - 1))
    go_enter Try.func91, Try.ntmps91
    go_wp2
    go_region_law (refine step_append_run_ rfl _ _ 31 31 rfl (.slice (some ⟨g, 0, none⟩) i c) (.slice (some ⟨g, (i + 1) * 3, none⟩) (n - (i + 1)) (c - (i + 1))) (by simp [Act.eval, Act.put]) (by simp [Act.eval, Act.put]) (X3.out _ _ _ (.inr rfl)) ?_)
    go_wp2_with (simp only [hcw])
    go_ret
    exact ⟨cur2, rfl, rfl, X2.out, X1.out⟩
theorem kept_setRow2_ {W : World} (g : Nat) (cs : Array Value) {u : Value} (hu : u.ownBlock = some g) {S : Nat → Prop} (h : ∀ k, u.ownBlock = some k → S k) : Kept W (W.drew.setRow g cs) S := ⟨by simp, fun i _ hn => (setRow_other W.drew g i cs (fun e => hn (h i (by rw [hu, e])))).trans rfl⟩
theorem api_File_91.calls (P0_ : Nat → Prop) (u9000_ : Value) (l0 : List (S38)) (a1 a2 : Int) (r : List S38) (w0 w : World) (hB : Below w0.heap.size w0 w) (ho0 : Kd.R k38 38 w w0.heap.size P0_ u9000_ l0) (h : api_File_91.f l0 a1 a2 = some r) :
    Calls Try.prog 91 #[u9000_, .int .i64 a1, .int .i64 a2] w fun e w' => ∃ v0_ : Value, e = .returned (v0_) ∧ Kd.R k38 38 w' w0.heap.size (fun k_ => (P0_ k_ ∨ w.heap.size ≤ k_)) v0_ r ∧ Below w0.heap.size w0 w' ∧ Kept w w' (fun k_ => P0_ k_) := by
  unfold api_File_91.f at h
  split at h
  case isFalse => cases h
  split at h
  case isFalse => cases h
  split at h
  case isFalse => cases h
  rename_i h0 h1 h2
  obtain rfl := Option.some.inj h
  obtain ⟨i, rfl⟩ : ∃ i : Nat, a1 = (i : Int) := ⟨a1.toNat, by omega⟩
  subst h2
  have hi : i < l0.length := by omega
  obtain ⟨hok, _, h3⟩ := own38 ho0
  rcases h3 with ⟨_, hz⟩ | ⟨g, c, cur, rfl, hg, hh, hnc, hcm, hcs, htk⟩
  · omega
  have hcm' : c ≤ 9223372036854775807 := by unfold maxLen at hcm; omega
  have h1c : ∀ v ∈ cur.toList.take (l0.length * 3), v.oneCell' = true := by rw [htk]; exact flc38_one l0
  refine (api_File_91_core.calls g i l0.length c cur w hi hnc hcm' hcs hh h1c).mono ?_
  rintro e w' ⟨cur2, rfl, rfl, hl2, ht2⟩
  have hlen : (l0.eraseIdx i).length = l0.length - 1 := by rw [List.length_eraseIdx_of_lt hi]
  rw [Int.toNat_natCast]
  refine ⟨_, rfl, row38 (fun k hk => .inl (hok k hk)) ⟨flat_len flc38 flc38_len _, .inr ⟨g, c, cur2.toArray, by rw [hlen], hg, setRow_heap w.drew g cur _ 38 _ hh, by rw [hlen]; omega, hcm, by rw [List.size_toArray, hl2, hcs], ?_⟩⟩, hB.trans (below_setRow (Below.drew (Below.refl _ _)) hg _), kept_setRow2_ g _ rfl hok⟩
  rw [hlen, List.toList_toArray, ht2, htk, List.eraseIdx_eq_take_drop_succ, List.flatMap_append, flat_take flc38 flc38_len, flat_drop flc38 flc38_len]

/-! ### disk_without: function 66 -/
def disk_without.T1 : Bool × List (List Nat × List Nat) := (true, [([], []), ([0], [0]), ([], []), ([2], [2]), ([], []), ([3, 4], [3, 4]), ([5], [5]), ([6], [6]), ([1, 7], [1, 7]), ([0, 1, 2, 3, 4, 5, 6, 7, 8], []), ([9, 8, 7, 0, 1, 2, 3, 4, 5, 6, 7, 8], [8, 9])])
def disk_without.B1 : List Nat := [0, 1, 0, 4, 0, 28, 60, 124, 255, 511, 1023]
theorem disk_without.tab1 : rtab .any (opsOf Try.f66 1) = disk_without.T1 := by kernel_rfl
theorem disk_without.bits1 : waitsOk disk_without.T1.2 disk_without.B1 = true := by kernel_rfl
set_option maxHeartbeats 8000000 in
set_option maxRecDepth 100000 in
theorem disk_without.calls (A0_0 : Option Addr) (c0_0 : Nat) (l0_0 : List (S38)) (a0_1 : Int) (a0_2 : Int) (a0_3 : Bool) (a1 : Int) (r1 : List (S38)) (r2 : Int) (r3 : Int) (r4 : Bool) (w : World) (hr0_0 : Kd.C k38 w A0_0 l0_0.length l0_0) (hc0_0 : l0_0.length ≤ c0_0) (h : disk_without.f l0_0 a0_1 a0_2 a0_3 a1 = some (r1, r2, r3, r4)) :
    Calls Try.prog 66 #[.agg #[.slice A0_0 l0_0.length c0_0, .int .i64 a0_1, .int .i64 a0_2, .bool a0_3], .int .i64 a1] w fun e w' => ∃ v0_ : Value, e = .returned (.agg #[v0_, .int .i64 r2, .int .i64 r3, .bool r4]) ∧ Kd.R k38 38 w' w.heap.size (fun _ => True) v0_ r1 ∧ Below w.heap.size w w' := by
  have hu33 := Try.underlying33
  have hu38 := Try.underlying38
  have HR0_0 := Aside0.mk hr0_0
  have HC0_0 := Aside0.mk hc0_0
  clear hr0_0 hc0_0
  have HB := Aside0.mk (Below.refl w.heap.size w)
  have H : (if 0 ≤ a1 then (if a1 < (l0_0.length : Int) then ((disk_size.f ((rd_T38 l0_0 a1).f0) ((rd_T38 l0_0 a1).f1) ((rd_T38 l0_0 a1).f2)).bind fun t203 => ((api_File_69.f l0_0).bind fun t204 => ((api_File_91.f t204 a1 (wrap64 (a1 + 1))).bind fun t207 => (some (t207, wrap64 (a0_1 + t203), a0_2, a0_3))))) else (none)) else (none)) = some (r1, r2, r3, r4) := h
  clear h
  by_cases c3 : 0 ≤ a1
  · rw [if_pos c3] at H
    have c3b0 : decide (0 ≤ a1) = true := decide_eq_true c3
    clear c3
    by_cases c4 : a1 < (l0_0.length : Int)
    · rw [if_pos c4] at H
      have c4b0 : decide (a1 < (l0_0.length : Int)) = true := decide_eq_true c4
      clear c4
      replace H := Option.bind_eq_some_iff.mp H
      obtain ⟨t203, A50, H⟩ := H
      replace H : ((api_File_69.f l0_0).bind fun t204 => ((api_File_91.f t204 a1 (wrap64 (a1 + 1))).bind fun t207 => (some (t207, wrap64 (a0_1 + t203), a0_2, a0_3)))) = some (r1, r2, r3, r4) := H
      have A5 := Aside0.mk A50
      clear A50
      replace H := Option.bind_eq_some_iff.mp H
      obtain ⟨t204, A60, H⟩ := H
      replace H : ((api_File_91.f t204 a1 (wrap64 (a1 + 1))).bind fun t207 => (some (t207, wrap64 (a0_1 + t203), a0_2, a0_3))) = some (r1, r2, r3, r4) := H
      have A6 := Aside0.mk A60
      clear A60
      replace H := Option.bind_eq_some_iff.mp H
      obtain ⟨t207, A70, H⟩ := H
      replace H : (some (t207, wrap64 (a0_1 + t203), a0_2, a0_3)) = some (r1, r2, r3, r4) := H
      have A7 := Aside0.mk A70
      clear A70
      simp only [Option.some.injEq, Prod.mk.injEq] at H
      obtain ⟨rfl, rfl, rfl, rfl⟩ := H
      go_enter Try.func66, Try.ntmps66
      try go_wp2_with (first | ((with_reducible refine gate_dst (N := 2) rfl ?_); refine box_event ?hg (N := 2) ?hd (cs := #[.slice A0_0 l0_0.length c0_0, .int .i64 a0_1, .int .i64 a0_2, .bool a0_3]) (t := 33) ?hr ?_; (case hd => rfl); (case hg => rfl); (case hr => first | (go_simp; done) | (go_simp; rfl)); intro gb200 hg w8 hbox hb; obtain ⟨n_, GE200⟩ := Cb.bx (by repeat (first | (with_reducible first | exact HB.out | apply below_alloc | apply pw_below_drewN | apply below_drew1) | exact HB.out)) hg hb; have GW200 := GE200; have BK200 := Aside0.mk (hbox); replace HB := n_; clear n_; clear hb hbox hg) | ((with_reducible refine gate_dst (N := 4) rfl ?_); refine box_event ?hg (N := 4) ?hd (cs := #[.slice none 0 0, .int .i64 0, .int .i64 0, .bool false]) (t := 33) ?hr ?_; (case hd => rfl); (case hg => rfl); (case hr => first | (go_simp; done) | (go_simp; rfl)); intro gb201 hg w9 hbox hb; obtain ⟨n_, GE201⟩ := Cb.bx (by repeat (first | (with_reducible first | exact HB.out | apply below_alloc | apply pw_below_drewN | apply below_drew1 | refine below_set ?_ GE200.out) | exact HB.out)) hg hb; have GW201 := GE201; obtain ⟨NB200_201, NB201_200⟩ := Cb.nb hg BK200.out; have BK201 := Aside0.mk (hbox); replace BK200 := Aside0.mk (blk_below BK200.out hb); replace HB := n_; clear n_; clear hb hbox hg))
      replace BK200 := Aside0.mk (blk_drew BK200.out)
      replace BK201 := Aside0.mk (blk_drew BK201.out)
      replace HB := Aside0.mk (below_drew1 HB.out)
      have p202 : 0 ≤ (a1 : Int) := of_decide_eq_true (by first | (with_reducible assumption) | assumption)
      have q202 : a1 < (l0_0.length : Int) := of_decide_eq_true (by first | (with_reducible assumption) | assumption)
      obtain ⟨ad202, e202, hx202_0, hx202_1, hx202_2⟩ := at_T38 HR0_0.out a1 p202 q202
      have hw202_2 := hx202_2
      have hw202_1 := hx202_1
      have hw202_0 := hx202_0
      cases e202
      replace hx202_0 := (HB.out.cell (World.block_lt_of_cell? w _ hx202_0)).trans hx202_0
      replace hx202_1 := (HB.out.cell (World.block_lt_of_cell? w _ hx202_1)).trans hx202_1
      replace hx202_2 := (HB.out.cell (World.block_lt_of_cell? w _ hx202_2)).trans hx202_2
      replace p202 := eq_true p202
      replace q202 := eq_true q202
      refine start_ (n := 11) (S := fun w' => w'.cell? ⟨gb200, 0, none⟩ = some (.slice (some ad202) l0_0.length c0_0) ∧ w'.cell? ⟨gb200, 1, none⟩ = some (.int .i64 a0_1) ∧ w'.cell? ⟨gb200, 2, none⟩ = some (.int .i64 a0_2) ∧ w'.cell? ⟨gb200, 3, none⟩ = some (.bool a0_3) ∧ w'.cell? (ad202.add ((a1).toNat * 3)) = some (.string ((rd_T38 l0_0 a1).f0)) ∧ w'.cell? ⟨(ad202.add ((a1).toNat * 3)).block, (ad202.add ((a1).toNat * 3)).off + 1, none⟩ = some (.string ((rd_T38 l0_0 a1).f1)) ∧ w'.cell? ⟨(ad202.add ((a1).toNat * 3)).block, (ad202.add ((a1).toNat * 3)).off + 2, none⟩ = some (.string ((rd_T38 l0_0 a1).f2))) (ds := [10]) #[false, false, false, false, false, false, false, false, false, false, false] (by kernel_rfl) rfl rfl ⟨(blk_cell BK200.out 0).trans rfl, (blk_cell BK200.out 1).trans rfl, (blk_cell BK200.out 2).trans rfl, (blk_cell BK200.out 3).trans rfl, ((HB.out.cell (World.block_lt_of_cell? w _ hw202_0)).trans hw202_0), ((HB.out.cell (World.block_lt_of_cell? w _ hw202_1)).trans hw202_1), ((HB.out.cell (World.block_lt_of_cell? w _ hw202_2)).trans hw202_2)⟩ (fun hHeld => ?_); refine with_tabW disk_without.tab1 disk_without.bits1 (fun HT_ HW_ => ?_)
      generalize w9.drew = w10 at BK200 BK201 HB hx202_0 hx202_1 hx202_2 hHeld ⊢
      refine pure_ (i := 0) (N := some 5) (v := ?_) (a' := ?_) #[true, false, false, false, false, false, false, false, false, false, false] rfl rfl (any_of HT_.out (by kernel_rfl)) (fun _ _ _ h => h) (Or.inl ⟨by rfl, ?_⟩) ?_ ?_
      rotate_left
      · intro w'
        go_simp
        with_reducible rfl
      rotate_left
      · simp only [Act.put, List.setIfInBounds_toArray, List.set_cons_zero, List.set_cons_succ, i64_w, i32_w]
        rfl
      refine pure_ (i := 2) (N := some 7) (v := ?_) (a' := ?_) #[true, false, true, false, false, false, false, false, false, false, false] rfl rfl (any_of HT_.out (by kernel_rfl)) (fun _ _ _ h => h) (Or.inl ⟨by rfl, ?_⟩) ?_ ?_
      rotate_left
      · intro w'
        go_simp
        with_reducible rfl
      rotate_left
      · simp only [Act.put, List.setIfInBounds_toArray, List.set_cons_zero, List.set_cons_succ, i64_w, i32_w]
        rfl
      refine pure_ (i := 4) (N := some 9) (v := ?_) (a' := ?_) #[true, false, true, false, true, false, false, false, false, false, false] rfl rfl (any_of HT_.out (by kernel_rfl)) (fun _ _ _ h => h) (Or.inl ⟨by rfl, ?_⟩) ?_ ?_
      rotate_left
      · intro w'
        go_simp
        with_reducible rfl
      rotate_left
      · simp only [Act.put, List.setIfInBounds_toArray, List.set_cons_zero, List.set_cons_succ, i64_w, i32_w]
        rfl
      refine take_ (i := 1) (N := some 6) (v := ?_) (a' := ?_) #[true, true, true, false, true, false, false, false, false, false, false] rfl rfl (take_ofW HT_.out HW_.out (by kernel_rfl)) (fun _ _ _ h => h) (Or.inl ⟨by rfl, ?_⟩) hHeld ?_ ?_
      rotate_left
      · rintro w' ⟨s0, s1, s2, s3, s4, s5, s6⟩
        go_simp
        with_reducible rfl
      rotate_left
      · simp only [Act.put, List.setIfInBounds_toArray, List.set_cons_zero, List.set_cons_succ, i64_w, i32_w]
        rfl
      refine take_ (i := 3) (N := some 8) (v := ?_) (a' := ?_) #[true, true, true, true, true, false, false, false, false, false, false] rfl rfl (take_ofW HT_.out HW_.out (by kernel_rfl)) (fun _ _ _ h => h) (Or.inl ⟨by rfl, ?_⟩) hHeld ?_ ?_
      rotate_left
      · rintro w' ⟨s0, s1, s2, s3, s4, s5, s6⟩
        go_simp
        with_reducible rfl
      rotate_left
      · simp only [Act.put, List.setIfInBounds_toArray, List.set_cons_zero, List.set_cons_succ, i64_w, i32_w]
        rfl
      refine pure_ (i := 5) (N := some 10) (v := ?_) (a' := ?_) #[true, true, true, true, true, true, false, false, false, false, false] rfl rfl (any_of HT_.out (by kernel_rfl)) (fun _ _ _ h => h) (Or.inl ⟨by rfl, ?_⟩) ?_ ?_
      rotate_left
      · intro w'
        go_simp
        with_reducible rfl
      rotate_left
      · simp only [Act.put, List.setIfInBounds_toArray, List.set_cons_zero, List.set_cons_succ, i64_w, i32_w]
        rfl
      refine take_ (i := 6) (N := some 11) (v := ?_) (a' := ?_) #[true, true, true, true, true, true, true, false, false, false, false] rfl rfl (take_ofW HT_.out HW_.out (by kernel_rfl)) (fun _ _ _ h => h) (Or.inl ⟨by rfl, ?_⟩) hHeld ?_ ?_
      rotate_left
      · rintro w' ⟨s0, s1, s2, s3, s4, s5, s6⟩
        go_simp
        with_reducible rfl
      rotate_left
      · simp only [Act.put, List.setIfInBounds_toArray, List.set_cons_zero, List.set_cons_succ, i64_w, i32_w]
        rfl
      refine one_ (i := 7) (N := some 12) #[true, true, true, true, true, true, true, true, false, false, false] rfl rfl (one_of HT_.out (by kernel_rfl)) (by decide) (fun K hK => ?_)
      refine goes_ Try.func68 (by kernel_rfl) rfl #[.agg #[.string ((rd_T38 l0_0 a1).f0), .string ((rd_T38 l0_0 a1).f1), .string ((rd_T38 l0_0 a1).f2)]] (by rfl) rfl rfl (by (try simp only [List.map_toArray, List.map_cons, List.map_nil]); first | done | rfl | (simp only [List.length_drop, List.length_take]; rfl)) ?_
      with_reducible refine (disk_size.calls ((rd_T38 l0_0 a1).f0) ((rd_T38 l0_0 a1).f1) ((rd_T38 l0_0 a1).f2) t203 _ A5.out).mono ?_
      rintro e w11 ⟨rfl, hb⟩
      refine ⟨_, rfl, ?_⟩
      replace BK200 := Aside0.mk (blk_below BK200.out hb)
      replace BK201 := Aside0.mk (blk_below BK201.out hb)
      replace HB := Aside0.mk (below_step (by repeat (first | (with_reducible first | exact HB.out | apply below_alloc | apply pw_below_drewN | apply below_drew1 | refine below_set ?_ GE200.out | refine below_set ?_ GE201.out) | exact HB.out)) hb)
      (try clear hb)
      (try clear hb2)
      (try clear hk)
      (try clear hi)
      refine hK.out _ _ ⟨(blk_cell BK200.out 0).trans rfl, (blk_cell BK200.out 1).trans rfl, (blk_cell BK200.out 2).trans rfl, (blk_cell BK200.out 3).trans rfl, ((HB.out.cell (World.block_lt_of_cell? w _ hw202_0)).trans hw202_0), ((HB.out.cell (World.block_lt_of_cell? w _ hw202_1)).trans hw202_1), ((HB.out.cell (World.block_lt_of_cell? w _ hw202_2)).trans hw202_2)⟩ (fun hHeld => ?_)
      clear hK K
      refine norm_ (a' := ?_) ?_ ?_
      rotate_left
      · show Act.put _ (some 12) _ = _
        simp only [Act.put, List.setIfInBounds_toArray, List.set_cons_zero, List.set_cons_succ, i64_w, i32_w]
        rfl
      refine pure_ (i := 8) (N := some 13) (v := ?_) (a' := ?_) #[true, true, true, true, true, true, true, true, true, false, false] rfl rfl (any_of HT_.out (by kernel_rfl)) (fun _ _ _ h => h) (Or.inl ⟨by rfl, ?_⟩) ?_ ?_
      rotate_left
      · intro w'
        go_simp
        with_reducible rfl
      rotate_left
      · simp only [Act.put, List.setIfInBounds_toArray, List.set_cons_zero, List.set_cons_succ, i64_w, i32_w]
        rfl
      refine pure_ (i := 9) (N := some 14) (v := ?_) (a' := ?_) #[true, true, true, true, true, true, true, true, true, true, false] rfl rfl (any_of HT_.out (by kernel_rfl)) (fun _ _ _ h => h) (Or.inl ⟨by rfl, ?_⟩) ?_ ?_
      rotate_left
      · intro w'
        go_simp
        with_reducible rfl
      rotate_left
      · simp only [Act.put, List.setIfInBounds_toArray, List.set_cons_zero, List.set_cons_succ, i64_w, i32_w]
        rfl
      refine last_ (i := 10) (N := none) #[true, true, true, true, true, true, true, true, true, true, true] rfl rfl (one_of HT_.out (by kernel_rfl)) (by decide) (fun K hK => ?_)
      have hs12 : w11.cell? ⟨gb200, 1, none⟩ = some (.int .i64 a0_1) := (blk_cell BK200.out 1).trans rfl
      have hfs12 := blk_frozen BK200.out 1
      have hns12_1 := NB201_200.out
      have hms12_1 := NB200_201.out
      refine skip_ (w1 := ?_) (by rfl) rfl ?_ ?_
      rotate_left
      · go_simp
        rfl
      refine hK.out _ _ ?_
      clear hK K
      refine done_ (done_of HT_.out (by kernel_rfl)) ?_
      have hnb13 := NB200_201.out
      have hnc13 := NB201_200.out
      obtain ⟨hcz14_0, hcz14_1, hcz14_2, hcz14_3⟩ := Cb.c4 BK200.out
      obtain ⟨hfz14_0, hfz14_1, hfz14_2, hfz14_3⟩ := Cb.f4 BK200.out
      try go_wp2_with (first | ((with_reducible refine gate_callee (f := 69) rfl ?_); refine goesL_ (some 17) rfl rfl Try.func69 (by kernel_rfl) rfl #[.slice (some ad202) l0_0.length c0_0] rfl (by (try simp only [List.map_toArray, List.map_cons, List.map_nil]); first | done | rfl | (simp only [List.length_drop, List.length_take]; rfl)) ?_; (with_reducible refine (api_File_69.calls _ _ l0_0 t204 _ ?side1 ?side2 A6.out).mono ?_); (case side1 => exact Kd.C_below HR0_0.out (by repeat (first | (with_reducible first | exact HB.out | apply below_alloc | apply pw_below_drewN | apply below_drew1 | refine below_set ?_ GE200.out | refine below_set ?_ GE201.out) | exact HB.out))); (case side2 => exact HC0_0.out); rintro e w15 ⟨v205, rfl, ho0, hb⟩; refine ⟨_, rfl, ?_⟩; have HO206 := Aside0.mk (Kd.R_lower ho0 (below_size (by repeat (first | (with_reducible first | exact HB.out | apply below_alloc | apply pw_below_drewN | apply below_drew1 | refine below_set ?_ GE200.out | refine below_set ?_ GE201.out) | exact HB.out)))); replace BK200 := Aside0.mk (blk_below (g := gb200) (o := .cells #[.slice (some ad202) l0_0.length c0_0, .int .i64 (wrap64 (a0_1 + t203)), .int .i64 a0_2, .bool a0_3] 33 (0, 0)) (by (with_reducible repeat (first | refine blk_drewN ?_ _ | refine blk_drew ?_ | refine blk_alloc ?_ _)); refine blk_put (cs := #[.slice (some ad202) l0_0.length c0_0, .int .i64 a0_1, .int .i64 a0_2, .bool a0_3]) ?_ 1 _ rfl; (with_reducible repeat (first | refine blk_drewN ?_ _ | refine blk_drew ?_ | refine blk_alloc ?_ _)); exact BK200.out) hb); replace BK201 := Aside0.mk (blk_below (g := gb201) (o := .cells #[.slice none 0 0, .int .i64 0, .int .i64 0, .bool false] 33 (0, 0)) (by (with_reducible repeat (first | refine blk_drewN ?_ _ | refine blk_drew ?_ | refine blk_alloc ?_ _)); refine blk_far ?_ NB201_200.out _; (with_reducible repeat (first | refine blk_drewN ?_ _ | refine blk_drew ?_ | refine blk_alloc ?_ _)); exact BK201.out) hb); replace HB := Aside0.mk (below_step (by repeat (first | (with_reducible first | exact HB.out | apply below_alloc | apply pw_below_drewN | apply below_drew1 | refine below_set ?_ GE200.out | refine below_set ?_ GE201.out) | exact HB.out)) hb); (try clear hb); (try clear hb2); (try clear hk); (try clear hi); (try clear ho0); obtain ⟨Ao16, co16, eo16⟩ := Kd.R_slice HO206.out; subst eo16) | ((with_reducible refine gate_callee (f := 91) rfl ?_); refine goesL_ (some 21) rfl rfl Try.func91 (by kernel_rfl) rfl #[.slice Ao16 t204.length co16, .int .i64 a1, .int .i64 (wrap64 (a1 + 1))] rfl (by (try simp only [List.map_toArray, List.map_cons, List.map_nil]); first | done | rfl | (simp only [List.length_drop, List.length_take]; rfl)) ?_; (with_reducible refine (api_File_91.calls (fun k_ => some k_ = (.slice Ao16 t204.length co16 : Value).ownBlock) (.slice Ao16 t204.length co16) t204 a1 (wrap64 (a1 + 1)) t207 w _ ?side1 ?side2 A7.out).mono ?_); (case side1 => repeat (first | (with_reducible first | exact HB.out | apply below_alloc | apply pw_below_drewN | apply below_drew1 | refine below_set ?_ GE200.out | refine below_set ?_ GE201.out) | exact HB.out)); (case side2 => exact Kd.R_tight rfl HO206.out); rintro e w17 ⟨v208, rfl, ho0, hb, hkp⟩; refine ⟨_, rfl, ?_⟩; have n0_ := Aside0.mk (blk_kept (by (with_reducible repeat (first | refine blk_drewN ?_ _ | refine blk_drew ?_ | refine blk_alloc ?_ _)); exact BK200.out) hkp (fun hs_ => (fun e_ => (Kd.R_ne HO206.out BK200.out (by decide)) e_) hs_)); have n1_ := Aside0.mk (blk_kept (by (with_reducible repeat (first | refine blk_drewN ?_ _ | refine blk_drew ?_ | refine blk_alloc ?_ _)); exact BK201.out) hkp (fun hs_ => (fun e_ => (Kd.R_ne HO206.out BK201.out (by decide)) e_) hs_)); have n2_ := Aside0.mk (Kd.R_mono (ok' := fun k_ => True) ho0 (fun k_ hk_ => trivial)); have n3_ := Aside0.mk (hb); clear BK200; clear BK201; clear HB; clear HO206; have BK200 := n0_; have BK201 := n1_; have HO209 := n2_; have HB := n3_; clear n0_ n1_ n2_ n3_; (try clear hb); (try clear hkp); (try clear ho0); obtain ⟨Ao18, co18, eo18⟩ := Kd.R_slice HO209.out; subst eo18; obtain ⟨hcz19_0, hcz19_1, hcz19_2, hcz19_3⟩ := Cb.c4 BK200.out; obtain ⟨hfz19_0, hfz19_1, hfz19_2, hfz19_3⟩ := Cb.f4 BK200.out; obtain ⟨hcz20_0, hcz20_1, hcz20_2, hcz20_3⟩ := Cb.c4 BK201.out; obtain ⟨hfz20_0, hfz20_1, hfz20_2, hfz20_3⟩ := Cb.f4 BK201.out) | ((with_reducible refine gate_store (t := 33) (p := 4) rfl ?_); refine store_event (t := 33) (p := 4) (v := ?vo_w21) (w1 := (((((w17.setCell ⟨gb200, 0, none⟩ (.slice Ao18 t207.length co18)).setCell ⟨gb201, 0, none⟩ (.slice Ao18 t207.length co18)).setCell ⟨gb201, 1, none⟩ (.int .i64 (wrap64 (a0_1 + t203)))).setCell ⟨gb201, 2, none⟩ (.int .i64 a0_2)).setCell ⟨gb201, 3, none⟩ (.bool a0_3))) ?hg ?ho ?hn ?hr ?_; (case ho => rfl); (case hg => rfl); (case hn => rfl); (case hr => first | (go_simp; done) | (go_simp; rfl)); intro w21 hw; have n0_ : Aside0 (Kd.R k38 38 w21 w.heap.size (fun _ => True) (.slice Ao18 t207.length co18) t207) := ⟨(by rw [hw]; exact (by exact Kd.R_mono (Kd.R_far (p := ⟨gb201, 3, none⟩) (Kd.R_far (p := ⟨gb201, 2, none⟩) (Kd.R_far (p := ⟨gb201, 1, none⟩) (Kd.R_far (p := ⟨gb201, 0, none⟩) (Kd.R_far (p := ⟨gb200, 0, none⟩) (Kd.R_types (Kd.R_types HO209.out BK200.out (by decide)) BK201.out (by decide)) (fun _ hk => hk.1.2) (.slice Ao18 t207.length co18)) (fun _ hk => hk.2) (.slice Ao18 t207.length co18)) (fun _ hk => hk.2) (.int .i64 (wrap64 (a0_1 + t203)))) (fun _ hk => hk.2) (.int .i64 a0_2)) (fun _ hk => hk.2) (.bool a0_3)) (fun _ hk => trivial)))⟩; have n1_ : Aside0 (w21.heap[gb200]? = some (.cells #[.slice Ao18 t207.length co18, .int .i64 (wrap64 (a0_1 + t203)), .int .i64 a0_2, .bool a0_3] 33 (0, 0))) := ⟨(by rw [hw]; exact (by refine blk_far ?_ NB200_201.out _; refine blk_far ?_ NB200_201.out _; refine blk_far ?_ NB200_201.out _; refine blk_far ?_ NB200_201.out _; refine blk_put (cs := #[.slice (some ad202) l0_0.length c0_0, .int .i64 (wrap64 (a0_1 + t203)), .int .i64 a0_2, .bool a0_3]) ?_ 0 _ rfl; exact BK200.out))⟩; have n2_ : Aside0 (w21.heap[gb201]? = some (.cells #[.slice Ao18 t207.length co18, .int .i64 (wrap64 (a0_1 + t203)), .int .i64 a0_2, .bool a0_3] 33 (0, 0))) := ⟨(by rw [hw]; exact (by refine blk_put (cs := #[.slice Ao18 t207.length co18, .int .i64 (wrap64 (a0_1 + t203)), .int .i64 a0_2, .bool false]) ?_ 3 _ rfl; refine blk_put (cs := #[.slice Ao18 t207.length co18, .int .i64 (wrap64 (a0_1 + t203)), .int .i64 0, .bool false]) ?_ 2 _ rfl; refine blk_put (cs := #[.slice Ao18 t207.length co18, .int .i64 0, .int .i64 0, .bool false]) ?_ 1 _ rfl; refine blk_put (cs := #[.slice none 0 0, .int .i64 0, .int .i64 0, .bool false]) ?_ 0 _ rfl; refine blk_far ?_ NB201_200.out _; exact BK201.out))⟩; have n3_ : Aside0 (Below w.heap.size w w21) := ⟨(by rw [hw]; exact (by repeat (first | exact HB.out | refine below_set ?_ GE200.out | refine below_set ?_ GE201.out)))⟩; clear hw; clear HO209; clear BK200; clear BK201; clear HB; have HO209 := n0_; have BK200 := n1_; have BK201 := n2_; have HB := n3_; clear n0_ n1_ n2_ n3_))
      refine bodyPost_ret (results_cell_row rfl _ _ gb201 33 #[.slice Ao18 t207.length co18, .int .i64 (wrap64 (a0_1 + t203)), .int .i64 a0_2, .bool a0_3] (0, 0) _ rfl (by (with_reducible repeat (first | refine blk_drewN ?_ _ | refine blk_drew ?_ | refine blk_alloc ?_ _)); exact BK201.out) Try.underlying33 rfl (by kernel_rfl)) rfl ?_
      exact ⟨_, by first | rfl | (simp [errW_none, errW_some] <;> rfl) | (simp [*, errW_none, errW_some] <;> rfl), by (with_reducible repeat (first | apply Kd.R_alloc | apply Kd.R_drewN | apply Kd.R_drew)); exact HO209.out, by repeat (first | (with_reducible first | exact HB.out | apply below_alloc | apply pw_below_drewN | apply below_drew1 | refine below_set ?_ GE200.out | refine below_set ?_ GE201.out) | exact HB.out)⟩
    · rw [if_neg c4] at H
      exact absurd H (by simp)
  · rw [if_neg c3] at H
    exact absurd H (by simp)

end Go.Proofs.Ytbhkopbalhhpgaa.PH
