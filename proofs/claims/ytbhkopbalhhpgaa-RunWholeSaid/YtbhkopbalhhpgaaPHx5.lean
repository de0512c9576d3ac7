-- Made by a program of this workplace out of the translation (wip/tools in the repo). Not trusted: Lean checks it.
import Derived.Test.YtbhkopbalhhpgaaPHx0
import Derived.Test.YtbhkopbalhhpgaaCb
import Derived.Test.YtbhkopbalhhpgaaPHx1
namespace Go.Proofs.Ytbhkopbalhhpgaa.PH
open Go.RowKit Go.Proofs.YtbhkopbalhhpgaaW.PrintWords Go.Proofs.YtbhkopbalhhpgaaW.PrintLast Go.Proofs.YtbhkopbalhhpgaaW.PrintMore Go.Proofs.Ytbhkopbalhhpgaa
attribute [local go_sem] max2_int min2_int max_two min_two max_three min_three max_four min_four   -- for this text's walks alone
set_option linter.unusedVariables false
set_option linter.unusedSimpArgs false

/-! ### stanchionref03_Crash: function 14 -/
def stanchionref03_Crash.T12 : Bool × List (List Nat × List Nat) := (true, [([], []), ([0], [0]), ([], []), ([2], [2]), ([], []), ([4], [4]), ([], []), ([6], [6]), ([], []), ([7, 8], [7, 8]), ([5, 9], [5, 9]), ([3, 10], [3, 10]), ([11], [11]), ([1, 12], [1, 12]), ([0, 1, 2, 3, 4, 5, 6, 7, 8, 9, 10, 11, 12, 13], []), ([14, 13, 13, 0, 1, 2, 3, 4, 5, 6, 7, 8, 9, 10, 11, 12, 13], [13, 14])])
def stanchionref03_Crash.B12 : List Nat := [0, 1, 0, 4, 0, 16, 0, 64, 0, 448, 1008, 2044, 4092, 8191, 16383, 32767]
theorem stanchionref03_Crash.tab12 : rtab .any (opsOf Try.f14 12) = stanchionref03_Crash.T12 := by kernel_rfl
theorem stanchionref03_Crash.bits12 : waitsOk stanchionref03_Crash.T12.2 stanchionref03_Crash.B12 = true := by kernel_rfl
set_option maxHeartbeats 8000000 in
set_option maxRecDepth 100000 in
theorem stanchionref03_Crash.calls (k : Nat) (A0_0 : Option Addr) (c0_0 : Nat) (l0_0 : List (S38)) (a0_1 : Int) (a0_2 : Int) (a0_3 : Bool) (A1 : Option Addr) (c1 : Nat) (l1 : List Int) (r1 : List (S38)) (r2 : Int) (r3 : Int) (r4 : Bool) (w : World) (hr0_0 : Kd.C k38 w A0_0 l0_0.length l0_0) (hc0_0 : l0_0.length ≤ c0_0) (hr1 : Kd.C (Kd.int .i64) w A1 l1.length l1) (hc1 : l1.length ≤ c1) (h : stanchionref03_Crash.f k l0_0 a0_1 a0_2 a0_3 l1 = some (r1, r2, r3, r4)) :
    Calls Try.prog 14 #[.agg #[.slice A0_0 l0_0.length c0_0, .int .i64 a0_1, .int .i64 a0_2, .bool a0_3], .slice A1 l1.length c1] w fun e w' => ∃ v0_ : Value, e = .returned (.agg #[v0_, .int .i64 r2, .int .i64 r3, .bool r4]) ∧ Kd.R k38 38 w' w.heap.size (fun _ => True) v0_ r1 ∧ Below w.heap.size w w' := by
  have hu33 := Try.underlying33
  have hu38 := Try.underlying38
  have HR0_0 := Aside0.mk hr0_0
  have HC0_0 := Aside0.mk hc0_0
  clear hr0_0 hc0_0
  have HR1 := Aside0.mk hr1
  have HC1 := Aside0.mk hc1
  clear hr1 hc1
  have HB := Aside0.mk (Below.refl w.heap.size w)
  have H : (stanchionref03_Crash.l0 k l1 0 l0_0 a0_1 a0_2 a0_3 ([] : List (S38)) a0_1 (-1) false) = some (r1, r2, r3, r4) := h
  clear h
  have H' := Aside0.mk H
  clear H
  go_enter Try.func14, Try.ntmps14
  go_wp2_with (first | ((with_reducible refine gate_dst (N := 2) rfl ?_); refine box_event ?hg (N := 2) ?hd (cs := #[.slice A0_0 l0_0.length c0_0, .int .i64 a0_1, .int .i64 a0_2, .bool a0_3]) (t := 33) ?hr ?_; (case hd => rfl); (case hg => rfl); (case hr => first | (go_simp; done) | (go_simp; rfl)); intro gb157 hg w3 hbox hb; obtain ⟨n_, GE157⟩ := Cb.bx (by repeat (first | (with_reducible first | exact HB.out | apply below_alloc | apply pw_below_drewN | apply below_drew1) | exact HB.out)) hg hb; have GW157 := GE157; have BK157 := Aside0.mk (hbox); replace HB := n_; clear n_; clear hb hbox hg) | ((with_reducible refine gate_dst (N := 4) rfl ?_); refine box_event ?hg (N := 4) ?hd (cs := #[.slice none 0 0, .int .i64 0, .int .i64 0, .bool false]) (t := 33) ?hr ?_; (case hd => rfl); (case hg => rfl); (case hr => first | (go_simp; done) | (go_simp; rfl)); intro gb158 hg w4 hbox hb; obtain ⟨n_, GE158⟩ := Cb.bx (by repeat (first | (with_reducible first | exact HB.out | apply below_alloc | apply pw_below_drewN | apply below_drew1 | refine below_set ?_ GE157.out) | exact HB.out)) hg hb; have GW158 := GE158; obtain ⟨NB157_158, NB158_157⟩ := Cb.nb hg BK157.out; have BK158 := Aside0.mk (hbox); replace BK157 := Aside0.mk (blk_below BK157.out hb); replace HB := n_; clear n_; clear hb hbox hg; have hnb5 := NB157_158.out; have hnc5 := NB158_157.out; obtain ⟨hcz6_0, hcz6_1, hcz6_2, hcz6_3⟩ := Cb.c4 BK157.out; obtain ⟨hfz6_0, hfz6_1, hfz6_2, hfz6_3⟩ := Cb.f4 BK157.out) | ((with_reducible refine gate_dst (N := 5) rfl ?_); refine box_event ?hg (N := 5) ?hd (cs := #[.slice none 0 0, .int .i64 0, .int .i64 0, .bool false]) (t := 33) ?hr ?_; (case hd => rfl); (case hg => rfl); (case hr => first | (go_simp; done) | (go_simp; rfl)); intro gb159 hg w7 hbox hb; obtain ⟨n_, GE159⟩ := Cb.bx (by repeat (first | (with_reducible first | exact HB.out | apply below_alloc | apply pw_below_drewN | apply below_drew1 | refine below_set ?_ GE157.out | refine below_set ?_ GE158.out) | exact HB.out)) hg hb; have GW159 := GE159; obtain ⟨NB157_159, NB159_157⟩ := Cb.nb hg BK157.out; obtain ⟨NB158_159, NB159_158⟩ := Cb.nb hg BK158.out; have BK159 := Aside0.mk (hbox); replace BK157 := Aside0.mk (blk_below BK157.out hb); replace BK158 := Aside0.mk (blk_below BK158.out hb); replace HB := n_; clear n_; clear hb hbox hg; have hnb8 := NB159_157.out; have hnc8 := NB157_159.out; have hnb9 := NB159_158.out; have hnc9 := NB158_159.out; obtain ⟨hcz10_0, hcz10_1, hcz10_2, hcz10_3⟩ := Cb.c4 BK159.out; obtain ⟨hfz10_0, hfz10_1, hfz10_2, hfz10_3⟩ := Cb.f4 BK159.out) | ((with_reducible refine gate_store (t := 33) (p := 5) rfl ?_); refine store_event (t := 33) (p := 5) (v := ?vo_w11) (w1 := ((((w7.setCell ⟨gb159, 0, none⟩ (.slice none 0 0)).setCell ⟨gb159, 1, none⟩ (.int .i64 a0_1)).setCell ⟨gb159, 2, none⟩ (.int .i64 (-1))).setCell ⟨gb159, 3, none⟩ (.bool false))) ?hg ?ho ?hn ?hr ?_; (case ho => rfl); (case hg => rfl); (case hn => rfl); (case hr => first | (go_simp; done) | (go_simp; rfl)); intro w11 hw; have n0_ : Aside0 (w11.heap[gb157]? = some (.cells #[.slice A0_0 l0_0.length c0_0, .int .i64 a0_1, .int .i64 a0_2, .bool a0_3] 33 (0, 0))) := ⟨(by rw [hw]; exact (by refine blk_far ?_ NB157_159.out _; refine blk_far ?_ NB157_159.out _; refine blk_far ?_ NB157_159.out _; refine blk_far ?_ NB157_159.out _; exact BK157.out))⟩; have n1_ : Aside0 (w11.heap[gb158]? = some (.cells #[.slice none 0 0, .int .i64 0, .int .i64 0, .bool false] 33 (0, 0))) := ⟨(by rw [hw]; exact (by refine blk_far ?_ NB158_159.out _; refine blk_far ?_ NB158_159.out _; refine blk_far ?_ NB158_159.out _; refine blk_far ?_ NB158_159.out _; exact BK158.out))⟩; have n2_ : Aside0 (w11.heap[gb159]? = some (.cells #[.slice none 0 0, .int .i64 a0_1, .int .i64 (-1), .bool false] 33 (0, 0))) := ⟨(by rw [hw]; exact (by refine blk_put (cs := #[.slice none 0 0, .int .i64 a0_1, .int .i64 (-1), .bool false]) ?_ 3 _ rfl; refine blk_put (cs := #[.slice none 0 0, .int .i64 a0_1, .int .i64 0, .bool false]) ?_ 2 _ rfl; refine blk_put (cs := #[.slice none 0 0, .int .i64 0, .int .i64 0, .bool false]) ?_ 1 _ rfl; refine blk_put (cs := #[.slice none 0 0, .int .i64 0, .int .i64 0, .bool false]) ?_ 0 _ rfl; exact BK159.out))⟩; have n3_ : Aside0 (Below w.heap.size w w11) := ⟨(by rw [hw]; exact (by repeat (first | exact HB.out | refine below_set ?_ GE159.out)))⟩; clear hw; clear BK157; clear BK158; clear BK159; clear HB; have BK157 := n0_; have BK158 := n1_; have BK159 := n2_; have HB := n3_; clear n0_ n1_ n2_ n3_))
  go_loopg [6] k (fun kq v6 w' => ∃ (x6_1 : Int) (x160000_1 : List (S38)) (x160001_1 : Int) (u160000 : Value), v6 = .int .i64 x6_1 ∧ Aside0 (stanchionref03_Crash.l0 kq l1 x6_1 l0_0 a0_1 a0_2 a0_3 x160000_1 x160001_1 (-1) false = some (r1, r2, r3, r4)) ∧ Aside0 (kq ≤ k) ∧ Aside0 (Kd.R k38 38 w' w.heap.size (fun _ => True) u160000 x160000_1) ∧ Aside0 (w'.heap[gb157]? = some (.cells #[(.slice A0_0 l0_0.length c0_0), .int .i64 a0_1, .int .i64 a0_2, .bool a0_3] 33 (0, 0))) ∧ Aside0 (w'.heap[gb158]? = some (.cells #[(.slice none 0 0), .int .i64 0, .int .i64 0, .bool false] 33 (0, 0))) ∧ Aside0 (w'.heap[gb159]? = some (.cells #[u160000, .int .i64 x160001_1, .int .i64 (-1), .bool false] 33 (0, 0))) ∧ Aside0 (Below w.heap.size w w'))
  case atStart => exact ⟨(0), (([] : List (S38))), (a0_1), (.slice none 0 0), (by first | rfl | (simp; done) | (simp [*]; done)), H', ⟨Nat.le_refl _⟩, ⟨by first | exact Kd.R_nil _ _ _ _ _ | exact Kd.N_nil _ _ _ _ _ | exact Kd.V_nil _ _ _ _ _ | exact Kd.Q_nil _ _ _ _ _ | exact Kd.S_nil _ _ _ _ _⟩, ⟨by (with_reducible repeat (first | refine blk_drewN ?_ _ | refine blk_drew ?_ | refine blk_alloc ?_ _)); exact BK157.out⟩, ⟨by (with_reducible repeat (first | refine blk_drewN ?_ _ | refine blk_drew ?_ | refine blk_alloc ?_ _)); exact BK158.out⟩, ⟨by (with_reducible repeat (first | refine blk_drewN ?_ _ | refine blk_drew ?_ | refine blk_alloc ?_ _)); exact BK159.out⟩, ⟨by repeat (first | (with_reducible first | exact HB.out | apply below_alloc | apply pw_below_drewN | apply below_drew1 | refine below_set ?_ GE157.out | refine below_set ?_ GE158.out | refine below_set ?_ GE159.out) | exact HB.out)⟩⟩
  case round =>
    clear H'
    try clear c1; try clear p2; try clear c5; try clear c8; try clear c9; try clear hcz10_0; try clear hcz10_1; try clear hcz10_2; try clear hcz10_3; try clear hcz6_0; try clear hcz6_1; try clear hcz6_2; try clear hcz6_3; try clear hfz10_0; try clear hfz10_1; try clear hfz10_2; try clear hfz10_3; try clear hfz6_0; try clear hfz6_1; try clear hfz6_2; try clear hfz6_3
    obtain ⟨x6_1, x160000_1, x160001_1, u160000, rfl, HA, HK1, HO_160000, BK157, BK158, BK159, HB⟩ := hrel
    cases gk with
    | zero => exact absurd HA.out (by simp [stanchionref03_Crash.l0])
    | succ k1 =>
      have H := HA.out
      clear HA
      simp only [stanchionref03_Crash.l0] at H
      by_cases c12 : x6_1 < (l0_0.length : Int)
      · rw [if_pos c12] at H
        have c12b0 : decide (x6_1 < (l0_0.length : Int)) = true := decide_eq_true c12
        clear c12
        by_cases c13 : 0 ≤ x6_1
        · rw [if_pos c13] at H
          have c13b0 : decide (0 ≤ x6_1) = true := decide_eq_true c13
          clear c13
          have HC14 := Aside0.mk H
          clear H
          have hnb15 := NB157_158.out
          have hnc15 := NB158_157.out
          have hnb16 := NB157_159.out
          have hnc16 := NB159_157.out
          obtain ⟨hcz17_0, hcz17_1, hcz17_2, hcz17_3⟩ := Cb.c4 BK157.out
          obtain ⟨hfz17_0, hfz17_1, hfz17_2, hfz17_3⟩ := Cb.f4 BK157.out
          have p160 : 0 ≤ (x6_1 : Int) := of_decide_eq_true (by first | (with_reducible assumption) | assumption)
          have q160 : x6_1 < (l0_0.length : Int) := of_decide_eq_true (by first | (with_reducible assumption) | assumption)
          obtain ⟨ad160, e160, hx160_0, hx160_1, hx160_2⟩ := at_T38 HR0_0.out x6_1 p160 q160
          cases e160
          replace hx160_0 := (HB.out.cell (World.block_lt_of_cell? w _ hx160_0)).trans hx160_0
          replace hx160_1 := (HB.out.cell (World.block_lt_of_cell? w _ hx160_1)).trans hx160_1
          replace hx160_2 := (HB.out.cell (World.block_lt_of_cell? w _ hx160_2)).trans hx160_2
          replace p160 := eq_true p160
          replace q160 := eq_true q160
          go_upto_region 7 with (first | ((with_reducible refine gate_dst (N := 7) rfl ?_); refine box_event ?hg (N := 7) ?hd (cs := #[.string (⟨#[]⟩ : ByteArray), .string (⟨#[]⟩ : ByteArray), .string (⟨#[]⟩ : ByteArray)]) (t := 38) ?hr ?_; (case hd => rfl); (case hg => rfl); (case hr => first | (go_simp; done) | (go_simp; rfl)); intro gb161 hg w18 hbox hb; obtain ⟨n_, GE161⟩ := Cb.bx (by repeat (first | (with_reducible first | exact HB.out | apply below_alloc | apply pw_below_drewN | apply below_drew1 | refine below_set ?_ GE157.out | refine below_set ?_ GE158.out | refine below_set ?_ GE159.out) | exact HB.out)) hg hb; have GW161 := GE161; obtain ⟨NB157_161, NB161_157⟩ := Cb.nb hg BK157.out; obtain ⟨NB158_161, NB161_158⟩ := Cb.nb hg BK158.out; obtain ⟨NB159_161, NB161_159⟩ := Cb.nb hg BK159.out; have BK161 := Aside0.mk (hbox); replace HO_160000 := Aside0.mk (Kd.R_below (Kd.R_elderB (by (with_reducible repeat (first | apply Kd.R_alloc | apply Kd.R_drewN | apply Kd.R_drew)); exact HO_160000.out) gb161 (Nat.le_of_eq hg.symm)) hb); replace BK157 := Aside0.mk (blk_below BK157.out hb); replace BK158 := Aside0.mk (blk_below BK158.out hb); replace BK159 := Aside0.mk (blk_below BK159.out hb); replace HB := n_; clear n_; clear hb hbox hg; have hnb19 := NB161_157.out; have hnc19 := NB157_161.out; have hnb20 := NB161_158.out; have hnc20 := NB158_161.out; have hnb21 := NB161_159.out; have hnc21 := NB159_161.out; obtain ⟨hcz22_0, hcz22_1, hcz22_2⟩ := Cb.c3 BK161.out; obtain ⟨hfz22_0, hfz22_1, hfz22_2⟩ := Cb.f3 BK161.out) | ((with_reducible refine gate_store (t := 38) (p := 7) rfl ?_); refine store_event (t := 38) (p := 7) (v := ?vo_w23) (w1 := (((w18.setCell ⟨gb161, 0, none⟩ (.string ((rd_T38 l0_0 x6_1).f0))).setCell ⟨gb161, 1, none⟩ (.string ((rd_T38 l0_0 x6_1).f1))).setCell ⟨gb161, 2, none⟩ (.string ((rd_T38 l0_0 x6_1).f2)))) ?hg ?ho ?hn ?hr ?_; (case ho => rfl); (case hg => rfl); (case hn => rfl); (case hr => first | (go_simp; done) | (go_simp; rfl)); intro w23 hw; have n0_ : Aside0 (Kd.R k38 38 w23 w.heap.size (fun k_ => k_ ≠ gb161) u160000 x160000_1) := ⟨(by rw [hw]; exact (by exact Kd.R_mono (Kd.R_far (p := ⟨gb161, 2, none⟩) (Kd.R_far (p := ⟨gb161, 1, none⟩) (Kd.R_far (p := ⟨gb161, 0, none⟩) (Kd.R_mono HO_160000.out (fun k_ hk => (⟨hk, hk.2⟩ : _ ∧ k_ ≠ gb161))) (fun _ hk => hk.2) (.string ((rd_T38 l0_0 x6_1).f0))) (fun _ hk => hk.2) (.string ((rd_T38 l0_0 x6_1).f1))) (fun _ hk => hk.2) (.string ((rd_T38 l0_0 x6_1).f2))) (fun _ hk => hk.1.2)))⟩; have n1_ : Aside0 (w23.heap[gb157]? = some (.cells #[.slice (some ad160) l0_0.length c0_0, .int .i64 a0_1, .int .i64 a0_2, .bool a0_3] 33 (0, 0))) := ⟨(by rw [hw]; exact (by refine blk_far ?_ NB157_161.out _; refine blk_far ?_ NB157_161.out _; refine blk_far ?_ NB157_161.out _; exact BK157.out))⟩; have n2_ : Aside0 (w23.heap[gb158]? = some (.cells #[.slice none 0 0, .int .i64 0, .int .i64 0, .bool false] 33 (0, 0))) := ⟨(by rw [hw]; exact (by refine blk_far ?_ NB158_161.out _; refine blk_far ?_ NB158_161.out _; refine blk_far ?_ NB158_161.out _; exact BK158.out))⟩; have n3_ : Aside0 (w23.heap[gb159]? = some (.cells #[u160000, .int .i64 x160001_1, .int .i64 (-1), .bool false] 33 (0, 0))) := ⟨(by rw [hw]; exact (by refine blk_far ?_ NB159_161.out _; refine blk_far ?_ NB159_161.out _; refine blk_far ?_ NB159_161.out _; exact BK159.out))⟩; have n4_ : Aside0 (w23.heap[gb161]? = some (.cells #[.string ((rd_T38 l0_0 x6_1).f0), .string ((rd_T38 l0_0 x6_1).f1), .string ((rd_T38 l0_0 x6_1).f2)] 38 (0, 0))) := ⟨(by rw [hw]; exact (by refine blk_put (cs := #[.string ((rd_T38 l0_0 x6_1).f0), .string ((rd_T38 l0_0 x6_1).f1), .string (⟨#[]⟩ : ByteArray)]) ?_ 2 _ rfl; refine blk_put (cs := #[.string ((rd_T38 l0_0 x6_1).f0), .string (⟨#[]⟩ : ByteArray), .string (⟨#[]⟩ : ByteArray)]) ?_ 1 _ rfl; refine blk_put (cs := #[.string (⟨#[]⟩ : ByteArray), .string (⟨#[]⟩ : ByteArray), .string (⟨#[]⟩ : ByteArray)]) ?_ 0 _ rfl; exact BK161.out))⟩; have n5_ : Aside0 (Below w.heap.size w w23) := ⟨(by rw [hw]; exact (by repeat (first | exact HB.out | refine below_set ?_ GE161.out)))⟩; clear hw; clear HO_160000; clear BK157; clear BK158; clear BK159; clear BK161; clear HB; have HO_160000 := n0_; have BK157 := n1_; have BK158 := n2_; have BK159 := n3_; have BK161 := n4_; have HB := n5_; clear n0_ n1_ n2_ n3_ n4_ n5_))
          (try simp only [Act.put, List.setIfInBounds_toArray, List.set_cons_zero, List.set_cons_succ])
          go_cut [34] (fun v34 wc => ∃ (kq : Nat) (x34_13 : Bool), v34 = .bool x34_13 ∧ Aside0 (stanchionref03_Crash.j1 kq l1 x6_1 0 x34_13 l0_0 a0_1 a0_2 a0_3 x160000_1 x160001_1 (-1) false ((rd_T38 l0_0 x6_1).f0) ((rd_T38 l0_0 x6_1).f1) ((rd_T38 l0_0 x6_1).f2) = some (r1, r2, r3, r4)) ∧ Aside0 (kq ≤ k1) ∧ Aside0 (Kd.R k38 38 wc w.heap.size (fun k_ => k_ ≠ gb161) u160000 x160000_1) ∧ Aside0 (wc.heap[gb157]? = some (.cells #[(.slice (some ad160) l0_0.length c0_0), .int .i64 a0_1, .int .i64 a0_2, .bool a0_3] 33 (0, 0))) ∧ Aside0 (wc.heap[gb158]? = some (.cells #[(.slice none 0 0), .int .i64 0, .int .i64 0, .bool false] 33 (0, 0))) ∧ Aside0 (wc.heap[gb159]? = some (.cells #[u160000, .int .i64 x160001_1, .int .i64 (-1), .bool false] 33 (0, 0))) ∧ Aside0 (wc.heap[gb161]? = some (.cells #[.string ((rd_T38 l0_0 x6_1).f0), .string ((rd_T38 l0_0 x6_1).f1), .string ((rd_T38 l0_0 x6_1).f2)] 38 (0, 0))) ∧ Aside0 (Below w.heap.size w wc))
          case first =>
            have H := HC14.out
            clear HC14
            by_cases c24 : x6_1 < (l1.length : Int)
            · rw [if_pos c24] at H
              have c24b0 : decide (x6_1 < (l1.length : Int)) = true := decide_eq_true c24
              clear c24
              (first | rw [c24b0] | (simp only [i64_w, i32_w]; rw [c24b0]) | skip)
              have H' := Aside0.mk H
              clear H
              have p162 : 0 ≤ (x6_1 : Int) := of_decide_eq_true (by first | (with_reducible assumption) | assumption)
              have q162 : x6_1 < (l1.length : Int) := of_decide_eq_true (by first | (with_reducible assumption) | assumption)
              obtain ⟨ad162, e162, hx162_0⟩ := Kd.at_int HR1.out x6_1 p162 q162
              cases e162
              replace hx162_0 := (HB.out.cell (World.block_lt_of_cell? w _ hx162_0)).trans hx162_0
              replace p162 := eq_true p162
              replace q162 := eq_true q162
              go_wp2
              go_meet
              case rel => exact ⟨_, (decide ((rd l1 x6_1) > 0)), (by first | rfl | (simp; done) | (simp [*]; done)), H', ⟨by have := HK1.out; first | omega | exact Nat.le_refl _⟩, ⟨by (with_reducible repeat (first | apply Kd.R_alloc | apply Kd.R_drewN | apply Kd.R_drew)); exact HO_160000.out⟩, ⟨by (with_reducible repeat (first | refine blk_drewN ?_ _ | refine blk_drew ?_ | refine blk_alloc ?_ _)); exact BK157.out⟩, ⟨by (with_reducible repeat (first | refine blk_drewN ?_ _ | refine blk_drew ?_ | refine blk_alloc ?_ _)); exact BK158.out⟩, ⟨by (with_reducible repeat (first | refine blk_drewN ?_ _ | refine blk_drew ?_ | refine blk_alloc ?_ _)); exact BK159.out⟩, ⟨by (with_reducible repeat (first | refine blk_drewN ?_ _ | refine blk_drew ?_ | refine blk_alloc ?_ _)); exact BK161.out⟩, ⟨by repeat (first | (with_reducible first | exact HB.out | apply below_alloc | apply pw_below_drewN | apply below_drew1 | refine below_set ?_ GE157.out | refine below_set ?_ GE158.out | refine below_set ?_ GE159.out | refine below_set ?_ GE161.out) | exact HB.out)⟩⟩
            · rw [if_neg c24] at H
              have c24b0 : decide (x6_1 < (l1.length : Int)) = false := decide_eq_false c24
              clear c24
              (first | rw [c24b0] | (simp only [i64_w, i32_w]; rw [c24b0]) | skip)
              have H' := Aside0.mk H
              clear H
              go_wp2
              go_meet
              case rel => exact ⟨_, (false), (by first | rfl | (simp; done) | (simp [*]; done)), H', ⟨by have := HK1.out; first | omega | exact Nat.le_refl _⟩, ⟨by (with_reducible repeat (first | apply Kd.R_alloc | apply Kd.R_drewN | apply Kd.R_drew)); exact HO_160000.out⟩, ⟨by (with_reducible repeat (first | refine blk_drewN ?_ _ | refine blk_drew ?_ | refine blk_alloc ?_ _)); exact BK157.out⟩, ⟨by (with_reducible repeat (first | refine blk_drewN ?_ _ | refine blk_drew ?_ | refine blk_alloc ?_ _)); exact BK158.out⟩, ⟨by (with_reducible repeat (first | refine blk_drewN ?_ _ | refine blk_drew ?_ | refine blk_alloc ?_ _)); exact BK159.out⟩, ⟨by (with_reducible repeat (first | refine blk_drewN ?_ _ | refine blk_drew ?_ | refine blk_alloc ?_ _)); exact BK161.out⟩, ⟨by repeat (first | (with_reducible first | exact HB.out | apply below_alloc | apply pw_below_drewN | apply below_drew1 | refine below_set ?_ GE157.out | refine below_set ?_ GE158.out | refine below_set ?_ GE159.out | refine below_set ?_ GE161.out) | exact HB.out)⟩⟩
          case rest =>
            clear HC14
            try clear c1; try clear p1; try clear q1; try clear hx1; try clear c2; try clear p2; try clear c5; try clear c8; try clear c9; try clear c12; try clear c12b0; try clear c13; try clear c13b0; try clear c14; try clear c15; try clear c16; try clear p16; try clear q16; try clear hx16; try clear c19; try clear c20; try clear c21; try clear c24; try clear c24b0; try clear hcz10_0; try clear hcz10_1; try clear hcz10_2; try clear hcz10_3; try clear hcz17_0; try clear hcz17_1; try clear hcz17_2; try clear hcz17_3; try clear hcz22_0; try clear hcz22_1; try clear hcz22_2; try clear hcz6_0; try clear hcz6_1; try clear hcz6_2; try clear hcz6_3; try clear hfz10_0; try clear hfz10_1; try clear hfz10_2; try clear hfz10_3; try clear hfz17_0; try clear hfz17_1; try clear hfz17_2; try clear hfz17_3; try clear hfz22_0; try clear hfz22_1; try clear hfz22_2; try clear hfz6_0; try clear hfz6_1; try clear hfz6_2; try clear hfz6_3; try clear hx160_0; try clear hx160_1; try clear hx160_2; try clear hx162_0; try clear p160; try clear p162; try clear p2; try clear q160; try clear q162
            obtain ⟨kq, x34_13, rfl, HA, HJ13, HO_160000, BK157, BK158, BK159, BK161, HB⟩ := hcut
            cases kq with
            | zero => exact absurd HA.out (by simp [stanchionref03_Crash.j1])
            | succ kj13 =>
              have H := HA.out
              clear HA
              simp only [stanchionref03_Crash.j1] at H
              by_cases c25 : x34_13 = true
              · subst c25
                have H1 : (if 0 ≤ x6_1 then (if x6_1 < (l1.length : Int) then (if (rd l1 x6_1) > (((rd_T38 l0_0 x6_1).f2).size : Int) then (if 0 ≤ (((rd_T38 l0_0 x6_1).f2).size : Int) then (if (((rd_T38 l0_0 x6_1).f2).size : Int) ≤ (((rd_T38 l0_0 x6_1).f2).size : Int) then (if ((rd_T38 l0_0 x6_1).f1).size + (((rd_T38 l0_0 x6_1).f2).extract 0 ((((rd_T38 l0_0 x6_1).f2).size : Int) : Int).toNat).size ≤ 9223372036854775807 then (if x160000_1.length < 2932031007402 then (stanchionref03_Crash.l0 kj13 l1 (wrap64 (x6_1 + 1)) l0_0 a0_1 a0_2 a0_3 (x160000_1 ++ [(⟨((rd_T38 l0_0 x6_1).f0), ((rd_T38 l0_0 x6_1).f1) ++ (((rd_T38 l0_0 x6_1).f2).extract 0 ((((rd_T38 l0_0 x6_1).f2).size : Int) : Int).toNat), (⟨#[]⟩ : ByteArray)⟩ : S38)]) (wrap64 ((wrap64 (x160001_1 + (((rd_T38 l0_0 x6_1).f2).size : Int))) - (((rd_T38 l0_0 x6_1).f2).size : Int))) (-1) false) else (none)) else (none)) else (none)) else (none)) else (if 0 ≤ (rd l1 x6_1) then (if (rd l1 x6_1) ≤ (((rd_T38 l0_0 x6_1).f2).size : Int) then (if ((rd_T38 l0_0 x6_1).f1).size + (((rd_T38 l0_0 x6_1).f2).extract 0 ((rd l1 x6_1) : Int).toNat).size ≤ 9223372036854775807 then (if x160000_1.length < 2932031007402 then (stanchionref03_Crash.l0 kj13 l1 (wrap64 (x6_1 + 1)) l0_0 a0_1 a0_2 a0_3 (x160000_1 ++ [(⟨((rd_T38 l0_0 x6_1).f0), ((rd_T38 l0_0 x6_1).f1) ++ (((rd_T38 l0_0 x6_1).f2).extract 0 ((rd l1 x6_1) : Int).toNat), (⟨#[]⟩ : ByteArray)⟩ : S38)]) (wrap64 ((wrap64 (x160001_1 + (((rd_T38 l0_0 x6_1).f2).size : Int))) - (rd l1 x6_1))) (-1) false) else (none)) else (none)) else (none)) else (none))) else (none)) else (none)) = some (r1, r2, r3, r4) := by rw [if_pos rfl] at H; exact H
                clear H
                have H := H1
                clear H1
                by_cases c26 : 0 ≤ x6_1
                · rw [if_pos c26] at H
                  have c26b0 : decide (0 ≤ x6_1) = true := decide_eq_true c26
                  clear c26
                  by_cases c27 : x6_1 < (l1.length : Int)
                  · rw [if_pos c27] at H
                    have c27b0 : decide (x6_1 < (l1.length : Int)) = true := decide_eq_true c27
                    clear c27
                    by_cases c28 : (rd l1 x6_1) > (((rd_T38 l0_0 x6_1).f2).size : Int)
                    · rw [if_pos c28] at H
                      have c28b0 : decide ((((rd_T38 l0_0 x6_1).f2).size : Int) < (rd l1 x6_1)) = true := decide_eq_true c28
                      clear c28
                      by_cases c29 : 0 ≤ (((rd_T38 l0_0 x6_1).f2).size : Int)
                      · rw [if_pos c29] at H
                        have c29b0 := eq_true c29
                        have c29b1 : decide (0 ≤ (((rd_T38 l0_0 x6_1).f2).size : Int)) = true := decide_eq_true c29
                        clear c29
                        by_cases c30 : (((rd_T38 l0_0 x6_1).f2).size : Int) ≤ (((rd_T38 l0_0 x6_1).f2).size : Int)
                        · rw [if_pos c30] at H
                          have c30b0 := eq_true c30
                          have c30b1 : decide ((((rd_T38 l0_0 x6_1).f2).size : Int) ≤ (((rd_T38 l0_0 x6_1).f2).size : Int)) = true := decide_eq_true c30
                          clear c30
                          by_cases c31 : ((rd_T38 l0_0 x6_1).f1).size + (((rd_T38 l0_0 x6_1).f2).extract 0 ((((rd_T38 l0_0 x6_1).f2).size : Int) : Int).toNat).size ≤ 9223372036854775807
                          · rw [if_pos c31] at H
                            have c31b0 := eq_true c31
                            have c31b1 : decide (((rd_T38 l0_0 x6_1).f1).size + (((rd_T38 l0_0 x6_1).f2).extract 0 ((((rd_T38 l0_0 x6_1).f2).size : Int) : Int).toNat).size ≤ 9223372036854775807) = true := decide_eq_true c31
                            try have c31b2 : (9223372036854775807 < ((rd_T38 l0_0 x6_1).f1).size + (((rd_T38 l0_0 x6_1).f2).extract 0 ((((rd_T38 l0_0 x6_1).f2).size : Int) : Int).toNat).size) = False := eq_false (Nat.not_lt.2 c31)
                            try have c31b4 : (9223372036854775807 < ((rd_T38 l0_0 x6_1).f1).size + ((((rd_T38 l0_0 x6_1).f2).size : Int) : Int).toNat) = False := eq_false (by have q1_ := c31; rw [ByteArray.size_extract] at q1_; have q2_ := of_decide_eq_true (show decide ((((rd_T38 l0_0 x6_1).f2).size : Int) ≤ (((rd_T38 l0_0 x6_1).f2).size : Int)) = true by assumption); omega)
                            try have c31b5 : (9223372036854775807 < ((rd_T38 l0_0 x6_1).f1).size + ((rd_T38 l0_0 x6_1).f2).size) = False := eq_false (by have q1_ := c31; rw [ByteArray.size_extract] at q1_; omega)
                            rw [show ((rd_T38 l0_0 x6_1).f2).extract 0 ((((rd_T38 l0_0 x6_1).f2).size : Int) : Int).toNat = ((rd_T38 l0_0 x6_1).f2) from by simp] at H
                            by_cases c32 : x160000_1.length < 2932031007402
                            · rw [if_pos c32] at H
                              have LMc32 := Aside0.mk c32
                              clear c32
                              obtain ⟨y164, hy164⟩ : ∃ y_ : List (S38), y_ = (x160000_1 ++ [(⟨((rd_T38 l0_0 x6_1).f0), ((rd_T38 l0_0 x6_1).f1) ++ ((rd_T38 l0_0 x6_1).f2), (⟨#[]⟩ : ByteArray)⟩ : S38)]) := ⟨_, rfl⟩
                              replace H : (stanchionref03_Crash.l0 kj13 l1 (wrap64 (x6_1 + 1)) l0_0 a0_1 a0_2 a0_3 y164 (wrap64 ((wrap64 (x160001_1 + (((rd_T38 l0_0 x6_1).f2).size : Int))) - (((rd_T38 l0_0 x6_1).f2).size : Int))) (-1) false) = some (r1, r2, r3, r4) := by first | (rw [hy164]; with_reducible exact H) | (have H2_ := (Option.bind_some _ _).symm.trans H; rw [hy164]; with_reducible exact H2_) | (have H2_ := (Option.bind_some _ _).symm.trans H; with_reducible exact H2_) | with_reducible exact H | (rw [hy164]; exact H) | exact H
                              have Ny164 := Aside0.mk hy164
                              clear hy164
                              have H' := Aside0.mk H
                              clear H
                              have p163 : 0 ≤ (x6_1 : Int) := of_decide_eq_true (by first | (with_reducible assumption) | assumption)
                              have q163 : x6_1 < (l1.length : Int) := of_decide_eq_true (by first | (with_reducible assumption) | assumption)
                              obtain ⟨ad163, e163, hx163_0⟩ := Kd.at_int HR1.out x6_1 p163 q163
                              cases e163
                              replace hx163_0 := (HB.out.cell (World.block_lt_of_cell? w _ hx163_0)).trans hx163_0
                              replace p163 := eq_true p163
                              replace q163 := eq_true q163
                              have hnb33 := NB161_157.out
                              have hnc33 := NB157_161.out
                              have hnb34 := NB161_158.out
                              have hnc34 := NB158_161.out
                              have hnb35 := NB161_159.out
                              have hnc35 := NB159_161.out
                              obtain ⟨hcz36_0, hcz36_1, hcz36_2⟩ := Cb.c3 BK161.out
                              obtain ⟨hfz36_0, hfz36_1, hfz36_2⟩ := Cb.f3 BK161.out
                              have hnb37 := NB159_157.out
                              have hnc37 := NB157_159.out
                              have hnb38 := NB159_158.out
                              have hnc38 := NB158_159.out
                              obtain ⟨hcz39_0, hcz39_1, hcz39_2, hcz39_3⟩ := Cb.c4 BK159.out
                              obtain ⟨hfz39_0, hfz39_1, hfz39_2, hfz39_3⟩ := Cb.f4 BK159.out
                              try go_wp2
                              have n0_ : Aside0 (Kd.R k38 38 (wc.setCell ⟨gb159, 1, none⟩ (.int .i64 (wrap64 ((wrap64 (x160001_1 + (((rd_T38 l0_0 x6_1).f2).size : Int))) - (((rd_T38 l0_0 x6_1).f2).size : Int))))) w.heap.size (fun k_ => k_ ≠ gb161) u160000 x160000_1) := ⟨by (with_reducible repeat (first | apply Kd.R_alloc | apply Kd.R_drewN | apply Kd.R_drew)); exact Kd.R_mono (Kd.R_far (p := ⟨gb159, 1, none⟩) (Kd.R_types HO_160000.out BK159.out (by decide)) (fun _ hk => hk.2) (.int .i64 (wrap64 ((wrap64 (x160001_1 + (((rd_T38 l0_0 x6_1).f2).size : Int))) - (((rd_T38 l0_0 x6_1).f2).size : Int))))) (fun _ hk => hk.1)⟩
                              have n1_ : Aside0 ((wc.setCell ⟨gb159, 1, none⟩ (.int .i64 (wrap64 ((wrap64 (x160001_1 + (((rd_T38 l0_0 x6_1).f2).size : Int))) - (((rd_T38 l0_0 x6_1).f2).size : Int))))).heap[gb157]? = some (.cells #[.slice (some ad160) l0_0.length c0_0, .int .i64 a0_1, .int .i64 a0_2, .bool a0_3] 33 (0, 0))) := ⟨by (with_reducible repeat (first | refine blk_drewN ?_ _ | refine blk_drew ?_ | refine blk_alloc ?_ _)); refine blk_far ?_ NB157_159.out _; (with_reducible repeat (first | refine blk_drewN ?_ _ | refine blk_drew ?_ | refine blk_alloc ?_ _)); exact BK157.out⟩
                              have n2_ : Aside0 ((wc.setCell ⟨gb159, 1, none⟩ (.int .i64 (wrap64 ((wrap64 (x160001_1 + (((rd_T38 l0_0 x6_1).f2).size : Int))) - (((rd_T38 l0_0 x6_1).f2).size : Int))))).heap[gb158]? = some (.cells #[.slice none 0 0, .int .i64 0, .int .i64 0, .bool false] 33 (0, 0))) := ⟨by (with_reducible repeat (first | refine blk_drewN ?_ _ | refine blk_drew ?_ | refine blk_alloc ?_ _)); refine blk_far ?_ NB158_159.out _; (with_reducible repeat (first | refine blk_drewN ?_ _ | refine blk_drew ?_ | refine blk_alloc ?_ _)); exact BK158.out⟩
                              have n3_ : Aside0 ((wc.setCell ⟨gb159, 1, none⟩ (.int .i64 (wrap64 ((wrap64 (x160001_1 + (((rd_T38 l0_0 x6_1).f2).size : Int))) - (((rd_T38 l0_0 x6_1).f2).size : Int))))).heap[gb159]? = some (.cells #[u160000, .int .i64 (wrap64 ((wrap64 (x160001_1 + (((rd_T38 l0_0 x6_1).f2).size : Int))) - (((rd_T38 l0_0 x6_1).f2).size : Int))), .int .i64 (-1), .bool false] 33 (0, 0))) := ⟨by (with_reducible repeat (first | refine blk_drewN ?_ _ | refine blk_drew ?_ | refine blk_alloc ?_ _)); refine blk_put (cs := #[u160000, .int .i64 x160001_1, .int .i64 (-1), .bool false]) ?_ 1 _ rfl; (with_reducible repeat (first | refine blk_drewN ?_ _ | refine blk_drew ?_ | refine blk_alloc ?_ _)); exact BK159.out⟩
                              have n4_ : Aside0 ((wc.setCell ⟨gb159, 1, none⟩ (.int .i64 (wrap64 ((wrap64 (x160001_1 + (((rd_T38 l0_0 x6_1).f2).size : Int))) - (((rd_T38 l0_0 x6_1).f2).size : Int))))).heap[gb161]? = some (.cells #[.string ((rd_T38 l0_0 x6_1).f0), .string ((rd_T38 l0_0 x6_1).f1), .string ((rd_T38 l0_0 x6_1).f2)] 38 (0, 0))) := ⟨by (with_reducible repeat (first | refine blk_drewN ?_ _ | refine blk_drew ?_ | refine blk_alloc ?_ _)); refine blk_far ?_ NB161_159.out _; (with_reducible repeat (first | refine blk_drewN ?_ _ | refine blk_drew ?_ | refine blk_alloc ?_ _)); exact BK161.out⟩
                              have n5_ : Aside0 (Below w.heap.size w (wc.setCell ⟨gb159, 1, none⟩ (.int .i64 (wrap64 ((wrap64 (x160001_1 + (((rd_T38 l0_0 x6_1).f2).size : Int))) - (((rd_T38 l0_0 x6_1).f2).size : Int)))))) := ⟨by repeat (first | (with_reducible first | exact HB.out | apply below_alloc | apply pw_below_drewN | apply below_drew1 | refine below_set ?_ GE157.out | refine below_set ?_ GE158.out | refine below_set ?_ GE159.out | refine below_set ?_ GE161.out) | exact HB.out)⟩
                              (try clear HO_160000)
                              (try clear BK157)
                              (try clear BK158)
                              (try clear BK159)
                              (try clear BK161)
                              (try clear HB)
                              generalize (wc.setCell ⟨gb159, 1, none⟩ (.int .i64 (wrap64 ((wrap64 (x160001_1 + (((rd_T38 l0_0 x6_1).f2).size : Int))) - (((rd_T38 l0_0 x6_1).f2).size : Int))))) = w40 at n0_ n1_ n2_ n3_ n4_ n5_ ⊢
                              have HO_160000 := n0_
                              have BK157 := n1_
                              have BK158 := n2_
                              have BK159 := n3_
                              have BK161 := n4_
                              have HB := n5_
                              clear n0_ n1_ n2_ n3_ n4_ n5_
                              replace HO_160000 := Aside0.mk (Kd.R_drew HO_160000.out)
                              replace BK157 := Aside0.mk (blk_drew BK157.out)
                              replace BK158 := Aside0.mk (blk_drew BK158.out)
                              replace BK159 := Aside0.mk (blk_drew BK159.out)
                              replace BK161 := Aside0.mk (blk_drew BK161.out)
                              replace HB := Aside0.mk (below_drew1 HB.out)
                              refine start_ (n := 16) (S := fun w' => w'.cell? ⟨gb159, 0, none⟩ = some (u160000) ∧ w'.cell? ⟨gb159, 1, none⟩ = some (.int .i64 (wrap64 ((wrap64 (x160001_1 + (((rd_T38 l0_0 x6_1).f2).size : Int))) - (((rd_T38 l0_0 x6_1).f2).size : Int)))) ∧ w'.cell? ⟨gb159, 2, none⟩ = some (.int .i64 (-1)) ∧ w'.cell? ⟨gb159, 3, none⟩ = some (.bool false) ∧ w'.cell? ⟨gb161, 0, none⟩ = some (.string ((rd_T38 l0_0 x6_1).f0)) ∧ w'.cell? ⟨gb161, 1, none⟩ = some (.string ((rd_T38 l0_0 x6_1).f1)) ∧ w'.cell? ⟨gb161, 2, none⟩ = some (.string ((rd_T38 l0_0 x6_1).f2))) (ds := [15]) #[false, false, false, false, false, false, false, false, false, false, false, false, false, false, false, false] (by kernel_rfl) rfl rfl ⟨(blk_cell BK159.out 0).trans rfl, (blk_cell BK159.out 1).trans rfl, (blk_cell BK159.out 2).trans rfl, (blk_cell BK159.out 3).trans rfl, (blk_cell BK161.out 0).trans rfl, (blk_cell BK161.out 1).trans rfl, (blk_cell BK161.out 2).trans rfl⟩ (fun hHeld => ?_); refine with_tabW stanchionref03_Crash.tab12 stanchionref03_Crash.bits12 (fun HT_ HW_ => ?_)
                              generalize w40.drew = w41 at HO_160000 BK157 BK158 BK159 BK161 HB hHeld ⊢
                              refine pure_ (i := 0) (N := some 56) (v := ?_) (a' := ?_) #[true, false, false, false, false, false, false, false, false, false, false, false, false, false, false, false] rfl rfl (any_of HT_.out (by kernel_rfl)) (fun _ _ _ h => h) (Or.inl ⟨by rfl, ?_⟩) ?_ ?_
                              rotate_left
                              · intro w'
                                go_simp
                                with_reducible rfl
                              rotate_left
                              · simp only [Act.put, List.setIfInBounds_toArray, List.set_cons_zero, List.set_cons_succ, i64_w, i32_w]
                                rfl
                              refine pure_ (i := 2) (N := some 58) (v := ?_) (a' := ?_) #[true, false, true, false, false, false, false, false, false, false, false, false, false, false, false, false] rfl rfl (any_of HT_.out (by kernel_rfl)) (fun _ _ _ h => h) (Or.inl ⟨by rfl, ?_⟩) ?_ ?_
                              rotate_left
                              · intro w'
                                go_simp
                                with_reducible rfl
                              rotate_left
                              · simp only [Act.put, List.setIfInBounds_toArray, List.set_cons_zero, List.set_cons_succ, i64_w, i32_w]
                                rfl
                              refine pure_ (i := 4) (N := some 60) (v := ?_) (a' := ?_) #[true, false, true, false, true, false, false, false, false, false, false, false, false, false, false, false] rfl rfl (any_of HT_.out (by kernel_rfl)) (fun _ _ _ h => h) (Or.inl ⟨by rfl, ?_⟩) ?_ ?_
                              rotate_left
                              · intro w'
                                go_simp
                                with_reducible rfl
                              rotate_left
                              · simp only [Act.put, List.setIfInBounds_toArray, List.set_cons_zero, List.set_cons_succ, i64_w, i32_w]
                                rfl
                              refine pure_ (i := 6) (N := some 62) (v := ?_) (a' := ?_) #[true, false, true, false, true, false, true, false, false, false, false, false, false, false, false, false] rfl rfl (any_of HT_.out (by kernel_rfl)) (fun _ _ _ h => h) (Or.inl ⟨by rfl, ?_⟩) ?_ ?_
                              rotate_left
                              · intro w'
                                go_simp
                                with_reducible rfl
                              rotate_left
                              · simp only [Act.put, List.setIfInBounds_toArray, List.set_cons_zero, List.set_cons_succ, i64_w, i32_w]
                                rfl
                              refine pure_ (i := 8) (N := some 64) (v := ?_) (a' := ?_) #[true, false, true, false, true, false, true, false, true, false, false, false, false, false, false, false] rfl rfl (any_of HT_.out (by kernel_rfl)) (fun _ _ _ h => h) (Or.inl ⟨by rfl, ?_⟩) ?_ ?_
                              rotate_left
                              · intro w'
                                go_simp
                                with_reducible rfl
                              rotate_left
                              · simp only [Act.put, List.setIfInBounds_toArray, List.set_cons_zero, List.set_cons_succ, i64_w, i32_w]
                                rfl
                              refine take_ (i := 1) (N := some 57) (v := ?_) (a' := ?_) #[true, true, true, false, true, false, true, false, true, false, false, false, false, false, false, false] rfl rfl (take_ofW HT_.out HW_.out (by kernel_rfl)) (fun _ _ _ h => h) (Or.inl ⟨by rfl, ?_⟩) hHeld ?_ ?_
                              rotate_left
                              · rintro w' ⟨s0, s1, s2, s3, s4, s5, s6⟩
                                go_simp
                                with_reducible rfl
                              rotate_left
                              · simp only [Act.put, List.setIfInBounds_toArray, List.set_cons_zero, List.set_cons_succ, i64_w, i32_w]
                                rfl
                              refine take_ (i := 3) (N := some 59) (v := ?_) (a' := ?_) #[true, true, true, true, true, false, true, false, true, false, false, false, false, false, false, false] rfl rfl (take_ofW HT_.out HW_.out (by kernel_rfl)) (fun _ _ _ h => h) (Or.inl ⟨by rfl, ?_⟩) hHeld ?_ ?_
                              rotate_left
                              · rintro w' ⟨s0, s1, s2, s3, s4, s5, s6⟩
                                go_simp
                                with_reducible rfl
                              rotate_left
                              · simp only [Act.put, List.setIfInBounds_toArray, List.set_cons_zero, List.set_cons_succ, i64_w, i32_w]
                                rfl
                              refine take_ (i := 5) (N := some 61) (v := ?_) (a' := ?_) #[true, true, true, true, true, true, true, false, true, false, false, false, false, false, false, false] rfl rfl (take_ofW HT_.out HW_.out (by kernel_rfl)) (fun _ _ _ h => h) (Or.inl ⟨by rfl, ?_⟩) hHeld ?_ ?_
                              rotate_left
                              · rintro w' ⟨s0, s1, s2, s3, s4, s5, s6⟩
                                go_simp
                                with_reducible rfl
                              rotate_left
                              · simp only [Act.put, List.setIfInBounds_toArray, List.set_cons_zero, List.set_cons_succ, i64_w, i32_w]
                                rfl
                              refine take_ (i := 7) (N := some 63) (v := ?_) (a' := ?_) #[true, true, true, true, true, true, true, true, true, false, false, false, false, false, false, false] rfl rfl (take_ofW HT_.out HW_.out (by kernel_rfl)) (fun _ _ _ h => h) (Or.inl ⟨by rfl, ?_⟩) hHeld ?_ ?_
                              rotate_left
                              · rintro w' ⟨s0, s1, s2, s3, s4, s5, s6⟩
                                go_simp
                                with_reducible rfl
                              rotate_left
                              · simp only [Act.put, List.setIfInBounds_toArray, List.set_cons_zero, List.set_cons_succ, i64_w, i32_w]
                                rfl
                              refine pure_ (i := 9) (N := some 65) (v := ?_) (a' := ?_) #[true, true, true, true, true, true, true, true, true, true, false, false, false, false, false, false] rfl rfl (any_of HT_.out (by kernel_rfl)) (fun _ _ _ h => h) (Or.inl ⟨by rfl, ?_⟩) ?_ ?_
                              rotate_left
                              · intro w'
                                go_simp
                                with_reducible rfl
                              rotate_left
                              · simp only [Act.put, List.setIfInBounds_toArray, List.set_cons_zero, List.set_cons_succ, i64_w, i32_w]
                                rfl
                              refine pure_ (i := 10) (N := some 66) (v := ?_) (a' := ?_) #[true, true, true, true, true, true, true, true, true, true, true, false, false, false, false, false] rfl rfl (any_of HT_.out (by kernel_rfl)) (fun _ _ _ h => h) (Or.inl ⟨by rfl, ?_⟩) ?_ ?_
                              rotate_left
                              · intro w'
                                go_simp
                                with_reducible rfl
                              rotate_left
                              · simp only [Act.put, List.setIfInBounds_toArray, List.set_cons_zero, List.set_cons_succ, i64_w, i32_w]
                                rfl
                              refine pure_ (i := 11) (N := some 67) (v := ?_) (a' := ?_) #[true, true, true, true, true, true, true, true, true, true, true, true, false, false, false, false] rfl rfl (any_of HT_.out (by kernel_rfl)) (fun _ _ _ h => h) (Or.inl ⟨by rfl, ?_⟩) ?_ ?_
                              rotate_left
                              · intro w'
                                go_simp
                                with_reducible rfl
                              rotate_left
                              · simp only [Act.put, List.setIfInBounds_toArray, List.set_cons_zero, List.set_cons_succ, i64_w, i32_w]
                                rfl
                              refine one_ (i := 12) (N := some 68) #[true, true, true, true, true, true, true, true, true, true, true, true, true, false, false, false] rfl rfl (one_of HT_.out (by kernel_rfl)) (by decide) (fun K hK => ?_)
                              refine value_ (w1 := ?_) (v := ?_) (by rfl) rfl ?_ ?_
                              rotate_left 2
                              · go_simp
                                constructor
                                · rfl
                                · rfl
                              refine hK.out _ _ ⟨(blk_cell (blk_alloc BK159.out _) 0).trans rfl, (blk_cell (blk_alloc BK159.out _) 1).trans rfl, (blk_cell (blk_alloc BK159.out _) 2).trans rfl, (blk_cell (blk_alloc BK159.out _) 3).trans rfl, (blk_cell (blk_alloc BK161.out _) 0).trans rfl, (blk_cell (blk_alloc BK161.out _) 1).trans rfl, (blk_cell (blk_alloc BK161.out _) 2).trans rfl⟩ (fun hHeld => ?_)
                              clear hK K
                              refine norm_ (a' := ?_) ?_ ?_
                              rotate_left
                              · show Act.put _ (some 68) _ = _
                                simp only [Act.put, List.setIfInBounds_toArray, List.set_cons_zero, List.set_cons_succ, i64_w, i32_w]
                                rfl
                              refine one_ (i := 13) (N := some 69) #[true, true, true, true, true, true, true, true, true, true, true, true, true, true, false, false] rfl rfl (one_of HT_.out (by kernel_rfl)) (by decide) (fun K hK => ?_)
                              refine Kd.R_append_step k38 (w0 := w) w.heap.size (by rfl) (.tmp 57) (.tmp 68) 31 38 (.agg #[(.string ⟨#[]⟩), (.string ⟨#[]⟩), (.string ⟨#[]⟩)]) 48 rfl Try.underlying31 info38 rfl (by decide) (by omega) u160000 x160000_1 (⟨((rd_T38 l0_0 x6_1).f0), ((rd_T38 l0_0 x6_1).f1) ++ ((rd_T38 l0_0 x6_1).f2), (⟨#[]⟩ : ByteArray)⟩ : S38) [.string ((rd_T38 l0_0 x6_1).f0), .string (((rd_T38 l0_0 x6_1).f1) ++ ((rd_T38 l0_0 x6_1).f2)), .string (⟨#[]⟩ : ByteArray)] (fun k_ => k_ ≠ gb161) (fun _ => False) rfl rfl ?aP (fun _ hk => hk.elim) ?aF ?aO ?aB ?aS ?aL ?_
                              (case aP => exact k38_mkM _ _ _ (⟨((rd_T38 l0_0 x6_1).f0), ((rd_T38 l0_0 x6_1).f1) ++ ((rd_T38 l0_0 x6_1).f2), (⟨#[]⟩ : ByteArray)⟩ : S38))
                              (case aB => exact (by repeat (first | (with_reducible first | exact HB.out | apply below_alloc | apply pw_below_drewN | apply below_drew1 | refine below_set ?_ GE157.out | refine below_set ?_ GE158.out | refine below_set ?_ GE159.out | refine below_set ?_ GE161.out) | exact HB.out)))
                              (case aF => exact (fun k_ hk => Kd.freshB (g := gb161) (o := .cells #[.string ((rd_T38 l0_0 x6_1).f0), .string ((rd_T38 l0_0 x6_1).f1), .string ((rd_T38 l0_0 x6_1).f2)] 38 (0, 0)) (by (with_reducible repeat (first | refine blk_drewN ?_ _ | refine blk_drew ?_ | refine blk_alloc ?_ _)); exact BK161.out) k_ hk))
                              (case aO => exact (by (with_reducible repeat (first | apply Kd.R_alloc | apply Kd.R_drewN | apply Kd.R_drew)); exact HO_160000.out))
                              (case aS => exact (below_size (by repeat (first | (with_reducible first | exact HB.out | apply below_alloc | apply pw_below_drewN | apply below_drew1 | refine below_set ?_ GE157.out | refine below_set ?_ GE158.out | refine below_set ?_ GE159.out | refine below_set ?_ GE161.out) | exact HB.out))))
                              (case aL => have := LMc32.out; omega)
                              intro v165 w42 ho hb hg hat
                              rw [← Ny164.out] at ho
                              have n0_ := Aside0.mk (blk_grown (g := gb157) (o := .cells #[.slice (some ad160) l0_0.length c0_0, .int .i64 a0_1, .int .i64 a0_2, .bool a0_3] 33 (0, 0)) (by (with_reducible repeat (first | refine blk_drewN ?_ _ | refine blk_drew ?_ | refine blk_alloc ?_ _)); exact BK157.out) hg (Kd.R_ne HO_160000.out BK157.out (by decide)))
                              have n1_ := Aside0.mk (blk_grown (g := gb158) (o := .cells #[.slice none 0 0, .int .i64 0, .int .i64 0, .bool false] 33 (0, 0)) (by (with_reducible repeat (first | refine blk_drewN ?_ _ | refine blk_drew ?_ | refine blk_alloc ?_ _)); exact BK158.out) hg (Kd.R_ne HO_160000.out BK158.out (by decide)))
                              have n2_ := Aside0.mk (blk_grown (g := gb159) (o := .cells #[u160000, .int .i64 (wrap64 ((wrap64 (x160001_1 + (((rd_T38 l0_0 x6_1).f2).size : Int))) - (((rd_T38 l0_0 x6_1).f2).size : Int))), .int .i64 (-1), .bool false] 33 (0, 0)) (by (with_reducible repeat (first | refine blk_drewN ?_ _ | refine blk_drew ?_ | refine blk_alloc ?_ _)); exact BK159.out) hg (Kd.R_ne HO_160000.out BK159.out (by decide)))
                              have n3_ := Aside0.mk (blk_grown (g := gb161) (o := .cells #[.string ((rd_T38 l0_0 x6_1).f0), .string ((rd_T38 l0_0 x6_1).f1), .string ((rd_T38 l0_0 x6_1).f2)] 38 (0, 0)) (by (with_reducible repeat (first | refine blk_drewN ?_ _ | refine blk_drew ?_ | refine blk_alloc ?_ _)); exact BK161.out) hg (Kd.R_away HO_160000.out (fun _ hk => hk)))
                              have n4_ := Aside0.mk (hb)
                              have n5_ := Aside0.mk (ho)
                              clear BK157
                              clear BK158
                              clear BK159
                              clear BK161
                              clear HB
                              clear HO_160000
                              have BK157 := n0_
                              have BK158 := n1_
                              have BK159 := n2_
                              have BK161 := n3_
                              have HB := n4_
                              have HO166 := n5_
                              clear n0_ n1_ n2_ n3_ n4_ n5_
                              clear ho hb hg hat
                              obtain ⟨Ao43, co43, eo43⟩ := Kd.R_slice HO166.out
                              (first | subst eo43 | (injection eo43 with f1_ f2_ f3_; have f4_ := f1_.symm; have f5_ := f3_.symm; clear f1_ f2_ f3_; subst f4_; subst f5_))
                              refine hK.out _ _ ⟨(blk_cell BK159.out 0).trans rfl, (blk_cell BK159.out 1).trans rfl, (blk_cell BK159.out 2).trans rfl, (blk_cell BK159.out 3).trans rfl, (blk_cell BK161.out 0).trans rfl, (blk_cell BK161.out 1).trans rfl, (blk_cell BK161.out 2).trans rfl⟩ (fun hHeld => ?_)
                              clear hK K
                              refine norm_ (a' := ?_) ?_ ?_
                              rotate_left
                              · show Act.put _ (some 69) _ = _
                                simp only [Act.put, List.setIfInBounds_toArray, List.set_cons_zero, List.set_cons_succ, i64_w, i32_w]
                                rfl
                              refine pure_ (i := 14) (N := some 70) (v := ?_) (a' := ?_) #[true, true, true, true, true, true, true, true, true, true, true, true, true, true, true, false] rfl rfl (any_of HT_.out (by kernel_rfl)) (fun _ _ _ h => h) (Or.inl ⟨by rfl, ?_⟩) ?_ ?_
                              rotate_left
                              · intro w'
                                go_simp
                                with_reducible rfl
                              rotate_left
                              · simp only [Act.put, List.setIfInBounds_toArray, List.set_cons_zero, List.set_cons_succ, i64_w, i32_w]
                                rfl
                              refine last_ (i := 15) (N := none) #[true, true, true, true, true, true, true, true, true, true, true, true, true, true, true, true] rfl rfl (one_of HT_.out (by kernel_rfl)) (by decide) (fun K hK => ?_)
                              have hs44 : w42.cell? ⟨gb159, 0, none⟩ = some (u160000) := (blk_cell BK159.out 0).trans rfl
                              have hfs44 := blk_frozen BK159.out 0
                              have hns44_0 := NB157_159.out
                              have hns44_1 := NB158_159.out
                              have hns44_3 := NB161_159.out
                              have hms44_0 := NB159_157.out
                              have hms44_1 := NB159_158.out
                              have hms44_3 := NB159_161.out
                              refine skip_ (w1 := ?_) (by rfl) rfl ?_ ?_
                              rotate_left
                              · go_simp
                                rfl
                              refine hK.out _ _ ?_
                              clear hK K
                              refine done_ (done_of HT_.out (by kernel_rfl)) ?_
                              try go_wp2
                              go_roundg kj13
                              case measure => have := HK1.out; have := HJ13.out; omega
                              case rel => exact ⟨(wrap64 (x6_1 + 1)), (y164), (wrap64 ((wrap64 (x160001_1 + (((rd_T38 l0_0 x6_1).f2).size : Int))) - (((rd_T38 l0_0 x6_1).f2).size : Int))), (.slice Ao43 y164.length co43), (by first | rfl | (simp; done) | (simp [*]; done)), H', ⟨by have := HK1.out; have := HJ13.out; omega⟩, ⟨by (with_reducible repeat (first | apply Kd.R_alloc | apply Kd.R_drewN | apply Kd.R_drew)); exact Kd.R_mono (Kd.R_far (p := ⟨gb159, 0, none⟩) (Kd.R_types HO166.out BK159.out (by decide)) (fun _ hk => hk.2) (.slice Ao43 y164.length co43)) (fun _ hk => trivial)⟩, ⟨by (with_reducible repeat (first | refine blk_drewN ?_ _ | refine blk_drew ?_ | refine blk_alloc ?_ _)); refine blk_far ?_ NB157_159.out _; (with_reducible repeat (first | refine blk_drewN ?_ _ | refine blk_drew ?_ | refine blk_alloc ?_ _)); exact BK157.out⟩, ⟨by (with_reducible repeat (first | refine blk_drewN ?_ _ | refine blk_drew ?_ | refine blk_alloc ?_ _)); refine blk_far ?_ NB158_159.out _; (with_reducible repeat (first | refine blk_drewN ?_ _ | refine blk_drew ?_ | refine blk_alloc ?_ _)); exact BK158.out⟩, ⟨by (with_reducible repeat (first | refine blk_drewN ?_ _ | refine blk_drew ?_ | refine blk_alloc ?_ _)); refine blk_put (cs := #[u160000, .int .i64 (wrap64 ((wrap64 (x160001_1 + (((rd_T38 l0_0 x6_1).f2).size : Int))) - (((rd_T38 l0_0 x6_1).f2).size : Int))), .int .i64 (-1), .bool false]) ?_ 0 _ rfl; (with_reducible repeat (first | refine blk_drewN ?_ _ | refine blk_drew ?_ | refine blk_alloc ?_ _)); exact BK159.out⟩, ⟨by repeat (first | (with_reducible first | exact HB.out | apply below_alloc | apply pw_below_drewN | apply below_drew1 | refine below_set ?_ GE157.out | refine below_set ?_ GE158.out | refine below_set ?_ GE159.out | refine below_set ?_ GE161.out) | exact HB.out)⟩⟩
                            · rw [if_neg c32] at H
                              exact absurd H (by simp)
                          · rw [if_neg c31] at H
                            exact absurd H (by simp)
                        · rw [if_neg c30] at H
                          exact absurd H (by simp)
                      · rw [if_neg c29] at H
                        exact absurd H (by simp)
                    · rw [if_neg c28] at H
                      have c28b0 : decide ((((rd_T38 l0_0 x6_1).f2).size : Int) < (rd l1 x6_1)) = false := decide_eq_false c28
                      clear c28
                      by_cases c45 : 0 ≤ (rd l1 x6_1)
                      · rw [if_pos c45] at H
                        have c45b0 := eq_true c45
                        have c45b1 : decide (0 ≤ (rd l1 x6_1)) = true := decide_eq_true c45
                        clear c45
                        by_cases c46 : (rd l1 x6_1) ≤ (((rd_T38 l0_0 x6_1).f2).size : Int)
                        · rw [if_pos c46] at H
                          have c46b0 := eq_true c46
                          have c46b1 : decide ((rd l1 x6_1) ≤ (((rd_T38 l0_0 x6_1).f2).size : Int)) = true := decide_eq_true c46
                          clear c46
                          by_cases c47 : ((rd_T38 l0_0 x6_1).f1).size + (((rd_T38 l0_0 x6_1).f2).extract 0 ((rd l1 x6_1) : Int).toNat).size ≤ 9223372036854775807
                          · rw [if_pos c47] at H
                            have c47b0 := eq_true c47
                            have c47b1 : decide (((rd_T38 l0_0 x6_1).f1).size + (((rd_T38 l0_0 x6_1).f2).extract 0 ((rd l1 x6_1) : Int).toNat).size ≤ 9223372036854775807) = true := decide_eq_true c47
                            try have c47b2 : (9223372036854775807 < ((rd_T38 l0_0 x6_1).f1).size + (((rd_T38 l0_0 x6_1).f2).extract 0 ((rd l1 x6_1) : Int).toNat).size) = False := eq_false (Nat.not_lt.2 c47)
                            try have c47b4 : (9223372036854775807 < ((rd_T38 l0_0 x6_1).f1).size + ((rd l1 x6_1) : Int).toNat) = False := eq_false (by have q1_ := c47; rw [ByteArray.size_extract] at q1_; have q2_ := of_decide_eq_true (show decide ((rd l1 x6_1) ≤ (((rd_T38 l0_0 x6_1).f2).size : Int)) = true by assumption); omega)
                            by_cases c48 : x160000_1.length < 2932031007402
                            · rw [if_pos c48] at H
                              have LMc48 := Aside0.mk c48
                              clear c48
                              obtain ⟨y167, hy167⟩ : ∃ y_ : List (S38), y_ = (x160000_1 ++ [(⟨((rd_T38 l0_0 x6_1).f0), ((rd_T38 l0_0 x6_1).f1) ++ (((rd_T38 l0_0 x6_1).f2).extract 0 ((rd l1 x6_1) : Int).toNat), (⟨#[]⟩ : ByteArray)⟩ : S38)]) := ⟨_, rfl⟩
                              replace H : (stanchionref03_Crash.l0 kj13 l1 (wrap64 (x6_1 + 1)) l0_0 a0_1 a0_2 a0_3 y167 (wrap64 ((wrap64 (x160001_1 + (((rd_T38 l0_0 x6_1).f2).size : Int))) - (rd l1 x6_1))) (-1) false) = some (r1, r2, r3, r4) := by first | (rw [hy167]; with_reducible exact H) | (have H2_ := (Option.bind_some _ _).symm.trans H; rw [hy167]; with_reducible exact H2_) | (have H2_ := (Option.bind_some _ _).symm.trans H; with_reducible exact H2_) | with_reducible exact H | (rw [hy167]; exact H) | exact H
                              have Ny167 := Aside0.mk hy167
                              clear hy167
                              have H' := Aside0.mk H
                              clear H
                              have p163 : 0 ≤ (x6_1 : Int) := of_decide_eq_true (by first | (with_reducible assumption) | assumption)
                              have q163 : x6_1 < (l1.length : Int) := of_decide_eq_true (by first | (with_reducible assumption) | assumption)
                              obtain ⟨ad163, e163, hx163_0⟩ := Kd.at_int HR1.out x6_1 p163 q163
                              cases e163
                              replace hx163_0 := (HB.out.cell (World.block_lt_of_cell? w _ hx163_0)).trans hx163_0
                              replace p163 := eq_true p163
                              replace q163 := eq_true q163
                              have hnb49 := NB161_157.out
                              have hnc49 := NB157_161.out
                              have hnb50 := NB161_158.out
                              have hnc50 := NB158_161.out
                              have hnb51 := NB161_159.out
                              have hnc51 := NB159_161.out
                              obtain ⟨hcz52_0, hcz52_1, hcz52_2⟩ := Cb.c3 BK161.out
                              obtain ⟨hfz52_0, hfz52_1, hfz52_2⟩ := Cb.f3 BK161.out
                              have hnb53 := NB159_157.out
                              have hnc53 := NB157_159.out
                              have hnb54 := NB159_158.out
                              have hnc54 := NB158_159.out
                              obtain ⟨hcz55_0, hcz55_1, hcz55_2, hcz55_3⟩ := Cb.c4 BK159.out
                              obtain ⟨hfz55_0, hfz55_1, hfz55_2, hfz55_3⟩ := Cb.f4 BK159.out
                              try go_wp2
                              have n0_ : Aside0 (Kd.R k38 38 (wc.setCell ⟨gb159, 1, none⟩ (.int .i64 (wrap64 ((wrap64 (x160001_1 + (((rd_T38 l0_0 x6_1).f2).size : Int))) - (rd l1 x6_1))))) w.heap.size (fun k_ => k_ ≠ gb161) u160000 x160000_1) := ⟨by (with_reducible repeat (first | apply Kd.R_alloc | apply Kd.R_drewN | apply Kd.R_drew)); exact Kd.R_mono (Kd.R_far (p := ⟨gb159, 1, none⟩) (Kd.R_types HO_160000.out BK159.out (by decide)) (fun _ hk => hk.2) (.int .i64 (wrap64 ((wrap64 (x160001_1 + (((rd_T38 l0_0 x6_1).f2).size : Int))) - (rd l1 x6_1))))) (fun _ hk => hk.1)⟩
                              have n1_ : Aside0 ((wc.setCell ⟨gb159, 1, none⟩ (.int .i64 (wrap64 ((wrap64 (x160001_1 + (((rd_T38 l0_0 x6_1).f2).size : Int))) - (rd l1 x6_1))))).heap[gb157]? = some (.cells #[.slice (some ad160) l0_0.length c0_0, .int .i64 a0_1, .int .i64 a0_2, .bool a0_3] 33 (0, 0))) := ⟨by (with_reducible repeat (first | refine blk_drewN ?_ _ | refine blk_drew ?_ | refine blk_alloc ?_ _)); refine blk_far ?_ NB157_159.out _; (with_reducible repeat (first | refine blk_drewN ?_ _ | refine blk_drew ?_ | refine blk_alloc ?_ _)); exact BK157.out⟩
                              have n2_ : Aside0 ((wc.setCell ⟨gb159, 1, none⟩ (.int .i64 (wrap64 ((wrap64 (x160001_1 + (((rd_T38 l0_0 x6_1).f2).size : Int))) - (rd l1 x6_1))))).heap[gb158]? = some (.cells #[.slice none 0 0, .int .i64 0, .int .i64 0, .bool false] 33 (0, 0))) := ⟨by (with_reducible repeat (first | refine blk_drewN ?_ _ | refine blk_drew ?_ | refine blk_alloc ?_ _)); refine blk_far ?_ NB158_159.out _; (with_reducible repeat (first | refine blk_drewN ?_ _ | refine blk_drew ?_ | refine blk_alloc ?_ _)); exact BK158.out⟩
                              have n3_ : Aside0 ((wc.setCell ⟨gb159, 1, none⟩ (.int .i64 (wrap64 ((wrap64 (x160001_1 + (((rd_T38 l0_0 x6_1).f2).size : Int))) - (rd l1 x6_1))))).heap[gb159]? = some (.cells #[u160000, .int .i64 (wrap64 ((wrap64 (x160001_1 + (((rd_T38 l0_0 x6_1).f2).size : Int))) - (rd l1 x6_1))), .int .i64 (-1), .bool false] 33 (0, 0))) := ⟨by (with_reducible repeat (first | refine blk_drewN ?_ _ | refine blk_drew ?_ | refine blk_alloc ?_ _)); refine blk_put (cs := #[u160000, .int .i64 x160001_1, .int .i64 (-1), .bool false]) ?_ 1 _ rfl; (with_reducible repeat (first | refine blk_drewN ?_ _ | refine blk_drew ?_ | refine blk_alloc ?_ _)); exact BK159.out⟩
                              have n4_ : Aside0 ((wc.setCell ⟨gb159, 1, none⟩ (.int .i64 (wrap64 ((wrap64 (x160001_1 + (((rd_T38 l0_0 x6_1).f2).size : Int))) - (rd l1 x6_1))))).heap[gb161]? = some (.cells #[.string ((rd_T38 l0_0 x6_1).f0), .string ((rd_T38 l0_0 x6_1).f1), .string ((rd_T38 l0_0 x6_1).f2)] 38 (0, 0))) := ⟨by (with_reducible repeat (first | refine blk_drewN ?_ _ | refine blk_drew ?_ | refine blk_alloc ?_ _)); refine blk_far ?_ NB161_159.out _; (with_reducible repeat (first | refine blk_drewN ?_ _ | refine blk_drew ?_ | refine blk_alloc ?_ _)); exact BK161.out⟩
                              have n5_ : Aside0 (Below w.heap.size w (wc.setCell ⟨gb159, 1, none⟩ (.int .i64 (wrap64 ((wrap64 (x160001_1 + (((rd_T38 l0_0 x6_1).f2).size : Int))) - (rd l1 x6_1)))))) := ⟨by repeat (first | (with_reducible first | exact HB.out | apply below_alloc | apply pw_below_drewN | apply below_drew1 | refine below_set ?_ GE157.out | refine below_set ?_ GE158.out | refine below_set ?_ GE159.out | refine below_set ?_ GE161.out) | exact HB.out)⟩
                              (try clear HO_160000)
                              (try clear BK157)
                              (try clear BK158)
                              (try clear BK159)
                              (try clear BK161)
                              (try clear HB)
                              generalize (wc.setCell ⟨gb159, 1, none⟩ (.int .i64 (wrap64 ((wrap64 (x160001_1 + (((rd_T38 l0_0 x6_1).f2).size : Int))) - (rd l1 x6_1))))) = w56 at n0_ n1_ n2_ n3_ n4_ n5_ ⊢
                              have HO_160000 := n0_
                              have BK157 := n1_
                              have BK158 := n2_
                              have BK159 := n3_
                              have BK161 := n4_
                              have HB := n5_
                              clear n0_ n1_ n2_ n3_ n4_ n5_
                              replace HO_160000 := Aside0.mk (Kd.R_drew HO_160000.out)
                              replace BK157 := Aside0.mk (blk_drew BK157.out)
                              replace BK158 := Aside0.mk (blk_drew BK158.out)
                              replace BK159 := Aside0.mk (blk_drew BK159.out)
                              replace BK161 := Aside0.mk (blk_drew BK161.out)
                              replace HB := Aside0.mk (below_drew1 HB.out)
                              refine start_ (n := 16) (S := fun w' => w'.cell? ⟨gb159, 0, none⟩ = some (u160000) ∧ w'.cell? ⟨gb159, 1, none⟩ = some (.int .i64 (wrap64 ((wrap64 (x160001_1 + (((rd_T38 l0_0 x6_1).f2).size : Int))) - (rd l1 x6_1)))) ∧ w'.cell? ⟨gb159, 2, none⟩ = some (.int .i64 (-1)) ∧ w'.cell? ⟨gb159, 3, none⟩ = some (.bool false) ∧ w'.cell? ⟨gb161, 0, none⟩ = some (.string ((rd_T38 l0_0 x6_1).f0)) ∧ w'.cell? ⟨gb161, 1, none⟩ = some (.string ((rd_T38 l0_0 x6_1).f1)) ∧ w'.cell? ⟨gb161, 2, none⟩ = some (.string ((rd_T38 l0_0 x6_1).f2))) (ds := [15]) #[false, false, false, false, false, false, false, false, false, false, false, false, false, false, false, false] (by kernel_rfl) rfl rfl ⟨(blk_cell BK159.out 0).trans rfl, (blk_cell BK159.out 1).trans rfl, (blk_cell BK159.out 2).trans rfl, (blk_cell BK159.out 3).trans rfl, (blk_cell BK161.out 0).trans rfl, (blk_cell BK161.out 1).trans rfl, (blk_cell BK161.out 2).trans rfl⟩ (fun hHeld => ?_); refine with_tabW stanchionref03_Crash.tab12 stanchionref03_Crash.bits12 (fun HT_ HW_ => ?_)
                              generalize w56.drew = w57 at HO_160000 BK157 BK158 BK159 BK161 HB hHeld ⊢
                              refine pure_ (i := 0) (N := some 56) (v := ?_) (a' := ?_) #[true, false, false, false, false, false, false, false, false, false, false, false, false, false, false, false] rfl rfl (any_of HT_.out (by kernel_rfl)) (fun _ _ _ h => h) (Or.inl ⟨by rfl, ?_⟩) ?_ ?_
                              rotate_left
                              · intro w'
                                go_simp
                                with_reducible rfl
                              rotate_left
                              · simp only [Act.put, List.setIfInBounds_toArray, List.set_cons_zero, List.set_cons_succ, i64_w, i32_w]
                                rfl
                              refine pure_ (i := 2) (N := some 58) (v := ?_) (a' := ?_) #[true, false, true, false, false, false, false, false, false, false, false, false, false, false, false, false] rfl rfl (any_of HT_.out (by kernel_rfl)) (fun _ _ _ h => h) (Or.inl ⟨by rfl, ?_⟩) ?_ ?_
                              rotate_left
                              · intro w'
                                go_simp
                                with_reducible rfl
                              rotate_left
                              · simp only [Act.put, List.setIfInBounds_toArray, List.set_cons_zero, List.set_cons_succ, i64_w, i32_w]
                                rfl
                              refine pure_ (i := 4) (N := some 60) (v := ?_) (a' := ?_) #[true, false, true, false, true, false, false, false, false, false, false, false, false, false, false, false] rfl rfl (any_of HT_.out (by kernel_rfl)) (fun _ _ _ h => h) (Or.inl ⟨by rfl, ?_⟩) ?_ ?_
                              rotate_left
                              · intro w'
                                go_simp
                                with_reducible rfl
                              rotate_left
                              · simp only [Act.put, List.setIfInBounds_toArray, List.set_cons_zero, List.set_cons_succ, i64_w, i32_w]
                                rfl
                              refine pure_ (i := 6) (N := some 62) (v := ?_) (a' := ?_) #[true, false, true, false, true, false, true, false, false, false, false, false, false, false, false, false] rfl rfl (any_of HT_.out (by kernel_rfl)) (fun _ _ _ h => h) (Or.inl ⟨by rfl, ?_⟩) ?_ ?_
                              rotate_left
                              · intro w'
                                go_simp
                                with_reducible rfl
                              rotate_left
                              · simp only [Act.put, List.setIfInBounds_toArray, List.set_cons_zero, List.set_cons_succ, i64_w, i32_w]
                                rfl
                              refine pure_ (i := 8) (N := some 64) (v := ?_) (a' := ?_) #[true, false, true, false, true, false, true, false, true, false, false, false, false, false, false, false] rfl rfl (any_of HT_.out (by kernel_rfl)) (fun _ _ _ h => h) (Or.inl ⟨by rfl, ?_⟩) ?_ ?_
                              rotate_left
                              · intro w'
                                go_simp
                                with_reducible rfl
                              rotate_left
                              · simp only [Act.put, List.setIfInBounds_toArray, List.set_cons_zero, List.set_cons_succ, i64_w, i32_w]
                                rfl
                              refine take_ (i := 1) (N := some 57) (v := ?_) (a' := ?_) #[true, true, true, false, true, false, true, false, true, false, false, false, false, false, false, false] rfl rfl (take_ofW HT_.out HW_.out (by kernel_rfl)) (fun _ _ _ h => h) (Or.inl ⟨by rfl, ?_⟩) hHeld ?_ ?_
                              rotate_left
                              · rintro w' ⟨s0, s1, s2, s3, s4, s5, s6⟩
                                go_simp
                                with_reducible rfl
                              rotate_left
                              · simp only [Act.put, List.setIfInBounds_toArray, List.set_cons_zero, List.set_cons_succ, i64_w, i32_w]
                                rfl
                              refine take_ (i := 3) (N := some 59) (v := ?_) (a' := ?_) #[true, true, true, true, true, false, true, false, true, false, false, false, false, false, false, false] rfl rfl (take_ofW HT_.out HW_.out (by kernel_rfl)) (fun _ _ _ h => h) (Or.inl ⟨by rfl, ?_⟩) hHeld ?_ ?_
                              rotate_left
                              · rintro w' ⟨s0, s1, s2, s3, s4, s5, s6⟩
                                go_simp
                                with_reducible rfl
                              rotate_left
                              · simp only [Act.put, List.setIfInBounds_toArray, List.set_cons_zero, List.set_cons_succ, i64_w, i32_w]
                                rfl
                              refine take_ (i := 5) (N := some 61) (v := ?_) (a' := ?_) #[true, true, true, true, true, true, true, false, true, false, false, false, false, false, false, false] rfl rfl (take_ofW HT_.out HW_.out (by kernel_rfl)) (fun _ _ _ h => h) (Or.inl ⟨by rfl, ?_⟩) hHeld ?_ ?_
                              rotate_left
                              · rintro w' ⟨s0, s1, s2, s3, s4, s5, s6⟩
                                go_simp
                                with_reducible rfl
                              rotate_left
                              · simp only [Act.put, List.setIfInBounds_toArray, List.set_cons_zero, List.set_cons_succ, i64_w, i32_w]
                                rfl
                              refine take_ (i := 7) (N := some 63) (v := ?_) (a' := ?_) #[true, true, true, true, true, true, true, true, true, false, false, false, false, false, false, false] rfl rfl (take_ofW HT_.out HW_.out (by kernel_rfl)) (fun _ _ _ h => h) (Or.inl ⟨by rfl, ?_⟩) hHeld ?_ ?_
                              rotate_left
                              · rintro w' ⟨s0, s1, s2, s3, s4, s5, s6⟩
                                go_simp
                                with_reducible rfl
                              rotate_left
                              · simp only [Act.put, List.setIfInBounds_toArray, List.set_cons_zero, List.set_cons_succ, i64_w, i32_w]
                                rfl
                              refine pure_ (i := 9) (N := some 65) (v := ?_) (a' := ?_) #[true, true, true, true, true, true, true, true, true, true, false, false, false, false, false, false] rfl rfl (any_of HT_.out (by kernel_rfl)) (fun _ _ _ h => h) (Or.inl ⟨by rfl, ?_⟩) ?_ ?_
                              rotate_left
                              · intro w'
                                go_simp
                                with_reducible rfl
                              rotate_left
                              · simp only [Act.put, List.setIfInBounds_toArray, List.set_cons_zero, List.set_cons_succ, i64_w, i32_w]
                                rfl
                              refine pure_ (i := 10) (N := some 66) (v := ?_) (a' := ?_) #[true, true, true, true, true, true, true, true, true, true, true, false, false, false, false, false] rfl rfl (any_of HT_.out (by kernel_rfl)) (fun _ _ _ h => h) (Or.inl ⟨by rfl, ?_⟩) ?_ ?_
                              rotate_left
                              · intro w'
                                go_simp
                                with_reducible rfl
                              rotate_left
                              · simp only [Act.put, List.setIfInBounds_toArray, List.set_cons_zero, List.set_cons_succ, i64_w, i32_w]
                                rfl
                              refine pure_ (i := 11) (N := some 67) (v := ?_) (a' := ?_) #[true, true, true, true, true, true, true, true, true, true, true, true, false, false, false, false] rfl rfl (any_of HT_.out (by kernel_rfl)) (fun _ _ _ h => h) (Or.inl ⟨by rfl, ?_⟩) ?_ ?_
                              rotate_left
                              · intro w'
                                go_simp
                                with_reducible rfl
                              rotate_left
                              · simp only [Act.put, List.setIfInBounds_toArray, List.set_cons_zero, List.set_cons_succ, i64_w, i32_w]
                                rfl
                              refine one_ (i := 12) (N := some 68) #[true, true, true, true, true, true, true, true, true, true, true, true, true, false, false, false] rfl rfl (one_of HT_.out (by kernel_rfl)) (by decide) (fun K hK => ?_)
                              refine value_ (w1 := ?_) (v := ?_) (by rfl) rfl ?_ ?_
                              rotate_left 2
                              · go_simp
                                constructor
                                · rfl
                                · rfl
                              refine hK.out _ _ ⟨(blk_cell (blk_alloc BK159.out _) 0).trans rfl, (blk_cell (blk_alloc BK159.out _) 1).trans rfl, (blk_cell (blk_alloc BK159.out _) 2).trans rfl, (blk_cell (blk_alloc BK159.out _) 3).trans rfl, (blk_cell (blk_alloc BK161.out _) 0).trans rfl, (blk_cell (blk_alloc BK161.out _) 1).trans rfl, (blk_cell (blk_alloc BK161.out _) 2).trans rfl⟩ (fun hHeld => ?_)
                              clear hK K
                              refine norm_ (a' := ?_) ?_ ?_
                              rotate_left
                              · show Act.put _ (some 68) _ = _
                                simp only [Act.put, List.setIfInBounds_toArray, List.set_cons_zero, List.set_cons_succ, i64_w, i32_w]
                                rfl
                              refine one_ (i := 13) (N := some 69) #[true, true, true, true, true, true, true, true, true, true, true, true, true, true, false, false] rfl rfl (one_of HT_.out (by kernel_rfl)) (by decide) (fun K hK => ?_)
                              refine Kd.R_append_step k38 (w0 := w) w.heap.size (by rfl) (.tmp 57) (.tmp 68) 31 38 (.agg #[(.string ⟨#[]⟩), (.string ⟨#[]⟩), (.string ⟨#[]⟩)]) 48 rfl Try.underlying31 info38 rfl (by decide) (by omega) u160000 x160000_1 (⟨((rd_T38 l0_0 x6_1).f0), ((rd_T38 l0_0 x6_1).f1) ++ (((rd_T38 l0_0 x6_1).f2).extract 0 ((rd l1 x6_1) : Int).toNat), (⟨#[]⟩ : ByteArray)⟩ : S38) [.string ((rd_T38 l0_0 x6_1).f0), .string (((rd_T38 l0_0 x6_1).f1) ++ (((rd_T38 l0_0 x6_1).f2).extract 0 ((rd l1 x6_1) : Int).toNat)), .string (⟨#[]⟩ : ByteArray)] (fun k_ => k_ ≠ gb161) (fun _ => False) rfl rfl ?aP (fun _ hk => hk.elim) ?aF ?aO ?aB ?aS ?aL ?_
                              (case aP => exact k38_mkM _ _ _ (⟨((rd_T38 l0_0 x6_1).f0), ((rd_T38 l0_0 x6_1).f1) ++ (((rd_T38 l0_0 x6_1).f2).extract 0 ((rd l1 x6_1) : Int).toNat), (⟨#[]⟩ : ByteArray)⟩ : S38))
                              (case aB => exact (by repeat (first | (with_reducible first | exact HB.out | apply below_alloc | apply pw_below_drewN | apply below_drew1 | refine below_set ?_ GE157.out | refine below_set ?_ GE158.out | refine below_set ?_ GE159.out | refine below_set ?_ GE161.out) | exact HB.out)))
                              (case aF => exact (fun k_ hk => Kd.freshB (g := gb161) (o := .cells #[.string ((rd_T38 l0_0 x6_1).f0), .string ((rd_T38 l0_0 x6_1).f1), .string ((rd_T38 l0_0 x6_1).f2)] 38 (0, 0)) (by (with_reducible repeat (first | refine blk_drewN ?_ _ | refine blk_drew ?_ | refine blk_alloc ?_ _)); exact BK161.out) k_ hk))
                              (case aO => exact (by (with_reducible repeat (first | apply Kd.R_alloc | apply Kd.R_drewN | apply Kd.R_drew)); exact HO_160000.out))
                              (case aS => exact (below_size (by repeat (first | (with_reducible first | exact HB.out | apply below_alloc | apply pw_below_drewN | apply below_drew1 | refine below_set ?_ GE157.out | refine below_set ?_ GE158.out | refine below_set ?_ GE159.out | refine below_set ?_ GE161.out) | exact HB.out))))
                              (case aL => have := LMc48.out; omega)
                              intro v168 w58 ho hb hg hat
                              rw [← Ny167.out] at ho
                              have n0_ := Aside0.mk (blk_grown (g := gb157) (o := .cells #[.slice (some ad160) l0_0.length c0_0, .int .i64 a0_1, .int .i64 a0_2, .bool a0_3] 33 (0, 0)) (by (with_reducible repeat (first | refine blk_drewN ?_ _ | refine blk_drew ?_ | refine blk_alloc ?_ _)); exact BK157.out) hg (Kd.R_ne HO_160000.out BK157.out (by decide)))
                              have n1_ := Aside0.mk (blk_grown (g := gb158) (o := .cells #[.slice none 0 0, .int .i64 0, .int .i64 0, .bool false] 33 (0, 0)) (by (with_reducible repeat (first | refine blk_drewN ?_ _ | refine blk_drew ?_ | refine blk_alloc ?_ _)); exact BK158.out) hg (Kd.R_ne HO_160000.out BK158.out (by decide)))
                              have n2_ := Aside0.mk (blk_grown (g := gb159) (o := .cells #[u160000, .int .i64 (wrap64 ((wrap64 (x160001_1 + (((rd_T38 l0_0 x6_1).f2).size : Int))) - (rd l1 x6_1))), .int .i64 (-1), .bool false] 33 (0, 0)) (by (with_reducible repeat (first | refine blk_drewN ?_ _ | refine blk_drew ?_ | refine blk_alloc ?_ _)); exact BK159.out) hg (Kd.R_ne HO_160000.out BK159.out (by decide)))
                              have n3_ := Aside0.mk (blk_grown (g := gb161) (o := .cells #[.string ((rd_T38 l0_0 x6_1).f0), .string ((rd_T38 l0_0 x6_1).f1), .string ((rd_T38 l0_0 x6_1).f2)] 38 (0, 0)) (by (with_reducible repeat (first | refine blk_drewN ?_ _ | refine blk_drew ?_ | refine blk_alloc ?_ _)); exact BK161.out) hg (Kd.R_away HO_160000.out (fun _ hk => hk)))
                              have n4_ := Aside0.mk (hb)
                              have n5_ := Aside0.mk (ho)
                              clear BK157
                              clear BK158
                              clear BK159
                              clear BK161
                              clear HB
                              clear HO_160000
                              have BK157 := n0_
                              have BK158 := n1_
                              have BK159 := n2_
                              have BK161 := n3_
                              have HB := n4_
                              have HO169 := n5_
                              clear n0_ n1_ n2_ n3_ n4_ n5_
                              clear ho hb hg hat
                              obtain ⟨Ao59, co59, eo59⟩ := Kd.R_slice HO169.out
                              (first | subst eo59 | (injection eo59 with f1_ f2_ f3_; have f4_ := f1_.symm; have f5_ := f3_.symm; clear f1_ f2_ f3_; subst f4_; subst f5_))
                              refine hK.out _ _ ⟨(blk_cell BK159.out 0).trans rfl, (blk_cell BK159.out 1).trans rfl, (blk_cell BK159.out 2).trans rfl, (blk_cell BK159.out 3).trans rfl, (blk_cell BK161.out 0).trans rfl, (blk_cell BK161.out 1).trans rfl, (blk_cell BK161.out 2).trans rfl⟩ (fun hHeld => ?_)
                              clear hK K
                              refine norm_ (a' := ?_) ?_ ?_
                              rotate_left
                              · show Act.put _ (some 69) _ = _
                                simp only [Act.put, List.setIfInBounds_toArray, List.set_cons_zero, List.set_cons_succ, i64_w, i32_w]
                                rfl
                              refine pure_ (i := 14) (N := some 70) (v := ?_) (a' := ?_) #[true, true, true, true, true, true, true, true, true, true, true, true, true, true, true, false] rfl rfl (any_of HT_.out (by kernel_rfl)) (fun _ _ _ h => h) (Or.inl ⟨by rfl, ?_⟩) ?_ ?_
                              rotate_left
                              · intro w'
                                go_simp
                                with_reducible rfl
                              rotate_left
                              · simp only [Act.put, List.setIfInBounds_toArray, List.set_cons_zero, List.set_cons_succ, i64_w, i32_w]
                                rfl
                              refine last_ (i := 15) (N := none) #[true, true, true, true, true, true, true, true, true, true, true, true, true, true, true, true] rfl rfl (one_of HT_.out (by kernel_rfl)) (by decide) (fun K hK => ?_)
                              have hs60 : w58.cell? ⟨gb159, 0, none⟩ = some (u160000) := (blk_cell BK159.out 0).trans rfl
                              have hfs60 := blk_frozen BK159.out 0
                              have hns60_0 := NB157_159.out
                              have hns60_1 := NB158_159.out
                              have hns60_3 := NB161_159.out
                              have hms60_0 := NB159_157.out
                              have hms60_1 := NB159_158.out
                              have hms60_3 := NB159_161.out
                              refine skip_ (w1 := ?_) (by rfl) rfl ?_ ?_
                              rotate_left
                              · go_simp
                                rfl
                              refine hK.out _ _ ?_
                              clear hK K
                              refine done_ (done_of HT_.out (by kernel_rfl)) ?_
                              try go_wp2
                              go_roundg kj13
                              case measure => have := HK1.out; have := HJ13.out; omega
                              case rel => exact ⟨(wrap64 (x6_1 + 1)), (y167), (wrap64 ((wrap64 (x160001_1 + (((rd_T38 l0_0 x6_1).f2).size : Int))) - (rd l1 x6_1))), (.slice Ao59 y167.length co59), (by first | rfl | (simp; done) | (simp [*]; done)), H', ⟨by have := HK1.out; have := HJ13.out; omega⟩, ⟨by (with_reducible repeat (first | apply Kd.R_alloc | apply Kd.R_drewN | apply Kd.R_drew)); exact Kd.R_mono (Kd.R_far (p := ⟨gb159, 0, none⟩) (Kd.R_types HO169.out BK159.out (by decide)) (fun _ hk => hk.2) (.slice Ao59 y167.length co59)) (fun _ hk => trivial)⟩, ⟨by (with_reducible repeat (first | refine blk_drewN ?_ _ | refine blk_drew ?_ | refine blk_alloc ?_ _)); refine blk_far ?_ NB157_159.out _; (with_reducible repeat (first | refine blk_drewN ?_ _ | refine blk_drew ?_ | refine blk_alloc ?_ _)); exact BK157.out⟩, ⟨by (with_reducible repeat (first | refine blk_drewN ?_ _ | refine blk_drew ?_ | refine blk_alloc ?_ _)); refine blk_far ?_ NB158_159.out _; (with_reducible repeat (first | refine blk_drewN ?_ _ | refine blk_drew ?_ | refine blk_alloc ?_ _)); exact BK158.out⟩, ⟨by (with_reducible repeat (first | refine blk_drewN ?_ _ | refine blk_drew ?_ | refine blk_alloc ?_ _)); refine blk_put (cs := #[u160000, .int .i64 (wrap64 ((wrap64 (x160001_1 + (((rd_T38 l0_0 x6_1).f2).size : Int))) - (rd l1 x6_1))), .int .i64 (-1), .bool false]) ?_ 0 _ rfl; (with_reducible repeat (first | refine blk_drewN ?_ _ | refine blk_drew ?_ | refine blk_alloc ?_ _)); exact BK159.out⟩, ⟨by repeat (first | (with_reducible first | exact HB.out | apply below_alloc | apply pw_below_drewN | apply below_drew1 | refine below_set ?_ GE157.out | refine below_set ?_ GE158.out | refine below_set ?_ GE159.out | refine below_set ?_ GE161.out) | exact HB.out)⟩⟩
                            · rw [if_neg c48] at H
                              exact absurd H (by simp)
                          · rw [if_neg c47] at H
                            exact absurd H (by simp)
                        · rw [if_neg c46] at H
                          exact absurd H (by simp)
                      · rw [if_neg c45] at H
                        exact absurd H (by simp)
                  · rw [if_neg c27] at H
                    exact absurd H (by simp)
                · rw [if_neg c26] at H
                  exact absurd H (by simp)
              · replace c25 := Bool.eq_false_iff.mpr c25
                subst c25
                have H1 : (if 0 > (((rd_T38 l0_0 x6_1).f2).size : Int) then (if 0 ≤ (((rd_T38 l0_0 x6_1).f2).size : Int) then (if (((rd_T38 l0_0 x6_1).f2).size : Int) ≤ (((rd_T38 l0_0 x6_1).f2).size : Int) then (if ((rd_T38 l0_0 x6_1).f1).size + (((rd_T38 l0_0 x6_1).f2).extract 0 ((((rd_T38 l0_0 x6_1).f2).size : Int) : Int).toNat).size ≤ 9223372036854775807 then (if x160000_1.length < 2932031007402 then (stanchionref03_Crash.l0 kj13 l1 (wrap64 (x6_1 + 1)) l0_0 a0_1 a0_2 a0_3 (x160000_1 ++ [(⟨((rd_T38 l0_0 x6_1).f0), ((rd_T38 l0_0 x6_1).f1) ++ (((rd_T38 l0_0 x6_1).f2).extract 0 ((((rd_T38 l0_0 x6_1).f2).size : Int) : Int).toNat), (⟨#[]⟩ : ByteArray)⟩ : S38)]) (wrap64 ((wrap64 (x160001_1 + (((rd_T38 l0_0 x6_1).f2).size : Int))) - (((rd_T38 l0_0 x6_1).f2).size : Int))) (-1) false) else (none)) else (none)) else (none)) else (none)) else (if 0 ≤ 0 then (if 0 ≤ (((rd_T38 l0_0 x6_1).f2).size : Int) then (if ((rd_T38 l0_0 x6_1).f1).size + (((rd_T38 l0_0 x6_1).f2).extract 0 (0 : Int).toNat).size ≤ 9223372036854775807 then (if x160000_1.length < 2932031007402 then (stanchionref03_Crash.l0 kj13 l1 (wrap64 (x6_1 + 1)) l0_0 a0_1 a0_2 a0_3 (x160000_1 ++ [(⟨((rd_T38 l0_0 x6_1).f0), ((rd_T38 l0_0 x6_1).f1) ++ (((rd_T38 l0_0 x6_1).f2).extract 0 (0 : Int).toNat), (⟨#[]⟩ : ByteArray)⟩ : S38)]) (wrap64 ((wrap64 (x160001_1 + (((rd_T38 l0_0 x6_1).f2).size : Int))) - 0)) (-1) false) else (none)) else (none)) else (none)) else (none))) = some (r1, r2, r3, r4) := by rw [if_neg (show ¬ (false = true) by decide)] at H; exact H
                clear H
                have H := H1
                clear H1
                by_cases c61 : 0 > (((rd_T38 l0_0 x6_1).f2).size : Int)
                · rw [if_pos c61] at H
                  have c61b0 : decide ((((rd_T38 l0_0 x6_1).f2).size : Int) < 0) = true := decide_eq_true c61
                  have c61b1 : decide (((rd_T38 l0_0 x6_1).f2).size < 0) = true := decide_eq_true (by omega)
                  clear c61
                  by_cases c62 : 0 ≤ (((rd_T38 l0_0 x6_1).f2).size : Int)
                  · rw [if_pos c62] at H
                    have c62b0 := eq_true c62
                    have c62b1 : decide (0 ≤ (((rd_T38 l0_0 x6_1).f2).size : Int)) = true := decide_eq_true c62
                    clear c62
                    by_cases c63 : (((rd_T38 l0_0 x6_1).f2).size : Int) ≤ (((rd_T38 l0_0 x6_1).f2).size : Int)
                    · rw [if_pos c63] at H
                      have c63b0 := eq_true c63
                      have c63b1 : decide ((((rd_T38 l0_0 x6_1).f2).size : Int) ≤ (((rd_T38 l0_0 x6_1).f2).size : Int)) = true := decide_eq_true c63
                      clear c63
                      by_cases c64 : ((rd_T38 l0_0 x6_1).f1).size + (((rd_T38 l0_0 x6_1).f2).extract 0 ((((rd_T38 l0_0 x6_1).f2).size : Int) : Int).toNat).size ≤ 9223372036854775807
                      · rw [if_pos c64] at H
                        have c64b0 := eq_true c64
                        have c64b1 : decide (((rd_T38 l0_0 x6_1).f1).size + (((rd_T38 l0_0 x6_1).f2).extract 0 ((((rd_T38 l0_0 x6_1).f2).size : Int) : Int).toNat).size ≤ 9223372036854775807) = true := decide_eq_true c64
                        try have c64b2 : (9223372036854775807 < ((rd_T38 l0_0 x6_1).f1).size + (((rd_T38 l0_0 x6_1).f2).extract 0 ((((rd_T38 l0_0 x6_1).f2).size : Int) : Int).toNat).size) = False := eq_false (Nat.not_lt.2 c64)
                        try have c64b4 : (9223372036854775807 < ((rd_T38 l0_0 x6_1).f1).size + ((((rd_T38 l0_0 x6_1).f2).size : Int) : Int).toNat) = False := eq_false (by have q1_ := c64; rw [ByteArray.size_extract] at q1_; have q2_ := of_decide_eq_true (show decide ((((rd_T38 l0_0 x6_1).f2).size : Int) ≤ (((rd_T38 l0_0 x6_1).f2).size : Int)) = true by assumption); omega)
                        try have c64b5 : (9223372036854775807 < ((rd_T38 l0_0 x6_1).f1).size + ((rd_T38 l0_0 x6_1).f2).size) = False := eq_false (by have q1_ := c64; rw [ByteArray.size_extract] at q1_; omega)
                        rw [show ((rd_T38 l0_0 x6_1).f2).extract 0 ((((rd_T38 l0_0 x6_1).f2).size : Int) : Int).toNat = ((rd_T38 l0_0 x6_1).f2) from by simp] at H
                        by_cases c65 : x160000_1.length < 2932031007402
                        · rw [if_pos c65] at H
                          have LMc65 := Aside0.mk c65
                          clear c65
                          obtain ⟨y170, hy170⟩ : ∃ y_ : List (S38), y_ = (x160000_1 ++ [(⟨((rd_T38 l0_0 x6_1).f0), ((rd_T38 l0_0 x6_1).f1) ++ ((rd_T38 l0_0 x6_1).f2), (⟨#[]⟩ : ByteArray)⟩ : S38)]) := ⟨_, rfl⟩
                          replace H : (stanchionref03_Crash.l0 kj13 l1 (wrap64 (x6_1 + 1)) l0_0 a0_1 a0_2 a0_3 y170 (wrap64 ((wrap64 (x160001_1 + (((rd_T38 l0_0 x6_1).f2).size : Int))) - (((rd_T38 l0_0 x6_1).f2).size : Int))) (-1) false) = some (r1, r2, r3, r4) := by first | (rw [hy170]; with_reducible exact H) | (have H2_ := (Option.bind_some _ _).symm.trans H; rw [hy170]; with_reducible exact H2_) | (have H2_ := (Option.bind_some _ _).symm.trans H; with_reducible exact H2_) | with_reducible exact H | (rw [hy170]; exact H) | exact H
                          have Ny170 := Aside0.mk hy170
                          clear hy170
                          have H' := Aside0.mk H
                          clear H
                          have hnb66 := NB161_157.out
                          have hnc66 := NB157_161.out
                          have hnb67 := NB161_158.out
                          have hnc67 := NB158_161.out
                          have hnb68 := NB161_159.out
                          have hnc68 := NB159_161.out
                          obtain ⟨hcz69_0, hcz69_1, hcz69_2⟩ := Cb.c3 BK161.out
                          obtain ⟨hfz69_0, hfz69_1, hfz69_2⟩ := Cb.f3 BK161.out
                          have hnb70 := NB159_157.out
                          have hnc70 := NB157_159.out
                          have hnb71 := NB159_158.out
                          have hnc71 := NB158_159.out
                          obtain ⟨hcz72_0, hcz72_1, hcz72_2, hcz72_3⟩ := Cb.c4 BK159.out
                          obtain ⟨hfz72_0, hfz72_1, hfz72_2, hfz72_3⟩ := Cb.f4 BK159.out
                          try go_wp2
                          have n0_ : Aside0 (Kd.R k38 38 (wc.setCell ⟨gb159, 1, none⟩ (.int .i64 (wrap64 ((wrap64 (x160001_1 + (((rd_T38 l0_0 x6_1).f2).size : Int))) - (((rd_T38 l0_0 x6_1).f2).size : Int))))) w.heap.size (fun k_ => k_ ≠ gb161) u160000 x160000_1) := ⟨by (with_reducible repeat (first | apply Kd.R_alloc | apply Kd.R_drewN | apply Kd.R_drew)); exact Kd.R_mono (Kd.R_far (p := ⟨gb159, 1, none⟩) (Kd.R_types HO_160000.out BK159.out (by decide)) (fun _ hk => hk.2) (.int .i64 (wrap64 ((wrap64 (x160001_1 + (((rd_T38 l0_0 x6_1).f2).size : Int))) - (((rd_T38 l0_0 x6_1).f2).size : Int))))) (fun _ hk => hk.1)⟩
                          have n1_ : Aside0 ((wc.setCell ⟨gb159, 1, none⟩ (.int .i64 (wrap64 ((wrap64 (x160001_1 + (((rd_T38 l0_0 x6_1).f2).size : Int))) - (((rd_T38 l0_0 x6_1).f2).size : Int))))).heap[gb157]? = some (.cells #[.slice (some ad160) l0_0.length c0_0, .int .i64 a0_1, .int .i64 a0_2, .bool a0_3] 33 (0, 0))) := ⟨by (with_reducible repeat (first | refine blk_drewN ?_ _ | refine blk_drew ?_ | refine blk_alloc ?_ _)); refine blk_far ?_ NB157_159.out _; (with_reducible repeat (first | refine blk_drewN ?_ _ | refine blk_drew ?_ | refine blk_alloc ?_ _)); exact BK157.out⟩
                          have n2_ : Aside0 ((wc.setCell ⟨gb159, 1, none⟩ (.int .i64 (wrap64 ((wrap64 (x160001_1 + (((rd_T38 l0_0 x6_1).f2).size : Int))) - (((rd_T38 l0_0 x6_1).f2).size : Int))))).heap[gb158]? = some (.cells #[.slice none 0 0, .int .i64 0, .int .i64 0, .bool false] 33 (0, 0))) := ⟨by (with_reducible repeat (first | refine blk_drewN ?_ _ | refine blk_drew ?_ | refine blk_alloc ?_ _)); refine blk_far ?_ NB158_159.out _; (with_reducible repeat (first | refine blk_drewN ?_ _ | refine blk_drew ?_ | refine blk_alloc ?_ _)); exact BK158.out⟩
                          have n3_ : Aside0 ((wc.setCell ⟨gb159, 1, none⟩ (.int .i64 (wrap64 ((wrap64 (x160001_1 + (((rd_T38 l0_0 x6_1).f2).size : Int))) - (((rd_T38 l0_0 x6_1).f2).size : Int))))).heap[gb159]? = some (.cells #[u160000, .int .i64 (wrap64 ((wrap64 (x160001_1 + (((rd_T38 l0_0 x6_1).f2).size : Int))) - (((rd_T38 l0_0 x6_1).f2).size : Int))), .int .i64 (-1), .bool false] 33 (0, 0))) := ⟨by (with_reducible repeat (first | refine blk_drewN ?_ _ | refine blk_drew ?_ | refine blk_alloc ?_ _)); refine blk_put (cs := #[u160000, .int .i64 x160001_1, .int .i64 (-1), .bool false]) ?_ 1 _ rfl; (with_reducible repeat (first | refine blk_drewN ?_ _ | refine blk_drew ?_ | refine blk_alloc ?_ _)); exact BK159.out⟩
                          have n4_ : Aside0 ((wc.setCell ⟨gb159, 1, none⟩ (.int .i64 (wrap64 ((wrap64 (x160001_1 + (((rd_T38 l0_0 x6_1).f2).size : Int))) - (((rd_T38 l0_0 x6_1).f2).size : Int))))).heap[gb161]? = some (.cells #[.string ((rd_T38 l0_0 x6_1).f0), .string ((rd_T38 l0_0 x6_1).f1), .string ((rd_T38 l0_0 x6_1).f2)] 38 (0, 0))) := ⟨by (with_reducible repeat (first | refine blk_drewN ?_ _ | refine blk_drew ?_ | refine blk_alloc ?_ _)); refine blk_far ?_ NB161_159.out _; (with_reducible repeat (first | refine blk_drewN ?_ _ | refine blk_drew ?_ | refine blk_alloc ?_ _)); exact BK161.out⟩
                          have n5_ : Aside0 (Below w.heap.size w (wc.setCell ⟨gb159, 1, none⟩ (.int .i64 (wrap64 ((wrap64 (x160001_1 + (((rd_T38 l0_0 x6_1).f2).size : Int))) - (((rd_T38 l0_0 x6_1).f2).size : Int)))))) := ⟨by repeat (first | (with_reducible first | exact HB.out | apply below_alloc | apply pw_below_drewN | apply below_drew1 | refine below_set ?_ GE157.out | refine below_set ?_ GE158.out | refine below_set ?_ GE159.out | refine below_set ?_ GE161.out) | exact HB.out)⟩
                          (try clear HO_160000)
                          (try clear BK157)
                          (try clear BK158)
                          (try clear BK159)
                          (try clear BK161)
                          (try clear HB)
                          generalize (wc.setCell ⟨gb159, 1, none⟩ (.int .i64 (wrap64 ((wrap64 (x160001_1 + (((rd_T38 l0_0 x6_1).f2).size : Int))) - (((rd_T38 l0_0 x6_1).f2).size : Int))))) = w73 at n0_ n1_ n2_ n3_ n4_ n5_ ⊢
                          have HO_160000 := n0_
                          have BK157 := n1_
                          have BK158 := n2_
                          have BK159 := n3_
                          have BK161 := n4_
                          have HB := n5_
                          clear n0_ n1_ n2_ n3_ n4_ n5_
                          replace HO_160000 := Aside0.mk (Kd.R_drew HO_160000.out)
                          replace BK157 := Aside0.mk (blk_drew BK157.out)
                          replace BK158 := Aside0.mk (blk_drew BK158.out)
                          replace BK159 := Aside0.mk (blk_drew BK159.out)
                          replace BK161 := Aside0.mk (blk_drew BK161.out)
                          replace HB := Aside0.mk (below_drew1 HB.out)
                          refine start_ (n := 16) (S := fun w' => w'.cell? ⟨gb159, 0, none⟩ = some (u160000) ∧ w'.cell? ⟨gb159, 1, none⟩ = some (.int .i64 (wrap64 ((wrap64 (x160001_1 + (((rd_T38 l0_0 x6_1).f2).size : Int))) - (((rd_T38 l0_0 x6_1).f2).size : Int)))) ∧ w'.cell? ⟨gb159, 2, none⟩ = some (.int .i64 (-1)) ∧ w'.cell? ⟨gb159, 3, none⟩ = some (.bool false) ∧ w'.cell? ⟨gb161, 0, none⟩ = some (.string ((rd_T38 l0_0 x6_1).f0)) ∧ w'.cell? ⟨gb161, 1, none⟩ = some (.string ((rd_T38 l0_0 x6_1).f1)) ∧ w'.cell? ⟨gb161, 2, none⟩ = some (.string ((rd_T38 l0_0 x6_1).f2))) (ds := [15]) #[false, false, false, false, false, false, false, false, false, false, false, false, false, false, false, false] (by kernel_rfl) rfl rfl ⟨(blk_cell BK159.out 0).trans rfl, (blk_cell BK159.out 1).trans rfl, (blk_cell BK159.out 2).trans rfl, (blk_cell BK159.out 3).trans rfl, (blk_cell BK161.out 0).trans rfl, (blk_cell BK161.out 1).trans rfl, (blk_cell BK161.out 2).trans rfl⟩ (fun hHeld => ?_); refine with_tabW stanchionref03_Crash.tab12 stanchionref03_Crash.bits12 (fun HT_ HW_ => ?_)
                          generalize w73.drew = w74 at HO_160000 BK157 BK158 BK159 BK161 HB hHeld ⊢
                          refine pure_ (i := 0) (N := some 56) (v := ?_) (a' := ?_) #[true, false, false, false, false, false, false, false, false, false, false, false, false, false, false, false] rfl rfl (any_of HT_.out (by kernel_rfl)) (fun _ _ _ h => h) (Or.inl ⟨by rfl, ?_⟩) ?_ ?_
                          rotate_left
                          · intro w'
                            go_simp
                            with_reducible rfl
                          rotate_left
                          · simp only [Act.put, List.setIfInBounds_toArray, List.set_cons_zero, List.set_cons_succ, i64_w, i32_w]
                            rfl
                          refine pure_ (i := 2) (N := some 58) (v := ?_) (a' := ?_) #[true, false, true, false, false, false, false, false, false, false, false, false, false, false, false, false] rfl rfl (any_of HT_.out (by kernel_rfl)) (fun _ _ _ h => h) (Or.inl ⟨by rfl, ?_⟩) ?_ ?_
                          rotate_left
                          · intro w'
                            go_simp
                            with_reducible rfl
                          rotate_left
                          · simp only [Act.put, List.setIfInBounds_toArray, List.set_cons_zero, List.set_cons_succ, i64_w, i32_w]
                            rfl
                          refine pure_ (i := 4) (N := some 60) (v := ?_) (a' := ?_) #[true, false, true, false, true, false, false, false, false, false, false, false, false, false, false, false] rfl rfl (any_of HT_.out (by kernel_rfl)) (fun _ _ _ h => h) (Or.inl ⟨by rfl, ?_⟩) ?_ ?_
                          rotate_left
                          · intro w'
                            go_simp
                            with_reducible rfl
                          rotate_left
                          · simp only [Act.put, List.setIfInBounds_toArray, List.set_cons_zero, List.set_cons_succ, i64_w, i32_w]
                            rfl
                          refine pure_ (i := 6) (N := some 62) (v := ?_) (a' := ?_) #[true, false, true, false, true, false, true, false, false, false, false, false, false, false, false, false] rfl rfl (any_of HT_.out (by kernel_rfl)) (fun _ _ _ h => h) (Or.inl ⟨by rfl, ?_⟩) ?_ ?_
                          rotate_left
                          · intro w'
                            go_simp
                            with_reducible rfl
                          rotate_left
                          · simp only [Act.put, List.setIfInBounds_toArray, List.set_cons_zero, List.set_cons_succ, i64_w, i32_w]
                            rfl
                          refine pure_ (i := 8) (N := some 64) (v := ?_) (a' := ?_) #[true, false, true, false, true, false, true, false, true, false, false, false, false, false, false, false] rfl rfl (any_of HT_.out (by kernel_rfl)) (fun _ _ _ h => h) (Or.inl ⟨by rfl, ?_⟩) ?_ ?_
                          rotate_left
                          · intro w'
                            go_simp
                            with_reducible rfl
                          rotate_left
                          · simp only [Act.put, List.setIfInBounds_toArray, List.set_cons_zero, List.set_cons_succ, i64_w, i32_w]
                            rfl
                          refine take_ (i := 1) (N := some 57) (v := ?_) (a' := ?_) #[true, true, true, false, true, false, true, false, true, false, false, false, false, false, false, false] rfl rfl (take_ofW HT_.out HW_.out (by kernel_rfl)) (fun _ _ _ h => h) (Or.inl ⟨by rfl, ?_⟩) hHeld ?_ ?_
                          rotate_left
                          · rintro w' ⟨s0, s1, s2, s3, s4, s5, s6⟩
                            go_simp
                            with_reducible rfl
                          rotate_left
                          · simp only [Act.put, List.setIfInBounds_toArray, List.set_cons_zero, List.set_cons_succ, i64_w, i32_w]
                            rfl
                          refine take_ (i := 3) (N := some 59) (v := ?_) (a' := ?_) #[true, true, true, true, true, false, true, false, true, false, false, false, false, false, false, false] rfl rfl (take_ofW HT_.out HW_.out (by kernel_rfl)) (fun _ _ _ h => h) (Or.inl ⟨by rfl, ?_⟩) hHeld ?_ ?_
                          rotate_left
                          · rintro w' ⟨s0, s1, s2, s3, s4, s5, s6⟩
                            go_simp
                            with_reducible rfl
                          rotate_left
                          · simp only [Act.put, List.setIfInBounds_toArray, List.set_cons_zero, List.set_cons_succ, i64_w, i32_w]
                            rfl
                          refine take_ (i := 5) (N := some 61) (v := ?_) (a' := ?_) #[true, true, true, true, true, true, true, false, true, false, false, false, false, false, false, false] rfl rfl (take_ofW HT_.out HW_.out (by kernel_rfl)) (fun _ _ _ h => h) (Or.inl ⟨by rfl, ?_⟩) hHeld ?_ ?_
                          rotate_left
                          · rintro w' ⟨s0, s1, s2, s3, s4, s5, s6⟩
                            go_simp
                            with_reducible rfl
                          rotate_left
                          · simp only [Act.put, List.setIfInBounds_toArray, List.set_cons_zero, List.set_cons_succ, i64_w, i32_w]
                            rfl
                          refine take_ (i := 7) (N := some 63) (v := ?_) (a' := ?_) #[true, true, true, true, true, true, true, true, true, false, false, false, false, false, false, false] rfl rfl (take_ofW HT_.out HW_.out (by kernel_rfl)) (fun _ _ _ h => h) (Or.inl ⟨by rfl, ?_⟩) hHeld ?_ ?_
                          rotate_left
                          · rintro w' ⟨s0, s1, s2, s3, s4, s5, s6⟩
                            go_simp
                            with_reducible rfl
                          rotate_left
                          · simp only [Act.put, List.setIfInBounds_toArray, List.set_cons_zero, List.set_cons_succ, i64_w, i32_w]
                            rfl
                          refine pure_ (i := 9) (N := some 65) (v := ?_) (a' := ?_) #[true, true, true, true, true, true, true, true, true, true, false, false, false, false, false, false] rfl rfl (any_of HT_.out (by kernel_rfl)) (fun _ _ _ h => h) (Or.inl ⟨by rfl, ?_⟩) ?_ ?_
                          rotate_left
                          · intro w'
                            go_simp
                            with_reducible rfl
                          rotate_left
                          · simp only [Act.put, List.setIfInBounds_toArray, List.set_cons_zero, List.set_cons_succ, i64_w, i32_w]
                            rfl
                          refine pure_ (i := 10) (N := some 66) (v := ?_) (a' := ?_) #[true, true, true, true, true, true, true, true, true, true, true, false, false, false, false, false] rfl rfl (any_of HT_.out (by kernel_rfl)) (fun _ _ _ h => h) (Or.inl ⟨by rfl, ?_⟩) ?_ ?_
                          rotate_left
                          · intro w'
                            go_simp
                            with_reducible rfl
                          rotate_left
                          · simp only [Act.put, List.setIfInBounds_toArray, List.set_cons_zero, List.set_cons_succ, i64_w, i32_w]
                            rfl
                          refine pure_ (i := 11) (N := some 67) (v := ?_) (a' := ?_) #[true, true, true, true, true, true, true, true, true, true, true, true, false, false, false, false] rfl rfl (any_of HT_.out (by kernel_rfl)) (fun _ _ _ h => h) (Or.inl ⟨by rfl, ?_⟩) ?_ ?_
                          rotate_left
                          · intro w'
                            go_simp
                            with_reducible rfl
                          rotate_left
                          · simp only [Act.put, List.setIfInBounds_toArray, List.set_cons_zero, List.set_cons_succ, i64_w, i32_w]
                            rfl
                          refine one_ (i := 12) (N := some 68) #[true, true, true, true, true, true, true, true, true, true, true, true, true, false, false, false] rfl rfl (one_of HT_.out (by kernel_rfl)) (by decide) (fun K hK => ?_)
                          refine value_ (w1 := ?_) (v := ?_) (by rfl) rfl ?_ ?_
                          rotate_left 2
                          · go_simp
                            constructor
                            · rfl
                            · rfl
                          refine hK.out _ _ ⟨(blk_cell (blk_alloc BK159.out _) 0).trans rfl, (blk_cell (blk_alloc BK159.out _) 1).trans rfl, (blk_cell (blk_alloc BK159.out _) 2).trans rfl, (blk_cell (blk_alloc BK159.out _) 3).trans rfl, (blk_cell (blk_alloc BK161.out _) 0).trans rfl, (blk_cell (blk_alloc BK161.out _) 1).trans rfl, (blk_cell (blk_alloc BK161.out _) 2).trans rfl⟩ (fun hHeld => ?_)
                          clear hK K
                          refine norm_ (a' := ?_) ?_ ?_
                          rotate_left
                          · show Act.put _ (some 68) _ = _
                            simp only [Act.put, List.setIfInBounds_toArray, List.set_cons_zero, List.set_cons_succ, i64_w, i32_w]
                            rfl
                          refine one_ (i := 13) (N := some 69) #[true, true, true, true, true, true, true, true, true, true, true, true, true, true, false, false] rfl rfl (one_of HT_.out (by kernel_rfl)) (by decide) (fun K hK => ?_)
                          refine Kd.R_append_step k38 (w0 := w) w.heap.size (by rfl) (.tmp 57) (.tmp 68) 31 38 (.agg #[(.string ⟨#[]⟩), (.string ⟨#[]⟩), (.string ⟨#[]⟩)]) 48 rfl Try.underlying31 info38 rfl (by decide) (by omega) u160000 x160000_1 (⟨((rd_T38 l0_0 x6_1).f0), ((rd_T38 l0_0 x6_1).f1) ++ ((rd_T38 l0_0 x6_1).f2), (⟨#[]⟩ : ByteArray)⟩ : S38) [.string ((rd_T38 l0_0 x6_1).f0), .string (((rd_T38 l0_0 x6_1).f1) ++ ((rd_T38 l0_0 x6_1).f2)), .string (⟨#[]⟩ : ByteArray)] (fun k_ => k_ ≠ gb161) (fun _ => False) rfl rfl ?aP (fun _ hk => hk.elim) ?aF ?aO ?aB ?aS ?aL ?_
                          (case aP => exact k38_mkM _ _ _ (⟨((rd_T38 l0_0 x6_1).f0), ((rd_T38 l0_0 x6_1).f1) ++ ((rd_T38 l0_0 x6_1).f2), (⟨#[]⟩ : ByteArray)⟩ : S38))
                          (case aB => exact (by repeat (first | (with_reducible first | exact HB.out | apply below_alloc | apply pw_below_drewN | apply below_drew1 | refine below_set ?_ GE157.out | refine below_set ?_ GE158.out | refine below_set ?_ GE159.out | refine below_set ?_ GE161.out) | exact HB.out)))
                          (case aF => exact (fun k_ hk => Kd.freshB (g := gb161) (o := .cells #[.string ((rd_T38 l0_0 x6_1).f0), .string ((rd_T38 l0_0 x6_1).f1), .string ((rd_T38 l0_0 x6_1).f2)] 38 (0, 0)) (by (with_reducible repeat (first | refine blk_drewN ?_ _ | refine blk_drew ?_ | refine blk_alloc ?_ _)); exact BK161.out) k_ hk))
                          (case aO => exact (by (with_reducible repeat (first | apply Kd.R_alloc | apply Kd.R_drewN | apply Kd.R_drew)); exact HO_160000.out))
                          (case aS => exact (below_size (by repeat (first | (with_reducible first | exact HB.out | apply below_alloc | apply pw_below_drewN | apply below_drew1 | refine below_set ?_ GE157.out | refine below_set ?_ GE158.out | refine below_set ?_ GE159.out | refine below_set ?_ GE161.out) | exact HB.out))))
                          (case aL => have := LMc65.out; omega)
                          intro v171 w75 ho hb hg hat
                          rw [← Ny170.out] at ho
                          have n0_ := Aside0.mk (blk_grown (g := gb157) (o := .cells #[.slice (some ad160) l0_0.length c0_0, .int .i64 a0_1, .int .i64 a0_2, .bool a0_3] 33 (0, 0)) (by (with_reducible repeat (first | refine blk_drewN ?_ _ | refine blk_drew ?_ | refine blk_alloc ?_ _)); exact BK157.out) hg (Kd.R_ne HO_160000.out BK157.out (by decide)))
                          have n1_ := Aside0.mk (blk_grown (g := gb158) (o := .cells #[.slice none 0 0, .int .i64 0, .int .i64 0, .bool false] 33 (0, 0)) (by (with_reducible repeat (first | refine blk_drewN ?_ _ | refine blk_drew ?_ | refine blk_alloc ?_ _)); exact BK158.out) hg (Kd.R_ne HO_160000.out BK158.out (by decide)))
                          have n2_ := Aside0.mk (blk_grown (g := gb159) (o := .cells #[u160000, .int .i64 (wrap64 ((wrap64 (x160001_1 + (((rd_T38 l0_0 x6_1).f2).size : Int))) - (((rd_T38 l0_0 x6_1).f2).size : Int))), .int .i64 (-1), .bool false] 33 (0, 0)) (by (with_reducible repeat (first | refine blk_drewN ?_ _ | refine blk_drew ?_ | refine blk_alloc ?_ _)); exact BK159.out) hg (Kd.R_ne HO_160000.out BK159.out (by decide)))
                          have n3_ := Aside0.mk (blk_grown (g := gb161) (o := .cells #[.string ((rd_T38 l0_0 x6_1).f0), .string ((rd_T38 l0_0 x6_1).f1), .string ((rd_T38 l0_0 x6_1).f2)] 38 (0, 0)) (by (with_reducible repeat (first | refine blk_drewN ?_ _ | refine blk_drew ?_ | refine blk_alloc ?_ _)); exact BK161.out) hg (Kd.R_away HO_160000.out (fun _ hk => hk)))
                          have n4_ := Aside0.mk (hb)
                          have n5_ := Aside0.mk (ho)
                          clear BK157
                          clear BK158
                          clear BK159
                          clear BK161
                          clear HB
                          clear HO_160000
                          have BK157 := n0_
                          have BK158 := n1_
                          have BK159 := n2_
                          have BK161 := n3_
                          have HB := n4_
                          have HO172 := n5_
                          clear n0_ n1_ n2_ n3_ n4_ n5_
                          clear ho hb hg hat
                          obtain ⟨Ao76, co76, eo76⟩ := Kd.R_slice HO172.out
                          (first | subst eo76 | (injection eo76 with f1_ f2_ f3_; have f4_ := f1_.symm; have f5_ := f3_.symm; clear f1_ f2_ f3_; subst f4_; subst f5_))
                          refine hK.out _ _ ⟨(blk_cell BK159.out 0).trans rfl, (blk_cell BK159.out 1).trans rfl, (blk_cell BK159.out 2).trans rfl, (blk_cell BK159.out 3).trans rfl, (blk_cell BK161.out 0).trans rfl, (blk_cell BK161.out 1).trans rfl, (blk_cell BK161.out 2).trans rfl⟩ (fun hHeld => ?_)
                          clear hK K
                          refine norm_ (a' := ?_) ?_ ?_
                          rotate_left
                          · show Act.put _ (some 69) _ = _
                            simp only [Act.put, List.setIfInBounds_toArray, List.set_cons_zero, List.set_cons_succ, i64_w, i32_w]
                            rfl
                          refine pure_ (i := 14) (N := some 70) (v := ?_) (a' := ?_) #[true, true, true, true, true, true, true, true, true, true, true, true, true, true, true, false] rfl rfl (any_of HT_.out (by kernel_rfl)) (fun _ _ _ h => h) (Or.inl ⟨by rfl, ?_⟩) ?_ ?_
                          rotate_left
                          · intro w'
                            go_simp
                            with_reducible rfl
                          rotate_left
                          · simp only [Act.put, List.setIfInBounds_toArray, List.set_cons_zero, List.set_cons_succ, i64_w, i32_w]
                            rfl
                          refine last_ (i := 15) (N := none) #[true, true, true, true, true, true, true, true, true, true, true, true, true, true, true, true] rfl rfl (one_of HT_.out (by kernel_rfl)) (by decide) (fun K hK => ?_)
                          have hs77 : w75.cell? ⟨gb159, 0, none⟩ = some (u160000) := (blk_cell BK159.out 0).trans rfl
                          have hfs77 := blk_frozen BK159.out 0
                          have hns77_0 := NB157_159.out
                          have hns77_1 := NB158_159.out
                          have hns77_3 := NB161_159.out
                          have hms77_0 := NB159_157.out
                          have hms77_1 := NB159_158.out
                          have hms77_3 := NB159_161.out
                          refine skip_ (w1 := ?_) (by rfl) rfl ?_ ?_
                          rotate_left
                          · go_simp
                            rfl
                          refine hK.out _ _ ?_
                          clear hK K
                          refine done_ (done_of HT_.out (by kernel_rfl)) ?_
                          try go_wp2
                          go_roundg kj13
                          case measure => have := HK1.out; have := HJ13.out; omega
                          case rel => exact ⟨(wrap64 (x6_1 + 1)), (y170), (wrap64 ((wrap64 (x160001_1 + (((rd_T38 l0_0 x6_1).f2).size : Int))) - (((rd_T38 l0_0 x6_1).f2).size : Int))), (.slice Ao76 y170.length co76), (by first | rfl | (simp; done) | (simp [*]; done)), H', ⟨by have := HK1.out; have := HJ13.out; omega⟩, ⟨by (with_reducible repeat (first | apply Kd.R_alloc | apply Kd.R_drewN | apply Kd.R_drew)); exact Kd.R_mono (Kd.R_far (p := ⟨gb159, 0, none⟩) (Kd.R_types HO172.out BK159.out (by decide)) (fun _ hk => hk.2) (.slice Ao76 y170.length co76)) (fun _ hk => trivial)⟩, ⟨by (with_reducible repeat (first | refine blk_drewN ?_ _ | refine blk_drew ?_ | refine blk_alloc ?_ _)); refine blk_far ?_ NB157_159.out _; (with_reducible repeat (first | refine blk_drewN ?_ _ | refine blk_drew ?_ | refine blk_alloc ?_ _)); exact BK157.out⟩, ⟨by (with_reducible repeat (first | refine blk_drewN ?_ _ | refine blk_drew ?_ | refine blk_alloc ?_ _)); refine blk_far ?_ NB158_159.out _; (with_reducible repeat (first | refine blk_drewN ?_ _ | refine blk_drew ?_ | refine blk_alloc ?_ _)); exact BK158.out⟩, ⟨by (with_reducible repeat (first | refine blk_drewN ?_ _ | refine blk_drew ?_ | refine blk_alloc ?_ _)); refine blk_put (cs := #[u160000, .int .i64 (wrap64 ((wrap64 (x160001_1 + (((rd_T38 l0_0 x6_1).f2).size : Int))) - (((rd_T38 l0_0 x6_1).f2).size : Int))), .int .i64 (-1), .bool false]) ?_ 0 _ rfl; (with_reducible repeat (first | refine blk_drewN ?_ _ | refine blk_drew ?_ | refine blk_alloc ?_ _)); exact BK159.out⟩, ⟨by repeat (first | (with_reducible first | exact HB.out | apply below_alloc | apply pw_below_drewN | apply below_drew1 | refine below_set ?_ GE157.out | refine below_set ?_ GE158.out | refine below_set ?_ GE159.out | refine below_set ?_ GE161.out) | exact HB.out)⟩⟩
                        · rw [if_neg c65] at H
                          exact absurd H (by simp)
                      · rw [if_neg c64] at H
                        exact absurd H (by simp)
                    · rw [if_neg c63] at H
                      exact absurd H (by simp)
                  · rw [if_neg c62] at H
                    exact absurd H (by simp)
                · rw [if_neg c61] at H
                  have c61b0 : decide ((((rd_T38 l0_0 x6_1).f2).size : Int) < 0) = false := decide_eq_false c61
                  have c61b1 : decide (((rd_T38 l0_0 x6_1).f2).size < 0) = false := decide_eq_false (by omega)
                  clear c61
                  by_cases c78 : 0 ≤ 0
                  · rw [if_pos c78] at H
                    have c78b0 := eq_true c78
                    have c78b1 : decide (0 ≤ 0) = true := decide_eq_true c78
                    clear c78
                    by_cases c79 : 0 ≤ (((rd_T38 l0_0 x6_1).f2).size : Int)
                    · rw [if_pos c79] at H
                      have c79b0 := eq_true c79
                      have c79b1 : decide (0 ≤ (((rd_T38 l0_0 x6_1).f2).size : Int)) = true := decide_eq_true c79
                      clear c79
                      by_cases c80 : ((rd_T38 l0_0 x6_1).f1).size + (((rd_T38 l0_0 x6_1).f2).extract 0 (0 : Int).toNat).size ≤ 9223372036854775807
                      · rw [if_pos c80] at H
                        have c80b0 := eq_true c80
                        have c80b1 : decide (((rd_T38 l0_0 x6_1).f1).size + (((rd_T38 l0_0 x6_1).f2).extract 0 (0 : Int).toNat).size ≤ 9223372036854775807) = true := decide_eq_true c80
                        try have c80b2 : (9223372036854775807 < ((rd_T38 l0_0 x6_1).f1).size + (((rd_T38 l0_0 x6_1).f2).extract 0 (0 : Int).toNat).size) = False := eq_false (Nat.not_lt.2 c80)
                        try have c80b4 : (9223372036854775807 < ((rd_T38 l0_0 x6_1).f1).size + (0 : Int).toNat) = False := eq_false (by have q1_ := c80; rw [ByteArray.size_extract] at q1_; have q2_ := of_decide_eq_true (show decide (0 ≤ (((rd_T38 l0_0 x6_1).f2).size : Int)) = true by assumption); omega)
                        (try simp only [Int.sub_zero] at H)
                        try have c80b6 : (9223372036854775807 < ((rd_T38 l0_0 x6_1).f1).size) = False := eq_false (by have q1_ := c80; rw [ByteArray.size_extract] at q1_; omega)
                        (try rw [show ((rd_T38 l0_0 x6_1).f1) ++ (((rd_T38 l0_0 x6_1).f2).extract 0 (0 : Int).toNat) = ((rd_T38 l0_0 x6_1).f1) from by first | (simp; done) | (go_simp; done)] at H)
                        by_cases c81 : x160000_1.length < 2932031007402
                        · rw [if_pos c81] at H
                          have LMc81 := Aside0.mk c81
                          clear c81
                          obtain ⟨y173, hy173⟩ : ∃ y_ : List (S38), y_ = (x160000_1 ++ [(⟨((rd_T38 l0_0 x6_1).f0), ((rd_T38 l0_0 x6_1).f1), (⟨#[]⟩ : ByteArray)⟩ : S38)]) := ⟨_, rfl⟩
                          replace H : (stanchionref03_Crash.l0 kj13 l1 (wrap64 (x6_1 + 1)) l0_0 a0_1 a0_2 a0_3 y173 (wrap64 ((wrap64 (x160001_1 + (((rd_T38 l0_0 x6_1).f2).size : Int))))) (-1) false) = some (r1, r2, r3, r4) := by first | (rw [hy173]; with_reducible exact H) | (have H2_ := (Option.bind_some _ _).symm.trans H; rw [hy173]; with_reducible exact H2_) | (have H2_ := (Option.bind_some _ _).symm.trans H; with_reducible exact H2_) | with_reducible exact H | (rw [hy173]; exact H) | exact H
                          have Ny173 := Aside0.mk hy173
                          clear hy173
                          have H' := Aside0.mk H
                          clear H
                          have hnb82 := NB161_157.out
                          have hnc82 := NB157_161.out
                          have hnb83 := NB161_158.out
                          have hnc83 := NB158_161.out
                          have hnb84 := NB161_159.out
                          have hnc84 := NB159_161.out
                          obtain ⟨hcz85_0, hcz85_1, hcz85_2⟩ := Cb.c3 BK161.out
                          obtain ⟨hfz85_0, hfz85_1, hfz85_2⟩ := Cb.f3 BK161.out
                          have hnb86 := NB159_157.out
                          have hnc86 := NB157_159.out
                          have hnb87 := NB159_158.out
                          have hnc87 := NB158_159.out
                          obtain ⟨hcz88_0, hcz88_1, hcz88_2, hcz88_3⟩ := Cb.c4 BK159.out
                          obtain ⟨hfz88_0, hfz88_1, hfz88_2, hfz88_3⟩ := Cb.f4 BK159.out
                          try go_wp2
                          have n0_ : Aside0 (Kd.R k38 38 (wc.setCell ⟨gb159, 1, none⟩ (.int .i64 (wrap64 ((wrap64 (x160001_1 + (((rd_T38 l0_0 x6_1).f2).size : Int))))))) w.heap.size (fun k_ => k_ ≠ gb161) u160000 x160000_1) := ⟨by (with_reducible repeat (first | apply Kd.R_alloc | apply Kd.R_drewN | apply Kd.R_drew)); exact Kd.R_mono (Kd.R_far (p := ⟨gb159, 1, none⟩) (Kd.R_types HO_160000.out BK159.out (by decide)) (fun _ hk => hk.2) (.int .i64 (wrap64 ((wrap64 (x160001_1 + (((rd_T38 l0_0 x6_1).f2).size : Int))))))) (fun _ hk => hk.1)⟩
                          have n1_ : Aside0 ((wc.setCell ⟨gb159, 1, none⟩ (.int .i64 (wrap64 ((wrap64 (x160001_1 + (((rd_T38 l0_0 x6_1).f2).size : Int))))))).heap[gb157]? = some (.cells #[.slice (some ad160) l0_0.length c0_0, .int .i64 a0_1, .int .i64 a0_2, .bool a0_3] 33 (0, 0))) := ⟨by (with_reducible repeat (first | refine blk_drewN ?_ _ | refine blk_drew ?_ | refine blk_alloc ?_ _)); refine blk_far ?_ NB157_159.out _; (with_reducible repeat (first | refine blk_drewN ?_ _ | refine blk_drew ?_ | refine blk_alloc ?_ _)); exact BK157.out⟩
                          have n2_ : Aside0 ((wc.setCell ⟨gb159, 1, none⟩ (.int .i64 (wrap64 ((wrap64 (x160001_1 + (((rd_T38 l0_0 x6_1).f2).size : Int))))))).heap[gb158]? = some (.cells #[.slice none 0 0, .int .i64 0, .int .i64 0, .bool false] 33 (0, 0))) := ⟨by (with_reducible repeat (first | refine blk_drewN ?_ _ | refine blk_drew ?_ | refine blk_alloc ?_ _)); refine blk_far ?_ NB158_159.out _; (with_reducible repeat (first | refine blk_drewN ?_ _ | refine blk_drew ?_ | refine blk_alloc ?_ _)); exact BK158.out⟩
                          have n3_ : Aside0 ((wc.setCell ⟨gb159, 1, none⟩ (.int .i64 (wrap64 ((wrap64 (x160001_1 + (((rd_T38 l0_0 x6_1).f2).size : Int))))))).heap[gb159]? = some (.cells #[u160000, .int .i64 (wrap64 ((wrap64 (x160001_1 + (((rd_T38 l0_0 x6_1).f2).size : Int))))), .int .i64 (-1), .bool false] 33 (0, 0))) := ⟨by (with_reducible repeat (first | refine blk_drewN ?_ _ | refine blk_drew ?_ | refine blk_alloc ?_ _)); refine blk_put (cs := #[u160000, .int .i64 x160001_1, .int .i64 (-1), .bool false]) ?_ 1 _ rfl; (with_reducible repeat (first | refine blk_drewN ?_ _ | refine blk_drew ?_ | refine blk_alloc ?_ _)); exact BK159.out⟩
                          have n4_ : Aside0 ((wc.setCell ⟨gb159, 1, none⟩ (.int .i64 (wrap64 ((wrap64 (x160001_1 + (((rd_T38 l0_0 x6_1).f2).size : Int))))))).heap[gb161]? = some (.cells #[.string ((rd_T38 l0_0 x6_1).f0), .string ((rd_T38 l0_0 x6_1).f1), .string ((rd_T38 l0_0 x6_1).f2)] 38 (0, 0))) := ⟨by (with_reducible repeat (first | refine blk_drewN ?_ _ | refine blk_drew ?_ | refine blk_alloc ?_ _)); refine blk_far ?_ NB161_159.out _; (with_reducible repeat (first | refine blk_drewN ?_ _ | refine blk_drew ?_ | refine blk_alloc ?_ _)); exact BK161.out⟩
                          have n5_ : Aside0 (Below w.heap.size w (wc.setCell ⟨gb159, 1, none⟩ (.int .i64 (wrap64 ((wrap64 (x160001_1 + (((rd_T38 l0_0 x6_1).f2).size : Int)))))))) := ⟨by repeat (first | (with_reducible first | exact HB.out | apply below_alloc | apply pw_below_drewN | apply below_drew1 | refine below_set ?_ GE157.out | refine below_set ?_ GE158.out | refine below_set ?_ GE159.out | refine below_set ?_ GE161.out) | exact HB.out)⟩
                          (try clear HO_160000)
                          (try clear BK157)
                          (try clear BK158)
                          (try clear BK159)
                          (try clear BK161)
                          (try clear HB)
                          generalize (wc.setCell ⟨gb159, 1, none⟩ (.int .i64 (wrap64 ((wrap64 (x160001_1 + (((rd_T38 l0_0 x6_1).f2).size : Int))))))) = w89 at n0_ n1_ n2_ n3_ n4_ n5_ ⊢
                          have HO_160000 := n0_
                          have BK157 := n1_
                          have BK158 := n2_
                          have BK159 := n3_
                          have BK161 := n4_
                          have HB := n5_
                          clear n0_ n1_ n2_ n3_ n4_ n5_
                          replace HO_160000 := Aside0.mk (Kd.R_drew HO_160000.out)
                          replace BK157 := Aside0.mk (blk_drew BK157.out)
                          replace BK158 := Aside0.mk (blk_drew BK158.out)
                          replace BK159 := Aside0.mk (blk_drew BK159.out)
                          replace BK161 := Aside0.mk (blk_drew BK161.out)
                          replace HB := Aside0.mk (below_drew1 HB.out)
                          refine start_ (n := 16) (S := fun w' => w'.cell? ⟨gb159, 0, none⟩ = some (u160000) ∧ w'.cell? ⟨gb159, 1, none⟩ = some (.int .i64 (wrap64 ((wrap64 (x160001_1 + (((rd_T38 l0_0 x6_1).f2).size : Int)))))) ∧ w'.cell? ⟨gb159, 2, none⟩ = some (.int .i64 (-1)) ∧ w'.cell? ⟨gb159, 3, none⟩ = some (.bool false) ∧ w'.cell? ⟨gb161, 0, none⟩ = some (.string ((rd_T38 l0_0 x6_1).f0)) ∧ w'.cell? ⟨gb161, 1, none⟩ = some (.string ((rd_T38 l0_0 x6_1).f1)) ∧ w'.cell? ⟨gb161, 2, none⟩ = some (.string ((rd_T38 l0_0 x6_1).f2))) (ds := [15]) #[false, false, false, false, false, false, false, false, false, false, false, false, false, false, false, false] (by kernel_rfl) rfl rfl ⟨(blk_cell BK159.out 0).trans rfl, (blk_cell BK159.out 1).trans rfl, (blk_cell BK159.out 2).trans rfl, (blk_cell BK159.out 3).trans rfl, (blk_cell BK161.out 0).trans rfl, (blk_cell BK161.out 1).trans rfl, (blk_cell BK161.out 2).trans rfl⟩ (fun hHeld => ?_); refine with_tabW stanchionref03_Crash.tab12 stanchionref03_Crash.bits12 (fun HT_ HW_ => ?_)
                          generalize w89.drew = w90 at HO_160000 BK157 BK158 BK159 BK161 HB hHeld ⊢
                          refine pure_ (i := 0) (N := some 56) (v := ?_) (a' := ?_) #[true, false, false, false, false, false, false, false, false, false, false, false, false, false, false, false] rfl rfl (any_of HT_.out (by kernel_rfl)) (fun _ _ _ h => h) (Or.inl ⟨by rfl, ?_⟩) ?_ ?_
                          rotate_left
                          · intro w'
                            go_simp
                            with_reducible rfl
                          rotate_left
                          · simp only [Act.put, List.setIfInBounds_toArray, List.set_cons_zero, List.set_cons_succ, i64_w, i32_w]
                            rfl
                          refine pure_ (i := 2) (N := some 58) (v := ?_) (a' := ?_) #[true, false, true, false, false, false, false, false, false, false, false, false, false, false, false, false] rfl rfl (any_of HT_.out (by kernel_rfl)) (fun _ _ _ h => h) (Or.inl ⟨by rfl, ?_⟩) ?_ ?_
                          rotate_left
                          · intro w'
                            go_simp
                            with_reducible rfl
                          rotate_left
                          · simp only [Act.put, List.setIfInBounds_toArray, List.set_cons_zero, List.set_cons_succ, i64_w, i32_w]
                            rfl
                          refine pure_ (i := 4) (N := some 60) (v := ?_) (a' := ?_) #[true, false, true, false, true, false, false, false, false, false, false, false, false, false, false, false] rfl rfl (any_of HT_.out (by kernel_rfl)) (fun _ _ _ h => h) (Or.inl ⟨by rfl, ?_⟩) ?_ ?_
                          rotate_left
                          · intro w'
                            go_simp
                            with_reducible rfl
                          rotate_left
                          · simp only [Act.put, List.setIfInBounds_toArray, List.set_cons_zero, List.set_cons_succ, i64_w, i32_w]
                            rfl
                          refine pure_ (i := 6) (N := some 62) (v := ?_) (a' := ?_) #[true, false, true, false, true, false, true, false, false, false, false, false, false, false, false, false] rfl rfl (any_of HT_.out (by kernel_rfl)) (fun _ _ _ h => h) (Or.inl ⟨by rfl, ?_⟩) ?_ ?_
                          rotate_left
                          · intro w'
                            go_simp
                            with_reducible rfl
                          rotate_left
                          · simp only [Act.put, List.setIfInBounds_toArray, List.set_cons_zero, List.set_cons_succ, i64_w, i32_w]
                            rfl
                          refine pure_ (i := 8) (N := some 64) (v := ?_) (a' := ?_) #[true, false, true, false, true, false, true, false, true, false, false, false, false, false, false, false] rfl rfl (any_of HT_.out (by kernel_rfl)) (fun _ _ _ h => h) (Or.inl ⟨by rfl, ?_⟩) ?_ ?_
                          rotate_left
                          · intro w'
                            go_simp
                            with_reducible rfl
                          rotate_left
                          · simp only [Act.put, List.setIfInBounds_toArray, List.set_cons_zero, List.set_cons_succ, i64_w, i32_w]
                            rfl
                          refine take_ (i := 1) (N := some 57) (v := ?_) (a' := ?_) #[true, true, true, false, true, false, true, false, true, false, false, false, false, false, false, false] rfl rfl (take_ofW HT_.out HW_.out (by kernel_rfl)) (fun _ _ _ h => h) (Or.inl ⟨by rfl, ?_⟩) hHeld ?_ ?_
                          rotate_left
                          · rintro w' ⟨s0, s1, s2, s3, s4, s5, s6⟩
                            go_simp
                            with_reducible rfl
                          rotate_left
                          · simp only [Act.put, List.setIfInBounds_toArray, List.set_cons_zero, List.set_cons_succ, i64_w, i32_w]
                            rfl
                          refine take_ (i := 3) (N := some 59) (v := ?_) (a' := ?_) #[true, true, true, true, true, false, true, false, true, false, false, false, false, false, false, false] rfl rfl (take_ofW HT_.out HW_.out (by kernel_rfl)) (fun _ _ _ h => h) (Or.inl ⟨by rfl, ?_⟩) hHeld ?_ ?_
                          rotate_left
                          · rintro w' ⟨s0, s1, s2, s3, s4, s5, s6⟩
                            go_simp
                            with_reducible rfl
                          rotate_left
                          · simp only [Act.put, List.setIfInBounds_toArray, List.set_cons_zero, List.set_cons_succ, i64_w, i32_w]
                            rfl
                          refine take_ (i := 5) (N := some 61) (v := ?_) (a' := ?_) #[true, true, true, true, true, true, true, false, true, false, false, false, false, false, false, false] rfl rfl (take_ofW HT_.out HW_.out (by kernel_rfl)) (fun _ _ _ h => h) (Or.inl ⟨by rfl, ?_⟩) hHeld ?_ ?_
                          rotate_left
                          · rintro w' ⟨s0, s1, s2, s3, s4, s5, s6⟩
                            go_simp
                            with_reducible rfl
                          rotate_left
                          · simp only [Act.put, List.setIfInBounds_toArray, List.set_cons_zero, List.set_cons_succ, i64_w, i32_w]
                            rfl
                          refine take_ (i := 7) (N := some 63) (v := ?_) (a' := ?_) #[true, true, true, true, true, true, true, true, true, false, false, false, false, false, false, false] rfl rfl (take_ofW HT_.out HW_.out (by kernel_rfl)) (fun _ _ _ h => h) (Or.inl ⟨by rfl, ?_⟩) hHeld ?_ ?_
                          rotate_left
                          · rintro w' ⟨s0, s1, s2, s3, s4, s5, s6⟩
                            go_simp
                            with_reducible rfl
                          rotate_left
                          · simp only [Act.put, List.setIfInBounds_toArray, List.set_cons_zero, List.set_cons_succ, i64_w, i32_w]
                            rfl
                          refine pure_ (i := 9) (N := some 65) (v := ?_) (a' := ?_) #[true, true, true, true, true, true, true, true, true, true, false, false, false, false, false, false] rfl rfl (any_of HT_.out (by kernel_rfl)) (fun _ _ _ h => h) (Or.inl ⟨by rfl, ?_⟩) ?_ ?_
                          rotate_left
                          · intro w'
                            go_simp
                            with_reducible rfl
                          rotate_left
                          · simp only [Act.put, List.setIfInBounds_toArray, List.set_cons_zero, List.set_cons_succ, i64_w, i32_w]
                            rfl
                          refine pure_ (i := 10) (N := some 66) (v := ?_) (a' := ?_) #[true, true, true, true, true, true, true, true, true, true, true, false, false, false, false, false] rfl rfl (any_of HT_.out (by kernel_rfl)) (fun _ _ _ h => h) (Or.inl ⟨by rfl, ?_⟩) ?_ ?_
                          rotate_left
                          · intro w'
                            go_simp
                            with_reducible rfl
                          rotate_left
                          · simp only [Act.put, List.setIfInBounds_toArray, List.set_cons_zero, List.set_cons_succ, i64_w, i32_w]
                            rfl
                          refine pure_ (i := 11) (N := some 67) (v := ?_) (a' := ?_) #[true, true, true, true, true, true, true, true, true, true, true, true, false, false, false, false] rfl rfl (any_of HT_.out (by kernel_rfl)) (fun _ _ _ h => h) (Or.inl ⟨by rfl, ?_⟩) ?_ ?_
                          rotate_left
                          · intro w'
                            go_simp
                            with_reducible rfl
                          rotate_left
                          · simp only [Act.put, List.setIfInBounds_toArray, List.set_cons_zero, List.set_cons_succ, i64_w, i32_w]
                            rfl
                          refine one_ (i := 12) (N := some 68) #[true, true, true, true, true, true, true, true, true, true, true, true, true, false, false, false] rfl rfl (one_of HT_.out (by kernel_rfl)) (by decide) (fun K hK => ?_)
                          refine value_ (w1 := ?_) (v := ?_) (by rfl) rfl ?_ ?_
                          rotate_left 2
                          · go_simp
                            constructor
                            · rfl
                            · rfl
                          refine hK.out _ _ ⟨(blk_cell (blk_alloc BK159.out _) 0).trans rfl, (blk_cell (blk_alloc BK159.out _) 1).trans rfl, (blk_cell (blk_alloc BK159.out _) 2).trans rfl, (blk_cell (blk_alloc BK159.out _) 3).trans rfl, (blk_cell (blk_alloc BK161.out _) 0).trans rfl, (blk_cell (blk_alloc BK161.out _) 1).trans rfl, (blk_cell (blk_alloc BK161.out _) 2).trans rfl⟩ (fun hHeld => ?_)
                          clear hK K
                          refine norm_ (a' := ?_) ?_ ?_
                          rotate_left
                          · show Act.put _ (some 68) _ = _
                            simp only [Act.put, List.setIfInBounds_toArray, List.set_cons_zero, List.set_cons_succ, i64_w, i32_w]
                            rfl
                          refine one_ (i := 13) (N := some 69) #[true, true, true, true, true, true, true, true, true, true, true, true, true, true, false, false] rfl rfl (one_of HT_.out (by kernel_rfl)) (by decide) (fun K hK => ?_)
                          refine Kd.R_append_step k38 (w0 := w) w.heap.size (by rfl) (.tmp 57) (.tmp 68) 31 38 (.agg #[(.string ⟨#[]⟩), (.string ⟨#[]⟩), (.string ⟨#[]⟩)]) 48 rfl Try.underlying31 info38 rfl (by decide) (by omega) u160000 x160000_1 (⟨((rd_T38 l0_0 x6_1).f0), ((rd_T38 l0_0 x6_1).f1), (⟨#[]⟩ : ByteArray)⟩ : S38) [.string ((rd_T38 l0_0 x6_1).f0), .string (((rd_T38 l0_0 x6_1).f1)), .string (⟨#[]⟩ : ByteArray)] (fun k_ => k_ ≠ gb161) (fun _ => False) rfl rfl ?aP (fun _ hk => hk.elim) ?aF ?aO ?aB ?aS ?aL ?_
                          (case aP => exact k38_mkM _ _ _ (⟨((rd_T38 l0_0 x6_1).f0), ((rd_T38 l0_0 x6_1).f1), (⟨#[]⟩ : ByteArray)⟩ : S38))
                          (case aB => exact (by repeat (first | (with_reducible first | exact HB.out | apply below_alloc | apply pw_below_drewN | apply below_drew1 | refine below_set ?_ GE157.out | refine below_set ?_ GE158.out | refine below_set ?_ GE159.out | refine below_set ?_ GE161.out) | exact HB.out)))
                          (case aF => exact (fun k_ hk => Kd.freshB (g := gb161) (o := .cells #[.string ((rd_T38 l0_0 x6_1).f0), .string ((rd_T38 l0_0 x6_1).f1), .string ((rd_T38 l0_0 x6_1).f2)] 38 (0, 0)) (by (with_reducible repeat (first | refine blk_drewN ?_ _ | refine blk_drew ?_ | refine blk_alloc ?_ _)); exact BK161.out) k_ hk))
                          (case aO => exact (by (with_reducible repeat (first | apply Kd.R_alloc | apply Kd.R_drewN | apply Kd.R_drew)); exact HO_160000.out))
                          (case aS => exact (below_size (by repeat (first | (with_reducible first | exact HB.out | apply below_alloc | apply pw_below_drewN | apply below_drew1 | refine below_set ?_ GE157.out | refine below_set ?_ GE158.out | refine below_set ?_ GE159.out | refine below_set ?_ GE161.out) | exact HB.out))))
                          (case aL => have := LMc81.out; omega)
                          intro v174 w91 ho hb hg hat
                          rw [← Ny173.out] at ho
                          have n0_ := Aside0.mk (blk_grown (g := gb157) (o := .cells #[.slice (some ad160) l0_0.length c0_0, .int .i64 a0_1, .int .i64 a0_2, .bool a0_3] 33 (0, 0)) (by (with_reducible repeat (first | refine blk_drewN ?_ _ | refine blk_drew ?_ | refine blk_alloc ?_ _)); exact BK157.out) hg (Kd.R_ne HO_160000.out BK157.out (by decide)))
                          have n1_ := Aside0.mk (blk_grown (g := gb158) (o := .cells #[.slice none 0 0, .int .i64 0, .int .i64 0, .bool false] 33 (0, 0)) (by (with_reducible repeat (first | refine blk_drewN ?_ _ | refine blk_drew ?_ | refine blk_alloc ?_ _)); exact BK158.out) hg (Kd.R_ne HO_160000.out BK158.out (by decide)))
                          have n2_ := Aside0.mk (blk_grown (g := gb159) (o := .cells #[u160000, .int .i64 (wrap64 ((wrap64 (x160001_1 + (((rd_T38 l0_0 x6_1).f2).size : Int))))), .int .i64 (-1), .bool false] 33 (0, 0)) (by (with_reducible repeat (first | refine blk_drewN ?_ _ | refine blk_drew ?_ | refine blk_alloc ?_ _)); exact BK159.out) hg (Kd.R_ne HO_160000.out BK159.out (by decide)))
                          have n3_ := Aside0.mk (blk_grown (g := gb161) (o := .cells #[.string ((rd_T38 l0_0 x6_1).f0), .string ((rd_T38 l0_0 x6_1).f1), .string ((rd_T38 l0_0 x6_1).f2)] 38 (0, 0)) (by (with_reducible repeat (first | refine blk_drewN ?_ _ | refine blk_drew ?_ | refine blk_alloc ?_ _)); exact BK161.out) hg (Kd.R_away HO_160000.out (fun _ hk => hk)))
                          have n4_ := Aside0.mk (hb)
                          have n5_ := Aside0.mk (ho)
                          clear BK157
                          clear BK158
                          clear BK159
                          clear BK161
                          clear HB
                          clear HO_160000
                          have BK157 := n0_
                          have BK158 := n1_
                          have BK159 := n2_
                          have BK161 := n3_
                          have HB := n4_
                          have HO175 := n5_
                          clear n0_ n1_ n2_ n3_ n4_ n5_
                          clear ho hb hg hat
                          obtain ⟨Ao92, co92, eo92⟩ := Kd.R_slice HO175.out
                          (first | subst eo92 | (injection eo92 with f1_ f2_ f3_; have f4_ := f1_.symm; have f5_ := f3_.symm; clear f1_ f2_ f3_; subst f4_; subst f5_))
                          refine hK.out _ _ ⟨(blk_cell BK159.out 0).trans rfl, (blk_cell BK159.out 1).trans rfl, (blk_cell BK159.out 2).trans rfl, (blk_cell BK159.out 3).trans rfl, (blk_cell BK161.out 0).trans rfl, (blk_cell BK161.out 1).trans rfl, (blk_cell BK161.out 2).trans rfl⟩ (fun hHeld => ?_)
                          clear hK K
                          refine norm_ (a' := ?_) ?_ ?_
                          rotate_left
                          · show Act.put _ (some 69) _ = _
                            simp only [Act.put, List.setIfInBounds_toArray, List.set_cons_zero, List.set_cons_succ, i64_w, i32_w]
                            rfl
                          refine pure_ (i := 14) (N := some 70) (v := ?_) (a' := ?_) #[true, true, true, true, true, true, true, true, true, true, true, true, true, true, true, false] rfl rfl (any_of HT_.out (by kernel_rfl)) (fun _ _ _ h => h) (Or.inl ⟨by rfl, ?_⟩) ?_ ?_
                          rotate_left
                          · intro w'
                            go_simp
                            with_reducible rfl
                          rotate_left
                          · simp only [Act.put, List.setIfInBounds_toArray, List.set_cons_zero, List.set_cons_succ, i64_w, i32_w]
                            rfl
                          refine last_ (i := 15) (N := none) #[true, true, true, true, true, true, true, true, true, true, true, true, true, true, true, true] rfl rfl (one_of HT_.out (by kernel_rfl)) (by decide) (fun K hK => ?_)
                          have hs93 : w91.cell? ⟨gb159, 0, none⟩ = some (u160000) := (blk_cell BK159.out 0).trans rfl
                          have hfs93 := blk_frozen BK159.out 0
                          have hns93_0 := NB157_159.out
                          have hns93_1 := NB158_159.out
                          have hns93_3 := NB161_159.out
                          have hms93_0 := NB159_157.out
                          have hms93_1 := NB159_158.out
                          have hms93_3 := NB159_161.out
                          refine skip_ (w1 := ?_) (by rfl) rfl ?_ ?_
                          rotate_left
                          · go_simp
                            rfl
                          refine hK.out _ _ ?_
                          clear hK K
                          refine done_ (done_of HT_.out (by kernel_rfl)) ?_
                          try go_wp2
                          go_roundg kj13
                          case measure => have := HK1.out; have := HJ13.out; omega
                          case rel => exact ⟨(wrap64 (x6_1 + 1)), (y173), (wrap64 ((wrap64 (x160001_1 + (((rd_T38 l0_0 x6_1).f2).size : Int))))), (.slice Ao92 y173.length co92), (by first | rfl | (simp; done) | (simp [*]; done)), H', ⟨by have := HK1.out; have := HJ13.out; omega⟩, ⟨by (with_reducible repeat (first | apply Kd.R_alloc | apply Kd.R_drewN | apply Kd.R_drew)); exact Kd.R_mono (Kd.R_far (p := ⟨gb159, 0, none⟩) (Kd.R_types HO175.out BK159.out (by decide)) (fun _ hk => hk.2) (.slice Ao92 y173.length co92)) (fun _ hk => trivial)⟩, ⟨by (with_reducible repeat (first | refine blk_drewN ?_ _ | refine blk_drew ?_ | refine blk_alloc ?_ _)); refine blk_far ?_ NB157_159.out _; (with_reducible repeat (first | refine blk_drewN ?_ _ | refine blk_drew ?_ | refine blk_alloc ?_ _)); exact BK157.out⟩, ⟨by (with_reducible repeat (first | refine blk_drewN ?_ _ | refine blk_drew ?_ | refine blk_alloc ?_ _)); refine blk_far ?_ NB158_159.out _; (with_reducible repeat (first | refine blk_drewN ?_ _ | refine blk_drew ?_ | refine blk_alloc ?_ _)); exact BK158.out⟩, ⟨by (with_reducible repeat (first | refine blk_drewN ?_ _ | refine blk_drew ?_ | refine blk_alloc ?_ _)); refine blk_put (cs := #[u160000, .int .i64 (wrap64 ((wrap64 (x160001_1 + (((rd_T38 l0_0 x6_1).f2).size : Int))))), .int .i64 (-1), .bool false]) ?_ 0 _ rfl; (with_reducible repeat (first | refine blk_drewN ?_ _ | refine blk_drew ?_ | refine blk_alloc ?_ _)); exact BK159.out⟩, ⟨by repeat (first | (with_reducible first | exact HB.out | apply below_alloc | apply pw_below_drewN | apply below_drew1 | refine below_set ?_ GE157.out | refine below_set ?_ GE158.out | refine below_set ?_ GE159.out | refine below_set ?_ GE161.out) | exact HB.out)⟩⟩
                        · rw [if_neg c81] at H
                          exact absurd H (by simp)
                      · rw [if_neg c80] at H
                        exact absurd H (by simp)
                    · rw [if_neg c79] at H
                      exact absurd H (by simp)
                  · rw [if_neg c78] at H
                    exact absurd H (by simp)
        · rw [if_neg c13] at H
          exact absurd H (by simp)
      · rw [if_neg c12] at H
        have c12b0 : decide (x6_1 < (l0_0.length : Int)) = false := decide_eq_false c12
        clear c12
        simp only [Option.some.injEq, Prod.mk.injEq] at H
        obtain ⟨rfl, rfl, rfl, rfl⟩ := H
        have hnb94 := NB157_158.out
        have hnc94 := NB158_157.out
        have hnb95 := NB157_159.out
        have hnc95 := NB159_157.out
        obtain ⟨hcz96_0, hcz96_1, hcz96_2, hcz96_3⟩ := Cb.c4 BK157.out
        obtain ⟨hfz96_0, hfz96_1, hfz96_2, hfz96_3⟩ := Cb.f4 BK157.out
        have hnb97 := NB159_158.out
        have hnc97 := NB158_159.out
        obtain ⟨hcz98_0, hcz98_1, hcz98_2, hcz98_3⟩ := Cb.c4 BK159.out
        obtain ⟨hfz98_0, hfz98_1, hfz98_2, hfz98_3⟩ := Cb.f4 BK159.out
        obtain ⟨Ao99, co99, eo99⟩ := Kd.R_slice HO_160000.out
        subst eo99
        obtain ⟨hcz100_0, hcz100_1, hcz100_2, hcz100_3⟩ := Cb.c4 BK158.out
        obtain ⟨hfz100_0, hfz100_1, hfz100_2, hfz100_3⟩ := Cb.f4 BK158.out
        go_wp2_with (first | ((with_reducible refine gate_store (t := 33) (p := 4) rfl ?_); refine store_event (t := 33) (p := 4) (v := ?vo_w101) (w1 := ((((wr.setCell ⟨gb158, 0, none⟩ (.slice Ao99 x160000_1.length co99)).setCell ⟨gb158, 1, none⟩ (.int .i64 x160001_1)).setCell ⟨gb158, 2, none⟩ (.int .i64 (-1))).setCell ⟨gb158, 3, none⟩ (.bool false))) ?hg ?ho ?hn ?hr ?_; (case ho => rfl); (case hg => rfl); (case hn => rfl); (case hr => first | (go_simp; done) | (go_simp; rfl)); intro w101 hw; have n0_ : Aside0 (Kd.R k38 38 w101 w.heap.size (fun _ => True) (.slice Ao99 x160000_1.length co99) x160000_1) := ⟨(by rw [hw]; exact (by exact Kd.R_mono (Kd.R_far (p := ⟨gb158, 3, none⟩) (Kd.R_far (p := ⟨gb158, 2, none⟩) (Kd.R_far (p := ⟨gb158, 1, none⟩) (Kd.R_far (p := ⟨gb158, 0, none⟩) (Kd.R_types HO_160000.out BK158.out (by decide)) (fun _ hk => hk.2) (.slice Ao99 x160000_1.length co99)) (fun _ hk => hk.2) (.int .i64 x160001_1)) (fun _ hk => hk.2) (.int .i64 (-1))) (fun _ hk => hk.2) (.bool false)) (fun _ hk => trivial)))⟩; have n1_ : Aside0 (w101.heap[gb157]? = some (.cells #[.slice A0_0 l0_0.length c0_0, .int .i64 a0_1, .int .i64 a0_2, .bool a0_3] 33 (0, 0))) := ⟨(by rw [hw]; exact (by refine blk_far ?_ NB157_158.out _; refine blk_far ?_ NB157_158.out _; refine blk_far ?_ NB157_158.out _; refine blk_far ?_ NB157_158.out _; exact BK157.out))⟩; have n2_ : Aside0 (w101.heap[gb158]? = some (.cells #[.slice Ao99 x160000_1.length co99, .int .i64 x160001_1, .int .i64 (-1), .bool false] 33 (0, 0))) := ⟨(by rw [hw]; exact (by refine blk_put (cs := #[.slice Ao99 x160000_1.length co99, .int .i64 x160001_1, .int .i64 (-1), .bool false]) ?_ 3 _ rfl; refine blk_put (cs := #[.slice Ao99 x160000_1.length co99, .int .i64 x160001_1, .int .i64 0, .bool false]) ?_ 2 _ rfl; refine blk_put (cs := #[.slice Ao99 x160000_1.length co99, .int .i64 0, .int .i64 0, .bool false]) ?_ 1 _ rfl; refine blk_put (cs := #[.slice none 0 0, .int .i64 0, .int .i64 0, .bool false]) ?_ 0 _ rfl; exact BK158.out))⟩; have n3_ : Aside0 (w101.heap[gb159]? = some (.cells #[.slice Ao99 x160000_1.length co99, .int .i64 x160001_1, .int .i64 (-1), .bool false] 33 (0, 0))) := ⟨(by rw [hw]; exact (by refine blk_far ?_ NB159_158.out _; refine blk_far ?_ NB159_158.out _; refine blk_far ?_ NB159_158.out _; refine blk_far ?_ NB159_158.out _; exact BK159.out))⟩; have n4_ : Aside0 (Below w.heap.size w w101) := ⟨(by rw [hw]; exact (by repeat (first | exact HB.out | refine below_set ?_ GE158.out)))⟩; clear hw; clear HO_160000; clear BK157; clear BK158; clear BK159; clear HB; have HO_160000 := n0_; have BK157 := n1_; have BK158 := n2_; have BK159 := n3_; have HB := n4_; clear n0_ n1_ n2_ n3_ n4_))
        refine bodyPost_ret (results_cell_row rfl _ _ gb158 33 #[.slice Ao99 x160000_1.length co99, .int .i64 x160001_1, .int .i64 (-1), .bool false] (0, 0) _ rfl (by (with_reducible repeat (first | refine blk_drewN ?_ _ | refine blk_drew ?_ | refine blk_alloc ?_ _)); exact BK158.out) Try.underlying33 rfl (by kernel_rfl)) rfl ?_
        exact ⟨_, by first | rfl | (simp [errW_none, errW_some] <;> rfl) | (simp [*, errW_none, errW_some] <;> rfl), by (with_reducible repeat (first | apply Kd.R_alloc | apply Kd.R_drewN | apply Kd.R_drew)); exact HO_160000.out, by repeat (first | (with_reducible first | exact HB.out | apply below_alloc | apply pw_below_drewN | apply below_drew1 | refine below_set ?_ GE157.out | refine below_set ?_ GE158.out | refine below_set ?_ GE159.out) | exact HB.out)⟩

end Go.Proofs.Ytbhkopbalhhpgaa.PH
