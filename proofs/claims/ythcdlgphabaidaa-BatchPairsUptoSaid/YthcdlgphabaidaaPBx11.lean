-- Made by a program of this workplace out of the translation (wip/tools in the repo). Not trusted: Lean checks it.
import Derived.Test.YthcdlgphabaidaaPBx0
import Derived.Test.YthcdlgphabaidaaPBx3
namespace Go.Proofs.Ythcdlgphabaidaa.PB
open Go.RowKit Go.Proofs.YthcdlgphabaidaaW.PrintWords Go.Proofs.YthcdlgphabaidaaW.PrintLast Go.Proofs.YthcdlgphabaidaaW.PrintMore
attribute [local go_sem] max2_int min2_int max_two min_two max_three min_three max_four min_four   -- for this text's walks alone
set_option linter.unusedVariables false
set_option linter.unusedSimpArgs false

/-! ### stanchionref07_Back: function 16 -/
def stanchionref07_Back.T9 : Bool × List (List Nat × List Nat) := (true, [([], []), ([0], [0]), ([], []), ([2], [2]), ([], []), ([], []), ([4, 5], [4, 5]), ([6], [6]), ([7], [7]), ([3, 8], [3, 8]), ([9], [9]), ([1, 10], [1, 10]), ([0, 1, 2, 3, 4, 5, 6, 7, 8, 9, 10, 11], []), ([12, 11, 11, 0, 1, 2, 3, 4, 5, 6, 7, 8, 9, 10, 11], [11, 12])])
def stanchionref07_Back.B9 : List Nat := [0, 1, 0, 4, 0, 0, 48, 112, 240, 508, 1020, 2047, 4095, 8191]
theorem stanchionref07_Back.tab9 : rtab .any (opsOf Try.f16 9) = stanchionref07_Back.T9 := by kernel_rfl
theorem stanchionref07_Back.bits9 : waitsOk stanchionref07_Back.T9.2 stanchionref07_Back.B9 = true := by kernel_rfl
def stanchionref07_Back.T12 : Bool × List (List Nat × List Nat) := (true, [([], []), ([0], [0]), ([], []), ([2], [2]), ([], []), ([], []), ([4, 5], [4, 5]), ([6], [6]), ([7], [7]), ([3, 8], [3, 8]), ([9], [9]), ([1, 10], [1, 10]), ([0, 1, 2, 3, 4, 5, 6, 7, 8, 9, 10, 11], []), ([12, 11, 11, 0, 1, 2, 3, 4, 5, 6, 7, 8, 9, 10, 11], [11, 12])])
def stanchionref07_Back.B12 : List Nat := [0, 1, 0, 4, 0, 0, 48, 112, 240, 508, 1020, 2047, 4095, 8191]
theorem stanchionref07_Back.tab12 : rtab .any (opsOf Try.f16 12) = stanchionref07_Back.T12 := by kernel_rfl
theorem stanchionref07_Back.bits12 : waitsOk stanchionref07_Back.T12.2 stanchionref07_Back.B12 = true := by kernel_rfl
set_option maxHeartbeats 8000000 in
set_option maxRecDepth 100000 in
theorem stanchionref07_Back.calls (k : Nat) (A0 : Option Addr) (c0 : Nat) (l0 : List (S68)) (r1 : List (S68)) (r2 : List (S68)) (r3 : Int) (w : World) (hr0 : Kd.C k68 w A0 l0.length l0) (hc0 : l0.length ≤ c0) (h : stanchionref07_Back.f k l0 = some (r1, r2, r3)) :
    Calls Try.prog 16 #[.slice A0 l0.length c0] w fun e w' => ∃ v0_ v1_ : Value, e = .returned (.tuple #[.agg #[v0_, v1_], .int .i64 r3]) ∧ Kd.R k68 68 w' w.heap.size (fun k_ => some k_ ≠ (v1_ : Value).ownBlock) v0_ r1 ∧ Kd.R k68 68 w' w.heap.size (fun k_ => some k_ ≠ (v0_ : Value).ownBlock) v1_ r2 ∧ Below w.heap.size w w' := by
  have hu24 := Try.underlying24
  have hu68 := Try.underlying68
  have HR0 := Aside0.mk hr0
  have HC0 := Aside0.mk hc0
  clear hr0 hc0
  have HB := Aside0.mk (Below.refl w.heap.size w)
  have H : (stanchionref07_Back.l0 k l0 0 ([] : List (S68)) ([] : List (S68))) = some (r1, r2, r3) := h
  clear h
  have H' := Aside0.mk H
  clear H
  go_enter Try.func16, Try.ntmps16
  go_wp2_with (first | ((with_reducible refine gate_dst (N := 2) rfl ?_); (try (refine gate_guard (by rfl) ?_; dsimp only)); refine box_event ?hg (N := 2) ?hd (cs := #[.slice none 0 0, .slice none 0 0]) (t := 24) ?hr ?_; (case hd => rfl); (case hg => rfl); (case hr => first | (go_simp; done) | (go_simp; rfl)); intro gb169 hg w2 hbox hb; have n0_ := Aside0.mk (below_step (by repeat (first | (with_reducible first | exact HB.out | apply below_alloc | apply pw_below_drewN | apply below_drew1) | exact HB.out)) hb); have n1_ := Aside0.mk (hbox); have n2_ := Aside0.mk ((by rw [hg]; exact (below_size (by repeat (first | (with_reducible first | exact HB.out | apply below_alloc | apply pw_below_drewN | apply below_drew1) | exact HB.out))) : w.heap.size ≤ gb169)); have n3_ := Aside0.mk ((by rw [hg]; exact (below_size (by repeat (first | (with_reducible first | exact HB.out | apply below_alloc | apply pw_below_drewN | apply below_drew1) | exact HB.out))) : w.heap.size ≤ gb169)); clear HB; have HB := n0_; have BK169 := n1_; have GW169 := n2_; have GE169 := n3_; clear n0_ n1_ n2_ n3_; clear hb hbox hg) | ((with_reducible refine gate_dst (N := 4) rfl ?_); (try (refine gate_guard (by rfl) ?_; dsimp only)); refine box_event ?hg (N := 4) ?hd (cs := #[.slice none 0 0, .slice none 0 0]) (t := 24) ?hr ?_; (case hd => rfl); (case hg => rfl); (case hr => first | (go_simp; done) | (go_simp; rfl)); intro gb170 hg w3 hbox hb; have n0_ := Aside0.mk (blk_below (g := gb169) (o := .cells #[.slice none 0 0, .slice none 0 0] 24 (0, 0)) (by (with_reducible repeat (first | refine blk_drewN ?_ _ | refine blk_drew ?_ | refine blk_alloc ?_ _)); exact BK169.out) hb); have n1_ := Aside0.mk (below_step (by repeat (first | (with_reducible first | exact HB.out | apply below_alloc | apply pw_below_drewN | apply below_drew1 | refine below_set ?_ GE169.out) | exact HB.out)) hb); have n2_ := Aside0.mk (hbox); have n3_ := Aside0.mk ((by rw [hg]; exact (below_size (by repeat (first | (with_reducible first | exact HB.out | apply below_alloc | apply pw_below_drewN | apply below_drew1 | refine below_set ?_ GE169.out) | exact HB.out))) : w.heap.size ≤ gb170)); have n4_ := Aside0.mk ((by rw [hg]; exact (below_size (by repeat (first | (with_reducible first | exact HB.out | apply below_alloc | apply pw_below_drewN | apply below_drew1 | refine below_set ?_ GE169.out) | exact HB.out))) : w.heap.size ≤ gb170)); have n5_ := Aside0.mk ((by rw [hg]; exact Nat.ne_of_lt (blk_lt (g := gb169) (o := .cells #[.slice none 0 0, .slice none 0 0] 24 (0, 0)) (by (with_reducible repeat (first | refine blk_drewN ?_ _ | refine blk_drew ?_ | refine blk_alloc ?_ _)); exact BK169.out)) : gb169 ≠ gb170)); have n6_ := Aside0.mk ((by rw [hg]; exact Nat.ne_of_gt (blk_lt (g := gb169) (o := .cells #[.slice none 0 0, .slice none 0 0] 24 (0, 0)) (by (with_reducible repeat (first | refine blk_drewN ?_ _ | refine blk_drew ?_ | refine blk_alloc ?_ _)); exact BK169.out)) : gb170 ≠ gb169)); clear BK169; clear HB; have BK169 := n0_; have HB := n1_; have BK170 := n2_; have GW170 := n3_; have GE170 := n4_; have NB169_170 := n5_; have NB170_169 := n6_; clear n0_ n1_ n2_ n3_ n4_ n5_ n6_; clear hb hbox hg; have hnb4 := NB170_169.out; have hnc4 := NB169_170.out; have hcz5_0 : w3.cell? ⟨gb170, 0, none⟩ = some (.slice none 0 0) := (blk_cell BK170.out 0).trans rfl; have hcz5_1 : w3.cell? ⟨gb170, 1, none⟩ = some (.slice none 0 0) := (blk_cell BK170.out 1).trans rfl; have hfz5_0 := blk_frozen BK170.out 0; have hfz5_1 := blk_frozen BK170.out 1))
  go_loopg [5] k (fun kq v5 w' => ∃ (x5_1 : Int) (x171000_1 : List (S68)) (x171001_1 : List (S68)) (u171000 : Value) (u171001 : Value), v5 = .int .i64 x5_1 ∧ Aside0 (stanchionref07_Back.l0 kq l0 x5_1 x171000_1 x171001_1 = some (r1, r2, r3)) ∧ Aside0 (kq ≤ k) ∧ Aside0 (Kd.R k68 68 w' w.heap.size (fun k_ => some k_ ≠ (u171001 : Value).ownBlock) u171000 x171000_1) ∧ Aside0 (Kd.R k68 68 w' w.heap.size (fun k_ => some k_ ≠ (u171000 : Value).ownBlock) u171001 x171001_1) ∧ Aside0 (w'.heap[gb169]? = some (.cells #[(.slice none 0 0), (.slice none 0 0)] 24 (0, 0))) ∧ Aside0 (w'.heap[gb170]? = some (.cells #[u171000, u171001] 24 (0, 0))) ∧ Aside0 (Below w.heap.size w w'))
  case atStart => exact ⟨(0), (([] : List (S68))), (([] : List (S68))), (.slice none 0 0), (.slice none 0 0), (by first | rfl | (simp; done) | (simp [*]; done)), H', ⟨Nat.le_refl _⟩, ⟨by first | exact Kd.R_nil _ _ _ _ _ | exact Kd.N_nil _ _ _ _ _ | exact Kd.V_nil _ _ _ _ _ | exact Kd.Q_nil _ _ _ _ _ | exact Kd.S_nil _ _ _ _ _⟩, ⟨by first | exact Kd.R_nil _ _ _ _ _ | exact Kd.N_nil _ _ _ _ _ | exact Kd.V_nil _ _ _ _ _ | exact Kd.Q_nil _ _ _ _ _ | exact Kd.S_nil _ _ _ _ _⟩, ⟨by (with_reducible repeat (first | refine blk_drewN ?_ _ | refine blk_drew ?_ | refine blk_alloc ?_ _)); refine blk_far ?_ NB169_170.out _; (with_reducible repeat (first | refine blk_drewN ?_ _ | refine blk_drew ?_ | refine blk_alloc ?_ _)); refine blk_far ?_ NB169_170.out _; (with_reducible repeat (first | refine blk_drewN ?_ _ | refine blk_drew ?_ | refine blk_alloc ?_ _)); exact BK169.out⟩, ⟨by (with_reducible repeat (first | refine blk_drewN ?_ _ | refine blk_drew ?_ | refine blk_alloc ?_ _)); refine blk_put (cs := #[.slice none 0 0, .slice none 0 0]) ?_ 1 _ rfl; (with_reducible repeat (first | refine blk_drewN ?_ _ | refine blk_drew ?_ | refine blk_alloc ?_ _)); refine blk_put (cs := #[.slice none 0 0, .slice none 0 0]) ?_ 0 _ rfl; (with_reducible repeat (first | refine blk_drewN ?_ _ | refine blk_drew ?_ | refine blk_alloc ?_ _)); exact BK170.out⟩, ⟨by repeat (first | (with_reducible first | exact HB.out | apply below_alloc | apply pw_below_drewN | apply below_drew1 | refine below_set ?_ GE169.out | refine below_set ?_ GE170.out) | exact HB.out)⟩⟩
  case round =>
    clear H'
    try clear c1
    try clear p2
    try clear c4
    try clear hcz5_0
    try clear hcz5_1
    try clear hfz5_0
    try clear hfz5_1
    obtain ⟨x5_1, x171000_1, x171001_1, u171000, u171001, rfl, HA, HK1, HO_171000, HO_171001, BK169, BK170, HB⟩ := hrel
    cases gk with
    | zero => exact absurd HA.out (by simp [stanchionref07_Back.l0])
    | succ k1 =>
      have H := HA.out
      clear HA
      simp only [stanchionref07_Back.l0] at H
      by_cases c6 : x5_1 < (l0.length : Int)
      · rw [if_pos c6] at H
        have c6b0 : decide (x5_1 < (l0.length : Int)) = true := decide_eq_true c6
        clear c6
        by_cases c7 : 0 ≤ x5_1
        · rw [if_pos c7] at H
          have c7b0 : decide (0 ≤ x5_1) = true := decide_eq_true c7
          clear c7
          by_cases c8 : (((rd_T68 l0 x5_1).f0).size : Int) = 0
          · rw [if_pos c8] at H
            have c8b0 : ((((rd_T68 l0 x5_1).f0).size : Int) == 0) = true := beq_iff_eq.mpr c8
            have c8b1 : ((((rd_T68 l0 x5_1).f0).size : Int) != 0) = false := bne_eq_false_iff_eq.mpr c8
            clear c8
            simp only [Option.some.injEq, Prod.mk.injEq] at H
            obtain ⟨rfl, rfl, rfl⟩ := H
            have p171 : 0 ≤ (x5_1 : Int) := of_decide_eq_true (by first | (with_reducible assumption) | assumption)
            have q171 : x5_1 < (l0.length : Int) := of_decide_eq_true (by first | (with_reducible assumption) | assumption)
            obtain ⟨ad171, e171, hx171_0, hx171_1⟩ := at_T68 HR0.out x5_1 p171 q171
            cases e171
            replace hx171_0 := (HB.out.cell (World.block_lt_of_cell? w _ hx171_0)).trans hx171_0
            replace hx171_1 := (HB.out.cell (World.block_lt_of_cell? w _ hx171_1)).trans hx171_1
            replace p171 := eq_true p171
            replace q171 := eq_true q171
            have hnb9 := NB169_170.out
            have hnc9 := NB170_169.out
            have hcz10_0 : wr.cell? ⟨gb169, 0, none⟩ = some (.slice none 0 0) := (blk_cell BK169.out 0).trans rfl
            have hcz10_1 : wr.cell? ⟨gb169, 1, none⟩ = some (.slice none 0 0) := (blk_cell BK169.out 1).trans rfl
            have hfz10_0 := blk_frozen BK169.out 0
            have hfz10_1 := blk_frozen BK169.out 1
            go_wp2
            refine bodyPost_ret (results_ct rfl _ _ gb169 24 #[.slice none 0 0, .slice none 0 0] (0, 0) _ rfl (by (with_reducible repeat (first | refine blk_drewN ?_ _ | refine blk_drew ?_ | refine blk_alloc ?_ _)); refine blk_put (cs := #[.slice none 0 0, .slice none 0 0]) ?_ 1 _ rfl; (with_reducible repeat (first | refine blk_drewN ?_ _ | refine blk_drew ?_ | refine blk_alloc ?_ _)); refine blk_put (cs := #[.slice none 0 0, .slice none 0 0]) ?_ 0 _ rfl; (with_reducible repeat (first | refine blk_drewN ?_ _ | refine blk_drew ?_ | refine blk_alloc ?_ _)); exact BK169.out) Try.underlying24 rfl (by kernel_rfl)) rfl ?_
            exact ⟨_, _, by first | rfl | (simp [errW_none, errW_some] <;> rfl) | (simp [*, errW_none, errW_some] <;> rfl), by first | exact Kd.R_nil _ _ _ _ _ | exact Kd.N_nil _ _ _ _ _ | exact Kd.V_nil _ _ _ _ _ | exact Kd.Q_nil _ _ _ _ _ | exact Kd.S_nil _ _ _ _ _, by first | exact Kd.R_nil _ _ _ _ _ | exact Kd.N_nil _ _ _ _ _ | exact Kd.V_nil _ _ _ _ _ | exact Kd.Q_nil _ _ _ _ _ | exact Kd.S_nil _ _ _ _ _, by repeat (first | (with_reducible first | exact HB.out | apply below_alloc | apply pw_below_drewN | apply below_drew1 | refine below_set ?_ GE169.out | refine below_set ?_ GE170.out) | exact HB.out)⟩
          · rw [if_neg c8] at H
            have c8b0 : ((((rd_T68 l0 x5_1).f0).size : Int) == 0) = false := beq_eq_false_iff_ne.mpr c8
            have c8b1 : ((((rd_T68 l0 x5_1).f0).size : Int) != 0) = true := bne_iff_ne.mpr c8
            have HC11 := Aside0.mk H
            clear H
            have p171 : 0 ≤ (x5_1 : Int) := of_decide_eq_true (by first | (with_reducible assumption) | assumption)
            have q171 : x5_1 < (l0.length : Int) := of_decide_eq_true (by first | (with_reducible assumption) | assumption)
            obtain ⟨ad171, e171, hx171_0, hx171_1⟩ := at_T68 HR0.out x5_1 p171 q171
            cases e171
            replace hx171_0 := (HB.out.cell (World.block_lt_of_cell? w _ hx171_0)).trans hx171_0
            replace hx171_1 := (HB.out.cell (World.block_lt_of_cell? w _ hx171_1)).trans hx171_1
            replace p171 := eq_true p171
            replace q171 := eq_true q171
            go_upto_region 8 with (fail)
            go_cut [31] (fun v31 wc => ∃ (kq : Nat) (x31_10 : Bool), v31 = .bool x31_10 ∧ Aside0 (stanchionref07_Back.j1 kq l0 x5_1 ((rd_T68 l0 x5_1).f0) x31_10 x171000_1 x171001_1 = some (r1, r2, r3)) ∧ Aside0 (kq ≤ k1) ∧ Aside0 (Kd.R k68 68 wc w.heap.size (fun k_ => some k_ ≠ (u171001 : Value).ownBlock) u171000 x171000_1) ∧ Aside0 (Kd.R k68 68 wc w.heap.size (fun k_ => some k_ ≠ (u171000 : Value).ownBlock) u171001 x171001_1) ∧ Aside0 (wc.heap[gb169]? = some (.cells #[(.slice none 0 0), (.slice none 0 0)] 24 (0, 0))) ∧ Aside0 (wc.heap[gb170]? = some (.cells #[u171000, u171001] 24 (0, 0))) ∧ Aside0 (Below w.heap.size w wc))
            case first =>
              have H := HC11.out
              clear HC11
              by_cases c12 : 0 < (((rd_T68 l0 x5_1).f0).size : Int)
              · rw [if_pos c12] at H
                have c12b0 : decide (0 < (((rd_T68 l0 x5_1).f0).size : Int)) = true := decide_eq_true c12
                have c12b1 : decide (0 < ((rd_T68 l0 x5_1).f0).size) = true := decide_eq_true (by omega)
                clear c12
                (first | rw [c12b0] | (simp only [i64_w, i32_w]; rw [c12b0]) | skip)
                by_cases c14 : (bt ((rd_T68 l0 x5_1).f0) 0) = 100
                · rw [if_pos c14] at H
                  have c14b0 : ((bt ((rd_T68 l0 x5_1).f0) 0) == 100) = true := beq_iff_eq.mpr c14
                  have c14b1 : ((bt ((rd_T68 l0 x5_1).f0) 0) != 100) = false := bne_eq_false_iff_eq.mpr c14
                  clear c14
                  have H' := Aside0.mk H
                  clear H
                  have p13 : 0 ≤ (0 : Int) := (by omega)
                  have q13 : 0 < ((rd_T68 l0 x5_1).f0).size := (by have : (0 : Int) < (((rd_T68 l0 x5_1).f0).size : Int) := of_decide_eq_true (by first | (with_reducible assumption) | assumption); omega)
                  have hx13 : ∀ h : 0 < ((rd_T68 l0 x5_1).f0).size, ((((rd_T68 l0 x5_1).f0)[0]'h).toNat : Int) = bt ((rd_T68 l0 x5_1).f0) 0 := bt_at ((rd_T68 l0 x5_1).f0) 0
                  clear p13
                  have qi13 : (0 < (((rd_T68 l0 x5_1).f0).size : Int)) = True := eq_true (of_decide_eq_true (by first | (with_reducible assumption) | assumption))
                  replace q13 := eq_true q13
                  have hnb15 := NB170_169.out
                  have hnc15 := NB169_170.out
                  have hcz16_0 : wr.cell? ⟨gb170, 0, none⟩ = some (u171000) := (blk_cell BK170.out 0).trans rfl
                  have hcz16_1 : wr.cell? ⟨gb170, 1, none⟩ = some (u171001) := (blk_cell BK170.out 1).trans rfl
                  have hfz16_0 := blk_frozen BK170.out 0
                  have hfz16_1 := blk_frozen BK170.out 1
                  obtain ⟨Ao17, co17, eo17⟩ := Kd.R_slice HO_171001.out
                  subst eo17
                  go_wp2
                  go_meet
                  case rel => exact ⟨_, (((x171001_1.length : Int) == 0)), (by first | rfl | (simp; done) | (simp [*]; done)), H', ⟨by have := HK1.out; first | omega | exact Nat.le_refl _⟩, ⟨by (with_reducible repeat (first | apply Kd.R_alloc | apply Kd.R_drewN | apply Kd.R_drew)); exact HO_171000.out⟩, ⟨by (with_reducible repeat (first | apply Kd.R_alloc | apply Kd.R_drewN | apply Kd.R_drew)); exact HO_171001.out⟩, ⟨by (with_reducible repeat (first | refine blk_drewN ?_ _ | refine blk_drew ?_ | refine blk_alloc ?_ _)); exact BK169.out⟩, ⟨by (with_reducible repeat (first | refine blk_drewN ?_ _ | refine blk_drew ?_ | refine blk_alloc ?_ _)); exact BK170.out⟩, ⟨by repeat (first | (with_reducible first | exact HB.out | apply below_alloc | apply pw_below_drewN | apply below_drew1 | refine below_set ?_ GE169.out | refine below_set ?_ GE170.out) | exact HB.out)⟩⟩
                · rw [if_neg c14] at H
                  have c14b0 : ((bt ((rd_T68 l0 x5_1).f0) 0) == 100) = false := beq_eq_false_iff_ne.mpr c14
                  have c14b1 : ((bt ((rd_T68 l0 x5_1).f0) 0) != 100) = true := bne_iff_ne.mpr c14
                  have H' := Aside0.mk H
                  clear H
                  have p13 : 0 ≤ (0 : Int) := (by omega)
                  have q13 : 0 < ((rd_T68 l0 x5_1).f0).size := (by have : (0 : Int) < (((rd_T68 l0 x5_1).f0).size : Int) := of_decide_eq_true (by first | (with_reducible assumption) | assumption); omega)
                  have hx13 : ∀ h : 0 < ((rd_T68 l0 x5_1).f0).size, ((((rd_T68 l0 x5_1).f0)[0]'h).toNat : Int) = bt ((rd_T68 l0 x5_1).f0) 0 := bt_at ((rd_T68 l0 x5_1).f0) 0
                  clear p13
                  have qi13 : (0 < (((rd_T68 l0 x5_1).f0).size : Int)) = True := eq_true (of_decide_eq_true (by first | (with_reducible assumption) | assumption))
                  replace q13 := eq_true q13
                  go_wp2
                  go_meet
                  case rel => exact ⟨_, (false), (by first | rfl | (simp; done) | (simp [*]; done)), H', ⟨by have := HK1.out; first | omega | exact Nat.le_refl _⟩, ⟨by (with_reducible repeat (first | apply Kd.R_alloc | apply Kd.R_drewN | apply Kd.R_drew)); exact HO_171000.out⟩, ⟨by (with_reducible repeat (first | apply Kd.R_alloc | apply Kd.R_drewN | apply Kd.R_drew)); exact HO_171001.out⟩, ⟨by (with_reducible repeat (first | refine blk_drewN ?_ _ | refine blk_drew ?_ | refine blk_alloc ?_ _)); exact BK169.out⟩, ⟨by (with_reducible repeat (first | refine blk_drewN ?_ _ | refine blk_drew ?_ | refine blk_alloc ?_ _)); exact BK170.out⟩, ⟨by repeat (first | (with_reducible first | exact HB.out | apply below_alloc | apply pw_below_drewN | apply below_drew1 | refine below_set ?_ GE169.out | refine below_set ?_ GE170.out) | exact HB.out)⟩⟩
              · rw [if_neg c12] at H
                exact absurd H (by simp)
            case rest =>
              clear HC11
              try clear c1
              try clear p1
              try clear q1
              try clear hx1
              try clear qi1
              try clear p2
              try clear c4
              try clear c6
              try clear c6b0
              try clear c7
              try clear c7b0
              try clear c8
              try clear c8b0
              try clear c8b1
              try clear c9
              try clear c12
              try clear c12b0
              try clear c12b1
              try clear p13
              try clear q13
              try clear hx13
              try clear qi13
              try clear c14
              try clear c14b0
              try clear c14b1
              try clear c15
              try clear c16
              try clear p17
              try clear q17
              try clear hx17
              try clear hcz10_0
              try clear hcz10_1
              try clear hcz16_0
              try clear hcz16_1
              try clear hcz5_0
              try clear hcz5_1
              try clear hfz10_0
              try clear hfz10_1
              try clear hfz16_0
              try clear hfz16_1
              try clear hfz5_0
              try clear hfz5_1
              try clear hx171_0
              try clear hx171_1
              try clear p13
              try clear p171
              try clear p2
              try clear q13
              try clear q171
              obtain ⟨kq, x31_10, rfl, HA, HJ10, HO_171000, HO_171001, BK169, BK170, HB⟩ := hcut
              cases kq with
              | zero => exact absurd HA.out (by simp [stanchionref07_Back.j1])
              | succ kj10 =>
                have H := HA.out
                clear HA
                simp only [stanchionref07_Back.j1] at H
                by_cases c18 : x31_10 = true
                · subst c18
                  have H1 : (if 1 ≤ (((rd_T68 l0 x5_1).f0).size : Int) then (if 0 ≤ x5_1 then (if x5_1 < (l0.length : Int) then (if x171000_1.length < 4398046511104 then (stanchionref07_Back.l0 kj10 l0 (wrap64 (x5_1 + 1)) (x171000_1 ++ [(⟨((rd_T68 l0 x5_1).f0).extract 1 ((rd_T68 l0 x5_1).f0).size, (rd_T68 l0 x5_1).f1⟩ : S68)]) x171001_1) else (none)) else (none)) else (none)) else (none)) = some (r1, r2, r3) := by rw [if_pos rfl] at H; exact H
                  clear H
                  have H := H1
                  clear H1
                  by_cases c19 : 1 ≤ (((rd_T68 l0 x5_1).f0).size : Int)
                  · rw [if_pos c19] at H
                    have c19b0 := eq_true c19
                    have c19b1 : decide (1 ≤ (((rd_T68 l0 x5_1).f0).size : Int)) = true := decide_eq_true c19
                    clear c19
                    by_cases c20 : 0 ≤ x5_1
                    · rw [if_pos c20] at H
                      have c20b0 : decide (0 ≤ x5_1) = true := decide_eq_true c20
                      clear c20
                      by_cases c21 : x5_1 < (l0.length : Int)
                      · rw [if_pos c21] at H
                        have c21b0 : decide (x5_1 < (l0.length : Int)) = true := decide_eq_true c21
                        clear c21
                        by_cases c22 : x171000_1.length < 4398046511104
                        · rw [if_pos c22] at H
                          have LMc22 := Aside0.mk c22
                          clear c22
                          obtain ⟨y173, hy173⟩ : ∃ y_ : List (S68), y_ = (x171000_1 ++ [(⟨((rd_T68 l0 x5_1).f0).extract 1 ((rd_T68 l0 x5_1).f0).size, (rd_T68 l0 x5_1).f1⟩ : S68)]) := ⟨_, rfl⟩
                          replace H : (stanchionref07_Back.l0 kj10 l0 (wrap64 (x5_1 + 1)) y173 x171001_1) = some (r1, r2, r3) := by first | (rw [hy173]; with_reducible exact H) | (have H2_ := (Option.bind_some _ _).symm.trans H; rw [hy173]; with_reducible exact H2_) | (have H2_ := (Option.bind_some _ _).symm.trans H; with_reducible exact H2_) | with_reducible exact H | (rw [hy173]; exact H) | exact H
                          have Ny173 := Aside0.mk hy173
                          clear hy173
                          have H' := Aside0.mk H
                          clear H
                          try go_wp2
                          have n0_ := Aside0.mk (Kd.R_drew HO_171000.out)
                          have n1_ := Aside0.mk (Kd.R_drew HO_171001.out)
                          have n2_ := Aside0.mk (blk_drew BK169.out)
                          have n3_ := Aside0.mk (blk_drew BK170.out)
                          have n4_ := Aside0.mk (below_drew1 HB.out)
                          clear HO_171000
                          clear HO_171001
                          clear BK169
                          clear BK170
                          clear HB
                          have HO_171000 := n0_
                          have HO_171001 := n1_
                          have BK169 := n2_
                          have BK170 := n3_
                          have HB := n4_
                          clear n0_ n1_ n2_ n3_ n4_
                          have p172 : 0 ≤ (x5_1 : Int) := of_decide_eq_true (by first | (with_reducible assumption) | assumption)
                          have q172 : x5_1 < (l0.length : Int) := of_decide_eq_true (by first | (with_reducible assumption) | assumption)
                          obtain ⟨ad172, e172, hx172_0, hx172_1⟩ := at_T68 HR0.out x5_1 p172 q172
                          have hw172_1 := hx172_1
                          have hw172_0 := hx172_0
                          obtain rfl : ad171 = ad172 := (by injection e172)
                          replace hx172_0 := (HB.out.cell (World.block_lt_of_cell? w _ hx172_0)).trans hx172_0
                          replace hx172_1 := (HB.out.cell (World.block_lt_of_cell? w _ hx172_1)).trans hx172_1
                          replace p172 := eq_true p172
                          replace q172 := eq_true q172
                          refine start_ (n := 14) (S := fun w' => w'.cell? ⟨gb170, 0, none⟩ = some (u171000) ∧ w'.cell? ⟨gb170, 1, none⟩ = some (u171001) ∧ w'.cell? (ad171.add ((x5_1).toNat * 2)) = some (.string ((rd_T68 l0 x5_1).f0)) ∧ w'.cell? ⟨(ad171.add ((x5_1).toNat * 2)).block, (ad171.add ((x5_1).toNat * 2)).off + 1, none⟩ = some (.string ((rd_T68 l0 x5_1).f1))) (ds := [13]) #[false, false, false, false, false, false, false, false, false, false, false, false, false, false] (by kernel_rfl) rfl rfl ⟨(blk_cell BK170.out 0).trans rfl, (blk_cell BK170.out 1).trans rfl, ((HB.out.cell (World.block_lt_of_cell? w _ hw172_0)).trans hw172_0), ((HB.out.cell (World.block_lt_of_cell? w _ hw172_1)).trans hw172_1)⟩ (fun hHeld => ?_); refine with_tabW stanchionref07_Back.tab9 stanchionref07_Back.bits9 (fun HT_ HW_ => ?_)
                          generalize wc.drew = w23 at HO_171000 HO_171001 BK169 BK170 HB hx172_0 hx172_1 hHeld ⊢
                          refine pure_ (i := 0) (N := some 32) (v := ?_) (a' := ?_) #[true, false, false, false, false, false, false, false, false, false, false, false, false, false] rfl rfl (any_of HT_.out (by kernel_rfl)) (fun _ _ _ h => h) (Or.inl ⟨by rfl, ?_⟩) ?_ ?_
                          rotate_left
                          · intro w'
                            go_simp
                            with_reducible rfl
                          rotate_left
                          · simp only [Act.put, List.setIfInBounds_toArray, List.set_cons_zero, List.set_cons_succ, i64_w, i32_w]
                            rfl
                          refine pure_ (i := 2) (N := some 34) (v := ?_) (a' := ?_) #[true, false, true, false, false, false, false, false, false, false, false, false, false, false] rfl rfl (any_of HT_.out (by kernel_rfl)) (fun _ _ _ h => h) (Or.inl ⟨by rfl, ?_⟩) ?_ ?_
                          rotate_left
                          · intro w'
                            go_simp
                            with_reducible rfl
                          rotate_left
                          · simp only [Act.put, List.setIfInBounds_toArray, List.set_cons_zero, List.set_cons_succ, i64_w, i32_w]
                            rfl
                          refine pure_ (i := 3) (N := some 35) (v := ?_) (a' := ?_) #[true, false, true, true, false, false, false, false, false, false, false, false, false, false] rfl rfl (any_of HT_.out (by kernel_rfl)) (fun _ _ _ h => h) (Or.inl ⟨by rfl, ?_⟩) ?_ ?_
                          rotate_left
                          · intro w'
                            go_simp
                            with_reducible rfl
                          rotate_left
                          · simp only [Act.put, List.setIfInBounds_toArray, List.set_cons_zero, List.set_cons_succ, i64_w, i32_w]
                            rfl
                          refine pure_ (i := 4) (N := some 36) (v := ?_) (a' := ?_) #[true, false, true, true, true, false, false, false, false, false, false, false, false, false] rfl rfl (any_of HT_.out (by kernel_rfl)) (fun _ _ _ h => h) (Or.inl ⟨by rfl, ?_⟩) ?_ ?_
                          rotate_left
                          · intro w'
                            go_simp
                            with_reducible rfl
                          rotate_left
                          · simp only [Act.put, List.setIfInBounds_toArray, List.set_cons_zero, List.set_cons_succ, i64_w, i32_w]
                            rfl
                          refine pure_ (i := 5) (N := some 37) (v := ?_) (a' := ?_) #[true, false, true, true, true, true, false, false, false, false, false, false, false, false] rfl rfl (any_of HT_.out (by kernel_rfl)) (fun _ _ _ h => h) (Or.inl ⟨by rfl, ?_⟩) ?_ ?_
                          rotate_left
                          · intro w'
                            go_simp
                            with_reducible rfl
                          rotate_left
                          · simp only [Act.put, List.setIfInBounds_toArray, List.set_cons_zero, List.set_cons_succ, i64_w, i32_w]
                            rfl
                          refine pure_ (i := 6) (N := some 38) (v := ?_) (a' := ?_) #[true, false, true, true, true, true, true, false, false, false, false, false, false, false] rfl rfl (any_of HT_.out (by kernel_rfl)) (fun _ _ _ h => h) (Or.inl ⟨by rfl, ?_⟩) ?_ ?_
                          rotate_left
                          · intro w'
                            go_simp
                            with_reducible rfl
                          rotate_left
                          · simp only [Act.put, List.setIfInBounds_toArray, List.set_cons_zero, List.set_cons_succ, i64_w, i32_w]
                            rfl
                          refine pure_ (i := 7) (N := some 39) (v := ?_) (a' := ?_) #[true, false, true, true, true, true, true, true, false, false, false, false, false, false] rfl rfl (any_of HT_.out (by kernel_rfl)) (fun _ _ _ h => h) (Or.inl ⟨by rfl, ?_⟩) ?_ ?_
                          rotate_left
                          · intro w'
                            go_simp
                            with_reducible rfl
                          rotate_left
                          · simp only [Act.put, List.setIfInBounds_toArray, List.set_cons_zero, List.set_cons_succ, i64_w, i32_w]
                            rfl
                          refine take_ (i := 1) (N := some 33) (v := ?_) (a' := ?_) #[true, true, true, true, true, true, true, true, false, false, false, false, false, false] rfl rfl (take_ofW HT_.out HW_.out (by kernel_rfl)) (fun _ _ _ h => h) (Or.inl ⟨by rfl, ?_⟩) hHeld ?_ ?_
                          rotate_left
                          · rintro w' ⟨s0, s1, s2, s3⟩
                            go_simp
                            with_reducible rfl
                          rotate_left
                          · simp only [Act.put, List.setIfInBounds_toArray, List.set_cons_zero, List.set_cons_succ, i64_w, i32_w]
                            rfl
                          refine take_ (i := 8) (N := some 40) (v := ?_) (a' := ?_) #[true, true, true, true, true, true, true, true, true, false, false, false, false, false] rfl rfl (take_ofW HT_.out HW_.out (by kernel_rfl)) (fun _ _ _ h => h) (Or.inl ⟨by rfl, ?_⟩) hHeld ?_ ?_
                          rotate_left
                          · rintro w' ⟨s0, s1, s2, s3⟩
                            go_simp
                            with_reducible rfl
                          rotate_left
                          · simp only [Act.put, List.setIfInBounds_toArray, List.set_cons_zero, List.set_cons_succ, i64_w, i32_w]
                            rfl
                          refine pure_ (i := 9) (N := some 41) (v := ?_) (a' := ?_) #[true, true, true, true, true, true, true, true, true, true, false, false, false, false] rfl rfl (any_of HT_.out (by kernel_rfl)) (fun _ _ _ h => h) (Or.inl ⟨by rfl, ?_⟩) ?_ ?_
                          rotate_left
                          · intro w'
                            go_simp
                            with_reducible rfl
                          rotate_left
                          · simp only [Act.put, List.setIfInBounds_toArray, List.set_cons_zero, List.set_cons_succ, i64_w, i32_w]
                            rfl
                          refine one_ (i := 10) (N := some 42) #[true, true, true, true, true, true, true, true, true, true, true, false, false, false] rfl rfl (one_of HT_.out (by kernel_rfl)) (by decide) (fun K hK => ?_)
                          refine value_ (w1 := ?_) (v := ?_) (by rfl) rfl ?_ ?_
                          rotate_left 2
                          · go_simp
                            constructor
                            · rfl
                            · rfl
                          refine hK.out _ _ ⟨(blk_cell (blk_alloc BK170.out _) 0).trans rfl, (blk_cell (blk_alloc BK170.out _) 1).trans rfl, (World.cell?_alloc_lt _ _ _ (World.block_lt_of_cell? _ _ (((HB.out.cell (World.block_lt_of_cell? w _ hw172_0)).trans hw172_0)))).trans (((HB.out.cell (World.block_lt_of_cell? w _ hw172_0)).trans hw172_0)), (World.cell?_alloc_lt _ _ _ (World.block_lt_of_cell? _ _ (((HB.out.cell (World.block_lt_of_cell? w _ hw172_1)).trans hw172_1)))).trans (((HB.out.cell (World.block_lt_of_cell? w _ hw172_1)).trans hw172_1))⟩ (fun hHeld => ?_)
                          clear hK K
                          refine norm_ (a' := ?_) ?_ ?_
                          rotate_left
                          · show Act.put _ (some 42) _ = _
                            simp only [Act.put, List.setIfInBounds_toArray, List.set_cons_zero, List.set_cons_succ, i64_w, i32_w]
                            rfl
                          refine one_ (i := 11) (N := some 43) #[true, true, true, true, true, true, true, true, true, true, true, true, false, false] rfl rfl (one_of HT_.out (by kernel_rfl)) (by decide) (fun K hK => ?_)
                          refine Kd.R_append_step k68 (w0 := w) w.heap.size (by rfl) (.tmp 33) (.tmp 42) 22 68 (.agg #[(.string ⟨#[]⟩), (.string ⟨#[]⟩)]) 32 rfl Try.underlying22 info68 rfl (by decide) (by omega) u171000 x171000_1 (⟨((rd_T68 l0 x5_1).f0).extract 1 ((rd_T68 l0 x5_1).f0).size, (rd_T68 l0 x5_1).f1⟩ : S68) [.string (((rd_T68 l0 x5_1).f0).extract 1 ((rd_T68 l0 x5_1).f0).size), .string ((rd_T68 l0 x5_1).f1)] (fun k_ => some k_ ≠ (u171001 : Value).ownBlock) (fun _ => False) rfl rfl ?aP (fun _ hk => hk.elim) ?aF ?aO ?aB ?aS ?aL ?_
                          (case aP => exact k68_mkM _ _ _ (⟨((rd_T68 l0 x5_1).f0).extract 1 ((rd_T68 l0 x5_1).f0).size, (rd_T68 l0 x5_1).f1⟩ : S68))
                          (case aB => exact (by repeat (first | (with_reducible first | exact HB.out | apply below_alloc | apply pw_below_drewN | apply below_drew1 | refine below_set ?_ GE169.out | refine below_set ?_ GE170.out) | exact HB.out)))
                          (case aF => exact (fun k_ hk => Kd.fresh' (Kd.R_lt (by (with_reducible repeat (first | apply Kd.R_alloc | apply Kd.R_drewN | apply Kd.R_drew)); exact HO_171001.out)) k_ hk))
                          (case aO => exact (by (with_reducible repeat (first | apply Kd.R_alloc | apply Kd.R_drewN | apply Kd.R_drew)); exact HO_171000.out))
                          (case aS => exact (below_size (by repeat (first | (with_reducible first | exact HB.out | apply below_alloc | apply pw_below_drewN | apply below_drew1 | refine below_set ?_ GE169.out | refine below_set ?_ GE170.out) | exact HB.out))))
                          (case aL => have := LMc22.out; omega)
                          intro v174 w24 ho hb hg hat
                          rw [← Ny173.out] at ho
                          have n0_ := Aside0.mk (Kd.R_after (ok := (fun _ => True)) (by (with_reducible repeat (first | apply Kd.R_alloc | apply Kd.R_drewN | apply Kd.R_drew)); exact Kd.R_mono HO_171001.out (fun _ hk => ⟨trivial, hk⟩)) hg hat)
                          have n1_ := Aside0.mk (blk_grown (g := gb169) (o := .cells #[.slice none 0 0, .slice none 0 0] 24 (0, 0)) (by (with_reducible repeat (first | refine blk_drewN ?_ _ | refine blk_drew ?_ | refine blk_alloc ?_ _)); exact BK169.out) hg (Kd.R_ne HO_171000.out BK169.out (by decide)))
                          have n2_ := Aside0.mk (blk_grown (g := gb170) (o := .cells #[u171000, u171001] 24 (0, 0)) (by (with_reducible repeat (first | refine blk_drewN ?_ _ | refine blk_drew ?_ | refine blk_alloc ?_ _)); exact BK170.out) hg (Kd.R_ne HO_171000.out BK170.out (by decide)))
                          have n3_ := Aside0.mk (hb)
                          have n4_ := Aside0.mk (ho)
                          clear HO_171001
                          clear BK169
                          clear BK170
                          clear HB
                          clear HO_171000
                          have HO_171001 := n0_
                          have BK169 := n1_
                          have BK170 := n2_
                          have HB := n3_
                          have HO175 := n4_
                          clear n0_ n1_ n2_ n3_ n4_
                          clear ho hb hg hat
                          obtain ⟨Ao25, co25, eo25⟩ := Kd.R_slice HO175.out
                          (first | subst eo25 | (injection eo25 with f1_ f2_ f3_; have f4_ := f1_.symm; have f5_ := f3_.symm; clear f1_ f2_ f3_; subst f4_; subst f5_))
                          refine hK.out _ _ ⟨(blk_cell BK170.out 0).trans rfl, (blk_cell BK170.out 1).trans rfl, ((HB.out.cell (World.block_lt_of_cell? w _ hw172_0)).trans hw172_0), ((HB.out.cell (World.block_lt_of_cell? w _ hw172_1)).trans hw172_1)⟩ (fun hHeld => ?_)
                          clear hK K
                          refine norm_ (a' := ?_) ?_ ?_
                          rotate_left
                          · show Act.put _ (some 43) _ = _
                            simp only [Act.put, List.setIfInBounds_toArray, List.set_cons_zero, List.set_cons_succ, i64_w, i32_w]
                            rfl
                          refine pure_ (i := 12) (N := some 44) (v := ?_) (a' := ?_) #[true, true, true, true, true, true, true, true, true, true, true, true, true, false] rfl rfl (any_of HT_.out (by kernel_rfl)) (fun _ _ _ h => h) (Or.inl ⟨by rfl, ?_⟩) ?_ ?_
                          rotate_left
                          · intro w'
                            go_simp
                            with_reducible rfl
                          rotate_left
                          · simp only [Act.put, List.setIfInBounds_toArray, List.set_cons_zero, List.set_cons_succ, i64_w, i32_w]
                            rfl
                          refine last_ (i := 13) (N := none) #[true, true, true, true, true, true, true, true, true, true, true, true, true, true] rfl rfl (one_of HT_.out (by kernel_rfl)) (by decide) (fun K hK => ?_)
                          have hs26 : w24.cell? ⟨gb170, 0, none⟩ = some (u171000) := (blk_cell BK170.out 0).trans rfl
                          have hfs26 := blk_frozen BK170.out 0
                          have hns26_0 := NB169_170.out
                          have hms26_0 := NB170_169.out
                          refine skip_ (w1 := ?_) (by rfl) rfl ?_ ?_
                          rotate_left
                          · go_simp
                            rfl
                          refine hK.out _ _ ?_
                          clear hK K
                          refine done_ (done_of HT_.out (by kernel_rfl)) ?_
                          try go_wp2
                          go_roundg kj10
                          case measure => have := HK1.out; have := HJ10.out; omega
                          case rel => exact ⟨(wrap64 (x5_1 + 1)), (y173), (x171001_1), (.slice Ao25 y173.length co25), (u171001), (by first | rfl | (simp; done) | (simp [*]; done)), H', ⟨by have := HK1.out; have := HJ10.out; omega⟩, ⟨by (with_reducible repeat (first | apply Kd.R_alloc | apply Kd.R_drewN | apply Kd.R_drew)); exact Kd.R_mono (Kd.R_far (p := ⟨gb170, 0, none⟩) (Kd.R_types HO175.out BK170.out (by decide)) (fun _ hk => hk.2) (.slice Ao25 y173.length co25)) (fun _ hk => hk.1)⟩, ⟨by (with_reducible repeat (first | apply Kd.R_alloc | apply Kd.R_drewN | apply Kd.R_drew)); exact Kd.R_mono (Kd.R_far (p := ⟨gb170, 0, none⟩) (Kd.R_types HO_171001.out BK170.out (by decide)) (fun _ hk => hk.2) (.slice Ao25 y173.length co25)) (fun _ hk => hk.1.2)⟩, ⟨by (with_reducible repeat (first | refine blk_drewN ?_ _ | refine blk_drew ?_ | refine blk_alloc ?_ _)); refine blk_far ?_ NB169_170.out _; (with_reducible repeat (first | refine blk_drewN ?_ _ | refine blk_drew ?_ | refine blk_alloc ?_ _)); exact BK169.out⟩, ⟨by (with_reducible repeat (first | refine blk_drewN ?_ _ | refine blk_drew ?_ | refine blk_alloc ?_ _)); refine blk_put (cs := #[u171000, u171001]) ?_ 0 _ rfl; (with_reducible repeat (first | refine blk_drewN ?_ _ | refine blk_drew ?_ | refine blk_alloc ?_ _)); exact BK170.out⟩, ⟨by repeat (first | (with_reducible first | exact HB.out | apply below_alloc | apply pw_below_drewN | apply below_drew1 | refine below_set ?_ GE169.out | refine below_set ?_ GE170.out) | exact HB.out)⟩⟩
                        · rw [if_neg c22] at H
                          exact absurd H (by simp)
                      · rw [if_neg c21] at H
                        exact absurd H (by simp)
                    · rw [if_neg c20] at H
                      exact absurd H (by simp)
                  · rw [if_neg c19] at H
                    exact absurd H (by simp)
                · replace c18 := Bool.eq_false_iff.mpr c18
                  subst c18
                  have H1 : (if 0 < (((rd_T68 l0 x5_1).f0).size : Int) then (if (bt ((rd_T68 l0 x5_1).f0) 0) = 116 then (if 0 ≤ x5_1 then (if x5_1 < (l0.length : Int) then (if ((rd_T68 l0 x5_1).f1).toList = ([99] : List UInt8) then (if 1 ≤ (((rd_T68 l0 x5_1).f0).size : Int) then (if x171001_1.length < 4398046511104 then (stanchionref07_Back.l0 kj10 l0 (wrap64 (x5_1 + 1)) x171000_1 (x171001_1 ++ [(⟨((rd_T68 l0 x5_1).f0).extract 1 ((rd_T68 l0 x5_1).f0).size, (rd_T68 l0 x5_1).f1⟩ : S68)])) else (none)) else (none)) else (if ((rd_T68 l0 x5_1).f1).toList = ([103] : List UInt8) then (if 1 ≤ (((rd_T68 l0 x5_1).f0).size : Int) then (if x171001_1.length < 4398046511104 then (stanchionref07_Back.l0 kj10 l0 (wrap64 (x5_1 + 1)) x171000_1 (x171001_1 ++ [(⟨((rd_T68 l0 x5_1).f0).extract 1 ((rd_T68 l0 x5_1).f0).size, (rd_T68 l0 x5_1).f1⟩ : S68)])) else (none)) else (none)) else (some (([] : List (S68)), ([] : List (S68)), 3)))) else (none)) else (none)) else (some (([] : List (S68)), ([] : List (S68)), 3))) else (none)) = some (r1, r2, r3) := by rw [if_neg (show ¬ (false = true) by decide)] at H; exact H
                  clear H
                  have H := H1
                  clear H1
                  by_cases c27 : 0 < (((rd_T68 l0 x5_1).f0).size : Int)
                  · rw [if_pos c27] at H
                    have c27b0 : decide (0 < (((rd_T68 l0 x5_1).f0).size : Int)) = true := decide_eq_true c27
                    have c27b1 : decide (0 < ((rd_T68 l0 x5_1).f0).size) = true := decide_eq_true (by omega)
                    clear c27
                    by_cases c29 : (bt ((rd_T68 l0 x5_1).f0) 0) = 116
                    · rw [if_pos c29] at H
                      have c29b0 : ((bt ((rd_T68 l0 x5_1).f0) 0) == 116) = true := beq_iff_eq.mpr c29
                      have c29b1 : ((bt ((rd_T68 l0 x5_1).f0) 0) != 116) = false := bne_eq_false_iff_eq.mpr c29
                      clear c29
                      by_cases c30 : 0 ≤ x5_1
                      · rw [if_pos c30] at H
                        have c30b0 : decide (0 ≤ x5_1) = true := decide_eq_true c30
                        clear c30
                        by_cases c31 : x5_1 < (l0.length : Int)
                        · rw [if_pos c31] at H
                          have c31b0 : decide (x5_1 < (l0.length : Int)) = true := decide_eq_true c31
                          clear c31
                          by_cases c32 : ((rd_T68 l0 x5_1).f1).toList = ([99] : List UInt8)
                          · rw [if_pos c32] at H
                            have c32b0 : (((rd_T68 l0 x5_1).f1).toList == ([99] : List UInt8)) = true := beq_iff_eq.mpr c32
                            have c32b1 : (((rd_T68 l0 x5_1).f1).toList != ([99] : List UInt8)) = false := bne_eq_false_iff_eq.mpr c32
                            clear c32
                            by_cases c33 : 1 ≤ (((rd_T68 l0 x5_1).f0).size : Int)
                            · rw [if_pos c33] at H
                              have c33b0 := eq_true c33
                              have c33b1 : decide (1 ≤ (((rd_T68 l0 x5_1).f0).size : Int)) = true := decide_eq_true c33
                              clear c33
                              by_cases c34 : x171001_1.length < 4398046511104
                              · rw [if_pos c34] at H
                                have LMc34 := Aside0.mk c34
                                clear c34
                                obtain ⟨y178, hy178⟩ : ∃ y_ : List (S68), y_ = (x171001_1 ++ [(⟨((rd_T68 l0 x5_1).f0).extract 1 ((rd_T68 l0 x5_1).f0).size, (rd_T68 l0 x5_1).f1⟩ : S68)]) := ⟨_, rfl⟩
                                replace H : (stanchionref07_Back.l0 kj10 l0 (wrap64 (x5_1 + 1)) x171000_1 y178) = some (r1, r2, r3) := by first | (rw [hy178]; with_reducible exact H) | (have H2_ := (Option.bind_some _ _).symm.trans H; rw [hy178]; with_reducible exact H2_) | (have H2_ := (Option.bind_some _ _).symm.trans H; with_reducible exact H2_) | with_reducible exact H | (rw [hy178]; exact H) | exact H
                                have Ny178 := Aside0.mk hy178
                                clear hy178
                                have H' := Aside0.mk H
                                clear H
                                have p28 : 0 ≤ (0 : Int) := (by omega)
                                have q28 : 0 < ((rd_T68 l0 x5_1).f0).size := (by have : (0 : Int) < (((rd_T68 l0 x5_1).f0).size : Int) := of_decide_eq_true (by first | (with_reducible assumption) | assumption); omega)
                                have hx28 : ∀ h : 0 < ((rd_T68 l0 x5_1).f0).size, ((((rd_T68 l0 x5_1).f0)[0]'h).toNat : Int) = bt ((rd_T68 l0 x5_1).f0) 0 := bt_at ((rd_T68 l0 x5_1).f0) 0
                                clear p28
                                have qi28 : (0 < (((rd_T68 l0 x5_1).f0).size : Int)) = True := eq_true (of_decide_eq_true (by first | (with_reducible assumption) | assumption))
                                replace q28 := eq_true q28
                                have p176 : 0 ≤ (x5_1 : Int) := of_decide_eq_true (by first | (with_reducible assumption) | assumption)
                                have q176 : x5_1 < (l0.length : Int) := of_decide_eq_true (by first | (with_reducible assumption) | assumption)
                                obtain ⟨ad176, e176, hx176_0, hx176_1⟩ := at_T68 HR0.out x5_1 p176 q176
                                obtain rfl : ad171 = ad176 := (by injection e176)
                                replace hx176_0 := (HB.out.cell (World.block_lt_of_cell? w _ hx176_0)).trans hx176_0
                                replace hx176_1 := (HB.out.cell (World.block_lt_of_cell? w _ hx176_1)).trans hx176_1
                                replace p176 := eq_true p176
                                replace q176 := eq_true q176
                                try go_wp2
                                have n0_ := Aside0.mk (Kd.R_drew HO_171000.out)
                                have n1_ := Aside0.mk (Kd.R_drew HO_171001.out)
                                have n2_ := Aside0.mk (blk_drew BK169.out)
                                have n3_ := Aside0.mk (blk_drew BK170.out)
                                have n4_ := Aside0.mk (below_drew1 HB.out)
                                clear HO_171000
                                clear HO_171001
                                clear BK169
                                clear BK170
                                clear HB
                                have HO_171000 := n0_
                                have HO_171001 := n1_
                                have BK169 := n2_
                                have BK170 := n3_
                                have HB := n4_
                                clear n0_ n1_ n2_ n3_ n4_
                                have p177 : 0 ≤ (x5_1 : Int) := of_decide_eq_true (by first | (with_reducible assumption) | assumption)
                                have q177 : x5_1 < (l0.length : Int) := of_decide_eq_true (by first | (with_reducible assumption) | assumption)
                                obtain ⟨ad177, e177, hx177_0, hx177_1⟩ := at_T68 HR0.out x5_1 p177 q177
                                have hw177_1 := hx177_1
                                have hw177_0 := hx177_0
                                obtain rfl : ad171 = ad177 := (by injection e177)
                                replace hx177_0 := (HB.out.cell (World.block_lt_of_cell? w _ hx177_0)).trans hx177_0
                                replace hx177_1 := (HB.out.cell (World.block_lt_of_cell? w _ hx177_1)).trans hx177_1
                                replace p177 := eq_true p177
                                replace q177 := eq_true q177
                                refine start_ (n := 14) (S := fun w' => w'.cell? ⟨gb170, 0, none⟩ = some (u171000) ∧ w'.cell? ⟨gb170, 1, none⟩ = some (u171001) ∧ w'.cell? (ad171.add ((x5_1).toNat * 2)) = some (.string ((rd_T68 l0 x5_1).f0)) ∧ w'.cell? ⟨(ad171.add ((x5_1).toNat * 2)).block, (ad171.add ((x5_1).toNat * 2)).off + 1, none⟩ = some (.string ((rd_T68 l0 x5_1).f1))) (ds := [13]) #[false, false, false, false, false, false, false, false, false, false, false, false, false, false] (by kernel_rfl) rfl rfl ⟨(blk_cell BK170.out 0).trans rfl, (blk_cell BK170.out 1).trans rfl, ((HB.out.cell (World.block_lt_of_cell? w _ hw177_0)).trans hw177_0), ((HB.out.cell (World.block_lt_of_cell? w _ hw177_1)).trans hw177_1)⟩ (fun hHeld => ?_); refine with_tabW stanchionref07_Back.tab12 stanchionref07_Back.bits12 (fun HT_ HW_ => ?_)
                                generalize wc.drew = w35 at HO_171000 HO_171001 BK169 BK170 HB hx177_0 hx177_1 hHeld ⊢
                                refine pure_ (i := 0) (N := some 65) (v := ?_) (a' := ?_) #[true, false, false, false, false, false, false, false, false, false, false, false, false, false] rfl rfl (any_of HT_.out (by kernel_rfl)) (fun _ _ _ h => h) (Or.inl ⟨by rfl, ?_⟩) ?_ ?_
                                rotate_left
                                · intro w'
                                  go_simp
                                  with_reducible rfl
                                rotate_left
                                · simp only [Act.put, List.setIfInBounds_toArray, List.set_cons_zero, List.set_cons_succ, i64_w, i32_w]
                                  rfl
                                refine pure_ (i := 2) (N := some 67) (v := ?_) (a' := ?_) #[true, false, true, false, false, false, false, false, false, false, false, false, false, false] rfl rfl (any_of HT_.out (by kernel_rfl)) (fun _ _ _ h => h) (Or.inl ⟨by rfl, ?_⟩) ?_ ?_
                                rotate_left
                                · intro w'
                                  go_simp
                                  with_reducible rfl
                                rotate_left
                                · simp only [Act.put, List.setIfInBounds_toArray, List.set_cons_zero, List.set_cons_succ, i64_w, i32_w]
                                  rfl
                                refine pure_ (i := 3) (N := some 68) (v := ?_) (a' := ?_) #[true, false, true, true, false, false, false, false, false, false, false, false, false, false] rfl rfl (any_of HT_.out (by kernel_rfl)) (fun _ _ _ h => h) (Or.inl ⟨by rfl, ?_⟩) ?_ ?_
                                rotate_left
                                · intro w'
                                  go_simp
                                  with_reducible rfl
                                rotate_left
                                · simp only [Act.put, List.setIfInBounds_toArray, List.set_cons_zero, List.set_cons_succ, i64_w, i32_w]
                                  rfl
                                refine pure_ (i := 4) (N := some 69) (v := ?_) (a' := ?_) #[true, false, true, true, true, false, false, false, false, false, false, false, false, false] rfl rfl (any_of HT_.out (by kernel_rfl)) (fun _ _ _ h => h) (Or.inl ⟨by rfl, ?_⟩) ?_ ?_
                                rotate_left
                                · intro w'
                                  go_simp
                                  with_reducible rfl
                                rotate_left
                                · simp only [Act.put, List.setIfInBounds_toArray, List.set_cons_zero, List.set_cons_succ, i64_w, i32_w]
                                  rfl
                                refine pure_ (i := 5) (N := some 70) (v := ?_) (a' := ?_) #[true, false, true, true, true, true, false, false, false, false, false, false, false, false] rfl rfl (any_of HT_.out (by kernel_rfl)) (fun _ _ _ h => h) (Or.inl ⟨by rfl, ?_⟩) ?_ ?_
                                rotate_left
                                · intro w'
                                  go_simp
                                  with_reducible rfl
                                rotate_left
                                · simp only [Act.put, List.setIfInBounds_toArray, List.set_cons_zero, List.set_cons_succ, i64_w, i32_w]
                                  rfl
                                refine pure_ (i := 6) (N := some 71) (v := ?_) (a' := ?_) #[true, false, true, true, true, true, true, false, false, false, false, false, false, false] rfl rfl (any_of HT_.out (by kernel_rfl)) (fun _ _ _ h => h) (Or.inl ⟨by rfl, ?_⟩) ?_ ?_
                                rotate_left
                                · intro w'
                                  go_simp
                                  with_reducible rfl
                                rotate_left
                                · simp only [Act.put, List.setIfInBounds_toArray, List.set_cons_zero, List.set_cons_succ, i64_w, i32_w]
                                  rfl
                                refine pure_ (i := 7) (N := some 72) (v := ?_) (a' := ?_) #[true, false, true, true, true, true, true, true, false, false, false, false, false, false] rfl rfl (any_of HT_.out (by kernel_rfl)) (fun _ _ _ h => h) (Or.inl ⟨by rfl, ?_⟩) ?_ ?_
                                rotate_left
                                · intro w'
                                  go_simp
                                  with_reducible rfl
                                rotate_left
                                · simp only [Act.put, List.setIfInBounds_toArray, List.set_cons_zero, List.set_cons_succ, i64_w, i32_w]
                                  rfl
                                refine take_ (i := 1) (N := some 66) (v := ?_) (a' := ?_) #[true, true, true, true, true, true, true, true, false, false, false, false, false, false] rfl rfl (take_ofW HT_.out HW_.out (by kernel_rfl)) (fun _ _ _ h => h) (Or.inl ⟨by rfl, ?_⟩) hHeld ?_ ?_
                                rotate_left
                                · rintro w' ⟨s0, s1, s2, s3⟩
                                  go_simp
                                  with_reducible rfl
                                rotate_left
                                · simp only [Act.put, List.setIfInBounds_toArray, List.set_cons_zero, List.set_cons_succ, i64_w, i32_w]
                                  rfl
                                refine take_ (i := 8) (N := some 73) (v := ?_) (a' := ?_) #[true, true, true, true, true, true, true, true, true, false, false, false, false, false] rfl rfl (take_ofW HT_.out HW_.out (by kernel_rfl)) (fun _ _ _ h => h) (Or.inl ⟨by rfl, ?_⟩) hHeld ?_ ?_
                                rotate_left
                                · rintro w' ⟨s0, s1, s2, s3⟩
                                  go_simp
                                  with_reducible rfl
                                rotate_left
                                · simp only [Act.put, List.setIfInBounds_toArray, List.set_cons_zero, List.set_cons_succ, i64_w, i32_w]
                                  rfl
                                refine pure_ (i := 9) (N := some 74) (v := ?_) (a' := ?_) #[true, true, true, true, true, true, true, true, true, true, false, false, false, false] rfl rfl (any_of HT_.out (by kernel_rfl)) (fun _ _ _ h => h) (Or.inl ⟨by rfl, ?_⟩) ?_ ?_
                                rotate_left
                                · intro w'
                                  go_simp
                                  with_reducible rfl
                                rotate_left
                                · simp only [Act.put, List.setIfInBounds_toArray, List.set_cons_zero, List.set_cons_succ, i64_w, i32_w]
                                  rfl
                                refine one_ (i := 10) (N := some 75) #[true, true, true, true, true, true, true, true, true, true, true, false, false, false] rfl rfl (one_of HT_.out (by kernel_rfl)) (by decide) (fun K hK => ?_)
                                refine value_ (w1 := ?_) (v := ?_) (by rfl) rfl ?_ ?_
                                rotate_left 2
                                · go_simp
                                  constructor
                                  · rfl
                                  · rfl
                                refine hK.out _ _ ⟨(blk_cell (blk_alloc BK170.out _) 0).trans rfl, (blk_cell (blk_alloc BK170.out _) 1).trans rfl, (World.cell?_alloc_lt _ _ _ (World.block_lt_of_cell? _ _ (((HB.out.cell (World.block_lt_of_cell? w _ hw177_0)).trans hw177_0)))).trans (((HB.out.cell (World.block_lt_of_cell? w _ hw177_0)).trans hw177_0)), (World.cell?_alloc_lt _ _ _ (World.block_lt_of_cell? _ _ (((HB.out.cell (World.block_lt_of_cell? w _ hw177_1)).trans hw177_1)))).trans (((HB.out.cell (World.block_lt_of_cell? w _ hw177_1)).trans hw177_1))⟩ (fun hHeld => ?_)
                                clear hK K
                                refine norm_ (a' := ?_) ?_ ?_
                                rotate_left
                                · show Act.put _ (some 75) _ = _
                                  simp only [Act.put, List.setIfInBounds_toArray, List.set_cons_zero, List.set_cons_succ, i64_w, i32_w]
                                  rfl
                                refine one_ (i := 11) (N := some 76) #[true, true, true, true, true, true, true, true, true, true, true, true, false, false] rfl rfl (one_of HT_.out (by kernel_rfl)) (by decide) (fun K hK => ?_)
                                refine Kd.R_append_step k68 (w0 := w) w.heap.size (by rfl) (.tmp 66) (.tmp 75) 22 68 (.agg #[(.string ⟨#[]⟩), (.string ⟨#[]⟩)]) 32 rfl Try.underlying22 info68 rfl (by decide) (by omega) u171001 x171001_1 (⟨((rd_T68 l0 x5_1).f0).extract 1 ((rd_T68 l0 x5_1).f0).size, (rd_T68 l0 x5_1).f1⟩ : S68) [.string (((rd_T68 l0 x5_1).f0).extract 1 ((rd_T68 l0 x5_1).f0).size), .string ((rd_T68 l0 x5_1).f1)] (fun k_ => some k_ ≠ (u171000 : Value).ownBlock) (fun _ => False) rfl rfl ?aP (fun _ hk => hk.elim) ?aF ?aO ?aB ?aS ?aL ?_
                                (case aP => exact k68_mkM _ _ _ (⟨((rd_T68 l0 x5_1).f0).extract 1 ((rd_T68 l0 x5_1).f0).size, (rd_T68 l0 x5_1).f1⟩ : S68))
                                (case aB => exact (by repeat (first | (with_reducible first | exact HB.out | apply below_alloc | apply pw_below_drewN | apply below_drew1 | refine below_set ?_ GE169.out | refine below_set ?_ GE170.out) | exact HB.out)))
                                (case aF => exact (fun k_ hk => Kd.fresh' (Kd.R_lt (by (with_reducible repeat (first | apply Kd.R_alloc | apply Kd.R_drewN | apply Kd.R_drew)); exact HO_171000.out)) k_ hk))
                                (case aO => exact (by (with_reducible repeat (first | apply Kd.R_alloc | apply Kd.R_drewN | apply Kd.R_drew)); exact HO_171001.out))
                                (case aS => exact (below_size (by repeat (first | (with_reducible first | exact HB.out | apply below_alloc | apply pw_below_drewN | apply below_drew1 | refine below_set ?_ GE169.out | refine below_set ?_ GE170.out) | exact HB.out))))
                                (case aL => have := LMc34.out; omega)
                                intro v179 w36 ho hb hg hat
                                rw [← Ny178.out] at ho
                                have n0_ := Aside0.mk (Kd.R_after (ok := (fun _ => True)) (by (with_reducible repeat (first | apply Kd.R_alloc | apply Kd.R_drewN | apply Kd.R_drew)); exact Kd.R_mono HO_171000.out (fun _ hk => ⟨trivial, hk⟩)) hg hat)
                                have n1_ := Aside0.mk (blk_grown (g := gb169) (o := .cells #[.slice none 0 0, .slice none 0 0] 24 (0, 0)) (by (with_reducible repeat (first | refine blk_drewN ?_ _ | refine blk_drew ?_ | refine blk_alloc ?_ _)); exact BK169.out) hg (Kd.R_ne HO_171001.out BK169.out (by decide)))
                                have n2_ := Aside0.mk (blk_grown (g := gb170) (o := .cells #[u171000, u171001] 24 (0, 0)) (by (with_reducible repeat (first | refine blk_drewN ?_ _ | refine blk_drew ?_ | refine blk_alloc ?_ _)); exact BK170.out) hg (Kd.R_ne HO_171001.out BK170.out (by decide)))
                                have n3_ := Aside0.mk (hb)
                                have n4_ := Aside0.mk (ho)
                                clear HO_171000
                                clear BK169
                                clear BK170
                                clear HB
                                clear HO_171001
                                have HO_171000 := n0_
                                have BK169 := n1_
                                have BK170 := n2_
                                have HB := n3_
                                have HO180 := n4_
                                clear n0_ n1_ n2_ n3_ n4_
                                clear ho hb hg hat
                                obtain ⟨Ao37, co37, eo37⟩ := Kd.R_slice HO180.out
                                (first | subst eo37 | (injection eo37 with f1_ f2_ f3_; have f4_ := f1_.symm; have f5_ := f3_.symm; clear f1_ f2_ f3_; subst f4_; subst f5_))
                                refine hK.out _ _ ⟨(blk_cell BK170.out 0).trans rfl, (blk_cell BK170.out 1).trans rfl, ((HB.out.cell (World.block_lt_of_cell? w _ hw177_0)).trans hw177_0), ((HB.out.cell (World.block_lt_of_cell? w _ hw177_1)).trans hw177_1)⟩ (fun hHeld => ?_)
                                clear hK K
                                refine norm_ (a' := ?_) ?_ ?_
                                rotate_left
                                · show Act.put _ (some 76) _ = _
                                  simp only [Act.put, List.setIfInBounds_toArray, List.set_cons_zero, List.set_cons_succ, i64_w, i32_w]
                                  rfl
                                refine pure_ (i := 12) (N := some 77) (v := ?_) (a' := ?_) #[true, true, true, true, true, true, true, true, true, true, true, true, true, false] rfl rfl (any_of HT_.out (by kernel_rfl)) (fun _ _ _ h => h) (Or.inl ⟨by rfl, ?_⟩) ?_ ?_
                                rotate_left
                                · intro w'
                                  go_simp
                                  with_reducible rfl
                                rotate_left
                                · simp only [Act.put, List.setIfInBounds_toArray, List.set_cons_zero, List.set_cons_succ, i64_w, i32_w]
                                  rfl
                                refine last_ (i := 13) (N := none) #[true, true, true, true, true, true, true, true, true, true, true, true, true, true] rfl rfl (one_of HT_.out (by kernel_rfl)) (by decide) (fun K hK => ?_)
                                have hs38 : w36.cell? ⟨gb170, 1, none⟩ = some (u171001) := (blk_cell BK170.out 1).trans rfl
                                have hfs38 := blk_frozen BK170.out 1
                                have hns38_0 := NB169_170.out
                                have hms38_0 := NB170_169.out
                                refine skip_ (w1 := ?_) (by rfl) rfl ?_ ?_
                                rotate_left
                                · go_simp
                                  rfl
                                refine hK.out _ _ ?_
                                clear hK K
                                refine done_ (done_of HT_.out (by kernel_rfl)) ?_
                                try go_wp2
                                go_roundg kj10
                                case measure => have := HK1.out; have := HJ10.out; omega
                                case rel => exact ⟨(wrap64 (x5_1 + 1)), (x171000_1), (y178), (u171000), (.slice Ao37 y178.length co37), (by first | rfl | (simp; done) | (simp [*]; done)), H', ⟨by have := HK1.out; have := HJ10.out; omega⟩, ⟨by (with_reducible repeat (first | apply Kd.R_alloc | apply Kd.R_drewN | apply Kd.R_drew)); exact Kd.R_mono (Kd.R_far (p := ⟨gb170, 1, none⟩) (Kd.R_types HO_171000.out BK170.out (by decide)) (fun _ hk => hk.2) (.slice Ao37 y178.length co37)) (fun _ hk => hk.1.2)⟩, ⟨by (with_reducible repeat (first | apply Kd.R_alloc | apply Kd.R_drewN | apply Kd.R_drew)); exact Kd.R_mono (Kd.R_far (p := ⟨gb170, 1, none⟩) (Kd.R_types HO180.out BK170.out (by decide)) (fun _ hk => hk.2) (.slice Ao37 y178.length co37)) (fun _ hk => hk.1)⟩, ⟨by (with_reducible repeat (first | refine blk_drewN ?_ _ | refine blk_drew ?_ | refine blk_alloc ?_ _)); refine blk_far ?_ NB169_170.out _; (with_reducible repeat (first | refine blk_drewN ?_ _ | refine blk_drew ?_ | refine blk_alloc ?_ _)); exact BK169.out⟩, ⟨by (with_reducible repeat (first | refine blk_drewN ?_ _ | refine blk_drew ?_ | refine blk_alloc ?_ _)); refine blk_put (cs := #[u171000, u171001]) ?_ 1 _ rfl; (with_reducible repeat (first | refine blk_drewN ?_ _ | refine blk_drew ?_ | refine blk_alloc ?_ _)); exact BK170.out⟩, ⟨by repeat (first | (with_reducible first | exact HB.out | apply below_alloc | apply pw_below_drewN | apply below_drew1 | refine below_set ?_ GE169.out | refine below_set ?_ GE170.out) | exact HB.out)⟩⟩
                              · rw [if_neg c34] at H
                                exact absurd H (by simp)
                            · rw [if_neg c33] at H
                              exact absurd H (by simp)
                          · rw [if_neg c32] at H
                            have c32b0 : (((rd_T68 l0 x5_1).f1).toList == ([99] : List UInt8)) = false := beq_eq_false_iff_ne.mpr c32
                            have c32b1 : (((rd_T68 l0 x5_1).f1).toList != ([99] : List UInt8)) = true := bne_iff_ne.mpr c32
                            by_cases c39 : ((rd_T68 l0 x5_1).f1).toList = ([103] : List UInt8)
                            · rw [if_pos c39] at H
                              have c39b0 : (((rd_T68 l0 x5_1).f1).toList == ([103] : List UInt8)) = true := beq_iff_eq.mpr c39
                              have c39b1 : (((rd_T68 l0 x5_1).f1).toList != ([103] : List UInt8)) = false := bne_eq_false_iff_eq.mpr c39
                              clear c39
                              by_cases c40 : 1 ≤ (((rd_T68 l0 x5_1).f0).size : Int)
                              · rw [if_pos c40] at H
                                have c40b0 := eq_true c40
                                have c40b1 : decide (1 ≤ (((rd_T68 l0 x5_1).f0).size : Int)) = true := decide_eq_true c40
                                clear c40
                                by_cases c41 : x171001_1.length < 4398046511104
                                · rw [if_pos c41] at H
                                  have LMc41 := Aside0.mk c41
                                  clear c41
                                  obtain ⟨y183, hy183⟩ : ∃ y_ : List (S68), y_ = (x171001_1 ++ [(⟨((rd_T68 l0 x5_1).f0).extract 1 ((rd_T68 l0 x5_1).f0).size, (rd_T68 l0 x5_1).f1⟩ : S68)]) := ⟨_, rfl⟩
                                  replace H : (stanchionref07_Back.l0 kj10 l0 (wrap64 (x5_1 + 1)) x171000_1 y183) = some (r1, r2, r3) := by first | (rw [hy183]; with_reducible exact H) | (have H2_ := (Option.bind_some _ _).symm.trans H; rw [hy183]; with_reducible exact H2_) | (have H2_ := (Option.bind_some _ _).symm.trans H; with_reducible exact H2_) | with_reducible exact H | (rw [hy183]; exact H) | exact H
                                  have Ny183 := Aside0.mk hy183
                                  clear hy183
                                  have H' := Aside0.mk H
                                  clear H
                                  have p28 : 0 ≤ (0 : Int) := (by omega)
                                  have q28 : 0 < ((rd_T68 l0 x5_1).f0).size := (by have : (0 : Int) < (((rd_T68 l0 x5_1).f0).size : Int) := of_decide_eq_true (by first | (with_reducible assumption) | assumption); omega)
                                  have hx28 : ∀ h : 0 < ((rd_T68 l0 x5_1).f0).size, ((((rd_T68 l0 x5_1).f0)[0]'h).toNat : Int) = bt ((rd_T68 l0 x5_1).f0) 0 := bt_at ((rd_T68 l0 x5_1).f0) 0
                                  clear p28
                                  have qi28 : (0 < (((rd_T68 l0 x5_1).f0).size : Int)) = True := eq_true (of_decide_eq_true (by first | (with_reducible assumption) | assumption))
                                  replace q28 := eq_true q28
                                  have p176 : 0 ≤ (x5_1 : Int) := of_decide_eq_true (by first | (with_reducible assumption) | assumption)
                                  have q176 : x5_1 < (l0.length : Int) := of_decide_eq_true (by first | (with_reducible assumption) | assumption)
                                  obtain ⟨ad176, e176, hx176_0, hx176_1⟩ := at_T68 HR0.out x5_1 p176 q176
                                  obtain rfl : ad171 = ad176 := (by injection e176)
                                  replace hx176_0 := (HB.out.cell (World.block_lt_of_cell? w _ hx176_0)).trans hx176_0
                                  replace hx176_1 := (HB.out.cell (World.block_lt_of_cell? w _ hx176_1)).trans hx176_1
                                  replace p176 := eq_true p176
                                  replace q176 := eq_true q176
                                  have p181 : 0 ≤ (x5_1 : Int) := of_decide_eq_true (by first | (with_reducible assumption) | assumption)
                                  have q181 : x5_1 < (l0.length : Int) := of_decide_eq_true (by first | (with_reducible assumption) | assumption)
                                  obtain ⟨ad181, e181, hx181_0, hx181_1⟩ := at_T68 HR0.out x5_1 p181 q181
                                  obtain rfl : ad171 = ad181 := (by injection e181)
                                  replace hx181_0 := (HB.out.cell (World.block_lt_of_cell? w _ hx181_0)).trans hx181_0
                                  replace hx181_1 := (HB.out.cell (World.block_lt_of_cell? w _ hx181_1)).trans hx181_1
                                  replace p181 := eq_true p181
                                  replace q181 := eq_true q181
                                  try go_wp2
                                  have n0_ := Aside0.mk (Kd.R_drew HO_171000.out)
                                  have n1_ := Aside0.mk (Kd.R_drew HO_171001.out)
                                  have n2_ := Aside0.mk (blk_drew BK169.out)
                                  have n3_ := Aside0.mk (blk_drew BK170.out)
                                  have n4_ := Aside0.mk (below_drew1 HB.out)
                                  clear HO_171000
                                  clear HO_171001
                                  clear BK169
                                  clear BK170
                                  clear HB
                                  have HO_171000 := n0_
                                  have HO_171001 := n1_
                                  have BK169 := n2_
                                  have BK170 := n3_
                                  have HB := n4_
                                  clear n0_ n1_ n2_ n3_ n4_
                                  have p182 : 0 ≤ (x5_1 : Int) := of_decide_eq_true (by first | (with_reducible assumption) | assumption)
                                  have q182 : x5_1 < (l0.length : Int) := of_decide_eq_true (by first | (with_reducible assumption) | assumption)
                                  obtain ⟨ad182, e182, hx182_0, hx182_1⟩ := at_T68 HR0.out x5_1 p182 q182
                                  have hw182_1 := hx182_1
                                  have hw182_0 := hx182_0
                                  obtain rfl : ad171 = ad182 := (by injection e182)
                                  replace hx182_0 := (HB.out.cell (World.block_lt_of_cell? w _ hx182_0)).trans hx182_0
                                  replace hx182_1 := (HB.out.cell (World.block_lt_of_cell? w _ hx182_1)).trans hx182_1
                                  replace p182 := eq_true p182
                                  replace q182 := eq_true q182
                                  refine start_ (n := 14) (S := fun w' => w'.cell? ⟨gb170, 0, none⟩ = some (u171000) ∧ w'.cell? ⟨gb170, 1, none⟩ = some (u171001) ∧ w'.cell? (ad171.add ((x5_1).toNat * 2)) = some (.string ((rd_T68 l0 x5_1).f0)) ∧ w'.cell? ⟨(ad171.add ((x5_1).toNat * 2)).block, (ad171.add ((x5_1).toNat * 2)).off + 1, none⟩ = some (.string ((rd_T68 l0 x5_1).f1))) (ds := [13]) #[false, false, false, false, false, false, false, false, false, false, false, false, false, false] (by kernel_rfl) rfl rfl ⟨(blk_cell BK170.out 0).trans rfl, (blk_cell BK170.out 1).trans rfl, ((HB.out.cell (World.block_lt_of_cell? w _ hw182_0)).trans hw182_0), ((HB.out.cell (World.block_lt_of_cell? w _ hw182_1)).trans hw182_1)⟩ (fun hHeld => ?_); refine with_tabW stanchionref07_Back.tab12 stanchionref07_Back.bits12 (fun HT_ HW_ => ?_)
                                  generalize wc.drew = w42 at HO_171000 HO_171001 BK169 BK170 HB hx182_0 hx182_1 hHeld ⊢
                                  refine pure_ (i := 0) (N := some 65) (v := ?_) (a' := ?_) #[true, false, false, false, false, false, false, false, false, false, false, false, false, false] rfl rfl (any_of HT_.out (by kernel_rfl)) (fun _ _ _ h => h) (Or.inl ⟨by rfl, ?_⟩) ?_ ?_
                                  rotate_left
                                  · intro w'
                                    go_simp
                                    with_reducible rfl
                                  rotate_left
                                  · simp only [Act.put, List.setIfInBounds_toArray, List.set_cons_zero, List.set_cons_succ, i64_w, i32_w]
                                    rfl
                                  refine pure_ (i := 2) (N := some 67) (v := ?_) (a' := ?_) #[true, false, true, false, false, false, false, false, false, false, false, false, false, false] rfl rfl (any_of HT_.out (by kernel_rfl)) (fun _ _ _ h => h) (Or.inl ⟨by rfl, ?_⟩) ?_ ?_
                                  rotate_left
                                  · intro w'
                                    go_simp
                                    with_reducible rfl
                                  rotate_left
                                  · simp only [Act.put, List.setIfInBounds_toArray, List.set_cons_zero, List.set_cons_succ, i64_w, i32_w]
                                    rfl
                                  refine pure_ (i := 3) (N := some 68) (v := ?_) (a' := ?_) #[true, false, true, true, false, false, false, false, false, false, false, false, false, false] rfl rfl (any_of HT_.out (by kernel_rfl)) (fun _ _ _ h => h) (Or.inl ⟨by rfl, ?_⟩) ?_ ?_
                                  rotate_left
                                  · intro w'
                                    go_simp
                                    with_reducible rfl
                                  rotate_left
                                  · simp only [Act.put, List.setIfInBounds_toArray, List.set_cons_zero, List.set_cons_succ, i64_w, i32_w]
                                    rfl
                                  refine pure_ (i := 4) (N := some 69) (v := ?_) (a' := ?_) #[true, false, true, true, true, false, false, false, false, false, false, false, false, false] rfl rfl (any_of HT_.out (by kernel_rfl)) (fun _ _ _ h => h) (Or.inl ⟨by rfl, ?_⟩) ?_ ?_
                                  rotate_left
                                  · intro w'
                                    go_simp
                                    with_reducible rfl
                                  rotate_left
                                  · simp only [Act.put, List.setIfInBounds_toArray, List.set_cons_zero, List.set_cons_succ, i64_w, i32_w]
                                    rfl
                                  refine pure_ (i := 5) (N := some 70) (v := ?_) (a' := ?_) #[true, false, true, true, true, true, false, false, false, false, false, false, false, false] rfl rfl (any_of HT_.out (by kernel_rfl)) (fun _ _ _ h => h) (Or.inl ⟨by rfl, ?_⟩) ?_ ?_
                                  rotate_left
                                  · intro w'
                                    go_simp
                                    with_reducible rfl
                                  rotate_left
                                  · simp only [Act.put, List.setIfInBounds_toArray, List.set_cons_zero, List.set_cons_succ, i64_w, i32_w]
                                    rfl
                                  refine pure_ (i := 6) (N := some 71) (v := ?_) (a' := ?_) #[true, false, true, true, true, true, true, false, false, false, false, false, false, false] rfl rfl (any_of HT_.out (by kernel_rfl)) (fun _ _ _ h => h) (Or.inl ⟨by rfl, ?_⟩) ?_ ?_
                                  rotate_left
                                  · intro w'
                                    go_simp
                                    with_reducible rfl
                                  rotate_left
                                  · simp only [Act.put, List.setIfInBounds_toArray, List.set_cons_zero, List.set_cons_succ, i64_w, i32_w]
                                    rfl
                                  refine pure_ (i := 7) (N := some 72) (v := ?_) (a' := ?_) #[true, false, true, true, true, true, true, true, false, false, false, false, false, false] rfl rfl (any_of HT_.out (by kernel_rfl)) (fun _ _ _ h => h) (Or.inl ⟨by rfl, ?_⟩) ?_ ?_
                                  rotate_left
                                  · intro w'
                                    go_simp
                                    with_reducible rfl
                                  rotate_left
                                  · simp only [Act.put, List.setIfInBounds_toArray, List.set_cons_zero, List.set_cons_succ, i64_w, i32_w]
                                    rfl
                                  refine take_ (i := 1) (N := some 66) (v := ?_) (a' := ?_) #[true, true, true, true, true, true, true, true, false, false, false, false, false, false] rfl rfl (take_ofW HT_.out HW_.out (by kernel_rfl)) (fun _ _ _ h => h) (Or.inl ⟨by rfl, ?_⟩) hHeld ?_ ?_
                                  rotate_left
                                  · rintro w' ⟨s0, s1, s2, s3⟩
                                    go_simp
                                    with_reducible rfl
                                  rotate_left
                                  · simp only [Act.put, List.setIfInBounds_toArray, List.set_cons_zero, List.set_cons_succ, i64_w, i32_w]
                                    rfl
                                  refine take_ (i := 8) (N := some 73) (v := ?_) (a' := ?_) #[true, true, true, true, true, true, true, true, true, false, false, false, false, false] rfl rfl (take_ofW HT_.out HW_.out (by kernel_rfl)) (fun _ _ _ h => h) (Or.inl ⟨by rfl, ?_⟩) hHeld ?_ ?_
                                  rotate_left
                                  · rintro w' ⟨s0, s1, s2, s3⟩
                                    go_simp
                                    with_reducible rfl
                                  rotate_left
                                  · simp only [Act.put, List.setIfInBounds_toArray, List.set_cons_zero, List.set_cons_succ, i64_w, i32_w]
                                    rfl
                                  refine pure_ (i := 9) (N := some 74) (v := ?_) (a' := ?_) #[true, true, true, true, true, true, true, true, true, true, false, false, false, false] rfl rfl (any_of HT_.out (by kernel_rfl)) (fun _ _ _ h => h) (Or.inl ⟨by rfl, ?_⟩) ?_ ?_
                                  rotate_left
                                  · intro w'
                                    go_simp
                                    with_reducible rfl
                                  rotate_left
                                  · simp only [Act.put, List.setIfInBounds_toArray, List.set_cons_zero, List.set_cons_succ, i64_w, i32_w]
                                    rfl
                                  refine one_ (i := 10) (N := some 75) #[true, true, true, true, true, true, true, true, true, true, true, false, false, false] rfl rfl (one_of HT_.out (by kernel_rfl)) (by decide) (fun K hK => ?_)
                                  refine value_ (w1 := ?_) (v := ?_) (by rfl) rfl ?_ ?_
                                  rotate_left 2
                                  · go_simp
                                    constructor
                                    · rfl
                                    · rfl
                                  refine hK.out _ _ ⟨(blk_cell (blk_alloc BK170.out _) 0).trans rfl, (blk_cell (blk_alloc BK170.out _) 1).trans rfl, (World.cell?_alloc_lt _ _ _ (World.block_lt_of_cell? _ _ (((HB.out.cell (World.block_lt_of_cell? w _ hw182_0)).trans hw182_0)))).trans (((HB.out.cell (World.block_lt_of_cell? w _ hw182_0)).trans hw182_0)), (World.cell?_alloc_lt _ _ _ (World.block_lt_of_cell? _ _ (((HB.out.cell (World.block_lt_of_cell? w _ hw182_1)).trans hw182_1)))).trans (((HB.out.cell (World.block_lt_of_cell? w _ hw182_1)).trans hw182_1))⟩ (fun hHeld => ?_)
                                  clear hK K
                                  refine norm_ (a' := ?_) ?_ ?_
                                  rotate_left
                                  · show Act.put _ (some 75) _ = _
                                    simp only [Act.put, List.setIfInBounds_toArray, List.set_cons_zero, List.set_cons_succ, i64_w, i32_w]
                                    rfl
                                  refine one_ (i := 11) (N := some 76) #[true, true, true, true, true, true, true, true, true, true, true, true, false, false] rfl rfl (one_of HT_.out (by kernel_rfl)) (by decide) (fun K hK => ?_)
                                  refine Kd.R_append_step k68 (w0 := w) w.heap.size (by rfl) (.tmp 66) (.tmp 75) 22 68 (.agg #[(.string ⟨#[]⟩), (.string ⟨#[]⟩)]) 32 rfl Try.underlying22 info68 rfl (by decide) (by omega) u171001 x171001_1 (⟨((rd_T68 l0 x5_1).f0).extract 1 ((rd_T68 l0 x5_1).f0).size, (rd_T68 l0 x5_1).f1⟩ : S68) [.string (((rd_T68 l0 x5_1).f0).extract 1 ((rd_T68 l0 x5_1).f0).size), .string ((rd_T68 l0 x5_1).f1)] (fun k_ => some k_ ≠ (u171000 : Value).ownBlock) (fun _ => False) rfl rfl ?aP (fun _ hk => hk.elim) ?aF ?aO ?aB ?aS ?aL ?_
                                  (case aP => exact k68_mkM _ _ _ (⟨((rd_T68 l0 x5_1).f0).extract 1 ((rd_T68 l0 x5_1).f0).size, (rd_T68 l0 x5_1).f1⟩ : S68))
                                  (case aB => exact (by repeat (first | (with_reducible first | exact HB.out | apply below_alloc | apply pw_below_drewN | apply below_drew1 | refine below_set ?_ GE169.out | refine below_set ?_ GE170.out) | exact HB.out)))
                                  (case aF => exact (fun k_ hk => Kd.fresh' (Kd.R_lt (by (with_reducible repeat (first | apply Kd.R_alloc | apply Kd.R_drewN | apply Kd.R_drew)); exact HO_171000.out)) k_ hk))
                                  (case aO => exact (by (with_reducible repeat (first | apply Kd.R_alloc | apply Kd.R_drewN | apply Kd.R_drew)); exact HO_171001.out))
                                  (case aS => exact (below_size (by repeat (first | (with_reducible first | exact HB.out | apply below_alloc | apply pw_below_drewN | apply below_drew1 | refine below_set ?_ GE169.out | refine below_set ?_ GE170.out) | exact HB.out))))
                                  (case aL => have := LMc41.out; omega)
                                  intro v184 w43 ho hb hg hat
                                  rw [← Ny183.out] at ho
                                  have n0_ := Aside0.mk (Kd.R_after (ok := (fun _ => True)) (by (with_reducible repeat (first | apply Kd.R_alloc | apply Kd.R_drewN | apply Kd.R_drew)); exact Kd.R_mono HO_171000.out (fun _ hk => ⟨trivial, hk⟩)) hg hat)
                                  have n1_ := Aside0.mk (blk_grown (g := gb169) (o := .cells #[.slice none 0 0, .slice none 0 0] 24 (0, 0)) (by (with_reducible repeat (first | refine blk_drewN ?_ _ | refine blk_drew ?_ | refine blk_alloc ?_ _)); exact BK169.out) hg (Kd.R_ne HO_171001.out BK169.out (by decide)))
                                  have n2_ := Aside0.mk (blk_grown (g := gb170) (o := .cells #[u171000, u171001] 24 (0, 0)) (by (with_reducible repeat (first | refine blk_drewN ?_ _ | refine blk_drew ?_ | refine blk_alloc ?_ _)); exact BK170.out) hg (Kd.R_ne HO_171001.out BK170.out (by decide)))
                                  have n3_ := Aside0.mk (hb)
                                  have n4_ := Aside0.mk (ho)
                                  clear HO_171000
                                  clear BK169
                                  clear BK170
                                  clear HB
                                  clear HO_171001
                                  have HO_171000 := n0_
                                  have BK169 := n1_
                                  have BK170 := n2_
                                  have HB := n3_
                                  have HO185 := n4_
                                  clear n0_ n1_ n2_ n3_ n4_
                                  clear ho hb hg hat
                                  obtain ⟨Ao44, co44, eo44⟩ := Kd.R_slice HO185.out
                                  (first | subst eo44 | (injection eo44 with f1_ f2_ f3_; have f4_ := f1_.symm; have f5_ := f3_.symm; clear f1_ f2_ f3_; subst f4_; subst f5_))
                                  refine hK.out _ _ ⟨(blk_cell BK170.out 0).trans rfl, (blk_cell BK170.out 1).trans rfl, ((HB.out.cell (World.block_lt_of_cell? w _ hw182_0)).trans hw182_0), ((HB.out.cell (World.block_lt_of_cell? w _ hw182_1)).trans hw182_1)⟩ (fun hHeld => ?_)
                                  clear hK K
                                  refine norm_ (a' := ?_) ?_ ?_
                                  rotate_left
                                  · show Act.put _ (some 76) _ = _
                                    simp only [Act.put, List.setIfInBounds_toArray, List.set_cons_zero, List.set_cons_succ, i64_w, i32_w]
                                    rfl
                                  refine pure_ (i := 12) (N := some 77) (v := ?_) (a' := ?_) #[true, true, true, true, true, true, true, true, true, true, true, true, true, false] rfl rfl (any_of HT_.out (by kernel_rfl)) (fun _ _ _ h => h) (Or.inl ⟨by rfl, ?_⟩) ?_ ?_
                                  rotate_left
                                  · intro w'
                                    go_simp
                                    with_reducible rfl
                                  rotate_left
                                  · simp only [Act.put, List.setIfInBounds_toArray, List.set_cons_zero, List.set_cons_succ, i64_w, i32_w]
                                    rfl
                                  refine last_ (i := 13) (N := none) #[true, true, true, true, true, true, true, true, true, true, true, true, true, true] rfl rfl (one_of HT_.out (by kernel_rfl)) (by decide) (fun K hK => ?_)
                                  have hs45 : w43.cell? ⟨gb170, 1, none⟩ = some (u171001) := (blk_cell BK170.out 1).trans rfl
                                  have hfs45 := blk_frozen BK170.out 1
                                  have hns45_0 := NB169_170.out
                                  have hms45_0 := NB170_169.out
                                  refine skip_ (w1 := ?_) (by rfl) rfl ?_ ?_
                                  rotate_left
                                  · go_simp
                                    rfl
                                  refine hK.out _ _ ?_
                                  clear hK K
                                  refine done_ (done_of HT_.out (by kernel_rfl)) ?_
                                  try go_wp2
                                  go_roundg kj10
                                  case measure => have := HK1.out; have := HJ10.out; omega
                                  case rel => exact ⟨(wrap64 (x5_1 + 1)), (x171000_1), (y183), (u171000), (.slice Ao44 y183.length co44), (by first | rfl | (simp; done) | (simp [*]; done)), H', ⟨by have := HK1.out; have := HJ10.out; omega⟩, ⟨by (with_reducible repeat (first | apply Kd.R_alloc | apply Kd.R_drewN | apply Kd.R_drew)); exact Kd.R_mono (Kd.R_far (p := ⟨gb170, 1, none⟩) (Kd.R_types HO_171000.out BK170.out (by decide)) (fun _ hk => hk.2) (.slice Ao44 y183.length co44)) (fun _ hk => hk.1.2)⟩, ⟨by (with_reducible repeat (first | apply Kd.R_alloc | apply Kd.R_drewN | apply Kd.R_drew)); exact Kd.R_mono (Kd.R_far (p := ⟨gb170, 1, none⟩) (Kd.R_types HO185.out BK170.out (by decide)) (fun _ hk => hk.2) (.slice Ao44 y183.length co44)) (fun _ hk => hk.1)⟩, ⟨by (with_reducible repeat (first | refine blk_drewN ?_ _ | refine blk_drew ?_ | refine blk_alloc ?_ _)); refine blk_far ?_ NB169_170.out _; (with_reducible repeat (first | refine blk_drewN ?_ _ | refine blk_drew ?_ | refine blk_alloc ?_ _)); exact BK169.out⟩, ⟨by (with_reducible repeat (first | refine blk_drewN ?_ _ | refine blk_drew ?_ | refine blk_alloc ?_ _)); refine blk_put (cs := #[u171000, u171001]) ?_ 1 _ rfl; (with_reducible repeat (first | refine blk_drewN ?_ _ | refine blk_drew ?_ | refine blk_alloc ?_ _)); exact BK170.out⟩, ⟨by repeat (first | (with_reducible first | exact HB.out | apply below_alloc | apply pw_below_drewN | apply below_drew1 | refine below_set ?_ GE169.out | refine below_set ?_ GE170.out) | exact HB.out)⟩⟩
                                · rw [if_neg c41] at H
                                  exact absurd H (by simp)
                              · rw [if_neg c40] at H
                                exact absurd H (by simp)
                            · rw [if_neg c39] at H
                              have c39b0 : (((rd_T68 l0 x5_1).f1).toList == ([103] : List UInt8)) = false := beq_eq_false_iff_ne.mpr c39
                              have c39b1 : (((rd_T68 l0 x5_1).f1).toList != ([103] : List UInt8)) = true := bne_iff_ne.mpr c39
                              simp only [Option.some.injEq, Prod.mk.injEq] at H
                              obtain ⟨rfl, rfl, rfl⟩ := H
                              have p28 : 0 ≤ (0 : Int) := (by omega)
                              have q28 : 0 < ((rd_T68 l0 x5_1).f0).size := (by have : (0 : Int) < (((rd_T68 l0 x5_1).f0).size : Int) := of_decide_eq_true (by first | (with_reducible assumption) | assumption); omega)
                              have hx28 : ∀ h : 0 < ((rd_T68 l0 x5_1).f0).size, ((((rd_T68 l0 x5_1).f0)[0]'h).toNat : Int) = bt ((rd_T68 l0 x5_1).f0) 0 := bt_at ((rd_T68 l0 x5_1).f0) 0
                              clear p28
                              have qi28 : (0 < (((rd_T68 l0 x5_1).f0).size : Int)) = True := eq_true (of_decide_eq_true (by first | (with_reducible assumption) | assumption))
                              replace q28 := eq_true q28
                              have p176 : 0 ≤ (x5_1 : Int) := of_decide_eq_true (by first | (with_reducible assumption) | assumption)
                              have q176 : x5_1 < (l0.length : Int) := of_decide_eq_true (by first | (with_reducible assumption) | assumption)
                              obtain ⟨ad176, e176, hx176_0, hx176_1⟩ := at_T68 HR0.out x5_1 p176 q176
                              obtain rfl : ad171 = ad176 := (by injection e176)
                              replace hx176_0 := (HB.out.cell (World.block_lt_of_cell? w _ hx176_0)).trans hx176_0
                              replace hx176_1 := (HB.out.cell (World.block_lt_of_cell? w _ hx176_1)).trans hx176_1
                              replace p176 := eq_true p176
                              replace q176 := eq_true q176
                              have p181 : 0 ≤ (x5_1 : Int) := of_decide_eq_true (by first | (with_reducible assumption) | assumption)
                              have q181 : x5_1 < (l0.length : Int) := of_decide_eq_true (by first | (with_reducible assumption) | assumption)
                              obtain ⟨ad181, e181, hx181_0, hx181_1⟩ := at_T68 HR0.out x5_1 p181 q181
                              obtain rfl : ad171 = ad181 := (by injection e181)
                              replace hx181_0 := (HB.out.cell (World.block_lt_of_cell? w _ hx181_0)).trans hx181_0
                              replace hx181_1 := (HB.out.cell (World.block_lt_of_cell? w _ hx181_1)).trans hx181_1
                              replace p181 := eq_true p181
                              replace q181 := eq_true q181
                              have hnb46 := NB169_170.out
                              have hnc46 := NB170_169.out
                              have hcz47_0 : wc.cell? ⟨gb169, 0, none⟩ = some (.slice none 0 0) := (blk_cell BK169.out 0).trans rfl
                              have hcz47_1 : wc.cell? ⟨gb169, 1, none⟩ = some (.slice none 0 0) := (blk_cell BK169.out 1).trans rfl
                              have hfz47_0 := blk_frozen BK169.out 0
                              have hfz47_1 := blk_frozen BK169.out 1
                              go_wp2
                              refine bodyPost_ret (results_ct rfl _ _ gb169 24 #[.slice none 0 0, .slice none 0 0] (0, 0) _ rfl (by (with_reducible repeat (first | refine blk_drewN ?_ _ | refine blk_drew ?_ | refine blk_alloc ?_ _)); refine blk_put (cs := #[.slice none 0 0, .slice none 0 0]) ?_ 1 _ rfl; (with_reducible repeat (first | refine blk_drewN ?_ _ | refine blk_drew ?_ | refine blk_alloc ?_ _)); refine blk_put (cs := #[.slice none 0 0, .slice none 0 0]) ?_ 0 _ rfl; (with_reducible repeat (first | refine blk_drewN ?_ _ | refine blk_drew ?_ | refine blk_alloc ?_ _)); exact BK169.out) Try.underlying24 rfl (by kernel_rfl)) rfl ?_
                              exact ⟨_, _, by first | rfl | (simp [errW_none, errW_some] <;> rfl) | (simp [*, errW_none, errW_some] <;> rfl), by first | exact Kd.R_nil _ _ _ _ _ | exact Kd.N_nil _ _ _ _ _ | exact Kd.V_nil _ _ _ _ _ | exact Kd.Q_nil _ _ _ _ _ | exact Kd.S_nil _ _ _ _ _, by first | exact Kd.R_nil _ _ _ _ _ | exact Kd.N_nil _ _ _ _ _ | exact Kd.V_nil _ _ _ _ _ | exact Kd.Q_nil _ _ _ _ _ | exact Kd.S_nil _ _ _ _ _, by repeat (first | (with_reducible first | exact HB.out | apply below_alloc | apply pw_below_drewN | apply below_drew1 | refine below_set ?_ GE169.out | refine below_set ?_ GE170.out) | exact HB.out)⟩
                        · rw [if_neg c31] at H
                          exact absurd H (by simp)
                      · rw [if_neg c30] at H
                        exact absurd H (by simp)
                    · rw [if_neg c29] at H
                      have c29b0 : ((bt ((rd_T68 l0 x5_1).f0) 0) == 116) = false := beq_eq_false_iff_ne.mpr c29
                      have c29b1 : ((bt ((rd_T68 l0 x5_1).f0) 0) != 116) = true := bne_iff_ne.mpr c29
                      simp only [Option.some.injEq, Prod.mk.injEq] at H
                      obtain ⟨rfl, rfl, rfl⟩ := H
                      have p28 : 0 ≤ (0 : Int) := (by omega)
                      have q28 : 0 < ((rd_T68 l0 x5_1).f0).size := (by have : (0 : Int) < (((rd_T68 l0 x5_1).f0).size : Int) := of_decide_eq_true (by first | (with_reducible assumption) | assumption); omega)
                      have hx28 : ∀ h : 0 < ((rd_T68 l0 x5_1).f0).size, ((((rd_T68 l0 x5_1).f0)[0]'h).toNat : Int) = bt ((rd_T68 l0 x5_1).f0) 0 := bt_at ((rd_T68 l0 x5_1).f0) 0
                      clear p28
                      have qi28 : (0 < (((rd_T68 l0 x5_1).f0).size : Int)) = True := eq_true (of_decide_eq_true (by first | (with_reducible assumption) | assumption))
                      replace q28 := eq_true q28
                      have hnb48 := NB169_170.out
                      have hnc48 := NB170_169.out
                      have hcz49_0 : wc.cell? ⟨gb169, 0, none⟩ = some (.slice none 0 0) := (blk_cell BK169.out 0).trans rfl
                      have hcz49_1 : wc.cell? ⟨gb169, 1, none⟩ = some (.slice none 0 0) := (blk_cell BK169.out 1).trans rfl
                      have hfz49_0 := blk_frozen BK169.out 0
                      have hfz49_1 := blk_frozen BK169.out 1
                      go_wp2
                      refine bodyPost_ret (results_ct rfl _ _ gb169 24 #[.slice none 0 0, .slice none 0 0] (0, 0) _ rfl (by (with_reducible repeat (first | refine blk_drewN ?_ _ | refine blk_drew ?_ | refine blk_alloc ?_ _)); refine blk_put (cs := #[.slice none 0 0, .slice none 0 0]) ?_ 1 _ rfl; (with_reducible repeat (first | refine blk_drewN ?_ _ | refine blk_drew ?_ | refine blk_alloc ?_ _)); refine blk_put (cs := #[.slice none 0 0, .slice none 0 0]) ?_ 0 _ rfl; (with_reducible repeat (first | refine blk_drewN ?_ _ | refine blk_drew ?_ | refine blk_alloc ?_ _)); exact BK169.out) Try.underlying24 rfl (by kernel_rfl)) rfl ?_
                      exact ⟨_, _, by first | rfl | (simp [errW_none, errW_some] <;> rfl) | (simp [*, errW_none, errW_some] <;> rfl), by first | exact Kd.R_nil _ _ _ _ _ | exact Kd.N_nil _ _ _ _ _ | exact Kd.V_nil _ _ _ _ _ | exact Kd.Q_nil _ _ _ _ _ | exact Kd.S_nil _ _ _ _ _, by first | exact Kd.R_nil _ _ _ _ _ | exact Kd.N_nil _ _ _ _ _ | exact Kd.V_nil _ _ _ _ _ | exact Kd.Q_nil _ _ _ _ _ | exact Kd.S_nil _ _ _ _ _, by repeat (first | (with_reducible first | exact HB.out | apply below_alloc | apply pw_below_drewN | apply below_drew1 | refine below_set ?_ GE169.out | refine below_set ?_ GE170.out) | exact HB.out)⟩
                  · rw [if_neg c27] at H
                    exact absurd H (by simp)
        · rw [if_neg c7] at H
          exact absurd H (by simp)
      · rw [if_neg c6] at H
        have c6b0 : decide (x5_1 < (l0.length : Int)) = false := decide_eq_false c6
        clear c6
        simp only [Option.some.injEq, Prod.mk.injEq] at H
        obtain ⟨rfl, rfl, rfl⟩ := H
        have hnb50 := NB170_169.out
        have hnc50 := NB169_170.out
        have hcz51_0 : wr.cell? ⟨gb170, 0, none⟩ = some (u171000) := (blk_cell BK170.out 0).trans rfl
        have hcz51_1 : wr.cell? ⟨gb170, 1, none⟩ = some (u171001) := (blk_cell BK170.out 1).trans rfl
        have hfz51_0 := blk_frozen BK170.out 0
        have hfz51_1 := blk_frozen BK170.out 1
        obtain ⟨Ao52, co52, eo52⟩ := Kd.R_slice HO_171000.out
        subst eo52
        have hcz53_0 : wr.cell? ⟨gb169, 0, none⟩ = some (.slice none 0 0) := (blk_cell BK169.out 0).trans rfl
        have hcz53_1 : wr.cell? ⟨gb169, 1, none⟩ = some (.slice none 0 0) := (blk_cell BK169.out 1).trans rfl
        have hfz53_0 := blk_frozen BK169.out 0
        have hfz53_1 := blk_frozen BK169.out 1
        obtain ⟨Ao54, co54, eo54⟩ := Kd.R_slice HO_171001.out
        subst eo54
        go_wp2
        refine bodyPost_ret (results_ct rfl _ _ gb169 24 #[.slice Ao52 x171000_1.length co52, .slice Ao54 x171001_1.length co54] (0, 0) _ rfl (by (with_reducible repeat (first | refine blk_drewN ?_ _ | refine blk_drew ?_ | refine blk_alloc ?_ _)); refine blk_put (cs := #[.slice Ao52 x171000_1.length co52, .slice none 0 0]) ?_ 1 _ rfl; (with_reducible repeat (first | refine blk_drewN ?_ _ | refine blk_drew ?_ | refine blk_alloc ?_ _)); refine blk_put (cs := #[.slice none 0 0, .slice none 0 0]) ?_ 0 _ rfl; (with_reducible repeat (first | refine blk_drewN ?_ _ | refine blk_drew ?_ | refine blk_alloc ?_ _)); exact BK169.out) Try.underlying24 rfl (by kernel_rfl)) rfl ?_
        exact ⟨_, _, by first | rfl | (simp [errW_none, errW_some] <;> rfl) | (simp [*, errW_none, errW_some] <;> rfl), by (with_reducible repeat (first | apply Kd.R_alloc | apply Kd.R_drewN | apply Kd.R_drew)); exact Kd.R_mono (Kd.R_far (p := ⟨gb169, 1, none⟩) (Kd.R_far (p := ⟨gb169, 0, none⟩) (Kd.R_types HO_171000.out BK169.out (by decide)) (fun _ hk => hk.2) (.slice Ao52 x171000_1.length co52)) (fun _ hk => hk.2) (.slice Ao54 x171001_1.length co54)) (fun _ hk => hk.1), by (with_reducible repeat (first | apply Kd.R_alloc | apply Kd.R_drewN | apply Kd.R_drew)); exact Kd.R_mono (Kd.R_far (p := ⟨gb169, 1, none⟩) (Kd.R_far (p := ⟨gb169, 0, none⟩) (Kd.R_types HO_171001.out BK169.out (by decide)) (fun _ hk => hk.2) (.slice Ao52 x171000_1.length co52)) (fun _ hk => hk.2) (.slice Ao54 x171001_1.length co54)) (fun _ hk => hk.1), by repeat (first | (with_reducible first | exact HB.out | apply below_alloc | apply pw_below_drewN | apply below_drew1 | refine below_set ?_ GE169.out | refine below_set ?_ GE170.out) | exact HB.out)⟩

end Go.Proofs.Ythcdlgphabaidaa.PB
