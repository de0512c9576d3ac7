-- Made by a program of this workplace out of the translation (wip/tools in the repo). Not trusted: Lean checks it.
import Derived.Test.YtlacmlceedkfoaaPEx0
import Derived.Test.YtlacmlceedkfoaaPEx3
import Derived.Test.YtlacmlceedkfoaaPEx4
import Derived.Test.YtlacmlceedkfoaaPEx5
namespace Go.Proofs.Ytlacmlceedkfoaa.PE
open Go.RowKit Go.Proofs.YtlacmlceedkfoaaW.PrintWords Go.Proofs.YtlacmlceedkfoaaW.PrintLast Go.Proofs.YtlacmlceedkfoaaW.PrintMore
attribute [local go_sem] max2_int min2_int max_two min_two max_three min_three max_four min_four   -- for this text's walks alone
set_option linter.unusedVariables false
set_option linter.unusedSimpArgs false

/-! ### table_Range: function 37 -/
set_option maxHeartbeats 8000000 in
set_option maxRecDepth 100000 in
theorem table_Range.calls (k : Nat) (A0 : Option Addr) (c0 : Nat) (l0 : List (S59)) (a1 : ByteArray) (a2 : ByteArray) (a3 : Int) (r : List (S59)) (w : World) (hr0 : Kd.C k59 w A0 l0.length l0) (hc0 : l0.length ≤ c0) (h : table_Range.f k l0 a1 a2 a3 = some r) :
    Calls Try.prog 37 #[.slice A0 l0.length c0, .string a1, .string a2, .int .i64 a3] w fun e w' => ∃ v0_ : Value, e = .returned (v0_) ∧ Kd.R k59 59 w' w.heap.size (fun _ => True) v0_ r ∧ Below w.heap.size w w' := by
  have hu59 := Try.underlying59
  have HR0 := Aside0.mk hr0
  have HC0 := Aside0.mk hc0
  clear hr0 hc0
  have HB := Aside0.mk (Below.refl w.heap.size w)
  have H : (table_Range.l0 k a1 a2 a3 ([] : List (S59)) l0 (l0.length : Int) 0) = some r := h
  clear h
  have H' := Aside0.mk H
  clear H
  go_enter Try.func37, Try.ntmps37
  go_wp2
  go_loopg [9, 14] k (fun kq v9 v14 w' => ∃ (x9_1 : List (S59)) (x14_1 : Int), v14 = .int .i64 x14_1 ∧ Aside0 (table_Range.l0 kq a1 a2 a3 x9_1 l0 (l0.length : Int) x14_1 = some r) ∧ Aside0 (kq ≤ k) ∧ Aside0 (Kd.R k59 59 w' w.heap.size (fun _ => True) v9 x9_1) ∧ Aside0 (Below w.heap.size w w'))
  case atStart => exact ⟨(([] : List (S59))), (0), (by first | rfl | (simp; done) | (simp [*]; done)), H', ⟨Nat.le_refl _⟩, ⟨by first | exact Kd.R_nil _ _ _ _ _ | exact Kd.N_nil _ _ _ _ _ | exact Kd.V_nil _ _ _ _ _ | exact Kd.Q_nil _ _ _ _ _ | exact Kd.S_nil _ _ _ _ _⟩, ⟨by repeat (first | (with_reducible first | exact HB.out | apply below_alloc | apply pw_below_drewN | apply below_drew1) | exact HB.out)⟩⟩
  case round =>
    clear H'
    try clear p2
    try clear c3
    obtain ⟨x9_1, x14_1, rfl, HA, HK1, HO_9, HB⟩ := hrel
    cases gk with
    | zero => exact absurd HA.out (by simp [table_Range.l0])
    | succ k1 =>
      have H := HA.out
      clear HA
      simp only [table_Range.l0] at H
      by_cases c5 : x14_1 < (l0.length : Int)
      · rw [if_pos c5] at H
        have c5b0 : decide (x14_1 < (l0.length : Int)) = true := decide_eq_true c5
        clear c5
        by_cases c6 : 0 ≤ x14_1
        · rw [if_pos c6] at H
          have c6b0 : decide (0 ≤ x14_1) = true := decide_eq_true c6
          clear c6
          by_cases c7 : x14_1 < (l0.length : Int)
          · rw [if_pos c7] at H
            have c7b0 : decide (x14_1 < (l0.length : Int)) = true := decide_eq_true c7
            clear c7
            by_cases c8 : (x9_1.length : Int) ≥ a3
            · rw [if_pos c8] at H
              have c8b0 : decide (a3 ≤ (x9_1.length : Int)) = true := decide_eq_true c8
              clear c8
              obtain rfl := Option.some.inj H
              have p111 : 0 ≤ (x14_1 : Int) := of_decide_eq_true (by first | (with_reducible assumption) | assumption)
              have q111 : x14_1 < (l0.length : Int) := of_decide_eq_true (by first | (with_reducible assumption) | assumption)
              obtain ⟨ad111, e111, hx111_0, hx111_1⟩ := at_T59 HR0.out x14_1 p111 q111
              cases e111
              replace hx111_0 := (HB.out.cell (World.block_lt_of_cell? w _ hx111_0)).trans hx111_0
              replace hx111_1 := (HB.out.cell (World.block_lt_of_cell? w _ hx111_1)).trans hx111_1
              replace p111 := eq_true p111
              replace q111 := eq_true q111
              go_wp2_with (first | ((with_reducible refine gate_dst (N := 11) rfl ?_); refine box_event ?hg (N := 11) ?hd (cs := #[.string (⟨#[]⟩ : ByteArray), .string (⟨#[]⟩ : ByteArray)]) (t := 59) ?hr ?_; (case hd => rfl); (case hg => rfl); (case hr => first | (go_simp; done) | (go_simp; rfl)); intro gb112 hg w9 hbox hb; have n0_ := Aside0.mk (Kd.R_below (Kd.R_elderB (by (with_reducible repeat (first | apply Kd.R_alloc | apply Kd.R_drewN | apply Kd.R_drew)); exact HO_9.out) gb112 (Nat.le_of_eq hg.symm)) hb); have n1_ := Aside0.mk (below_step (by repeat (first | (with_reducible first | exact HB.out | apply below_alloc | apply pw_below_drewN | apply below_drew1) | exact HB.out)) hb); have n2_ := Aside0.mk (hbox); have n3_ := Aside0.mk ((by rw [hg]; exact (below_size (by repeat (first | (with_reducible first | exact HB.out | apply below_alloc | apply pw_below_drewN | apply below_drew1) | exact HB.out))) : w.heap.size ≤ gb112)); have n4_ := Aside0.mk ((by rw [hg]; exact (below_size (by repeat (first | (with_reducible first | exact HB.out | apply below_alloc | apply pw_below_drewN | apply below_drew1) | exact HB.out))) : w.heap.size ≤ gb112)); clear HO_9; clear HB; have HO_9 := n0_; have HB := n1_; have BK112 := n2_; have GW112 := n3_; have GE112 := n4_; clear n0_ n1_ n2_ n3_ n4_; clear hb hbox hg; have hcz10_0 : w9.cell? ⟨gb112, 0, none⟩ = some (.string (⟨#[]⟩ : ByteArray)) := (blk_cell BK112.out 0).trans rfl; have hcz10_1 : w9.cell? ⟨gb112, 1, none⟩ = some (.string (⟨#[]⟩ : ByteArray)) := (blk_cell BK112.out 1).trans rfl; have hfz10_0 := blk_frozen BK112.out 0; have hfz10_1 := blk_frozen BK112.out 1; obtain ⟨Ao11, co11, eo11⟩ := Kd.R_slice HO_9.out; subst eo11))
              go_ret
              exact ⟨_, by first | rfl | (simp [errW_none, errW_some] <;> rfl) | (simp [*, errW_none, errW_some] <;> rfl), by (with_reducible repeat (first | apply Kd.R_alloc | apply Kd.R_drewN | apply Kd.R_drew)); exact Kd.R_mono (Kd.R_far (p := ⟨gb112, 1, none⟩) (Kd.R_far (p := ⟨gb112, 0, none⟩) (Kd.R_mono HO_9.out (fun k_ hk => (⟨hk, hk.2⟩ : _ ∧ k_ ≠ gb112))) (fun _ hk => hk.2) (.string ((rd_T59 l0 x14_1).f0))) (fun _ hk => hk.2) (.string ((rd_T59 l0 x14_1).f1))) (fun _ hk => trivial), by repeat (first | (with_reducible first | exact HB.out | apply below_alloc | apply pw_below_drewN | apply below_drew1 | refine below_set ?_ GE112.out) | exact HB.out)⟩
            · rw [if_neg c8] at H
              have c8b0 : decide (a3 ≤ (x9_1.length : Int)) = false := decide_eq_false c8
              clear c8
              replace H := Option.bind_eq_some_iff.mp H
              obtain ⟨t113, A120, H⟩ := H
              replace H : (if t113 = true then (if x9_1.length < 4398046511104 then (table_Range.l0 k1 a1 a2 a3 (x9_1 ++ [(⟨(rd_T59 l0 x14_1).f0, (rd_T59 l0 x14_1).f1⟩ : S59)]) l0 (l0.length : Int) (wrap64 (x14_1 + 1))) else (none)) else (table_Range.l0 k1 a1 a2 a3 x9_1 l0 (l0.length : Int) (wrap64 (x14_1 + 1)))) = some r := H
              have A12 := Aside0.mk A120
              clear A120
              by_cases c13 : t113 = true
              · subst c13
                have H1 : (if x9_1.length < 4398046511104 then (table_Range.l0 k1 a1 a2 a3 (x9_1 ++ [(⟨(rd_T59 l0 x14_1).f0, (rd_T59 l0 x14_1).f1⟩ : S59)]) l0 (l0.length : Int) (wrap64 (x14_1 + 1))) else (none)) = some r := by rw [if_pos rfl] at H; exact H
                clear H
                have H := H1
                clear H1
                by_cases c14 : x9_1.length < 4398046511104
                · rw [if_pos c14] at H
                  have LMc14 := Aside0.mk c14
                  clear c14
                  obtain ⟨y114, hy114⟩ : ∃ y_ : List (S59), y_ = (x9_1 ++ [(⟨(rd_T59 l0 x14_1).f0, (rd_T59 l0 x14_1).f1⟩ : S59)]) := ⟨_, rfl⟩
                  replace H : (table_Range.l0 k1 a1 a2 a3 y114 l0 (l0.length : Int) (wrap64 (x14_1 + 1))) = some r := by first | (rw [hy114]; with_reducible exact H) | (have H2_ := (Option.bind_some _ _).symm.trans H; rw [hy114]; with_reducible exact H2_) | (have H2_ := (Option.bind_some _ _).symm.trans H; with_reducible exact H2_) | with_reducible exact H | (rw [hy114]; exact H) | exact H
                  have Ny114 := Aside0.mk hy114
                  clear hy114
                  have H' := Aside0.mk H
                  clear H
                  have p111 : 0 ≤ (x14_1 : Int) := of_decide_eq_true (by first | (with_reducible assumption) | assumption)
                  have q111 : x14_1 < (l0.length : Int) := of_decide_eq_true (by first | (with_reducible assumption) | assumption)
                  obtain ⟨ad111, e111, hx111_0, hx111_1⟩ := at_T59 HR0.out x14_1 p111 q111
                  cases e111
                  replace hx111_0 := (HB.out.cell (World.block_lt_of_cell? w _ hx111_0)).trans hx111_0
                  replace hx111_1 := (HB.out.cell (World.block_lt_of_cell? w _ hx111_1)).trans hx111_1
                  replace p111 := eq_true p111
                  replace q111 := eq_true q111
                  go_wp2_with (first | ((with_reducible refine gate_dst (N := 11) rfl ?_); refine box_event ?hg (N := 11) ?hd (cs := #[.string (⟨#[]⟩ : ByteArray), .string (⟨#[]⟩ : ByteArray)]) (t := 59) ?hr ?_; (case hd => rfl); (case hg => rfl); (case hr => first | (go_simp; done) | (go_simp; rfl)); intro gb112 hg w15 hbox hb; have n0_ := Aside0.mk (Kd.R_below (Kd.R_elderB (by (with_reducible repeat (first | apply Kd.R_alloc | apply Kd.R_drewN | apply Kd.R_drew)); exact HO_9.out) gb112 (Nat.le_of_eq hg.symm)) hb); have n1_ := Aside0.mk (below_step (by repeat (first | (with_reducible first | exact HB.out | apply below_alloc | apply pw_below_drewN | apply below_drew1) | exact HB.out)) hb); have n2_ := Aside0.mk (hbox); have n3_ := Aside0.mk ((by rw [hg]; exact (below_size (by repeat (first | (with_reducible first | exact HB.out | apply below_alloc | apply pw_below_drewN | apply below_drew1) | exact HB.out))) : w.heap.size ≤ gb112)); have n4_ := Aside0.mk ((by rw [hg]; exact (below_size (by repeat (first | (with_reducible first | exact HB.out | apply below_alloc | apply pw_below_drewN | apply below_drew1) | exact HB.out))) : w.heap.size ≤ gb112)); clear HO_9; clear HB; have HO_9 := n0_; have HB := n1_; have BK112 := n2_; have GW112 := n3_; have GE112 := n4_; clear n0_ n1_ n2_ n3_ n4_; clear hb hbox hg; have hcz16_0 : w15.cell? ⟨gb112, 0, none⟩ = some (.string (⟨#[]⟩ : ByteArray)) := (blk_cell BK112.out 0).trans rfl; have hcz16_1 : w15.cell? ⟨gb112, 1, none⟩ = some (.string (⟨#[]⟩ : ByteArray)) := (blk_cell BK112.out 1).trans rfl; have hfz16_0 := blk_frozen BK112.out 0; have hfz16_1 := blk_frozen BK112.out 1; obtain ⟨Ao17, co17, eo17⟩ := Kd.R_slice HO_9.out; subst eo17) | ((with_reducible refine gate_callee (f := 51) rfl ?_); refine goesL_ (some 26) rfl rfl Try.func51 (by kernel_rfl) rfl #[.string ((rd_T59 l0 x14_1).f0), .string a1, .string a2] rfl (by (try simp only [List.map_toArray, List.map_cons, List.map_nil]); first | done | rfl | (simp only [List.length_drop, List.length_take]; rfl)) ?_; (with_reducible refine (table_Between.calls ((rd_T59 l0 x14_1).f0) a1 a2 true _ A12.out).mono ?_); rintro e w' ⟨rfl, ⟨nd, rfl⟩⟩; refine ⟨_, rfl, ?_⟩) | ((with_reducible refine gate_builtin (b := .append) (xs := #[.tmp 27, .tmp 29]) rfl ?_); at_builtin; refine Kd.R_append k59 (w0 := w) w.heap.size rfl (.tmp 27) (.tmp 29) 23 59 (.agg #[(.string ⟨#[]⟩), (.string ⟨#[]⟩)]) 32 rfl Try.underlying23 info59 rfl (by decide) (by omega) (.slice Ao17 x9_1.length co17) x9_1 (⟨(rd_T59 l0 x14_1).f0, (rd_T59 l0 x14_1).f1⟩ : S59) [.string ((rd_T59 l0 x14_1).f0), .string ((rd_T59 l0 x14_1).f1)] (fun k_ => k_ ≠ gb112) (fun _ => False) rfl (by first | (go_simp; done) | (go_simp; rfl)) ?aP (fun _ hk => hk.elim) ?aF ?aO ?aB ?aS ?aL ?_; (case aP => exact k59_mkM _ _ _ (⟨(rd_T59 l0 x14_1).f0, (rd_T59 l0 x14_1).f1⟩ : S59)); (case aB => exact (by repeat (first | (with_reducible first | exact HB.out | apply below_alloc | apply pw_below_drewN | apply below_drew1 | refine below_set ?_ GE112.out) | exact HB.out))); (case aF => exact (fun k_ hk => Kd.freshB (g := gb112) (o := .cells #[.string ((rd_T59 l0 x14_1).f0), .string ((rd_T59 l0 x14_1).f1)] 59 (0, 0)) (by (with_reducible repeat (first | refine blk_drewN ?_ _ | refine blk_drew ?_ | refine blk_alloc ?_ _)); refine blk_put (cs := #[.string ((rd_T59 l0 x14_1).f0), .string (⟨#[]⟩ : ByteArray)]) ?_ 1 _ rfl; (with_reducible repeat (first | refine blk_drewN ?_ _ | refine blk_drew ?_ | refine blk_alloc ?_ _)); refine blk_put (cs := #[.string (⟨#[]⟩ : ByteArray), .string (⟨#[]⟩ : ByteArray)]) ?_ 0 _ rfl; (with_reducible repeat (first | refine blk_drewN ?_ _ | refine blk_drew ?_ | refine blk_alloc ?_ _)); exact BK112.out) k_ hk)); (case aO => exact (by (with_reducible repeat (first | apply Kd.R_alloc | apply Kd.R_drewN | apply Kd.R_drew)); exact Kd.R_mono (Kd.R_far (p := ⟨gb112, 1, none⟩) (Kd.R_far (p := ⟨gb112, 0, none⟩) (Kd.R_mono HO_9.out (fun k_ hk => (⟨hk, hk.2⟩ : _ ∧ k_ ≠ gb112))) (fun _ hk => hk.2) (.string ((rd_T59 l0 x14_1).f0))) (fun _ hk => hk.2) (.string ((rd_T59 l0 x14_1).f1))) (fun _ hk => hk.1.2))); (case aS => exact (below_size (by repeat (first | (with_reducible first | exact HB.out | apply below_alloc | apply pw_below_drewN | apply below_drew1 | refine below_set ?_ GE112.out) | exact HB.out)))); (case aL => have := LMc14.out; omega); intro v115 w18 ho hb hg hat; rw [← Ny114.out] at ho; have n0_ := Aside0.mk (blk_grown (g := gb112) (o := .cells #[.string ((rd_T59 l0 x14_1).f0), .string ((rd_T59 l0 x14_1).f1)] 59 (0, 0)) (by (with_reducible repeat (first | refine blk_drewN ?_ _ | refine blk_drew ?_ | refine blk_alloc ?_ _)); refine blk_put (cs := #[.string ((rd_T59 l0 x14_1).f0), .string (⟨#[]⟩ : ByteArray)]) ?_ 1 _ rfl; (with_reducible repeat (first | refine blk_drewN ?_ _ | refine blk_drew ?_ | refine blk_alloc ?_ _)); refine blk_put (cs := #[.string (⟨#[]⟩ : ByteArray), .string (⟨#[]⟩ : ByteArray)]) ?_ 0 _ rfl; (with_reducible repeat (first | refine blk_drewN ?_ _ | refine blk_drew ?_ | refine blk_alloc ?_ _)); exact BK112.out) hg (Kd.R_away HO_9.out (fun _ hk => hk.2))); have n1_ := Aside0.mk (hb); have n2_ := Aside0.mk (ho); clear BK112; clear HB; clear HO_9; have BK112 := n0_; have HB := n1_; have HO116 := n2_; clear n0_ n1_ n2_; clear ho hb hg hat))
                  go_roundg k1
                  case measure => have := HK1.out; omega
                  case rel => exact ⟨(y114), (wrap64 (x14_1 + 1)), (by first | rfl | (simp; done) | (simp [*]; done)), H', ⟨by have := HK1.out; omega⟩, ⟨by (with_reducible repeat (first | apply Kd.R_alloc | apply Kd.R_drewN | apply Kd.R_drew)); exact Kd.R_mono HO116.out (fun _ hk => trivial)⟩, ⟨by repeat (first | (with_reducible first | exact HB.out | apply below_alloc | apply pw_below_drewN | apply below_drew1 | refine below_set ?_ GE112.out) | exact HB.out)⟩⟩
                · rw [if_neg c14] at H
                  exact absurd H (by simp)
              · replace c13 := Bool.eq_false_iff.mpr c13
                subst c13
                have H1 : (table_Range.l0 k1 a1 a2 a3 x9_1 l0 (l0.length : Int) (wrap64 (x14_1 + 1))) = some r := by rw [if_neg (show ¬ (false = true) by decide)] at H; exact H
                clear H
                have H := H1
                clear H1
                have H' := Aside0.mk H
                clear H
                have p111 : 0 ≤ (x14_1 : Int) := of_decide_eq_true (by first | (with_reducible assumption) | assumption)
                have q111 : x14_1 < (l0.length : Int) := of_decide_eq_true (by first | (with_reducible assumption) | assumption)
                obtain ⟨ad111, e111, hx111_0, hx111_1⟩ := at_T59 HR0.out x14_1 p111 q111
                cases e111
                replace hx111_0 := (HB.out.cell (World.block_lt_of_cell? w _ hx111_0)).trans hx111_0
                replace hx111_1 := (HB.out.cell (World.block_lt_of_cell? w _ hx111_1)).trans hx111_1
                replace p111 := eq_true p111
                replace q111 := eq_true q111
                go_wp2_with (first | ((with_reducible refine gate_dst (N := 11) rfl ?_); refine box_event ?hg (N := 11) ?hd (cs := #[.string (⟨#[]⟩ : ByteArray), .string (⟨#[]⟩ : ByteArray)]) (t := 59) ?hr ?_; (case hd => rfl); (case hg => rfl); (case hr => first | (go_simp; done) | (go_simp; rfl)); intro gb112 hg w19 hbox hb; have n0_ := Aside0.mk (Kd.R_below (Kd.R_elderB (by (with_reducible repeat (first | apply Kd.R_alloc | apply Kd.R_drewN | apply Kd.R_drew)); exact HO_9.out) gb112 (Nat.le_of_eq hg.symm)) hb); have n1_ := Aside0.mk (below_step (by repeat (first | (with_reducible first | exact HB.out | apply below_alloc | apply pw_below_drewN | apply below_drew1) | exact HB.out)) hb); have n2_ := Aside0.mk (hbox); have n3_ := Aside0.mk ((by rw [hg]; exact (below_size (by repeat (first | (with_reducible first | exact HB.out | apply below_alloc | apply pw_below_drewN | apply below_drew1) | exact HB.out))) : w.heap.size ≤ gb112)); have n4_ := Aside0.mk ((by rw [hg]; exact (below_size (by repeat (first | (with_reducible first | exact HB.out | apply below_alloc | apply pw_below_drewN | apply below_drew1) | exact HB.out))) : w.heap.size ≤ gb112)); clear HO_9; clear HB; have HO_9 := n0_; have HB := n1_; have BK112 := n2_; have GW112 := n3_; have GE112 := n4_; clear n0_ n1_ n2_ n3_ n4_; clear hb hbox hg; have hcz20_0 : w19.cell? ⟨gb112, 0, none⟩ = some (.string (⟨#[]⟩ : ByteArray)) := (blk_cell BK112.out 0).trans rfl; have hcz20_1 : w19.cell? ⟨gb112, 1, none⟩ = some (.string (⟨#[]⟩ : ByteArray)) := (blk_cell BK112.out 1).trans rfl; have hfz20_0 := blk_frozen BK112.out 0; have hfz20_1 := blk_frozen BK112.out 1; obtain ⟨Ao21, co21, eo21⟩ := Kd.R_slice HO_9.out; subst eo21) | ((with_reducible refine gate_callee (f := 51) rfl ?_); refine goesL_ (some 26) rfl rfl Try.func51 (by kernel_rfl) rfl #[.string ((rd_T59 l0 x14_1).f0), .string a1, .string a2] rfl (by (try simp only [List.map_toArray, List.map_cons, List.map_nil]); first | done | rfl | (simp only [List.length_drop, List.length_take]; rfl)) ?_; (with_reducible refine (table_Between.calls ((rd_T59 l0 x14_1).f0) a1 a2 false _ A12.out).mono ?_); rintro e w' ⟨rfl, ⟨nd, rfl⟩⟩; refine ⟨_, rfl, ?_⟩))
                go_roundg k1
                case measure => have := HK1.out; omega
                case rel => exact ⟨(x9_1), (wrap64 (x14_1 + 1)), (by first | rfl | (simp; done) | (simp [*]; done)), H', ⟨by have := HK1.out; omega⟩, ⟨by (with_reducible repeat (first | apply Kd.R_alloc | apply Kd.R_drewN | apply Kd.R_drew)); exact Kd.R_mono (Kd.R_far (p := ⟨gb112, 1, none⟩) (Kd.R_far (p := ⟨gb112, 0, none⟩) (Kd.R_mono HO_9.out (fun k_ hk => (⟨hk, hk.2⟩ : _ ∧ k_ ≠ gb112))) (fun _ hk => hk.2) (.string ((rd_T59 l0 x14_1).f0))) (fun _ hk => hk.2) (.string ((rd_T59 l0 x14_1).f1))) (fun _ hk => trivial)⟩, ⟨by repeat (first | (with_reducible first | exact HB.out | apply below_alloc | apply pw_below_drewN | apply below_drew1 | refine below_set ?_ GE112.out) | exact HB.out)⟩⟩
          · rw [if_neg c7] at H
            exact absurd H (by simp)
        · rw [if_neg c6] at H
          exact absurd H (by simp)
      · rw [if_neg c5] at H
        have c5b0 : decide (x14_1 < (l0.length : Int)) = false := decide_eq_false c5
        clear c5
        obtain rfl := Option.some.inj H
        go_wp2
        go_ret
        exact ⟨_, by first | rfl | (simp [errW_none, errW_some] <;> rfl) | (simp [*, errW_none, errW_some] <;> rfl), by (with_reducible repeat (first | apply Kd.R_alloc | apply Kd.R_drewN | apply Kd.R_drew)); exact HO_9.out, by repeat (first | (with_reducible first | exact HB.out | apply below_alloc | apply pw_below_drewN | apply below_drew1) | exact HB.out)⟩

/-! ### view_Scan: function 25 -/
set_option maxHeartbeats 8000000 in
set_option maxRecDepth 100000 in
theorem view_Scan.calls (k : Nat) (A0 : Option Addr) (c0 : Nat) (l0 : List (S61)) (A1 : Option Addr) (c1 : Nat) (l1 : List (S59)) (a2 : ByteArray) (a3 : ByteArray) (a4 : Int) (r : List (S59)) (w : World) (hr0 : Kd.C k61 w A0 l0.length l0) (hc0 : l0.length ≤ c0) (hr1 : Kd.C k59 w A1 l1.length l1) (hc1 : l1.length ≤ c1) (h : view_Scan.f k l0 l1 a2 a3 a4 = some r) :
    Calls Try.prog 25 #[.slice A0 l0.length c0, .slice A1 l1.length c1, .string a2, .string a3, .int .i64 a4] w fun e w' => ∃ v0_ : Value, e = .returned (v0_) ∧ Kd.R k59 59 w' w.heap.size (fun _ => True) v0_ r ∧ Below w.heap.size w w' := by
  have HR0 := Aside0.mk hr0
  have HC0 := Aside0.mk hc0
  clear hr0 hc0
  have HR1 := Aside0.mk hr1
  have HC1 := Aside0.mk hc1
  clear hr1 hc1
  have HB := Aside0.mk (Below.refl w.heap.size w)
  have H : ((table_Apply.f l1 l0).bind fun t117 => ((table_Range.f k t117 a2 a3 a4).bind fun t120 => (some t120))) = some r := h
  clear h
  replace H := Option.bind_eq_some_iff.mp H
  obtain ⟨t117, A60, H⟩ := H
  replace H : ((table_Range.f k t117 a2 a3 a4).bind fun t120 => (some t120)) = some r := H
  have A6 := Aside0.mk A60
  clear A60
  replace H := Option.bind_eq_some_iff.mp H
  obtain ⟨t120, A70, H⟩ := H
  replace H : (some t120) = some r := H
  have A7 := Aside0.mk A70
  clear A70
  obtain rfl := Option.some.inj H
  go_enter Try.func25, Try.ntmps25
  go_wp2_with (first | ((with_reducible refine gate_callee (f := 30) rfl ?_); refine goesL_ (some 13) rfl rfl Try.func30 (by kernel_rfl) rfl #[.slice A1 l1.length c1, .slice A0 l0.length c0] rfl (by (try simp only [List.map_toArray, List.map_cons, List.map_nil]); first | done | rfl | (simp only [List.length_drop, List.length_take]; rfl)) ?_; (with_reducible refine (table_Apply.calls _ _ l1 _ _ l0 t117 _ ?side1 ?side2 ?side3 ?side4 A6.out).mono ?_); (case side1 => repeat (first | exact HR1.out | (with_reducible refine Kd.C_alloc ?_ _) | (with_reducible refine Kd.C_drewN ?_ _) | (with_reducible refine Kd.C_drew ?_))); (case side2 => exact HC1.out); (case side3 => repeat (first | exact HR0.out | (with_reducible refine Kd.C_alloc ?_ _) | (with_reducible refine Kd.C_drewN ?_ _) | (with_reducible refine Kd.C_drew ?_))); (case side4 => exact HC0.out); rintro e w8 ⟨v118, rfl, ho0, hb⟩; refine ⟨_, rfl, ?_⟩; have n0_ := Aside0.mk (Kd.R_lower ho0 (below_size (by repeat (first | (with_reducible first | exact HB.out | apply below_alloc | apply pw_below_drewN | apply below_drew1) | exact HB.out)))); have n1_ := Aside0.mk (below_step (by repeat (first | (with_reducible first | exact HB.out | apply below_alloc | apply pw_below_drewN | apply below_drew1) | exact HB.out)) hb); clear HB; have HO119 := n0_; have HB := n1_; clear n0_ n1_; (try clear hb); (try clear hb2); (try clear hk); (try clear hi); (try clear ho0); obtain ⟨Ao9, co9, eo9⟩ := Kd.R_slice HO119.out; subst eo9) | ((with_reducible refine gate_callee (f := 37) rfl ?_); refine goesL_ (some 17) rfl rfl Try.func37 (by kernel_rfl) rfl #[.slice Ao9 t117.length co9, .string a2, .string a3, .int .i64 a4] rfl (by (try simp only [List.map_toArray, List.map_cons, List.map_nil]); first | done | rfl | (simp only [List.length_drop, List.length_take]; rfl)) ?_; (with_reducible refine (table_Range.calls k _ _ t117 a2 a3 a4 t120 _ ?side1 ?side2 A7.out).mono ?_); (case side1 => repeat (first | exact (Kd.R_reads' HO119.out).2.2 | (with_reducible refine Kd.C_alloc ?_ _) | (with_reducible refine Kd.C_drewN ?_ _) | (with_reducible refine Kd.C_drew ?_))); (case side2 => exact (Kd.R_reads' HO119.out).2.1); rintro e w10 ⟨v121, rfl, ho0, hb⟩; refine ⟨_, rfl, ?_⟩; have n0_ := Aside0.mk (Kd.R_elder' (by (with_reducible repeat (first | apply Kd.R_alloc | apply Kd.R_drewN | apply Kd.R_drew)); exact HO119.out) (Kd.R_base ho0) hb); have n1_ := Aside0.mk (Kd.R_lower (Kd.R_new' ho0 (Kd.R_lt (by (with_reducible repeat (first | apply Kd.R_alloc | apply Kd.R_drewN | apply Kd.R_drew)); exact HO119.out))) (below_size (by repeat (first | (with_reducible first | exact HB.out | apply below_alloc | apply pw_below_drewN | apply below_drew1) | exact HB.out)))); have n2_ := Aside0.mk (below_step (by repeat (first | (with_reducible first | exact HB.out | apply below_alloc | apply pw_below_drewN | apply below_drew1) | exact HB.out)) hb); clear HO119; clear HB; have HO119 := n0_; have HO122 := n1_; have HB := n2_; clear n0_ n1_ n2_; (try clear hb); (try clear hb2); (try clear hk); (try clear hi); (try clear ho0)))
  go_ret
  exact ⟨_, by first | rfl | (simp [errW_none, errW_some] <;> rfl) | (simp [*, errW_none, errW_some] <;> rfl), by (with_reducible repeat (first | apply Kd.R_alloc | apply Kd.R_drewN | apply Kd.R_drew)); exact Kd.R_mono HO122.out (fun _ hk => trivial), by repeat (first | (with_reducible first | exact HB.out | apply below_alloc | apply pw_below_drewN | apply below_drew1) | exact HB.out)⟩

/-! ### api_Write_39: function 39 -/
set_option maxHeartbeats 8000000 in
set_option maxRecDepth 100000 in
theorem api_Write_39.calls (A0 : Option Addr) (c0 : Nat) (l0 : List (S61)) (r : List (S61)) (w : World) (hr0 : Kd.C k61 w A0 l0.length l0) (hc0 : l0.length ≤ c0) (h : api_Write_39.f l0 = some r) :
    Calls Try.prog 39 #[.slice A0 l0.length c0] w fun e w' => ∃ v0_ : Value, e = .returned (v0_) ∧ Kd.R k61 61 w' w.heap.size (fun _ => True) v0_ r ∧ Below w.heap.size w w' := by
  have HR0 := Aside0.mk hr0
  have HC0 := Aside0.mk hc0
  clear hr0 hc0
  have HB := Aside0.mk (Below.refl w.heap.size w)
  have H : ((some (([] : List (S61)) : List (S61))).bind fun y123 => (if y123.length + l0.length < 3518437208883 then (some (y123 ++ l0)) else (none))) = some r := h
  clear h
  obtain ⟨y123, hy123⟩ : ∃ y_ : List (S61), y_ = (([] : List (S61))) := ⟨_, rfl⟩
  replace H : (if y123.length + l0.length < 3518437208883 then (some (y123 ++ l0)) else (none)) = some r := by first | (rw [hy123]; with_reducible exact H) | (have H2_ := (Option.bind_some _ _).symm.trans H; rw [hy123]; with_reducible exact H2_) | (have H2_ := (Option.bind_some _ _).symm.trans H; with_reducible exact H2_) | with_reducible exact H | (rw [hy123]; exact H) | exact H
  have Ny123 := Aside0.mk hy123
  clear hy123
  by_cases c2 : y123.length + l0.length < 3518437208883
  · rw [if_pos c2] at H
    have LMc2 := Aside0.mk c2
    clear c2
    obtain ⟨y126, hy126⟩ : ∃ y_ : List (S61), y_ = (y123 ++ l0) := ⟨_, rfl⟩
    replace H : (some y126) = some r := by first | (rw [hy126]; with_reducible exact H) | (have H2_ := (Option.bind_some _ _).symm.trans H; rw [hy126]; with_reducible exact H2_) | (have H2_ := (Option.bind_some _ _).symm.trans H; with_reducible exact H2_) | with_reducible exact H | (rw [hy126]; exact H) | exact H
    have Ny126 := Aside0.mk hy126
    clear hy126
    obtain rfl := Option.some.inj H
    have qT := fun (w : World) (a : Option Addr) (l c : Nat) => Lib.run_eql_slice_nil (P := Try.prog) w 22 61 a l c 0 0 Try.underlying22
    rcases A0 with _ | ad0
    · have hl : l0 = [] := by
        rcases l0 with _ | ⟨x_, l_⟩
        · rfl
        · obtain ⟨_, h_, _⟩ := HR0.out.2.2 (by simp)
          cases h_
      have hy := Aside0.mk (show y126 = [] by rw [Ny126.out, Ny123.out, hl]; rfl)
      clear hl
      go_enter Try.func39, Try.ntmps39
      go_wp2
      go_ret
      exact ⟨_, rfl, by rw [hy.out]; exact Kd.R_nil _ _ _ _ _, HB.out⟩
    · go_enter Try.func39, Try.ntmps39
      go_wp2_with (first | ((with_reducible refine gate_dst (N := 5) rfl ?_); refine Kd.R_lit k61 _ 61 ?hg (N := 5) ?hd (xs := ([] : List (S61))) (inner := []) (ok := fun _ => True) (okp := fun _ => True) ?hr ?hp (fun _ hk => hk) trivial (Below.refl _ _) (Nat.le_refl _) (by simp) ?_; (case hd => rfl); (case hg => rfl); (case hr => first | (go_simp; done) | (go_simp; rfl)); (case hp => exact (Reps.none _ _)); intro v124 w3 ho4 hb hg_ hnew_; clear hg_ hnew_; (first | rw [← Ny123.out] at ho4 | (simp only [Int.reduceToNat] at ho4; rw [← Ny123.out] at ho4)); have n0_ := Aside0.mk (Kd.R_lower ho4 (below_size (by repeat (first | (with_reducible first | exact HB.out | apply below_alloc | apply pw_below_drewN | apply below_drew1) | exact HB.out)))); have n1_ := Aside0.mk (below_step (by repeat (first | (with_reducible first | exact HB.out | apply below_alloc | apply pw_below_drewN | apply below_drew1) | exact HB.out)) hb); clear HB; have HO125 := n0_; have HB := n1_; clear n0_ n1_; clear hb ho4) | ((with_reducible refine gate_builtin (b := .append) (xs := #[.tmp 5, .tmp 6]) rfl ?_); at_builtin; refine Kd.R_append_rows k61 (w0 := w) w.heap.size rfl (.tmp 5) (.tmp 6) 22 61 (.agg #[(.string ⟨#[]⟩), (.string ⟨#[]⟩), (.bool false)]) 40 rfl Try.underlying22 info61 rfl (by decide) (by omega) v124 y123 l0 _ _ _ (fun _ => True) (fun _ => False) rfl rfl ?aO ?aR (fun _ _ h => h) (fun _ h => h.elim) ?aF ?aB ?aS ?aL ?_; (case aR => repeat (first | exact (Kd.C_below HR0.out HB.out) | (with_reducible refine Kd.C_alloc ?_ _) | (with_reducible refine Kd.C_drewN ?_ _) | (with_reducible refine Kd.C_drew ?_))); (case aB => exact (by repeat (first | (with_reducible first | exact HB.out | apply below_alloc | apply pw_below_drewN | apply below_drew1) | exact HB.out))); (case aF => exact (fun _ _ => trivial)); (case aO => exact (by (with_reducible repeat (first | apply Kd.R_alloc | apply Kd.R_drewN | apply Kd.R_drew)); exact HO125.out)); (case aS => exact (below_size (by repeat (first | (with_reducible first | exact HB.out | apply below_alloc | apply pw_below_drewN | apply below_drew1) | exact HB.out)))); (case aL => have := LMc2.out; omega); intro v127 w5 ho hb hg hat; rw [← Ny126.out] at ho; have n0_ := Aside0.mk (hb); have n1_ := Aside0.mk (ho); clear HB; clear HO125; have HB := n0_; have HO128 := n1_; clear n0_ n1_; clear ho hb hg hat))
      go_ret
      exact ⟨_, by first | rfl | (simp [errW_none, errW_some] <;> rfl) | (simp [*, errW_none, errW_some] <;> rfl), by (with_reducible repeat (first | apply Kd.R_alloc | apply Kd.R_drewN | apply Kd.R_drew)); exact HO128.out, by repeat (first | (with_reducible first | exact HB.out | apply below_alloc | apply pw_below_drewN | apply below_drew1) | exact HB.out)⟩
  · rw [if_neg c2] at H
    exact absurd H (by simp)

-- function 52: no road meets it

-- function 64: no road meets it

-- function 59: no road meets it

-- function 53: no road meets it

open Go.Proofs.Ytlacmlceedkfoaa.Cp
/-! ### api_Write_41: function 41 -/
def flc61 (x : S61) : List Value := [.string x.f0, .string x.f1, .bool x.f2]
theorem flc61_len (x : S61) : (flc61 x).length = 3 := rfl
theorem flc61_one (xs : List S61) : ∀ v ∈ xs.flatMap flc61, v.oneCell' = true := by
  intro v hv
  obtain ⟨x, _, hx⟩ := List.mem_flatMap.1 hv
  simp only [flc61, List.mem_cons, List.not_mem_nil, or_false] at hx
  rcases hx with rfl | rfl | rfl <;> rfl
theorem own61 {w : World} {base : Nat} {ok : Nat → Prop} {v : Value} {xs : List S61} (h : Kd.R k61 61 w base ok v xs) : (∀ k, v.ownBlock = some k → ok k) ∧ w.ownsRow base 61 3 v xs.length (xs.flatMap flc61) := R_flat flc61 (fun _ _ h => k61_openM h) h
theorem row61 {w : World} {base : Nat} {ok : Nat → Prop} {v : Value} {xs : List S61} (h0 : ∀ k, v.ownBlock = some k → ok k) (h : w.ownsRow base 61 3 v xs.length (xs.flatMap flc61)) : Kd.R k61 61 w base ok v xs := flat_R flc61 (fun x => k61_mkM _ _ _ x) (fun _ => rfl) h0 h
theorem row_form61 {w : World} {base : Nat} {ok : Nat → Prop} {v : Value} {xs : List S61} (h : Kd.R k61 61 w base ok v xs) (hn : 0 < xs.length) : ∃ g c, v = .slice (some ⟨g, 0, none⟩) xs.length c ∧ xs.length ≤ c ∧ Kd.C k61 w (some ⟨g, 0, none⟩) xs.length xs := by
  obtain ⟨A, c, rfl, hc, hC⟩ := Kd.R_reads h
  obtain ⟨_, _, h2⟩ := own61 h
  rcases h2 with ⟨_, h0⟩ | ⟨g, c', cur, e, _⟩
  · omega
  · injection e with e1 e2 e3
    subst e1
    exact ⟨g, c, rfl, hc, hC⟩
theorem row_C61 {w : World} {base g n c : Nat} {ok : Nat → Prop} {xs : List S61} (h : Kd.R k61 61 w base ok (.slice (some ⟨g, 0, none⟩) n c) xs) : Kd.C k61 w (some ⟨g, 0, none⟩) n xs := by
  obtain ⟨A, c, e, hc, hC⟩ := Kd.R_reads h
  injection e with e1 e2 e3
  subst e1; subst e2
  exact hC
theorem row_old61 {w : World} {g n : Nat} {xs : List S61} (h : Kd.C k61 w (some ⟨g, 0, none⟩) n xs) (i : Nat) (hi : i < n) : ∃ c : List Value, c.length = 3 ∧ ∀ j u, c[j]? = some u → w.cell? ⟨g, (i : Int).toNat * 3 + j, none⟩ = some u := by
  obtain ⟨ad, c, e, _, hK, hc0⟩ := Kd.C_get h z61 (i : Int) (by omega) (by omega)
  cases e
  refine ⟨c, by rw [k61_open hK]; rfl, fun j u hj => ?_⟩
  have := hc0 j u hj
  rw [Addr.add_lit, Nat.zero_add] at this
  exact this
set_option maxHeartbeats 8000000 in
set_option maxRecDepth 100000 in
theorem api_Write_41.room (g b i n c : Nat) (cur : Array Value) (vs : List Value) (w : World) (hi : i < n) (hroom : n + 1 ≤ c) (hc63 : c ≤ 9223372036854775807) (hcur : cur.size = c * 3) (hvl : vs.length = 3)
    (hg : w.heap[g]? = some (.cells cur 61 (0, 0))) (hb : w.heap[b]? = some (.cells vs.toArray 61 (0, 0))) (hne : b ≠ g) (h1c : ∀ v ∈ cur.toList.take (n * 3), v.oneCell' = true) (h1v : ∀ v ∈ vs, v.oneCell' = true) :
    Calls Try.prog 41 #[.slice (some ⟨g, 0, none⟩) n c, .int .i64 i, .slice (some ⟨b, 0, none⟩) 1 1] w fun e w' => ∃ cur2 : List Value,
      e = .returned (.slice (some ⟨g, 0, none⟩) (n + 1) c) ∧ w' = w.drew.setRow g cur2.toArray ∧ cur2.length = cur.size ∧ cur2.take ((n + 1) * 3) = (cur.toList.take (n * 3)).take (i * 3) ++ vs ++ (cur.toList.take (n * 3)).drop (i * 3) := by
  have hu61 := Try.underlying61
  have hsz : (Try.prog.info? 61).map (·.size) = some 3 := by
    obtain ⟨i0, hi0, h0, h1, h2⟩ := info_parts info61
    rw [hi0]; simp [h1]
  obtain ⟨cs, hcs⟩ : ∃ cs, cs = (cur.toList.drop (i * 3)).take ((n - i) * 3) := ⟨_, rfl⟩
  obtain ⟨cur1, hcur1⟩ : ∃ cur1, cur1 = cur.toList.take ((i + 1) * 3) ++ cs ++ cur.toList.drop ((i + 1) * 3 + cs.length) := ⟨_, rfl⟩
  obtain ⟨cur2, hcur2⟩ : ∃ cur2, cur2 = cur1.take (i * 3) ++ vs ++ cur1.drop (i * 3 + vs.length) := ⟨_, rfl⟩
  obtain ⟨lcs, l1, l2, hins⟩ := ins_room cur.toList vs i n 3 (by omega) hvl (by rw [Array.length_toList]; omega) cs cur1 cur2 hcs hcur1 hcur2
  have lt : cur.toList.length = cur.size := Array.length_toList
  have l1 : cur1.length = cur.size := l1.trans lt
  have l2 : cur2.length = cur.size := l2.trans lt
  clear lt
  have f1 : (i + 1) * 3 + (n - i) * 3 ≤ cur.size := by omega
  have f2 : i * 3 + 3 ≤ cur1.toArray.size := by rw [List.size_toArray, l1]; omega
  have hov : ∀ lb cb, (callFunc 52 #[.slice (some ⟨b, 0, none⟩) 1 1, .slice (some ⟨g, (i + 1) * 3, none⟩) lb cb]).run Try.prog w = .ok (.value (.bool false)) w := fun lb cb => by
    rw [run_callFunc_extern Try.func52 (by kernel_rfl) (by kernel_rfl) (by kernel_rfl) (e := Extern.SlicesOverlaps.overlaps #[22, 22] #[4]) (by kernel_rfl),
      Lib.run_overlaps_apart w 22 4 61 Try.underlying22 3 (fun _ => by kernel_rfl) ⟨b, 0, none⟩ ⟨g, (i + 1) * 3, none⟩ 1 1 lb cb hne 61 61 vs.toArray.size cur.size (shape_of_blk hb) (shape_of_blk hg) (by omega) (frozen_of_blk hb 0) (frozen_of_blk hb _)]
    rfl
  have hcp1 : ∀ ty dc sc, (Builtin.copy_ #[22, 22] ty #[.slice (some ⟨g, (i + 1) * 3, none⟩) (n - i) dc, .slice (some ⟨g, i * 3, none⟩) (n + 1 - i) sc]).run Try.prog w.drew = .ok (goInt (Nat.min (n + 1 - i) (n - i))) (w.drew.setRow g cur1.toArray) := fun ty dc sc => by
    have h := run_copy_rowK (P := Try.prog) w.drew 22 22 ty 61 g ((i + 1) * 3) (n - i) dc ⟨g, i * 3, none⟩ (n + 1 - i) sc cur 61 cs 3 Try.underlying22 hsz hg
      (by rw [lcs, show Nat.min (n + 1 - i) (n - i) = n - i by simp only [Nat.min_def]; split <;> omega])
      (fun j v hj => by
        rw [Addr.add_lit]
        show w.cell? _ = _
        rw [cell_of_blk hg, ← Array.getElem?_toList]
        rw [hcs, List.getElem?_take] at hj
        split at hj
        · rw [List.getElem?_drop] at hj; exact hj
        · cases hj)
      (by rw [lcs]; exact f1)
      (fun v hv => h1c v (by
        rw [hcs] at hv
        have h2 : (cur.toList.drop (i * 3)).take ((n - i) * 3) = (cur.toList.take (n * 3)).drop (i * 3) := by rw [List.drop_take]; congr 1; omega
        rw [h2] at hv
        exact List.mem_of_mem_drop hv))
    rw [← hcur1] at h
    exact h
  have hg1 : ∀ W : World, W = w.drew.setRow g cur1.toArray → W.heap[g]? = some (.cells cur1.toArray 61 (0, 0)) := fun W hW => by rw [hW]; exact setRow_heap w.drew g cur _ 61 _ hg
  have hb1 : ∀ W : World, W = w.drew.setRow g cur1.toArray → W.heap[b]? = some (.cells vs.toArray 61 (0, 0)) := fun W hW => by rw [hW, setRow_other w.drew g _ _ hne]; exact hb
  have hcp2 : ∀ ty dc, (Builtin.copy_ #[22, 22] ty #[.slice (some ⟨g, i * 3, none⟩) (n + 1 - i) dc, .slice (some ⟨b, 0, none⟩) 1 1]).run Try.prog (w.drew.setRow g cur1.toArray) = .ok (goInt (Nat.min 1 (n + 1 - i))) (w.drew.setRow g cur2.toArray) := fun ty dc => by
    have h := run_copy_rowK (P := Try.prog) (w.drew.setRow g cur1.toArray) 22 22 ty 61 g (i * 3) (n + 1 - i) dc ⟨b, 0, none⟩ 1 1 cur1.toArray 61 vs 3 Try.underlying22 hsz (hg1 _ rfl)
      (by rw [hvl, show Nat.min 1 (n + 1 - i) = 1 by simp only [Nat.min_def]; split <;> omega])
      (fun j v hj => by
        rw [Addr.add_lit, cell_of_blk (hb1 _ rfl)]
        simpa using hj)
      (by rw [hvl]; exact f2) h1v
    rw [setRow_setRow, List.toList_toArray, ← hcur2] at h
    exact h
  have hdn : n + 1 - (i + 1) = n - i := by omega
  have hw1 : IntKind.i64.wrap ((i : Int) + 1) = (i : Int) + 1 := by rw [IntKind.wrap_i64]; omega
  have hw2 : IntKind.i64.wrap ((n : Int) + 1) = (n : Int) + 1 := by rw [IntKind.wrap_i64]; omega
  have hb0 : (0 : Int) ≤ (i : Int) + 1 := by omega
  have hin : i ≤ n := by omega
  have htn : ((i : Int) + 1).toNat = i + 1 := by omega
  have htn2 : ((n : Int) + 1).toNat = n + 1 := by omega
  have hz2 : ((i : Int) == (n : Int)) = false := by simp; omega
  have hz3 : decide ((c : Int) < (n : Int) + 1) = false := decide_eq_false (by omega)
  have hb2 : ¬ (c = i + 1) := by omega
  have hb3 : (i : Int) + 1 ≤ (n : Int) + 1 := by omega
  have hb4 : ¬ (c = i) := by omega
  have hb5 : (n : Int) + 1 ≤ (c : Int) := by omega
  have hb6 : (0 : Int) ≤ (n : Int) + 1 := by omega
  have hb7 : (i : Int) ≤ (n : Int) + 1 := by omega
  have X1 := Aside0.mk hcur1
  have X2 := Aside0.mk hcur2
  have X3 := Aside0.mk hcs
  have X4 := Aside0.mk lcs
  have X5 := Aside0.mk l1
  have X6 := Aside0.mk l2
  have X7 := Aside0.mk hins
  have X8 := Aside0.mk hcur
  have X9 := Aside0.mk hdn
  clear f1 f2 hcur1 hcur2 hcs lcs l1 l2 hins hg1 hb1 hcur hdn
  go_enter Try.func41, Try.ntmps41
  go_wp2_with (simp only [hov])
  go_region_law (refine step_copy_run rfl _ _ 22 22 rfl _ _ (by simp [Act.eval, Act.put]) (by simp [Act.eval, Act.put]) (hcp1 _ _ _) ?_)
  go_wp2_with (at_builtin; refine wpList_copy_run _ rfl _ _ 22 22 rfl _ _ rfl rfl (hcp2 _ _) ?_)
  go_ret
  exact ⟨cur2, rfl, rfl, X6.out, X7.out⟩
set_option maxHeartbeats 8000000 in
set_option maxRecDepth 100000 in
theorem api_Write_41.grow (g b i n c : Nat) (cur : Array Value) (vs : List Value) (w : World) (hi : i < n) (hnc : n ≤ c) (hroom : c < n + 1) (hbig : (n + 1) * 40 ≤ 140737488355328) (hcur : cur.size = c * 3) (hvl : vs.length = 3)
    (hg : w.heap[g]? = some (.cells cur 61 (0, 0))) (hb : w.heap[b]? = some (.cells vs.toArray 61 (0, 0))) (hne : b ≠ g) (h1c : ∀ v ∈ cur.toList.take (n * 3), v.oneCell' = true) (h1v : ∀ v ∈ vs, v.oneCell' = true) :
    Calls Try.prog 41 #[.slice (some ⟨g, 0, none⟩) n c, .int .i64 i, .slice (some ⟨b, 0, none⟩) 1 1] w fun e w' => ∃ (G : Nat) (cur2 : List Value),
      e = .returned (.slice (some ⟨w.heap.size, 0, none⟩) (n + 1) G) ∧ n + 1 ≤ G ∧ G ≤ maxLen ∧ (∃ W : World, W.heap.size = w.heap.size + 1 ∧ Below w.heap.size w W ∧ W.heap[w.heap.size]? = some (.cells cur2.toArray 61 (0, 0)) ∧ w' = W) ∧ cur2.length = G * 3 ∧ cur2.take ((n + 1) * 3) = (cur.toList.take (n * 3)).take (i * 3) ++ vs ++ (cur.toList.take (n * 3)).drop (i * 3) := by
  have hu61 := Try.underlying61
  obtain ⟨i0, hi0, hz0, hzs, hzb⟩ := info_parts info61
  have hsz : (Try.prog.info? 61).map (·.size) = some 3 := by rw [hi0]; simp [hzs]
  have hgw : g < w.heap.size := (Array.getElem?_eq_some_iff.1 hg).1
  have hbw : b < w.heap.size := (Array.getElem?_eq_some_iff.1 hb).1
  have hkk : (n : Int) + 1 - (i : Int) = ((n + 1 - i : Nat) : Int) := by omega
  have hik : i + (n + 1 - i) = n + 1 := by omega
  have hold : (Builtin.firstCells i0.size i (.slice (some ⟨g, 0, none⟩) i c)).run Try.prog w.drew = .ok (cur.toList.take (i * 3)).toArray w.drew := by
    rw [hzs]
    exact run_firstCells_some w.drew 3 i ⟨g, 0, none⟩ i c (cur.toList.take (i * 3)) (by rw [List.length_take, Array.length_toList]; omega) (fun j v hj => by
      rw [Addr.add_lit]
      show w.cell? _ = _
      rw [cell_of_blk hg, ← Array.getElem?_toList, Nat.zero_add]
      rw [List.getElem?_take] at hj
      split at hj
      · exact hj
      · cases hj)
  obtain ⟨G, hG⟩ : ∃ G, G = grownCap w (n + 1) c 61 := ⟨_, rfl⟩
  obtain ⟨Z, hZ⟩ : ∃ Z, Z = ((.agg #[(.string ⟨#[]⟩), (.string ⟨#[]⟩), (.bool false)]) : Value) := ⟨_, rfl⟩
  have hzc : Z.cells.size = 3 := by rw [hZ]; rfl
  rw [← hZ] at hz0
  obtain ⟨ROW, hROW⟩ : ∃ ROW : Array Value, ROW = (cur.toList.take (i * 3)).toArray ++ Builtin.zeroCells Z.cells (n + 1 - i) ++ Builtin.zeroCells Z.cells (G - (n + 1)) := ⟨_, rfl⟩
  have hrz : ∀ ty, (Builtin.append_ #[22, 3] ty #[.slice (some ⟨g, 0, none⟩) i c, .int .i64 ((n : Int) + 1 - (i : Int))]).run Try.prog w =
      .ok (.slice (some ⟨w.heap.size, 0, none⟩) (n + 1) G) (w.drew.alloc (.cells ROW 61)) := fun ty => by
    have h := Lib.run_append_grow_zeros w 22 3 ty 61 i0 Z .i64 .i64 Try.underlying22 Try.underlying3 hi0 hz0 (some ⟨g, 0, none⟩) i c (cur.toList.take (i * 3)) hold (n + 1 - i) (by omega) (by omega) (by omega) (by omega) (by rw [hzb]; omega) (by rw [hzb, hik]; exact growslice_fits hroom hbig)
    rw [hik, ← hG, ← hROW] at h
    rw [hkk]
    exact h
  have hGn : n + 1 ≤ G := by rw [hG]; exact grownCap_ge w _ _ _
  have hGm : G ≤ maxLen := by rw [hG]; exact grownCap_le_maxLen w _ _ _ (by unfold maxLen; omega)
  have hG63 : G ≤ 9223372036854775807 := by have := hGm; unfold maxLen at this; omega
  have hRsz : ROW.size = G * 3 := by
    rw [hROW, Array.size_append, Array.size_append, zero_size, zero_size, hzc, List.size_toArray, List.length_take, Array.length_toList]
    omega
  have hRA : ROW.toList.take (i * 3) = cur.toList.take (i * 3) := by
    rw [hROW, Array.toList_append, Array.toList_append, List.append_assoc]
    exact List.take_left' (by simp only [List.length_take, Array.length_toList]; omega)
  obtain ⟨RA, hcA⟩ : ∃ RA, RA = ROW.toList.take (i * 3) ++ vs ++ ROW.toList.drop (i * 3 + vs.length) := ⟨_, rfl⟩
  obtain ⟨cs, hcs⟩ : ∃ cs, cs = (cur.toList.drop (i * 3)).take ((n - i) * 3) := ⟨_, rfl⟩
  obtain ⟨RB, hcB⟩ : ∃ RB, RB = RA.take ((i + 1) * 3) ++ cs ++ RA.drop ((i + 1) * 3 + cs.length) := ⟨_, rfl⟩
  have lR : ROW.toList.length = G * 3 := Array.length_toList.trans hRsz
  obtain ⟨lcs, l1, l2, hins⟩ := ins_grow cur.toList vs ROW.toList i n 3 (by omega) hvl (by rw [Array.length_toList]; omega) (by rw [lR]; omega) hRA cs RA RB hcs hcA hcB
  have l1 : RA.length = G * 3 := l1.trans lR
  have l2 : RB.length = G * 3 := l2.trans lR
  have f1 : i * 3 + 3 ≤ ROW.size := by omega
  have f2 : (i + 1) * 3 + (n - i) * 3 ≤ RA.toArray.size := by
    rw [show RA.toArray.size = RA.length from rfl, l1]
    omega
  have hN : ∀ W : World, W.heap = (w.alloc (.cells ROW 61)).heap → W.heap[w.heap.size]? = some (.cells ROW 61 (0, 0)) := fun W hW => by rw [hW]; exact heap_alloc_new w _
  have hold2 : ∀ k, k < w.heap.size → (w.alloc (.cells ROW 61)).heap[k]? = w.heap[k]? := fun k hk => heap_alloc_old w _ hk
  have hcpA : ∀ (W : World), W.heap = (w.alloc (.cells ROW 61)).heap → ∀ ty dc, (Builtin.copy_ #[22, 22] ty #[.slice (some ⟨w.heap.size, i * 3, none⟩) (n + 1 - i) dc, .slice (some ⟨b, 0, none⟩) 1 1]).run Try.prog W = .ok (goInt (Nat.min 1 (n + 1 - i))) (W.setRow w.heap.size RA.toArray) := fun W hW ty dc => by
    have h := run_copy_rowK (P := Try.prog) W 22 22 ty 61 w.heap.size (i * 3) (n + 1 - i) dc ⟨b, 0, none⟩ 1 1 ROW 61 vs 3 Try.underlying22 hsz (hN W hW)
      (by rw [hvl, show Nat.min 1 (n + 1 - i) = 1 by simp only [Nat.min_def]; split <;> omega])
      (fun j v hj => by
        have hb2 : W.heap[b]? = some (.cells vs.toArray 61 (0, 0)) := by rw [hW, hold2 b hbw]; exact hb
        rw [Addr.add_lit, cell_of_blk hb2]
        simpa using hj)
      (by rw [hvl]; exact f1) h1v
    rw [← hcA] at h
    exact h
  have hcpB : ∀ (W : World), W.heap = ((w.alloc (.cells ROW 61)).setRow w.heap.size RA.toArray).heap → ∀ ty dc sc, (Builtin.copy_ #[22, 22] ty #[.slice (some ⟨w.heap.size, (i + 1) * 3, none⟩) (n - i) dc, .slice (some ⟨g, i * 3, none⟩) (n - i) sc]).run Try.prog W = .ok (goInt (Nat.min (n - i) (n - i))) (W.setRow w.heap.size RB.toArray) := fun W hW ty dc sc => by
    have hNW : W.heap[w.heap.size]? = some (.cells RA.toArray 61 (0, 0)) := by rw [hW]; exact setRow_heap _ _ ROW _ 61 _ (hN _ rfl)
    have hgW : W.heap[g]? = some (.cells cur 61 (0, 0)) := by rw [hW, setRow_other _ _ _ _ (by omega), hold2 g hgw]; exact hg
    have h := run_copy_rowK (P := Try.prog) W 22 22 ty 61 w.heap.size ((i + 1) * 3) (n - i) dc ⟨g, i * 3, none⟩ (n - i) sc RA.toArray 61 cs 3 Try.underlying22 hsz hNW
      (by rw [lcs]; congr 1; simp only [Nat.min_def]; split <;> rfl)
      (fun j v hj => by
        rw [Addr.add_lit, cell_of_blk hgW, ← Array.getElem?_toList]
        rw [hcs, List.getElem?_take] at hj
        split at hj
        · rw [List.getElem?_drop] at hj; exact hj
        · cases hj)
      (by rw [lcs]; exact f2)
      (fun v hv => h1c v (by
        rw [hcs] at hv
        have h2 : (cur.toList.drop (i * 3)).take ((n - i) * 3) = (cur.toList.take (n * 3)).drop (i * 3) := by rw [List.drop_take]; congr 1; omega
        rw [h2] at hv
        exact List.mem_of_mem_drop hv))
    rw [List.toList_toArray, ← hcB] at h
    exact h
  have hA2 := hcpA ((w.alloc (.cells ROW 61)).drew) rfl
  have hB2 := hcpB (((w.alloc (.cells ROW 61)).drew.setRow w.heap.size RA.toArray).drew) rfl
  clear hcpA hcpB
  have hw1 : IntKind.i64.wrap ((i : Int) + 1) = (i : Int) + 1 := by rw [IntKind.wrap_i64]; omega
  have hw2 : IntKind.i64.wrap ((n : Int) + 1) = (n : Int) + 1 := by rw [IntKind.wrap_i64]; omega
  have hb0 : (0 : Int) ≤ (i : Int) + 1 := by omega
  have hin : i ≤ n := by omega
  have htn : ((i : Int) + 1).toNat = i + 1 := by omega
  have hz2 : ((i : Int) == (n : Int)) = false := by simp; omega
  have hz3 : decide ((c : Int) < (n : Int) + 1) = true := decide_eq_true (by omega)
  have hb2 : ¬ (G = i + 1) := by omega
  have hb3 : (i : Int) + 1 ≤ (n : Int) + 1 := by omega
  have hb4 : ¬ (c = i) := by omega
  have hb5 : ¬ (G = i) := by omega
  have hb7 : (i : Int) ≤ (n : Int) + 1 := by omega
  have hb8 : (i : Int) ≤ (n : Int) := by omega
  have X1 := Aside0.mk hins
  have X2 := Aside0.mk l2
  have X3 := Aside0.mk hN
  have X4 := Aside0.mk hold2
  have X5 := Aside0.mk hGm
  clear hins l1 l2 lR lcs hcs hcA hcB hRA hRsz hROW hG hkk hik hold f1 f2 hN hold2 hzc hZ hz0 hGm hzs hzb
  go_enter Try.func41, Try.ntmps41
  go_wp2_with (first
    | (at_builtin; refine wpList_append_run _ rfl _ _ _ _ rfl _ _ rfl rfl (hrz _) ?_)
    | (at_builtin; refine wpList_copy_run _ rfl _ _ 22 22 rfl _ _ rfl rfl (hA2 _ _) ?_))
  go_region_law (refine step_copy_run rfl _ _ 22 22 rfl _ _ (by simp [Act.eval, Act.put]) (by simp [Act.eval, Act.put]) (hB2 _ _ _) ?_)
  go_wp2
  go_ret
  exact ⟨G, RB, rfl, hGn, X5.out, ⟨_, by simp [World.setRow], below_setRow (Below.drew (below_setRow (Below.drew (Below.alloc (Below.refl _ _) (Nat.le_refl _) _)) (Nat.le_refl _) _)) (Nat.le_refl _) _, setRow_heap _ _ RA.toArray _ 61 _ (setRow_heap (w.alloc (.cells ROW 61)).drew _ ROW _ 61 _ (heap_alloc_new w _)), rfl⟩, X2.out, X1.out⟩
open Go.Proofs.Ytlacmlceedkfoaa.Cp
/-! ### view_Set: function 26 -/
set_option maxHeartbeats 8000000 in
set_option maxRecDepth 100000 in
theorem api_Write_41.growC (a : Addr) (b i n c : Nat) (cur : List Value) (vs : List Value) (w : World) (hi : i < n) (hnc : n ≤ c) (hroom : c < n + 1) (hbig : (n + 1) * 40 ≤ 140737488355328) (hcur : cur.length = n * 3) (hvl : vs.length = 3)
    (hsrc : ∀ j v, cur[j]? = some v → w.cell? (a.add j) = some v) (hb : w.heap[b]? = some (.cells vs.toArray 61 (0, 0))) (h1c : ∀ v ∈ cur.take (n * 3), v.oneCell' = true) (h1v : ∀ v ∈ vs, v.oneCell' = true) :
    Calls Try.prog 41 #[.slice (some a) n c, .int .i64 i, .slice (some ⟨b, 0, none⟩) 1 1] w fun e w' => ∃ (G : Nat) (cur2 : List Value),
      e = .returned (.slice (some ⟨w.heap.size, 0, none⟩) (n + 1) G) ∧ n + 1 ≤ G ∧ G ≤ maxLen ∧ (∃ W : World, W.heap.size = w.heap.size + 1 ∧ Below w.heap.size w W ∧ W.heap[w.heap.size]? = some (.cells cur2.toArray 61 (0, 0)) ∧ w' = W) ∧ cur2.length = G * 3 ∧ cur2.take ((n + 1) * 3) = (cur.take (n * 3)).take (i * 3) ++ vs ++ (cur.take (n * 3)).drop (i * 3) := by
  have hu61 := Try.underlying61
  obtain ⟨i0, hi0, hz0, hzs, hzb⟩ := info_parts info61
  have hsz : (Try.prog.info? 61).map (·.size) = some 3 := by rw [hi0]; simp [hzs]
  have hbw : b < w.heap.size := (Array.getElem?_eq_some_iff.1 hb).1
  have hkk : (n : Int) + 1 - (i : Int) = ((n + 1 - i : Nat) : Int) := by omega
  have hik : i + (n + 1 - i) = n + 1 := by omega
  have hold : (Builtin.firstCells i0.size i (.slice (some a) i c)).run Try.prog w.drew = .ok (cur.take (i * 3)).toArray w.drew := by
    rw [hzs]
    exact run_firstCells_some w.drew 3 i a i c (cur.take (i * 3)) (by rw [List.length_take]; omega) (fun j v hj => by
      show w.cell? _ = _
      rw [List.getElem?_take] at hj
      split at hj
      · exact hsrc j v hj
      · cases hj)
  obtain ⟨G, hG⟩ : ∃ G, G = grownCap w (n + 1) c 61 := ⟨_, rfl⟩
  obtain ⟨Z, hZ⟩ : ∃ Z, Z = ((.agg #[(.string ⟨#[]⟩), (.string ⟨#[]⟩), (.bool false)]) : Value) := ⟨_, rfl⟩
  have hzc : Z.cells.size = 3 := by rw [hZ]; rfl
  rw [← hZ] at hz0
  obtain ⟨ROW, hROW⟩ : ∃ ROW : Array Value, ROW = (cur.take (i * 3)).toArray ++ Builtin.zeroCells Z.cells (n + 1 - i) ++ Builtin.zeroCells Z.cells (G - (n + 1)) := ⟨_, rfl⟩
  have hrz : ∀ ty, (Builtin.append_ #[22, 3] ty #[.slice (some a) i c, .int .i64 ((n : Int) + 1 - (i : Int))]).run Try.prog w =
      .ok (.slice (some ⟨w.heap.size, 0, none⟩) (n + 1) G) (w.drew.alloc (.cells ROW 61)) := fun ty => by
    have h := Lib.run_append_grow_zeros w 22 3 ty 61 i0 Z .i64 .i64 Try.underlying22 Try.underlying3 hi0 hz0 (some a) i c (cur.take (i * 3)) hold (n + 1 - i) (by omega) (by omega) (by omega) (by omega) (by rw [hzb]; omega) (by rw [hzb, hik]; exact growslice_fits hroom hbig)
    rw [hik, ← hG, ← hROW] at h
    rw [hkk]
    exact h
  have hGn : n + 1 ≤ G := by rw [hG]; exact grownCap_ge w _ _ _
  have hGm : G ≤ maxLen := by rw [hG]; exact grownCap_le_maxLen w _ _ _ (by unfold maxLen; omega)
  have hG63 : G ≤ 9223372036854775807 := by have := hGm; unfold maxLen at this; omega
  have hRsz : ROW.size = G * 3 := by
    rw [hROW, Array.size_append, Array.size_append, zero_size, zero_size, hzc, List.size_toArray, List.length_take]
    omega
  have hRA : ROW.toList.take (i * 3) = cur.take (i * 3) := by
    rw [hROW, Array.toList_append, Array.toList_append, List.append_assoc]
    exact List.take_left' (by simp only [List.length_take]; omega)
  obtain ⟨RA, hcA⟩ : ∃ RA, RA = ROW.toList.take (i * 3) ++ vs ++ ROW.toList.drop (i * 3 + vs.length) := ⟨_, rfl⟩
  obtain ⟨cs, hcs⟩ : ∃ cs, cs = (cur.drop (i * 3)).take ((n - i) * 3) := ⟨_, rfl⟩
  obtain ⟨RB, hcB⟩ : ∃ RB, RB = RA.take ((i + 1) * 3) ++ cs ++ RA.drop ((i + 1) * 3 + cs.length) := ⟨_, rfl⟩
  have lR : ROW.toList.length = G * 3 := Array.length_toList.trans hRsz
  obtain ⟨lcs, l1, l2, hins⟩ := ins_grow cur vs ROW.toList i n 3 (by omega) hvl (by omega) (by rw [lR]; omega) hRA cs RA RB hcs hcA hcB
  have l1 : RA.length = G * 3 := l1.trans lR
  have l2 : RB.length = G * 3 := l2.trans lR
  have f1 : i * 3 + 3 ≤ ROW.size := by omega
  have f2 : (i + 1) * 3 + (n - i) * 3 ≤ RA.toArray.size := by
    rw [show RA.toArray.size = RA.length from rfl, l1]
    omega
  have hN : ∀ W : World, W.heap = (w.alloc (.cells ROW 61)).heap → W.heap[w.heap.size]? = some (.cells ROW 61 (0, 0)) := fun W hW => by rw [hW]; exact heap_alloc_new w _
  have hold2 : ∀ k, k < w.heap.size → (w.alloc (.cells ROW 61)).heap[k]? = w.heap[k]? := fun k hk => heap_alloc_old w _ hk
  have hcpA : ∀ (W : World), W.heap = (w.alloc (.cells ROW 61)).heap → ∀ ty dc, (Builtin.copy_ #[22, 22] ty #[.slice (some ⟨w.heap.size, i * 3, none⟩) (n + 1 - i) dc, .slice (some ⟨b, 0, none⟩) 1 1]).run Try.prog W = .ok (goInt (Nat.min 1 (n + 1 - i))) (W.setRow w.heap.size RA.toArray) := fun W hW ty dc => by
    have h := run_copy_rowK (P := Try.prog) W 22 22 ty 61 w.heap.size (i * 3) (n + 1 - i) dc ⟨b, 0, none⟩ 1 1 ROW 61 vs 3 Try.underlying22 hsz (hN W hW)
      (by rw [hvl, show Nat.min 1 (n + 1 - i) = 1 by simp only [Nat.min_def]; split <;> omega])
      (fun j v hj => by
        have hb2 : W.heap[b]? = some (.cells vs.toArray 61 (0, 0)) := by rw [hW, hold2 b hbw]; exact hb
        rw [Addr.add_lit, cell_of_blk hb2]
        simpa using hj)
      (by rw [hvl]; exact f1) h1v
    rw [← hcA] at h
    exact h
  have hcpB : ∀ (W : World), W.heap = ((w.alloc (.cells ROW 61)).setRow w.heap.size RA.toArray).heap → ∀ ty dc sc, (Builtin.copy_ #[22, 22] ty #[.slice (some ⟨w.heap.size, (i + 1) * 3, none⟩) (n - i) dc, .slice (some (a.add (i * 3))) (n - i) sc]).run Try.prog W = .ok (goInt (Nat.min (n - i) (n - i))) (W.setRow w.heap.size RB.toArray) := fun W hW ty dc sc => by
    have hNW : W.heap[w.heap.size]? = some (.cells RA.toArray 61 (0, 0)) := by rw [hW]; exact setRow_heap _ _ ROW _ 61 _ (hN _ rfl)
    have hcW : ∀ j v, cur[j]? = some v → W.cell? (a.add j) = some v := fun j v hj => by
      have h0 := hsrc j v hj
      have hlt := World.block_lt_of_cell? w _ h0
      exact (World.cell?_of_block (by rw [hW, setRow_other _ _ _ _ (by omega)]; exact hold2 _ hlt)).trans h0
    have h := run_copy_rowK (P := Try.prog) W 22 22 ty 61 w.heap.size ((i + 1) * 3) (n - i) dc (a.add (i * 3)) (n - i) sc RA.toArray 61 cs 3 Try.underlying22 hsz hNW
      (by rw [lcs]; congr 1; simp only [Nat.min_def]; split <;> rfl)
      (fun j v hj => by
        rw [hcs, List.getElem?_take] at hj
        split at hj
        · rw [List.getElem?_drop] at hj
          rw [add_add]
          exact hcW _ v hj
        · cases hj)
      (by rw [lcs]; exact f2)
      (fun v hv => h1c v (by
        rw [hcs] at hv
        have h2 : (cur.drop (i * 3)).take ((n - i) * 3) = (cur.take (n * 3)).drop (i * 3) := by rw [List.drop_take]; congr 1; omega
        rw [h2] at hv
        exact List.mem_of_mem_drop hv))
    rw [List.toList_toArray, ← hcB] at h
    exact h
  have hA2 := hcpA ((w.alloc (.cells ROW 61)).drew) rfl
  have hB2 := hcpB (((w.alloc (.cells ROW 61)).drew.setRow w.heap.size RA.toArray).drew) rfl
  clear hcpA hcpB
  have hw1 : IntKind.i64.wrap ((i : Int) + 1) = (i : Int) + 1 := by rw [IntKind.wrap_i64]; omega
  have hw2 : IntKind.i64.wrap ((n : Int) + 1) = (n : Int) + 1 := by rw [IntKind.wrap_i64]; omega
  have hb0 : (0 : Int) ≤ (i : Int) + 1 := by omega
  have hin : i ≤ n := by omega
  have htn : ((i : Int) + 1).toNat = i + 1 := by omega
  have hz2 : ((i : Int) == (n : Int)) = false := by simp; omega
  have hz3 : decide ((c : Int) < (n : Int) + 1) = true := decide_eq_true (by omega)
  have hb2 : ¬ (G = i + 1) := by omega
  have hb3 : (i : Int) + 1 ≤ (n : Int) + 1 := by omega
  have hb4 : ¬ (c = i) := by omega
  have hb5 : ¬ (G = i) := by omega
  have hb7 : (i : Int) ≤ (n : Int) + 1 := by omega
  have hb8 : (i : Int) ≤ (n : Int) := by omega
  have X1 := Aside0.mk hins
  have X2 := Aside0.mk l2
  have X3 := Aside0.mk hN
  have X4 := Aside0.mk hold2
  have X5 := Aside0.mk hGm
  clear hins l1 l2 lR lcs hcs hcA hcB hRA hRsz hROW hG hkk hik hold f1 f2 hN hold2 hzc hZ hz0 hGm hzs hzb
  go_enter Try.func41, Try.ntmps41
  go_wp2_with (first
    | (at_builtin; refine wpList_append_run _ rfl _ _ _ _ rfl _ _ rfl rfl (hrz _) ?_)
    | (at_builtin; refine wpList_copy_run _ rfl _ _ 22 22 rfl _ _ rfl rfl (hA2 _ _) ?_))
  go_region_law (refine step_copy_run rfl _ _ 22 22 rfl _ _ (by simp [Act.eval, Act.put]) (by simp [Act.eval, Act.put]) (hB2 _ _ _) ?_)
  go_wp2
  go_ret
  exact ⟨G, RB, rfl, hGn, X5.out, ⟨_, by simp [World.setRow], below_setRow (Below.drew (below_setRow (Below.drew (Below.alloc (Below.refl _ _) (Nat.le_refl _) _)) (Nat.le_refl _) _)) (Nat.le_refl _) _, setRow_heap _ _ RA.toArray _ 61 _ (setRow_heap (w.alloc (.cells ROW 61)).drew _ ROW _ 61 _ (heap_alloc_new w _)), rfl⟩, X2.out, X1.out⟩
theorem C_cells61 {w : World} {b : Addr} {n : Nat} {xs : List S61} (h : Kd.C k61 w (some b) n xs) : ∀ j u, (xs.flatMap flc61)[j]? = some u → w.cell? (b.add j) = some u := by
  intro j u hj
  have hlj : j < (xs.flatMap flc61).length := (List.getElem?_eq_some_iff.1 hj).1
  rw [flat_len flc61 flc61_len] at hlj
  have hq : j / 3 < xs.length := by omega
  have hxn : xs.length = n := h.1
  obtain ⟨ad, c, e, _, hK, hc0⟩ := Kd.C_get h z61 ((j / 3 : Nat) : Int) (by omega) (by omega)
  cases e
  have hcx : c = flc61 (xs[j / 3]) := by
    have := k61_open hK
    rw [this]
    rw [show xs.getD ((j / 3 : Nat) : Int).toNat z61 = xs[j / 3] by rw [Int.toNat_natCast, List.getD_eq_getElem?_getD, List.getElem?_eq_getElem hq]; rfl]
    rfl
  have hd : (xs.flatMap flc61)[j]? = (flc61 xs[j / 3])[j % 3]? := by
    have h1 : (xs.flatMap flc61)[j]? = ((xs.flatMap flc61).drop (j / 3 * 3))[j % 3]? := by
      rw [List.getElem?_drop]
      congr 1
      omega
    rw [h1, flat_drop flc61 flc61_len, List.drop_eq_getElem_cons hq, List.flatMap_cons, List.getElem?_append_left (by rw [flc61_len]; omega)]
  rw [hd, ← hcx] at hj
  have := hc0 _ u hj
  rw [show (((j / 3 : Nat) : Int)).toNat * k61.sz + j % 3 = j by show (((j / 3 : Nat) : Int)).toNat * 3 + j % 3 = j; omega] at this
  exact this
theorem enters38 : ∀ args w, (callFunc 38 args).run Try.prog w = .ok (.enter 38 args) w := enters_of Try.func38 (by kernel_rfl) rfl
theorem enters40 : ∀ args w, (callFunc 40 args).run Try.prog w = .ok (.enter 40 args) w := enters_of Try.func40 (by kernel_rfl) rfl
set_option maxHeartbeats 8000000 in
theorem view_Set_1.calls (x : S61) (key : ByteArray) (B : Nat) (W : World) (hc : W.cell? ⟨B, 0, none⟩ = some (.string key)) :
    Calls Try.prog 38 #[.agg #[.string x.f0, .string x.f1, .bool x.f2], .pointer (some ⟨B, 0, none⟩)] W fun e w' => e = .returned (.bool (seq61 key x)) ∧ Below W.heap.size W w' := by
  have hu61 := Try.underlying61
  have hB := World.block_lt_of_cell? W _ hc
  go_enter Try.func38, Try.ntmps38
  go_wp2
  go_ret
  exact ⟨rfl, (Below.refl _ _).alloc (Nat.le_refl _) _⟩
set_option maxHeartbeats 8000000 in
theorem view_Set_2.calls (x : S61) (key : ByteArray) (B : Nat) (W : World) (hc : W.cell? ⟨B, 0, none⟩ = some (.string key)) :
    Calls Try.prog 40 #[.agg #[.string x.f0, .string x.f1, .bool x.f2], .pointer (some ⟨B, 0, none⟩)] W fun e w' => e = .returned (.bool (sgt61 key x)) ∧ Below W.heap.size W w' := by
  have hu61 := Try.underlying61
  have hB := World.block_lt_of_cell? W _ hc
  go_enter Try.func40, Try.ntmps40
  go_wp2
  go_ret
  exact ⟨rfl, (Below.refl _ _).alloc (Nat.le_refl _) _⟩
theorem ixOf_two {α : Type} (p : α → Bool) (l : List α) : ixOf p l = -1 ∨ ∃ i : Nat, i < l.length ∧ ixOf p l = (i : Int) := by
  unfold ixOf
  split
  · exact .inr ⟨_, by assumption, rfl⟩
  · exact .inl rfl
set_option maxHeartbeats 8000000 in
set_option maxRecDepth 100000 in
theorem view_Set.calls (A0 : Option Addr) (c0 : Nat) (l0 : List (S61)) (a1_0 a1_1 : ByteArray) (a1_2 : Bool) (r : List S61) (w : World) (hr0 : Kd.C k61 w A0 l0.length l0) (hc0 : l0.length ≤ c0) (h : view_Set.f l0 a1_0 a1_1 a1_2 = some r) :
    Calls Try.prog 26 #[.slice A0 l0.length c0, .agg #[.string a1_0, .string a1_1, .bool a1_2]] w fun e w' => ∃ v0_ : Value, e = .returned (v0_) ∧ Kd.R k61 61 w' w.heap.size (fun _ => True) v0_ r ∧ Below w.heap.size w w' := by
  have hu61 := Try.underlying61
  obtain ⟨y, hy, h2⟩ := Option.bind_eq_some_iff.1 h
  have hlen : l0.length < 3518437208000 := by
    by_cases e : l0.length < 3518437208000
    · exact e
    · rw [if_neg e] at h2; cases h2
  rw [if_pos hlen] at h2
  obtain rfl := Option.some.inj h2
  have hyl : y = l0 := by
    have hy' := hy
    unfold api_Write_39.f at hy'
    simp only [Option.bind_some] at hy'
    split at hy'
    · cases hy'; simp
    · cases hy'
  subst hyl
  clear h h2
  obtain ⟨x, hx⟩ : ∃ x : S61, x = ⟨a1_0, a1_1, a1_2⟩ := ⟨_, rfl⟩
  rw [← hx]
  have hx0 : x.f0 = a1_0 := by rw [hx]
  have hcx : flc61 x = [.string a1_0, .string a1_1, .bool a1_2] := by rw [hx]; rfl
  obtain ⟨W1, hW1⟩ : ∃ W1, W1 = w.alloc (.cells #[.string a1_0, .string a1_1, .bool a1_2] 61) := ⟨_, rfl⟩
  have hs1 : W1.heap.size = w.heap.size + 1 := by rw [hW1]; simp
  have hB1 : Below w.heap.size w W1 := by rw [hW1]; exact Below.alloc (Below.refl _ _) (Nat.le_refl _) _
  have hbk : W1.heap[w.heap.size]? = some (.cells #[.string a1_0, .string a1_1, .bool a1_2] 61 (0, 0)) := by rw [hW1]; exact heap_alloc_new w _
  have hk1 : W1.cell? ⟨w.heap.size, 0, none⟩ = some (.string x.f0) := by rw [hx0]; exact (blk_cell hbk 0).trans rfl
  have hR1 : Kd.C k61 W1 A0 y.length y := by rw [hW1]; exact Kd.C_alloc hr0 _
  have hF : ∀ W2 : World, Below W1.heap.size W1 W2 → Calls Try.prog 34 #[.slice A0 y.length y.length, .func (.func 38) #[] #[.pointer (some ⟨w.heap.size, 0, none⟩)]] W2 fun e w' => e = .returned (.int .i64 (ixOf (seq61 x.f0) y)) ∧ Below W2.heap.size W2 w' := fun W2 hb =>
    api_Write_34.calls (seq61 x.f0) 38 _ enters38 A0 y.length y W2 (Kd.C_below hR1 hb) (fun W z hb2 => view_Set_1.calls z x.f0 w.heap.size W (((hb.trans (hb2.mono hb.size)).cell (World.block_lt_of_cell? W1 _ hk1)).trans hk1))
  have hG : ∀ W2 : World, Below W1.heap.size W1 W2 → Calls Try.prog 34 #[.slice A0 y.length y.length, .func (.func 40) #[] #[.pointer (some ⟨w.heap.size, 0, none⟩)]] W2 fun e w' => e = .returned (.int .i64 (ixOf (sgt61 x.f0) y)) ∧ Below W2.heap.size W2 w' := fun W2 hb =>
    api_Write_34.calls (sgt61 x.f0) 40 _ enters40 A0 y.length y W2 (Kd.C_below hR1 hb) (fun W z hb2 => view_Set_2.calls z x.f0 w.heap.size W (((hb.trans (hb2.mono hb.size)).cell (World.block_lt_of_cell? W1 _ hk1)).trans hk1))
  have hcz : (y.length : Int) ≤ (c0 : Int) := by omega
  have hc0z : (0 : Int) ≤ (y.length : Int) := by omega
  have hmx := hr0.2.1
  have hnone : A0 = none → y.length = 0 := fun e => by
    rcases Nat.eq_zero_or_pos y.length with h | h
    · exact h
    · obtain ⟨_, e2, _⟩ := hr0.2.2 h
      rw [e] at e2; cases e2
  have CELL : ∀ W2 : World, Below W1.heap.size W1 W2 → W2.heap[w.heap.size]? = some (.cells #[.string a1_0, .string a1_1, .bool a1_2] 61 (0, 0)) := fun W2 hb => (hb.block _ (by omega)).trans hbk
  rcases ixOf_two (seq61 x.f0) y with hE | ⟨i, hil, hE⟩
  · have hng : ¬ ((0 : Int) ≤ -1) := by decide
    rw [hE] at hF
    rcases ixOf_two (sgt61 x.f0) y with hT | ⟨j, hjl, hT⟩
    · have hres : setL61 y x = y ++ [x] := by unfold setL61; rw [hE, if_neg hng, hT]; rfl
      rw [hres]
      rw [hT] at hG
      obtain ⟨i0, hi0, hz0, hzs, hzb⟩ := info_parts info61
      have I0 := Aside0.mk hi0
      have I1 := Aside0.mk hz0
      have I2 := Aside0.mk hzs
      have I3 := Aside0.mk hzb
      have F0 := Aside0.mk (hF W1 (Below.refl _ _))
      rw [hW1] at F0
      have GG := Aside0.mk hG
      have CC := Aside0.mk CELL
      have B1 := Aside0.mk hB1
      have R1 := Aside0.mk hR1
      have NN := Aside0.mk hnone
      have CX := Aside0.mk hcx
      have S1 := Aside0.mk hs1
      have V1 := Aside0.mk (show ∀ v ∈ flc61 x, v.oneCell' = true by have := flc61_one [x]; simpa using this)
      have NB := Aside0.mk (show ∀ w3 : World, ∀ j u, (flc61 x)[j]? = some u → (w3.alloc (.cells #[.string a1_0, .string a1_1, .bool a1_2] 61)).cell? ((⟨w3.heap.size, 0, none⟩ : Addr).add j) = some u from fun w3 j u hj => by
        rw [hcx] at hj
        rw [Addr.add_lit, cell_of_blk (heap_alloc_new _ _), Nat.zero_add]
        simpa using hj)
      clear hF hG CELL hB1 hR1 hnone hcx hs1 hbk hk1 hr0 hE hT hres hng hx0 hy hi0 hz0 hzs hzb
      rcases A0 with _ | a
      all_goals
        go_enter Try.func26, Try.ntmps26
        go_wp2_with (first
          | (go_at_call 34; with_reducible refine F0.out.mono ?_; rintro e w2 ⟨rfl, hb⟩; rw [← hW1] at hb; have H2 := Aside0.mk hb; clear hb)
          | (go_at_call 34; refine (GG.out w2 H2.out).mono ?_; rintro e w3 ⟨rfl, hb⟩; have H3 := Aside0.mk (below_step H2.out hb); clear hb; have k5 := CC.out w3 H3.out; have k6 : w3.cell? ⟨w.heap.size, 0, none⟩ = some (.string a1_0) := (blk_cell k5 0).trans rfl; have k7 : w3.cell? ⟨w.heap.size, 1, none⟩ = some (.string a1_1) := (blk_cell k5 1).trans rfl; have k8 : w3.cell? ⟨w.heap.size, 2, none⟩ = some (.bool a1_2) := (blk_cell k5 2).trans rfl)
          | (at_builtin; refine wpList_append_grows _ rfl (.tmp 30) (.tmp 32) 22 rfl 61 i0 (.agg #[(.string ⟨#[]⟩), (.string ⟨#[]⟩), (.bool false)]) 3 40 Try.underlying22 I0.out I1.out I2.out I3.out rfl (by decide) _ y.length y.length (y.flatMap flc61) rfl ?n1 (flat_len flc61 flc61_len y) ?n3 ⟨w3.heap.size, 0, none⟩ 1 1 (flc61 x) (by first | (go_simp; done) | (go_simp; rfl) | rfl) rfl (NB.out w3) V1.out (Nat.lt_succ_self _) (by unfold maxLen; omega) (by omega) ?_; (case n1 => intro e; first | (cases e; done) | exact ⟨NN.out rfl, NN.out rfl⟩ | exact ⟨NN.out trivial, NN.out trivial⟩); (case n3 => intro b e j u hj; first | (cases e; done) | (cases e; exact C_cells61 (Kd.C_alloc (Kd.C_below R1.out H3.out) _) j u hj)); intro v5 w5 hown hgr; have O5 := Aside0.mk hown; have G5 := Aside0.mk hgr; clear hown hgr))
        go_ret
        have hB3 : Below w.heap.size w w3 := B1.out.trans (H3.out.mono (by have := S1.out; omega))
        have hB4 : Below w.heap.size w (w3.alloc (.cells #[.string a1_0, .string a1_1, .bool a1_2] 61)) := hB3.alloc hB3.size _
        refine ⟨_, rfl, row61 (fun _ _ => trivial) ?_, hB4.trans ⟨G5.out.os, G5.out.tape, G5.out.output, G5.out.size, fun k hk => G5.out.block k (Nat.lt_of_lt_of_le hk hB4.size) (by simp)⟩⟩
        have e1 : (y ++ [x]).length = y.length + 1 := by simp
        have e2 : (y ++ [x]).flatMap flc61 = y.flatMap flc61 ++ flc61 x := by simp
        rw [e1, e2]
        exact own_weaken O5.out hB4.size
    · have hnj : ¬ ((j : Int) < 0) := by omega
      have hres : setL61 y x = y.take j ++ x :: y.drop j := by unfold setL61; rw [hE, if_neg hng, hT, if_neg hnj]; rfl
      rw [hres]
      rw [hT] at hG
      have hz4 : decide ((j : Int) < 0) = false := decide_eq_false hnj
      have F0 := Aside0.mk (hF W1 (Below.refl _ _))
      rw [hW1] at F0
      have GG := Aside0.mk hG
      have CC := Aside0.mk CELL
      have B1 := Aside0.mk hB1
      have R1 := Aside0.mk hR1
      have NN := Aside0.mk hnone
      have CX := Aside0.mk hcx
      have S1 := Aside0.mk hs1
      have V1 := Aside0.mk (show ∀ v ∈ flc61 x, v.oneCell' = true by have := flc61_one [x]; simpa using this)
      have NB := Aside0.mk (show ∀ w3 : World, ∀ j u, (flc61 x)[j]? = some u → (w3.alloc (.cells #[.string a1_0, .string a1_1, .bool a1_2] 61)).cell? ((⟨w3.heap.size, 0, none⟩ : Addr).add j) = some u from fun w3 j u hj => by
        rw [hcx] at hj
        rw [Addr.add_lit, cell_of_blk (heap_alloc_new _ _), Nat.zero_add]
        simpa using hj)
      rcases A0 with _ | a
      · have := hnone rfl; omega
      · clear hF hG CELL hB1 hR1 hnone hcx hs1 hbk hk1 hr0 hE hT hres hng hx0 hy
        go_enter Try.func26, Try.ntmps26
        go_wp2_with (first
          | (go_at_call 34; with_reducible refine F0.out.mono ?_; rintro e w2 ⟨rfl, hb⟩; rw [← hW1] at hb; have H2 := Aside0.mk hb; clear hb)
          | (go_at_call 34; refine (GG.out w2 H2.out).mono ?_; rintro e w3 ⟨rfl, hb⟩; have H3 := Aside0.mk (below_step H2.out hb); clear hb; have k5 := CC.out w3 H3.out; have k6 : w3.cell? ⟨w.heap.size, 0, none⟩ = some (.string a1_0) := (blk_cell k5 0).trans rfl; have k7 : w3.cell? ⟨w.heap.size, 1, none⟩ = some (.string a1_1) := (blk_cell k5 1).trans rfl; have k8 : w3.cell? ⟨w.heap.size, 2, none⟩ = some (.bool a1_2) := (blk_cell k5 2).trans rfl)
          | (go_at_call 41; refine (api_Write_41.growC a w3.heap.size j y.length y.length (y.flatMap flc61) (flc61 x) _ hjl (Nat.le_refl _) (Nat.lt_succ_self _) (by omega) (flat_len flc61 flc61_len y) rfl (C_cells61 (Kd.C_alloc (Kd.C_below R1.out H3.out) _)) ?s1 (fun v hv => flc61_one y v (List.mem_of_mem_take hv)) V1.out).mono ?_; (case s1 => rw [CX.out]; exact heap_alloc_new _ _); rintro e w5 ⟨G, cur2, rfl, hG, hGm, ⟨W, hWs, hWb, hWh, rfl⟩, hl2, ht2⟩; have O1 := Aside0.mk hG; have O2 := Aside0.mk hGm; have O3 := Aside0.mk hWb; have O4 := Aside0.mk hWh; have O5 := Aside0.mk hl2; have O6 := Aside0.mk ht2; clear hG hGm hWs hWb hWh hl2 ht2))
        go_ret
        have hB3 : Below w.heap.size w w3 := B1.out.trans (H3.out.mono (by have := S1.out; omega))
        have hB4 : Below w.heap.size w (w3.alloc (.cells #[.string a1_0, .string a1_1, .bool a1_2] 61)) := hB3.alloc hB3.size _
        have hlen' : (y.take j ++ x :: y.drop j).length = y.length + 1 := by simp only [List.length_append, List.length_cons, List.length_take, List.length_drop]; omega
        have hfl : (y.take j ++ x :: y.drop j).flatMap flc61 = ((y.flatMap flc61).take (j * 3)) ++ flc61 x ++ ((y.flatMap flc61).drop (j * 3)) := by
          rw [flat_take flc61 flc61_len, flat_drop flc61 flc61_len, List.flatMap_append, List.flatMap_cons, List.append_assoc]
        have htk : (y.flatMap flc61).take (y.length * 3) = y.flatMap flc61 := List.take_of_length_le (by rw [flat_len flc61 flc61_len]; exact Nat.le_refl _)
        refine ⟨_, rfl, row61 (fun _ _ => trivial) ⟨flat_len flc61 flc61_len _, .inr ⟨(w3.alloc (.cells #[.string a1_0, .string a1_1, .bool a1_2] 61)).heap.size, G, cur2.toArray, by rw [hlen']; show Value.slice (some ⟨w3.heap.size + 1, 0, none⟩) _ _ = _; simp, hB4.size, O4.out, by rw [hlen']; exact O1.out, O2.out, by rw [List.size_toArray, O5.out], by rw [hlen', List.toList_toArray, O6.out, htk, hfl]⟩⟩, hB4.trans (O3.out.mono hB4.size)⟩
  · have hz1 : (0 : Int) ≤ (i : Int) := by omega
    have hz2 : (i : Int) < (y.length : Int) := by omega
    have hres : setL61 y x = y.set i x := by unfold setL61; rw [hE, if_pos hz1]; rfl
    rw [hres]
    rw [hE] at hF
    have F0 := Aside0.mk (hF W1 (Below.refl _ _))
    rw [hW1] at F0
    have GG := Aside0.mk hG
    have CC := Aside0.mk CELL
    have B1 := Aside0.mk hB1
    have R1 := Aside0.mk hR1
    have NN := Aside0.mk hnone
    have CX := Aside0.mk hcx
    have S1 := Aside0.mk hs1
    have V1 := Aside0.mk (show ∀ v ∈ flc61 x, v.oneCell' = true by have := flc61_one [x]; simpa using this)
    have NB := Aside0.mk (show ∀ w3 : World, ∀ j u, (flc61 x)[j]? = some u → (w3.alloc (.cells #[.string a1_0, .string a1_1, .bool a1_2] 61)).cell? ((⟨w3.heap.size, 0, none⟩ : Addr).add j) = some u from fun w3 j u hj => by
      rw [hcx] at hj
      rw [Addr.add_lit, cell_of_blk (heap_alloc_new _ _), Nat.zero_add]
      simpa using hj)
    have CLN := Aside0.mk (show ∀ w2 : World, Below W1.heap.size W1 w2 → Calls Try.prog 39 #[.slice A0 y.length y.length] w2 fun e w' => ∃ v0_ : Value, e = .returned (v0_) ∧ Kd.R k61 61 w' w2.heap.size (fun _ => True) v0_ y ∧ Below w2.heap.size w2 w' from fun w2 hb => api_Write_39.calls A0 y.length y y w2 (Kd.C_below R1.out hb) (Nat.le_refl _) hy)
    clear hF hG CELL hB1 hR1 hcx hs1 hbk hk1 hr0 hE hres hx0 hy
    rcases A0 with _ | a
    · have := NN.out rfl; omega
    · clear hnone
      go_enter Try.func26, Try.ntmps26
      go_wp2_with (first
        | (go_at_call 34; with_reducible refine F0.out.mono ?_; rintro e w2 ⟨rfl, hb⟩; rw [← hW1] at hb; have H2 := Aside0.mk hb; clear hb)
        | (go_at_call 39; refine (CLN.out w2 H2.out).mono ?_; rintro e w3 ⟨v0, rfl, hR, hb⟩; have H3 := Aside0.mk (below_step H2.out hb); have n1 := Aside0.mk (Kd.R_lower hR (below_size H2.out)); obtain ⟨g, c, rfl, hcc, hC⟩ := row_form61 hR (Nat.lt_of_le_of_lt (Nat.zero_le _) hil); have n3 := Aside0.mk (Kd.R_lower n1.out (by have := S1.out; omega : w.heap.size ≤ W1.heap.size)); have n4 := Aside0.mk (B1.out.trans (H3.out.mono (by have := S1.out; omega))); clear hR hb hcc hC n1; have k5 := CC.out w3 H3.out; have k6 : w3.cell? ⟨w.heap.size, 0, none⟩ = some (.string a1_0) := (blk_cell k5 0).trans rfl; have k7 : w3.cell? ⟨w.heap.size, 1, none⟩ = some (.string a1_1) := (blk_cell k5 1).trans rfl; have k8 : w3.cell? ⟨w.heap.size, 2, none⟩ = some (.bool a1_2) := (blk_cell k5 2).trans rfl)
        | ((with_reducible refine gate_ (.store 61 (.tmp 23) (.tmp 22)) rfl ?_); obtain ⟨cc, hcl, hcc⟩ := row_old61 (row_C61 n3.out) i hil; refine Kd.R_store k61 (w0 := w) w.heap.size rfl rfl 61 (.tmp 23) (.tmp 22) rfl 61 (i : Int) 0 y x (.agg #[.string a1_0, .string a1_1, .bool a1_2]) [.string a1_0, .string a1_1, .bool a1_2] cc (fun _ => True) (fun _ => False) rfl (by simp; rfl) rfl rfl (by kernel_rfl) ?s1 n3.out hz1 hz2 hcl hcc (by show 0 + 3 ≤ 3; decide) ?s2 (fun _ hk => hk.elim) n4.out ?_; (case s1 => intro q hq; simp only [List.mem_cons, List.not_mem_nil, or_false] at hq; rcases hq with rfl | rfl | rfl <;> rfl); (case s2 => rw [List.take_zero, List.nil_append, List.drop_of_length_le (by rw [hcl]; simp), List.append_nil, hx]; exact k61_mkM _ _ _ (⟨a1_0, a1_1, a1_2⟩ : S61)); intro w5 hr3 hb3 hg3; have K8 := Aside0.mk hr3; have K9 := Aside0.mk hb3; clear hr3 hb3 hg3))
      go_ret
      exact ⟨_, rfl, K8.out, K9.out⟩

end Go.Proofs.Ytlacmlceedkfoaa.PE
