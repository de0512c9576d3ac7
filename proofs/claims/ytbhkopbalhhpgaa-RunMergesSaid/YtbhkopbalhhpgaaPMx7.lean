-- Made by a program of this workplace out of the translation (wip/tools in the repo). Not trusted: Lean checks it.
import Derived.Test.YtbhkopbalhhpgaaPMx0
import Derived.Test.YtbhkopbalhhpgaaPMx2
import Derived.Test.YtbhkopbalhhpgaaPMx3
import Derived.Test.YtbhkopbalhhpgaaPMx4
import Derived.Test.YtbhkopbalhhpgaaPMx5
import Derived.Test.YtbhkopbalhhpgaaPMx6
namespace Go.Proofs.Ytbhkopbalhhpgaa.PM
open Go.RowKit Go.Proofs.YtbhkopbalhhpgaaW.PrintWords Go.Proofs.YtbhkopbalhhpgaaW.PrintLast Go.Proofs.YtbhkopbalhhpgaaW.PrintMore
attribute [local go_sem] max2_int min2_int max_two min_two max_three min_three max_four min_four   -- for this text's walks alone
set_option linter.unusedVariables false
set_option linter.unusedSimpArgs false

attribute [local go_sem high] eqA62
/-! ### run_Take: function 12 -/
set_option maxHeartbeats 8000000 in
set_option maxRecDepth 100000 in
theorem run_Take.calls (k : Nat) (a0 : ByteArray) (r1 : List (S62)) (r2 : Int) (w : World) (h : run_Take.f k a0 = some (r1, r2)) :
    Calls Try.prog 12 #[.string a0] w fun e w' => ∃ v0_ : Value, e = .returned (.tuple #[v0_, .int .i64 r2]) ∧ Kd.R k62 62 w' w.heap.size (fun _ => True) v0_ r1 ∧ Below w.heap.size w w' := by
  have hu62 := Try.underlying62
  have HB := Aside0.mk (Below.refl w.heap.size w)
  have H : ((sum_Open.f k a0 1073741824).bind fun bt129 => ((dec_TakeNum.f k bt129.1).bind fun bt132 => (if bt129.2.2 = 0 then (if bt132.2.2 = 0 then (run_Take.j0 k bt132.2.1 bt132.1 (bt129.2.1.toList != ([] : List UInt8))) else (run_Take.j0 k bt132.2.1 bt132.1 true)) else (run_Take.j0 k bt132.2.1 bt132.1 true)))) = some (r1, r2) := h
  clear h
  replace H := Option.bind_eq_some_iff.mp H
  obtain ⟨⟨t129, t130, t131⟩, A20, H⟩ := H
  replace H : ((dec_TakeNum.f k t129).bind fun bt132 => (if t131 = 0 then (if bt132.2.2 = 0 then (run_Take.j0 k bt132.2.1 bt132.1 (t130.toList != ([] : List UInt8))) else (run_Take.j0 k bt132.2.1 bt132.1 true)) else (run_Take.j0 k bt132.2.1 bt132.1 true))) = some (r1, r2) := H
  have A2 := Aside0.mk A20
  clear A20
  replace H := Option.bind_eq_some_iff.mp H
  obtain ⟨⟨t132, t133, t134⟩, A30, H⟩ := H
  replace H : (if t131 = 0 then (if t134 = 0 then (run_Take.j0 k t133 t132 (t130.toList != ([] : List UInt8))) else (run_Take.j0 k t133 t132 true)) else (run_Take.j0 k t133 t132 true)) = some (r1, r2) := H
  have A3 := Aside0.mk A30
  clear A30
  have HC4 := Aside0.mk H
  clear H
  go_enter Try.func12, Try.ntmps12
  go_upto_region 1 with (fail)
  refine run_Take.scope_body ?_
  go_upto_region 3 with (first | ((with_reducible refine gate_callee (f := 34) rfl ?_); refine goesL_ (some 16) rfl rfl Try.func34 (by kernel_rfl) rfl #[.string a0, .int .i64 1073741824] rfl (by (try simp only [List.map_toArray, List.map_cons, List.map_nil]); first | done | rfl | (simp only [List.length_drop, List.length_take]; rfl)) ?_; (with_reducible refine (sum_Open.calls k a0 1073741824 t129 t130 t131 _ A2.out).mono ?_); rintro e w5 ⟨rfl, hb⟩; refine ⟨_, rfl, ?_⟩; have n0_ := Aside0.mk (below_step (by repeat (first | (with_reducible first | exact HB.out | apply below_alloc | apply pw_below_drewN | apply below_drew1) | exact HB.out)) hb); clear HB; have HB := n0_; clear n0_; (try clear hb); (try clear hb2); (try clear hk); (try clear hi)) | ((with_reducible refine gate_callee (f := 35) rfl ?_); refine goesL_ (some 22) rfl rfl Try.func35 (by kernel_rfl) rfl #[.string t129] rfl (by (try simp only [List.map_toArray, List.map_cons, List.map_nil]); first | done | rfl | (simp only [List.length_drop, List.length_take]; rfl)) ?_; (with_reducible refine (dec_TakeNum.calls k t129 t132 t133 t134 _ A3.out).mono ?_); rintro e w' ⟨rfl, ⟨nd, rfl⟩⟩; refine ⟨_, rfl, ?_⟩))
  (try simp only [Act.put, List.setIfInBounds_toArray, List.set_cons_zero, List.set_cons_succ])
  go_cut [35] (fun v35 wc => ∃ (kq : Nat) (x35_3 : Bool), v35 = .bool x35_3 ∧ Aside0 (run_Take.j0 kq t133 t132 x35_3 = some (r1, r2)) ∧ Aside0 (kq ≤ k) ∧ Aside0 (Below w.heap.size w wc))
  case first =>
    have H := HC4.out
    clear HC4
    by_cases c6 : t131 = 0
    · rw [if_pos c6] at H
      have c6b0 : (t131 == 0) = true := beq_iff_eq.mpr c6
      have c6b1 : (t131 != 0) = false := bne_eq_false_iff_eq.mpr c6
      clear c6
      (first | rw [c6b0] | (simp only [i64_w, i32_w]; rw [c6b0]) | skip)
      by_cases c7 : t134 = 0
      · rw [if_pos c7] at H
        have c7b0 : (t134 == 0) = true := beq_iff_eq.mpr c7
        have c7b1 : (t134 != 0) = false := bne_eq_false_iff_eq.mpr c7
        clear c7
        have H' := Aside0.mk H
        clear H
        go_wp2
        go_meet
        case rel => exact ⟨_, ((t130.toList != ([] : List UInt8))), (by first | rfl | (simp; done) | (simp [*]; done) | (simp only [Value.bool.injEq]; generalize ByteArray.toList _ = q_; cases q_ <;> rfl) | (generalize ByteArray.toList _ = q_; cases q_ <;> rfl)), H', ⟨by first | omega | exact Nat.le_refl _⟩, ⟨by repeat (first | (with_reducible first | exact HB.out | apply below_alloc | apply pw_below_drewN | apply below_drew1) | exact HB.out)⟩⟩
      · rw [if_neg c7] at H
        have c7b0 : (t134 == 0) = false := beq_eq_false_iff_ne.mpr c7
        have c7b1 : (t134 != 0) = true := bne_iff_ne.mpr c7
        have H' := Aside0.mk H
        clear H
        go_wp2
        go_meet
        case rel => exact ⟨_, (true), (by first | rfl | (simp; done) | (simp [*]; done) | (simp only [Value.bool.injEq]; generalize ByteArray.toList _ = q_; cases q_ <;> rfl) | (generalize ByteArray.toList _ = q_; cases q_ <;> rfl)), H', ⟨by first | omega | exact Nat.le_refl _⟩, ⟨by repeat (first | (with_reducible first | exact HB.out | apply below_alloc | apply pw_below_drewN | apply below_drew1) | exact HB.out)⟩⟩
    · rw [if_neg c6] at H
      have c6b0 : (t131 == 0) = false := beq_eq_false_iff_ne.mpr c6
      have c6b1 : (t131 != 0) = true := bne_iff_ne.mpr c6
      (first | rw [c6b0] | (simp only [i64_w, i32_w]; rw [c6b0]) | skip)
      have H' := Aside0.mk H
      clear H
      go_wp2
      go_meet
      case rel => exact ⟨_, (true), (by first | rfl | (simp; done) | (simp [*]; done) | (simp only [Value.bool.injEq]; generalize ByteArray.toList _ = q_; cases q_ <;> rfl) | (generalize ByteArray.toList _ = q_; cases q_ <;> rfl)), H', ⟨by first | omega | exact Nat.le_refl _⟩, ⟨by repeat (first | (with_reducible first | exact HB.out | apply below_alloc | apply pw_below_drewN | apply below_drew1) | exact HB.out)⟩⟩
  case rest =>
    clear HC4
    try clear c1
    try clear p2
    try clear c3
    try clear c6
    try clear c6b0
    try clear c6b1
    try clear c7
    try clear c7b0
    try clear c7b1
    obtain ⟨kq, x35_3, rfl, HA, HJ3, HB⟩ := hcut
    cases kq with
    | zero => exact absurd HA.out (by simp [run_Take.j0])
    | succ kj3 =>
      have H := HA.out
      clear HA
      simp only [run_Take.j0] at H
      by_cases c8 : x35_3 = true
      · subst c8
        have H1 : (some (([] : List (S62)), 3)) = some (r1, r2) := by rw [if_pos rfl] at H; exact H
        clear H
        have H := H1
        clear H1
        simp only [Option.some.injEq, Prod.mk.injEq] at H
        obtain ⟨rfl, rfl⟩ := H
        go_wp2
        go_ret2
        exact ⟨_, by first | rfl | (simp [errW_none, errW_some] <;> rfl) | (simp [*, errW_none, errW_some] <;> rfl), by first | exact Kd.R_nil _ _ _ _ _ | exact Kd.N_nil _ _ _ _ _ | exact Kd.V_nil _ _ _ _ _ | exact Kd.Q_nil _ _ _ _ _ | exact Kd.S_nil _ _ _ _ _, by repeat (first | (with_reducible first | exact HB.out | apply below_alloc | apply pw_below_drewN | apply below_drew1) | exact HB.out)⟩
      · replace c8 := Bool.eq_false_iff.mpr c8
        subst c8
        have H1 : (run_Take.l0 kj3 t133 t132 ([] : List (S62)) t132 0) = some (r1, r2) := by rw [if_neg (show ¬ (false = true) by decide)] at H; exact H
        clear H
        have H := H1
        clear H1
        have H' := Aside0.mk H
        clear H
        go_wp2
        refine wp_label ?_
        go_wp2
        go_loopg [4, 9, 37] kj3 (fun kq v4 v9 v37 w' => ∃ (x4_2 : ByteArray) (x9_2 : List (S62)) (x37_2 : Int), v4 = .string x4_2 ∧ v37 = .int .u64 x37_2 ∧ Aside0 (run_Take.l0 kq x4_2 t132 x9_2 t132 x37_2 = some (r1, r2)) ∧ Aside0 (kq ≤ kj3) ∧ Aside0 (Kd.R k62 62 w' w.heap.size (fun _ => True) v9 x9_2) ∧ Aside0 (Below w.heap.size w w'))
        case atStart => exact ⟨(t133), (([] : List (S62))), (0), (by first | rfl | (simp; done) | (simp [*]; done)), (by first | rfl | (simp; done) | (simp [*]; done)), H', ⟨Nat.le_refl _⟩, ⟨by first | exact Kd.R_nil _ _ _ _ _ | exact Kd.N_nil _ _ _ _ _ | exact Kd.V_nil _ _ _ _ _ | exact Kd.Q_nil _ _ _ _ _ | exact Kd.S_nil _ _ _ _ _⟩, ⟨by repeat (first | (with_reducible first | exact HB.out | apply below_alloc | apply pw_below_drewN | apply below_drew1) | exact HB.out)⟩⟩
        case round =>
          clear H'
          try clear c1
          try clear p2
          try clear c3
          try clear c6
          try clear c6b0
          try clear c6b1
          try clear c7
          try clear c7b0
          try clear c7b1
          try clear c8
          try clear p2
          obtain ⟨x4_2, x9_2, x37_2, rfl, rfl, HA, HK2, HO_9, HB⟩ := hrel
          cases gk with
          | zero => exact absurd HA.out (by simp [run_Take.l0])
          | succ k2 =>
            have H := HA.out
            clear HA
            simp only [run_Take.l0] at H
            by_cases c9 : x37_2 < t132
            · rw [if_pos c9] at H
              have c9b0 : decide (x37_2 < t132) = true := decide_eq_true c9
              clear c9
              replace H := Option.bind_eq_some_iff.mp H
              obtain ⟨⟨t136, t137, t138⟩, A100, H⟩ := H
              replace H : (if t138 = 0 then ((dec_TakeText.f k2 t137 65536).bind fun bt139 => (if bt139.2.2 = 0 then (if x9_2.length < 4398046511104 then (run_Take.l0 k2 bt139.2.1 t132 (x9_2 ++ [(⟨t136, bt139.1⟩ : S62)]) t132 (IntKind.u64.wrap (x37_2 + 1))) else (none)) else (if (IntKind.u64.wrap ((x9_2.length : Int))) = t132 then (if x4_2.toList = ([] : List UInt8) then ((run_may.f k2 x9_2).bind fun t145 => (if t145 = true then (some (x9_2, 0)) else (some (([] : List (S62)), 3)))) else (some (([] : List (S62)), 3))) else (some (([] : List (S62)), 3))))) else (if (IntKind.u64.wrap ((x9_2.length : Int))) = t132 then (if x4_2.toList = ([] : List UInt8) then ((run_may.f k2 x9_2).bind fun t146 => (if t146 = true then (some (x9_2, 0)) else (some (([] : List (S62)), 3)))) else (some (([] : List (S62)), 3))) else (some (([] : List (S62)), 3)))) = some (r1, r2) := H
              have A10 := Aside0.mk A100
              clear A100
              by_cases c11 : t138 = 0
              · rw [if_pos c11] at H
                have c11b0 : (t138 == 0) = true := beq_iff_eq.mpr c11
                have c11b1 : (t138 != 0) = false := bne_eq_false_iff_eq.mpr c11
                clear c11
                replace H := Option.bind_eq_some_iff.mp H
                obtain ⟨⟨t139, t140, t141⟩, A120, H⟩ := H
                replace H : (if t141 = 0 then (if x9_2.length < 4398046511104 then (run_Take.l0 k2 t140 t132 (x9_2 ++ [(⟨t136, t139⟩ : S62)]) t132 (IntKind.u64.wrap (x37_2 + 1))) else (none)) else (if (IntKind.u64.wrap ((x9_2.length : Int))) = t132 then (if x4_2.toList = ([] : List UInt8) then ((run_may.f k2 x9_2).bind fun t145 => (if t145 = true then (some (x9_2, 0)) else (some (([] : List (S62)), 3)))) else (some (([] : List (S62)), 3))) else (some (([] : List (S62)), 3)))) = some (r1, r2) := H
                have A12 := Aside0.mk A120
                clear A120
                by_cases c13 : t141 = 0
                · rw [if_pos c13] at H
                  have c13b0 : (t141 == 0) = true := beq_iff_eq.mpr c13
                  have c13b1 : (t141 != 0) = false := bne_eq_false_iff_eq.mpr c13
                  clear c13
                  by_cases c14 : x9_2.length < 4398046511104
                  · rw [if_pos c14] at H
                    have LMc14 := Aside0.mk c14
                    clear c14
                    obtain ⟨y142, hy142⟩ : ∃ y_ : List (S62), y_ = (x9_2 ++ [(⟨t136, t139⟩ : S62)]) := ⟨_, rfl⟩
                    replace H : (run_Take.l0 k2 t140 t132 y142 t132 (IntKind.u64.wrap (x37_2 + 1))) = some (r1, r2) := by first | (rw [hy142]; with_reducible exact H) | (have H2_ := (Option.bind_some _ _).symm.trans H; rw [hy142]; with_reducible exact H2_) | (have H2_ := (Option.bind_some _ _).symm.trans H; with_reducible exact H2_) | with_reducible exact H | (rw [hy142]; exact H) | exact H
                    have Ny142 := Aside0.mk hy142
                    clear hy142
                    have H' := Aside0.mk H
                    clear H
                    go_wp2_with (first | ((with_reducible refine gate_callee (f := 36) rfl ?_); refine goesL_ (some 41) rfl rfl Try.func36 (by kernel_rfl) rfl #[.string x4_2, .int .i64 65536] rfl (by (try simp only [List.map_toArray, List.map_cons, List.map_nil]); first | done | rfl | (simp only [List.length_drop, List.length_take]; rfl)) ?_; (with_reducible refine (dec_TakeText.calls k2 x4_2 65536 t136 t137 t138 _ A10.out).mono ?_); rintro e w' ⟨rfl, ⟨nd, rfl⟩⟩; refine ⟨_, rfl, ?_⟩) | ((with_reducible refine gate_callee (f := 36) rfl ?_); refine goesL_ (some 49) rfl rfl Try.func36 (by kernel_rfl) rfl #[.string t137, .int .i64 65536] rfl (by (try simp only [List.map_toArray, List.map_cons, List.map_nil]); first | done | rfl | (simp only [List.length_drop, List.length_take]; rfl)) ?_; (with_reducible refine (dec_TakeText.calls k2 t137 65536 t139 t140 t141 _ A12.out).mono ?_); rintro e w' ⟨rfl, ⟨nd, rfl⟩⟩; refine ⟨_, rfl, ?_⟩) | ((with_reducible refine gate_builtin (b := .append) (xs := #[.tmp 55, .tmp 59]) rfl ?_); at_builtin; refine Kd.R_append k62 (w0 := w) w.heap.size rfl (.tmp 55) (.tmp 59) 22 62 (.agg #[(.string ⟨#[]⟩), (.string ⟨#[]⟩)]) 32 rfl Try.underlying22 info62 rfl (by decide) (by omega) u9 x9_2 (⟨t136, t139⟩ : S62) [.string t136, .string t139] (fun _ => True) (fun _ => False) rfl rfl ?aP (fun _ hk => hk.elim) ?aF ?aO ?aB ?aS ?aL ?_; (case aP => exact k62_mkM _ _ _ (⟨t136, t139⟩ : S62)); (case aB => exact (by repeat (first | (with_reducible first | exact HB.out | apply below_alloc | apply pw_below_drewN | apply below_drew1) | exact HB.out))); (case aF => exact (fun _ _ => trivial)); (case aO => exact (by (with_reducible repeat (first | apply Kd.R_alloc | apply Kd.R_drewN | apply Kd.R_drew)); exact HO_9.out)); (case aS => exact (below_size (by repeat (first | (with_reducible first | exact HB.out | apply below_alloc | apply pw_below_drewN | apply below_drew1) | exact HB.out)))); (case aL => have := LMc14.out; omega); intro v143 w15 ho hb hg hat; rw [← Ny142.out] at ho; have n0_ := Aside0.mk (hb); have n1_ := Aside0.mk (ho); clear HB; clear HO_9; have HB := n0_; have HO144 := n1_; clear n0_ n1_; clear ho hb hg hat))
                    go_roundg k2
                    case measure => have := HJ3.out; have := HK2.out; omega
                    case rel => exact ⟨(t140), (y142), (IntKind.u64.wrap (x37_2 + 1)), (by first | rfl | (simp; done) | (simp [*]; done)), (by first | rfl | (simp; done) | (simp [*]; done)), H', ⟨by have := HJ3.out; have := HK2.out; omega⟩, ⟨by (with_reducible repeat (first | apply Kd.R_alloc | apply Kd.R_drewN | apply Kd.R_drew)); exact HO144.out⟩, ⟨by repeat (first | (with_reducible first | exact HB.out | apply below_alloc | apply pw_below_drewN | apply below_drew1) | exact HB.out)⟩⟩
                  · rw [if_neg c14] at H
                    exact absurd H (by simp)
                · rw [if_neg c13] at H
                  have c13b0 : (t141 == 0) = false := beq_eq_false_iff_ne.mpr c13
                  have c13b1 : (t141 != 0) = true := bne_iff_ne.mpr c13
                  by_cases c16 : (IntKind.u64.wrap ((x9_2.length : Int))) = t132
                  · rw [if_pos c16] at H
                    have c16b0 : ((IntKind.u64.wrap ((x9_2.length : Int))) == t132) = true := beq_iff_eq.mpr c16
                    have c16b1 : ((IntKind.u64.wrap ((x9_2.length : Int))) != t132) = false := bne_eq_false_iff_eq.mpr c16
                    clear c16
                    by_cases c17 : x4_2.toList = ([] : List UInt8)
                    · rw [if_pos c17] at H
                      have c17b0 : (x4_2.toList == ([] : List UInt8)) = true := beq_iff_eq.mpr c17
                      have c17b1 : (x4_2.toList != ([] : List UInt8)) = false := bne_eq_false_iff_eq.mpr c17
                      clear c17
                      replace H := Option.bind_eq_some_iff.mp H
                      obtain ⟨t145, A180, H⟩ := H
                      replace H : (if t145 = true then (some (x9_2, 0)) else (some (([] : List (S62)), 3))) = some (r1, r2) := H
                      have A18 := Aside0.mk A180
                      clear A180
                      by_cases c19 : t145 = true
                      · subst c19
                        have H1 : (some (x9_2, 0)) = some (r1, r2) := by rw [if_pos rfl] at H; exact H
                        clear H
                        have H := H1
                        clear H1
                        simp only [Option.some.injEq, Prod.mk.injEq] at H
                        obtain ⟨rfl, rfl⟩ := H
                        go_wp2_with (first | ((with_reducible refine gate_callee (f := 36) rfl ?_); refine goesL_ (some 41) rfl rfl Try.func36 (by kernel_rfl) rfl #[.string x4_2, .int .i64 65536] rfl (by (try simp only [List.map_toArray, List.map_cons, List.map_nil]); first | done | rfl | (simp only [List.length_drop, List.length_take]; rfl)) ?_; (with_reducible refine (dec_TakeText.calls k2 x4_2 65536 t136 t137 t138 _ A10.out).mono ?_); rintro e w' ⟨rfl, ⟨nd, rfl⟩⟩; refine ⟨_, rfl, ?_⟩) | ((with_reducible refine gate_callee (f := 36) rfl ?_); refine goesL_ (some 49) rfl rfl Try.func36 (by kernel_rfl) rfl #[.string t137, .int .i64 65536] rfl (by (try simp only [List.map_toArray, List.map_cons, List.map_nil]); first | done | rfl | (simp only [List.length_drop, List.length_take]; rfl)) ?_; (with_reducible refine (dec_TakeText.calls k2 t137 65536 t139 t140 t141 _ A12.out).mono ?_); rintro e w' ⟨rfl, ⟨nd, rfl⟩⟩; refine ⟨_, rfl, ?_⟩; obtain ⟨Ao20, co20, eo20⟩ := Kd.R_slice HO_9.out; subst eo20) | (go_at_call 28; (with_reducible refine (run_may.calls k2 _ _ x9_2 true _ ?side1 ?side2 A18.out).mono ?_); (case side1 => repeat (first | exact (Kd.R_reads' HO_9.out).2.2 | (with_reducible refine Kd.C_alloc ?_ _) | (with_reducible refine Kd.C_drewN ?_ _) | (with_reducible refine Kd.C_drew ?_))); (case side2 => exact (Kd.R_reads' HO_9.out).2.1); rintro e w21 ⟨rfl, hb⟩; have n0_ := Aside0.mk (Kd.R_below (by (with_reducible repeat (first | apply Kd.R_alloc | apply Kd.R_drewN | apply Kd.R_drew)); exact HO_9.out) hb); have n1_ := Aside0.mk (below_step (by repeat (first | (with_reducible first | exact HB.out | apply below_alloc | apply pw_below_drewN | apply below_drew1) | exact HB.out)) hb); clear HO_9; clear HB; have HO_9 := n0_; have HB := n1_; clear n0_ n1_; (try clear hb); (try clear hb2); (try clear hk); (try clear hi)))
                        go_ret2
                        exact ⟨_, by first | rfl | (simp [errW_none, errW_some] <;> rfl) | (simp [*, errW_none, errW_some] <;> rfl), by (with_reducible repeat (first | apply Kd.R_alloc | apply Kd.R_drewN | apply Kd.R_drew)); exact HO_9.out, by repeat (first | (with_reducible first | exact HB.out | apply below_alloc | apply pw_below_drewN | apply below_drew1) | exact HB.out)⟩
                      · replace c19 := Bool.eq_false_iff.mpr c19
                        subst c19
                        have H1 : (some (([] : List (S62)), 3)) = some (r1, r2) := by rw [if_neg (show ¬ (false = true) by decide)] at H; exact H
                        clear H
                        have H := H1
                        clear H1
                        simp only [Option.some.injEq, Prod.mk.injEq] at H
                        obtain ⟨rfl, rfl⟩ := H
                        go_wp2_with (first | ((with_reducible refine gate_callee (f := 36) rfl ?_); refine goesL_ (some 41) rfl rfl Try.func36 (by kernel_rfl) rfl #[.string x4_2, .int .i64 65536] rfl (by (try simp only [List.map_toArray, List.map_cons, List.map_nil]); first | done | rfl | (simp only [List.length_drop, List.length_take]; rfl)) ?_; (with_reducible refine (dec_TakeText.calls k2 x4_2 65536 t136 t137 t138 _ A10.out).mono ?_); rintro e w' ⟨rfl, ⟨nd, rfl⟩⟩; refine ⟨_, rfl, ?_⟩) | ((with_reducible refine gate_callee (f := 36) rfl ?_); refine goesL_ (some 49) rfl rfl Try.func36 (by kernel_rfl) rfl #[.string t137, .int .i64 65536] rfl (by (try simp only [List.map_toArray, List.map_cons, List.map_nil]); first | done | rfl | (simp only [List.length_drop, List.length_take]; rfl)) ?_; (with_reducible refine (dec_TakeText.calls k2 t137 65536 t139 t140 t141 _ A12.out).mono ?_); rintro e w' ⟨rfl, ⟨nd, rfl⟩⟩; refine ⟨_, rfl, ?_⟩; obtain ⟨Ao22, co22, eo22⟩ := Kd.R_slice HO_9.out; subst eo22) | (go_at_call 28; (with_reducible refine (run_may.calls k2 _ _ x9_2 false _ ?side1 ?side2 A18.out).mono ?_); (case side1 => repeat (first | exact (Kd.R_reads' HO_9.out).2.2 | (with_reducible refine Kd.C_alloc ?_ _) | (with_reducible refine Kd.C_drewN ?_ _) | (with_reducible refine Kd.C_drew ?_))); (case side2 => exact (Kd.R_reads' HO_9.out).2.1); rintro e w23 ⟨rfl, hb⟩; have n0_ := Aside0.mk (Kd.R_below (by (with_reducible repeat (first | apply Kd.R_alloc | apply Kd.R_drewN | apply Kd.R_drew)); exact HO_9.out) hb); have n1_ := Aside0.mk (below_step (by repeat (first | (with_reducible first | exact HB.out | apply below_alloc | apply pw_below_drewN | apply below_drew1) | exact HB.out)) hb); clear HO_9; clear HB; have HO_9 := n0_; have HB := n1_; clear n0_ n1_; (try clear hb); (try clear hb2); (try clear hk); (try clear hi)))
                        go_ret2
                        exact ⟨_, by first | rfl | (simp [errW_none, errW_some] <;> rfl) | (simp [*, errW_none, errW_some] <;> rfl), by first | exact Kd.R_nil _ _ _ _ _ | exact Kd.N_nil _ _ _ _ _ | exact Kd.V_nil _ _ _ _ _ | exact Kd.Q_nil _ _ _ _ _ | exact Kd.S_nil _ _ _ _ _, by repeat (first | (with_reducible first | exact HB.out | apply below_alloc | apply pw_below_drewN | apply below_drew1) | exact HB.out)⟩
                    · rw [if_neg c17] at H
                      have c17b0 : (x4_2.toList == ([] : List UInt8)) = false := beq_eq_false_iff_ne.mpr c17
                      have c17b1 : (x4_2.toList != ([] : List UInt8)) = true := bne_iff_ne.mpr c17
                      simp only [Option.some.injEq, Prod.mk.injEq] at H
                      obtain ⟨rfl, rfl⟩ := H
                      go_wp2_with (first | ((with_reducible refine gate_callee (f := 36) rfl ?_); refine goesL_ (some 41) rfl rfl Try.func36 (by kernel_rfl) rfl #[.string x4_2, .int .i64 65536] rfl (by (try simp only [List.map_toArray, List.map_cons, List.map_nil]); first | done | rfl | (simp only [List.length_drop, List.length_take]; rfl)) ?_; (with_reducible refine (dec_TakeText.calls k2 x4_2 65536 t136 t137 t138 _ A10.out).mono ?_); rintro e w' ⟨rfl, ⟨nd, rfl⟩⟩; refine ⟨_, rfl, ?_⟩) | ((with_reducible refine gate_callee (f := 36) rfl ?_); refine goesL_ (some 49) rfl rfl Try.func36 (by kernel_rfl) rfl #[.string t137, .int .i64 65536] rfl (by (try simp only [List.map_toArray, List.map_cons, List.map_nil]); first | done | rfl | (simp only [List.length_drop, List.length_take]; rfl)) ?_; (with_reducible refine (dec_TakeText.calls k2 t137 65536 t139 t140 t141 _ A12.out).mono ?_); rintro e w' ⟨rfl, ⟨nd, rfl⟩⟩; refine ⟨_, rfl, ?_⟩; obtain ⟨Ao24, co24, eo24⟩ := Kd.R_slice HO_9.out; subst eo24))
                      go_ret2
                      exact ⟨_, by first | rfl | (simp [errW_none, errW_some] <;> rfl) | (simp [*, errW_none, errW_some] <;> rfl), by first | exact Kd.R_nil _ _ _ _ _ | exact Kd.N_nil _ _ _ _ _ | exact Kd.V_nil _ _ _ _ _ | exact Kd.Q_nil _ _ _ _ _ | exact Kd.S_nil _ _ _ _ _, by repeat (first | (with_reducible first | exact HB.out | apply below_alloc | apply pw_below_drewN | apply below_drew1) | exact HB.out)⟩
                  · rw [if_neg c16] at H
                    have c16b0 : ((IntKind.u64.wrap ((x9_2.length : Int))) == t132) = false := beq_eq_false_iff_ne.mpr c16
                    have c16b1 : ((IntKind.u64.wrap ((x9_2.length : Int))) != t132) = true := bne_iff_ne.mpr c16
                    simp only [Option.some.injEq, Prod.mk.injEq] at H
                    obtain ⟨rfl, rfl⟩ := H
                    go_wp2_with (first | ((with_reducible refine gate_callee (f := 36) rfl ?_); refine goesL_ (some 41) rfl rfl Try.func36 (by kernel_rfl) rfl #[.string x4_2, .int .i64 65536] rfl (by (try simp only [List.map_toArray, List.map_cons, List.map_nil]); first | done | rfl | (simp only [List.length_drop, List.length_take]; rfl)) ?_; (with_reducible refine (dec_TakeText.calls k2 x4_2 65536 t136 t137 t138 _ A10.out).mono ?_); rintro e w' ⟨rfl, ⟨nd, rfl⟩⟩; refine ⟨_, rfl, ?_⟩) | ((with_reducible refine gate_callee (f := 36) rfl ?_); refine goesL_ (some 49) rfl rfl Try.func36 (by kernel_rfl) rfl #[.string t137, .int .i64 65536] rfl (by (try simp only [List.map_toArray, List.map_cons, List.map_nil]); first | done | rfl | (simp only [List.length_drop, List.length_take]; rfl)) ?_; (with_reducible refine (dec_TakeText.calls k2 t137 65536 t139 t140 t141 _ A12.out).mono ?_); rintro e w' ⟨rfl, ⟨nd, rfl⟩⟩; refine ⟨_, rfl, ?_⟩; obtain ⟨Ao25, co25, eo25⟩ := Kd.R_slice HO_9.out; subst eo25))
                    go_ret2
                    exact ⟨_, by first | rfl | (simp [errW_none, errW_some] <;> rfl) | (simp [*, errW_none, errW_some] <;> rfl), by first | exact Kd.R_nil _ _ _ _ _ | exact Kd.N_nil _ _ _ _ _ | exact Kd.V_nil _ _ _ _ _ | exact Kd.Q_nil _ _ _ _ _ | exact Kd.S_nil _ _ _ _ _, by repeat (first | (with_reducible first | exact HB.out | apply below_alloc | apply pw_below_drewN | apply below_drew1) | exact HB.out)⟩
              · rw [if_neg c11] at H
                have c11b0 : (t138 == 0) = false := beq_eq_false_iff_ne.mpr c11
                have c11b1 : (t138 != 0) = true := bne_iff_ne.mpr c11
                by_cases c26 : (IntKind.u64.wrap ((x9_2.length : Int))) = t132
                · rw [if_pos c26] at H
                  have c26b0 : ((IntKind.u64.wrap ((x9_2.length : Int))) == t132) = true := beq_iff_eq.mpr c26
                  have c26b1 : ((IntKind.u64.wrap ((x9_2.length : Int))) != t132) = false := bne_eq_false_iff_eq.mpr c26
                  clear c26
                  by_cases c27 : x4_2.toList = ([] : List UInt8)
                  · rw [if_pos c27] at H
                    have c27b0 : (x4_2.toList == ([] : List UInt8)) = true := beq_iff_eq.mpr c27
                    have c27b1 : (x4_2.toList != ([] : List UInt8)) = false := bne_eq_false_iff_eq.mpr c27
                    clear c27
                    replace H := Option.bind_eq_some_iff.mp H
                    obtain ⟨t146, A280, H⟩ := H
                    replace H : (if t146 = true then (some (x9_2, 0)) else (some (([] : List (S62)), 3))) = some (r1, r2) := H
                    have A28 := Aside0.mk A280
                    clear A280
                    by_cases c29 : t146 = true
                    · subst c29
                      have H1 : (some (x9_2, 0)) = some (r1, r2) := by rw [if_pos rfl] at H; exact H
                      clear H
                      have H := H1
                      clear H1
                      simp only [Option.some.injEq, Prod.mk.injEq] at H
                      obtain ⟨rfl, rfl⟩ := H
                      go_wp2_with (first | ((with_reducible refine gate_callee (f := 36) rfl ?_); refine goesL_ (some 41) rfl rfl Try.func36 (by kernel_rfl) rfl #[.string x4_2, .int .i64 65536] rfl (by (try simp only [List.map_toArray, List.map_cons, List.map_nil]); first | done | rfl | (simp only [List.length_drop, List.length_take]; rfl)) ?_; (with_reducible refine (dec_TakeText.calls k2 x4_2 65536 t136 t137 t138 _ A10.out).mono ?_); rintro e w' ⟨rfl, ⟨nd, rfl⟩⟩; refine ⟨_, rfl, ?_⟩; obtain ⟨Ao30, co30, eo30⟩ := Kd.R_slice HO_9.out; subst eo30) | (go_at_call 28; (with_reducible refine (run_may.calls k2 _ _ x9_2 true _ ?side1 ?side2 A28.out).mono ?_); (case side1 => repeat (first | exact (Kd.R_reads' HO_9.out).2.2 | (with_reducible refine Kd.C_alloc ?_ _) | (with_reducible refine Kd.C_drewN ?_ _) | (with_reducible refine Kd.C_drew ?_))); (case side2 => exact (Kd.R_reads' HO_9.out).2.1); rintro e w31 ⟨rfl, hb⟩; have n0_ := Aside0.mk (Kd.R_below (by (with_reducible repeat (first | apply Kd.R_alloc | apply Kd.R_drewN | apply Kd.R_drew)); exact HO_9.out) hb); have n1_ := Aside0.mk (below_step (by repeat (first | (with_reducible first | exact HB.out | apply below_alloc | apply pw_below_drewN | apply below_drew1) | exact HB.out)) hb); clear HO_9; clear HB; have HO_9 := n0_; have HB := n1_; clear n0_ n1_; (try clear hb); (try clear hb2); (try clear hk); (try clear hi)))
                      go_ret2
                      exact ⟨_, by first | rfl | (simp [errW_none, errW_some] <;> rfl) | (simp [*, errW_none, errW_some] <;> rfl), by (with_reducible repeat (first | apply Kd.R_alloc | apply Kd.R_drewN | apply Kd.R_drew)); exact HO_9.out, by repeat (first | (with_reducible first | exact HB.out | apply below_alloc | apply pw_below_drewN | apply below_drew1) | exact HB.out)⟩
                    · replace c29 := Bool.eq_false_iff.mpr c29
                      subst c29
                      have H1 : (some (([] : List (S62)), 3)) = some (r1, r2) := by rw [if_neg (show ¬ (false = true) by decide)] at H; exact H
                      clear H
                      have H := H1
                      clear H1
                      simp only [Option.some.injEq, Prod.mk.injEq] at H
                      obtain ⟨rfl, rfl⟩ := H
                      go_wp2_with (first | ((with_reducible refine gate_callee (f := 36) rfl ?_); refine goesL_ (some 41) rfl rfl Try.func36 (by kernel_rfl) rfl #[.string x4_2, .int .i64 65536] rfl (by (try simp only [List.map_toArray, List.map_cons, List.map_nil]); first | done | rfl | (simp only [List.length_drop, List.length_take]; rfl)) ?_; (with_reducible refine (dec_TakeText.calls k2 x4_2 65536 t136 t137 t138 _ A10.out).mono ?_); rintro e w' ⟨rfl, ⟨nd, rfl⟩⟩; refine ⟨_, rfl, ?_⟩; obtain ⟨Ao32, co32, eo32⟩ := Kd.R_slice HO_9.out; subst eo32) | (go_at_call 28; (with_reducible refine (run_may.calls k2 _ _ x9_2 false _ ?side1 ?side2 A28.out).mono ?_); (case side1 => repeat (first | exact (Kd.R_reads' HO_9.out).2.2 | (with_reducible refine Kd.C_alloc ?_ _) | (with_reducible refine Kd.C_drewN ?_ _) | (with_reducible refine Kd.C_drew ?_))); (case side2 => exact (Kd.R_reads' HO_9.out).2.1); rintro e w33 ⟨rfl, hb⟩; have n0_ := Aside0.mk (Kd.R_below (by (with_reducible repeat (first | apply Kd.R_alloc | apply Kd.R_drewN | apply Kd.R_drew)); exact HO_9.out) hb); have n1_ := Aside0.mk (below_step (by repeat (first | (with_reducible first | exact HB.out | apply below_alloc | apply pw_below_drewN | apply below_drew1) | exact HB.out)) hb); clear HO_9; clear HB; have HO_9 := n0_; have HB := n1_; clear n0_ n1_; (try clear hb); (try clear hb2); (try clear hk); (try clear hi)))
                      go_ret2
                      exact ⟨_, by first | rfl | (simp [errW_none, errW_some] <;> rfl) | (simp [*, errW_none, errW_some] <;> rfl), by first | exact Kd.R_nil _ _ _ _ _ | exact Kd.N_nil _ _ _ _ _ | exact Kd.V_nil _ _ _ _ _ | exact Kd.Q_nil _ _ _ _ _ | exact Kd.S_nil _ _ _ _ _, by repeat (first | (with_reducible first | exact HB.out | apply below_alloc | apply pw_below_drewN | apply below_drew1) | exact HB.out)⟩
                  · rw [if_neg c27] at H
                    have c27b0 : (x4_2.toList == ([] : List UInt8)) = false := beq_eq_false_iff_ne.mpr c27
                    have c27b1 : (x4_2.toList != ([] : List UInt8)) = true := bne_iff_ne.mpr c27
                    simp only [Option.some.injEq, Prod.mk.injEq] at H
                    obtain ⟨rfl, rfl⟩ := H
                    go_wp2_with (first | ((with_reducible refine gate_callee (f := 36) rfl ?_); refine goesL_ (some 41) rfl rfl Try.func36 (by kernel_rfl) rfl #[.string x4_2, .int .i64 65536] rfl (by (try simp only [List.map_toArray, List.map_cons, List.map_nil]); first | done | rfl | (simp only [List.length_drop, List.length_take]; rfl)) ?_; (with_reducible refine (dec_TakeText.calls k2 x4_2 65536 t136 t137 t138 _ A10.out).mono ?_); rintro e w' ⟨rfl, ⟨nd, rfl⟩⟩; refine ⟨_, rfl, ?_⟩; obtain ⟨Ao34, co34, eo34⟩ := Kd.R_slice HO_9.out; subst eo34))
                    go_ret2
                    exact ⟨_, by first | rfl | (simp [errW_none, errW_some] <;> rfl) | (simp [*, errW_none, errW_some] <;> rfl), by first | exact Kd.R_nil _ _ _ _ _ | exact Kd.N_nil _ _ _ _ _ | exact Kd.V_nil _ _ _ _ _ | exact Kd.Q_nil _ _ _ _ _ | exact Kd.S_nil _ _ _ _ _, by repeat (first | (with_reducible first | exact HB.out | apply below_alloc | apply pw_below_drewN | apply below_drew1) | exact HB.out)⟩
                · rw [if_neg c26] at H
                  have c26b0 : ((IntKind.u64.wrap ((x9_2.length : Int))) == t132) = false := beq_eq_false_iff_ne.mpr c26
                  have c26b1 : ((IntKind.u64.wrap ((x9_2.length : Int))) != t132) = true := bne_iff_ne.mpr c26
                  simp only [Option.some.injEq, Prod.mk.injEq] at H
                  obtain ⟨rfl, rfl⟩ := H
                  go_wp2_with (first | ((with_reducible refine gate_callee (f := 36) rfl ?_); refine goesL_ (some 41) rfl rfl Try.func36 (by kernel_rfl) rfl #[.string x4_2, .int .i64 65536] rfl (by (try simp only [List.map_toArray, List.map_cons, List.map_nil]); first | done | rfl | (simp only [List.length_drop, List.length_take]; rfl)) ?_; (with_reducible refine (dec_TakeText.calls k2 x4_2 65536 t136 t137 t138 _ A10.out).mono ?_); rintro e w' ⟨rfl, ⟨nd, rfl⟩⟩; refine ⟨_, rfl, ?_⟩; obtain ⟨Ao35, co35, eo35⟩ := Kd.R_slice HO_9.out; subst eo35))
                  go_ret2
                  exact ⟨_, by first | rfl | (simp [errW_none, errW_some] <;> rfl) | (simp [*, errW_none, errW_some] <;> rfl), by first | exact Kd.R_nil _ _ _ _ _ | exact Kd.N_nil _ _ _ _ _ | exact Kd.V_nil _ _ _ _ _ | exact Kd.Q_nil _ _ _ _ _ | exact Kd.S_nil _ _ _ _ _, by repeat (first | (with_reducible first | exact HB.out | apply below_alloc | apply pw_below_drewN | apply below_drew1) | exact HB.out)⟩
            · rw [if_neg c9] at H
              have c9b0 : decide (x37_2 < t132) = false := decide_eq_false c9
              clear c9
              by_cases c36 : (IntKind.u64.wrap ((x9_2.length : Int))) = t132
              · rw [if_pos c36] at H
                have c36b0 : ((IntKind.u64.wrap ((x9_2.length : Int))) == t132) = true := beq_iff_eq.mpr c36
                have c36b1 : ((IntKind.u64.wrap ((x9_2.length : Int))) != t132) = false := bne_eq_false_iff_eq.mpr c36
                clear c36
                by_cases c37 : x4_2.toList = ([] : List UInt8)
                · rw [if_pos c37] at H
                  have c37b0 : (x4_2.toList == ([] : List UInt8)) = true := beq_iff_eq.mpr c37
                  have c37b1 : (x4_2.toList != ([] : List UInt8)) = false := bne_eq_false_iff_eq.mpr c37
                  clear c37
                  replace H := Option.bind_eq_some_iff.mp H
                  obtain ⟨t135, A380, H⟩ := H
                  replace H : (if t135 = true then (some (x9_2, 0)) else (some (([] : List (S62)), 3))) = some (r1, r2) := H
                  have A38 := Aside0.mk A380
                  clear A380
                  by_cases c39 : t135 = true
                  · subst c39
                    have H1 : (some (x9_2, 0)) = some (r1, r2) := by rw [if_pos rfl] at H; exact H
                    clear H
                    have H := H1
                    clear H1
                    simp only [Option.some.injEq, Prod.mk.injEq] at H
                    obtain ⟨rfl, rfl⟩ := H
                    obtain ⟨Ao40, co40, eo40⟩ := Kd.R_slice HO_9.out
                    subst eo40
                    go_wp2_with (first | (go_at_call 28; (with_reducible refine (run_may.calls k2 _ _ x9_2 true _ ?side1 ?side2 A38.out).mono ?_); (case side1 => repeat (first | exact (Kd.R_reads' HO_9.out).2.2 | (with_reducible refine Kd.C_alloc ?_ _) | (with_reducible refine Kd.C_drewN ?_ _) | (with_reducible refine Kd.C_drew ?_))); (case side2 => exact (Kd.R_reads' HO_9.out).2.1); rintro e w41 ⟨rfl, hb⟩; have n0_ := Aside0.mk (Kd.R_below (by (with_reducible repeat (first | apply Kd.R_alloc | apply Kd.R_drewN | apply Kd.R_drew)); exact HO_9.out) hb); have n1_ := Aside0.mk (below_step (by repeat (first | (with_reducible first | exact HB.out | apply below_alloc | apply pw_below_drewN | apply below_drew1) | exact HB.out)) hb); clear HO_9; clear HB; have HO_9 := n0_; have HB := n1_; clear n0_ n1_; (try clear hb); (try clear hb2); (try clear hk); (try clear hi)))
                    go_ret2
                    exact ⟨_, by first | rfl | (simp [errW_none, errW_some] <;> rfl) | (simp [*, errW_none, errW_some] <;> rfl), by (with_reducible repeat (first | apply Kd.R_alloc | apply Kd.R_drewN | apply Kd.R_drew)); exact HO_9.out, by repeat (first | (with_reducible first | exact HB.out | apply below_alloc | apply pw_below_drewN | apply below_drew1) | exact HB.out)⟩
                  · replace c39 := Bool.eq_false_iff.mpr c39
                    subst c39
                    have H1 : (some (([] : List (S62)), 3)) = some (r1, r2) := by rw [if_neg (show ¬ (false = true) by decide)] at H; exact H
                    clear H
                    have H := H1
                    clear H1
                    simp only [Option.some.injEq, Prod.mk.injEq] at H
                    obtain ⟨rfl, rfl⟩ := H
                    obtain ⟨Ao42, co42, eo42⟩ := Kd.R_slice HO_9.out
                    subst eo42
                    go_wp2_with (first | (go_at_call 28; (with_reducible refine (run_may.calls k2 _ _ x9_2 false _ ?side1 ?side2 A38.out).mono ?_); (case side1 => repeat (first | exact (Kd.R_reads' HO_9.out).2.2 | (with_reducible refine Kd.C_alloc ?_ _) | (with_reducible refine Kd.C_drewN ?_ _) | (with_reducible refine Kd.C_drew ?_))); (case side2 => exact (Kd.R_reads' HO_9.out).2.1); rintro e w43 ⟨rfl, hb⟩; have n0_ := Aside0.mk (Kd.R_below (by (with_reducible repeat (first | apply Kd.R_alloc | apply Kd.R_drewN | apply Kd.R_drew)); exact HO_9.out) hb); have n1_ := Aside0.mk (below_step (by repeat (first | (with_reducible first | exact HB.out | apply below_alloc | apply pw_below_drewN | apply below_drew1) | exact HB.out)) hb); clear HO_9; clear HB; have HO_9 := n0_; have HB := n1_; clear n0_ n1_; (try clear hb); (try clear hb2); (try clear hk); (try clear hi)))
                    go_ret2
                    exact ⟨_, by first | rfl | (simp [errW_none, errW_some] <;> rfl) | (simp [*, errW_none, errW_some] <;> rfl), by first | exact Kd.R_nil _ _ _ _ _ | exact Kd.N_nil _ _ _ _ _ | exact Kd.V_nil _ _ _ _ _ | exact Kd.Q_nil _ _ _ _ _ | exact Kd.S_nil _ _ _ _ _, by repeat (first | (with_reducible first | exact HB.out | apply below_alloc | apply pw_below_drewN | apply below_drew1) | exact HB.out)⟩
                · rw [if_neg c37] at H
                  have c37b0 : (x4_2.toList == ([] : List UInt8)) = false := beq_eq_false_iff_ne.mpr c37
                  have c37b1 : (x4_2.toList != ([] : List UInt8)) = true := bne_iff_ne.mpr c37
                  simp only [Option.some.injEq, Prod.mk.injEq] at H
                  obtain ⟨rfl, rfl⟩ := H
                  obtain ⟨Ao44, co44, eo44⟩ := Kd.R_slice HO_9.out
                  subst eo44
                  go_wp2
                  go_ret2
                  exact ⟨_, by first | rfl | (simp [errW_none, errW_some] <;> rfl) | (simp [*, errW_none, errW_some] <;> rfl), by first | exact Kd.R_nil _ _ _ _ _ | exact Kd.N_nil _ _ _ _ _ | exact Kd.V_nil _ _ _ _ _ | exact Kd.Q_nil _ _ _ _ _ | exact Kd.S_nil _ _ _ _ _, by repeat (first | (with_reducible first | exact HB.out | apply below_alloc | apply pw_below_drewN | apply below_drew1) | exact HB.out)⟩
              · rw [if_neg c36] at H
                have c36b0 : ((IntKind.u64.wrap ((x9_2.length : Int))) == t132) = false := beq_eq_false_iff_ne.mpr c36
                have c36b1 : ((IntKind.u64.wrap ((x9_2.length : Int))) != t132) = true := bne_iff_ne.mpr c36
                simp only [Option.some.injEq, Prod.mk.injEq] at H
                obtain ⟨rfl, rfl⟩ := H
                obtain ⟨Ao45, co45, eo45⟩ := Kd.R_slice HO_9.out
                subst eo45
                go_wp2
                go_ret2
                exact ⟨_, by first | rfl | (simp [errW_none, errW_some] <;> rfl) | (simp [*, errW_none, errW_some] <;> rfl), by first | exact Kd.R_nil _ _ _ _ _ | exact Kd.N_nil _ _ _ _ _ | exact Kd.V_nil _ _ _ _ _ | exact Kd.Q_nil _ _ _ _ _ | exact Kd.S_nil _ _ _ _ _, by repeat (first | (with_reducible first | exact HB.out | apply below_alloc | apply pw_below_drewN | apply below_drew1) | exact HB.out)⟩

/-! ### stanchionlaw06_shown: function 10 -/
set_option maxHeartbeats 8000000 in
set_option maxRecDepth 100000 in
theorem stanchionlaw06_shown_t.calls (k : Nat)  (r : Bool) (w : World) (h : stanchionlaw06_shown.f k  = some r) (hr_ : r = true) :
    Calls Try.prog 10 #[] w fun e w' => e = .returned (.bool r) ∧ Below w.heap.size w w' := by
  have hu62 := Try.underlying62
  have HB := Aside0.mk (Below.refl w.heap.size w)
  have H : ((run_Bytes.f k (([(⟨(⟨#[97]⟩ : ByteArray), (⟨#[49]⟩ : ByteArray)⟩ : S62)] : List (S62)))).bind fun bt150 => ((run_Take.f k bt150.1).bind fun bt152 => (if bt150.2 = 0 then (if bt152.2 = 0 then (if (bt150.1.size : Int) > 10 then (if 0 ≤ 10 then (if 10 ≤ (bt150.1.size : Int) then (if (bt150.1.extract 0 10).toList = ([56, 59, 49, 59, 49, 59, 97, 49, 59, 49] : List UInt8) then (if (bt152.1.length : Int) = 1 then (if 0 < (bt152.1.length : Int) then (some (((rd_T62 bt152.1 0).f1).toList == ([49] : List UInt8))) else (none)) else (some false)) else (some false)) else (none)) else (none)) else (some false)) else (some false)) else (some false)))) = some r := h
  clear h
  obtain ⟨y147, hy147⟩ : ∃ y_ : List (S62), y_ = (([(⟨(⟨#[97]⟩ : ByteArray), (⟨#[49]⟩ : ByteArray)⟩ : S62)] : List (S62))) := ⟨_, rfl⟩
  replace H : ((run_Bytes.f k y147).bind fun bt150 => ((run_Take.f k bt150.1).bind fun bt152 => (if bt150.2 = 0 then (if bt152.2 = 0 then (if (bt150.1.size : Int) > 10 then (if 0 ≤ 10 then (if 10 ≤ (bt150.1.size : Int) then (if (bt150.1.extract 0 10).toList = ([56, 59, 49, 59, 49, 59, 97, 49, 59, 49] : List UInt8) then (if (bt152.1.length : Int) = 1 then (if 0 < (bt152.1.length : Int) then (some (((rd_T62 bt152.1 0).f1).toList == ([49] : List UInt8))) else (none)) else (some false)) else (some false)) else (none)) else (none)) else (some false)) else (some false)) else (some false)))) = some r := by first | (rw [hy147]; with_reducible exact H) | (have H2_ := (Option.bind_some _ _).symm.trans H; rw [hy147]; with_reducible exact H2_) | (have H2_ := (Option.bind_some _ _).symm.trans H; with_reducible exact H2_) | with_reducible exact H | (rw [hy147]; exact H) | exact H
  have Ny147 := Aside0.mk hy147
  clear hy147
  replace H := Option.bind_eq_some_iff.mp H
  obtain ⟨⟨t150, t151⟩, A10, H⟩ := H
  replace H : ((run_Take.f k t150).bind fun bt152 => (if t151 = 0 then (if bt152.2 = 0 then (if (t150.size : Int) > 10 then (if 0 ≤ 10 then (if 10 ≤ (t150.size : Int) then (if (t150.extract 0 10).toList = ([56, 59, 49, 59, 49, 59, 97, 49, 59, 49] : List UInt8) then (if (bt152.1.length : Int) = 1 then (if 0 < (bt152.1.length : Int) then (some (((rd_T62 bt152.1 0).f1).toList == ([49] : List UInt8))) else (none)) else (some false)) else (some false)) else (none)) else (none)) else (some false)) else (some false)) else (some false))) = some r := H
  have A1 := Aside0.mk A10
  clear A10
  replace H := Option.bind_eq_some_iff.mp H
  obtain ⟨⟨t152, t153⟩, A20, H⟩ := H
  replace H : (if t151 = 0 then (if t153 = 0 then (if (t150.size : Int) > 10 then (if 0 ≤ 10 then (if 10 ≤ (t150.size : Int) then (if (t150.extract 0 10).toList = ([56, 59, 49, 59, 49, 59, 97, 49, 59, 49] : List UInt8) then (if (t152.length : Int) = 1 then (if 0 < (t152.length : Int) then (some (((rd_T62 t152 0).f1).toList == ([49] : List UInt8))) else (none)) else (some false)) else (some false)) else (none)) else (none)) else (some false)) else (some false)) else (some false)) = some r := H
  have A2 := Aside0.mk A20
  clear A20
  by_cases c3 : t151 = 0
  · rw [if_pos c3] at H
    have c3b0 : (t151 == 0) = true := beq_iff_eq.mpr c3
    have c3b1 : (t151 != 0) = false := bne_eq_false_iff_eq.mpr c3
    clear c3
    by_cases c4 : t153 = 0
    · rw [if_pos c4] at H
      have c4b0 : (t153 == 0) = true := beq_iff_eq.mpr c4
      have c4b1 : (t153 != 0) = false := bne_eq_false_iff_eq.mpr c4
      clear c4
      by_cases c5 : (t150.size : Int) > 10
      · rw [if_pos c5] at H
        have c5b0 : decide (10 < (t150.size : Int)) = true := decide_eq_true c5
        have c5b1 : decide (10 < t150.size) = true := decide_eq_true (by omega)
        clear c5
        by_cases c6 : 0 ≤ 10
        · rw [if_pos c6] at H
          have c6b0 := eq_true c6
          have c6b1 : decide (0 ≤ 10) = true := decide_eq_true c6
          clear c6
          by_cases c7 : 10 ≤ (t150.size : Int)
          · rw [if_pos c7] at H
            have c7b0 := eq_true c7
            have c7b1 : decide (10 ≤ (t150.size : Int)) = true := decide_eq_true c7
            clear c7
            by_cases c8 : (t150.extract 0 10).toList = ([56, 59, 49, 59, 49, 59, 97, 49, 59, 49] : List UInt8)
            · rw [if_pos c8] at H
              have c8b0 : ((t150.extract 0 10).toList == ([56, 59, 49, 59, 49, 59, 97, 49, 59, 49] : List UInt8)) = true := beq_iff_eq.mpr c8
              have c8b1 : ((t150.extract 0 10).toList != ([56, 59, 49, 59, 49, 59, 97, 49, 59, 49] : List UInt8)) = false := bne_eq_false_iff_eq.mpr c8
              clear c8
              by_cases c9 : (t152.length : Int) = 1
              · rw [if_pos c9] at H
                have c9b0 : ((t152.length : Int) == 1) = true := beq_iff_eq.mpr c9
                have c9b1 : ((t152.length : Int) != 1) = false := bne_eq_false_iff_eq.mpr c9
                clear c9
                by_cases c10 : 0 < (t152.length : Int)
                · rw [if_pos c10] at H
                  have c10b0 : decide (0 < (t152.length : Int)) = true := decide_eq_true c10
                  have c10b1 : decide (0 < t152.length) = true := decide_eq_true (by omega)
                  clear c10
                  obtain rfl := Option.some.inj H
                  go_enter Try.func10, Try.ntmps10
                  go_wp2_with (first | ((with_reducible refine gate_dst (N := 7) rfl ?_); (try (refine gate_guard (by rfl) ?_; dsimp only)); refine Kd.R_lit k62 _ 62 ?hg (N := 7) ?hd (xs := ([(⟨(⟨#[97]⟩ : ByteArray), (⟨#[49]⟩ : ByteArray)⟩ : S62)] : List (S62))) (inner := [.string (⟨#[97]⟩ : ByteArray), .string (⟨#[49]⟩ : ByteArray)]) (ok := fun _ => True) (okp := fun _ => True) ?hr ?hp (fun _ hk => hk) trivial (Below.refl _ _) (Nat.le_refl _) (by simp) ?_; (case hd => rfl); (case hg => rfl); (case hr => first | (go_simp; done) | (go_simp; rfl)); (case hp => exact (Reps.c2 (show Kd.M k62 _ _ _ (⟨(⟨#[97]⟩ : ByteArray), (⟨#[49]⟩ : ByteArray)⟩ : S62) [.string (⟨#[97]⟩ : ByteArray), .string (⟨#[49]⟩ : ByteArray)] from (k62_mkM _ _ _ (⟨(⟨#[97]⟩ : ByteArray), (⟨#[49]⟩ : ByteArray)⟩ : S62) )) (Reps.none _ _))); intro v148 w11 ho12 hb hg_ hnew_; clear hg_ hnew_; (first | rw [← Ny147.out] at ho12 | (simp only [Int.reduceToNat] at ho12; rw [← Ny147.out] at ho12)); have n0_ := Aside0.mk (Kd.R_lower ho12 (below_size (by repeat (first | (with_reducible first | exact HB.out | apply below_alloc | apply pw_below_drewN | apply below_drew1) | exact HB.out)))); have n1_ := Aside0.mk (below_step (by repeat (first | (with_reducible first | exact HB.out | apply below_alloc | apply pw_below_drewN | apply below_drew1) | exact HB.out)) hb); clear HB; have HO149 := n0_; have HB := n1_; clear n0_ n1_; clear hb ho12; obtain ⟨Ao13, co13, eo13⟩ := Kd.R_slice HO149.out; subst eo13) | ((with_reducible refine gate_callee (f := 11) rfl ?_); refine goesL_ (some 8) rfl rfl Try.func11 (by kernel_rfl) rfl #[.slice Ao13 y147.length co13] rfl (by (try simp only [List.map_toArray, List.map_cons, List.map_nil]); first | done | rfl | (simp only [List.length_drop, List.length_take]; rfl)) ?_; (with_reducible refine (run_Bytes.calls k _ _ y147 t150 t151 _ ?side1 ?side2 A1.out).mono ?_); (case side1 => repeat (first | exact (Kd.R_reads' HO149.out).2.2 | (with_reducible refine Kd.C_alloc ?_ _) | (with_reducible refine Kd.C_drewN ?_ _) | (with_reducible refine Kd.C_drew ?_))); (case side2 => exact (Kd.R_reads' HO149.out).2.1); rintro e w14 ⟨rfl, hb⟩; refine ⟨_, rfl, ?_⟩; have n0_ := Aside0.mk (Kd.R_below (by (with_reducible repeat (first | apply Kd.R_alloc | apply Kd.R_drewN | apply Kd.R_drew)); exact HO149.out) hb); have n1_ := Aside0.mk (below_step (by repeat (first | (with_reducible first | exact HB.out | apply below_alloc | apply pw_below_drewN | apply below_drew1) | exact HB.out)) hb); clear HO149; clear HB; have HO149 := n0_; have HB := n1_; clear n0_ n1_; (try clear hb); (try clear hb2); (try clear hk); (try clear hi)) | ((with_reducible refine gate_callee (f := 12) rfl ?_); refine goesL_ (some 13) rfl rfl Try.func12 (by kernel_rfl) rfl #[.string t150] rfl (by (try simp only [List.map_toArray, List.map_cons, List.map_nil]); first | done | rfl | (simp only [List.length_drop, List.length_take]; rfl)) ?_; (with_reducible refine (run_Take.calls k t150 t152 t153 _ A2.out).mono ?_); rintro e w15 ⟨v154, rfl, ho0, hb⟩; refine ⟨_, rfl, ?_⟩; have n0_ := Aside0.mk (Kd.R_elder' (by (with_reducible repeat (first | apply Kd.R_alloc | apply Kd.R_drewN | apply Kd.R_drew)); exact HO149.out) (Kd.R_base ho0) hb); have n1_ := Aside0.mk (Kd.R_lower (Kd.R_new' ho0 (Kd.R_lt (by (with_reducible repeat (first | apply Kd.R_alloc | apply Kd.R_drewN | apply Kd.R_drew)); exact HO149.out))) (below_size (by repeat (first | (with_reducible first | exact HB.out | apply below_alloc | apply pw_below_drewN | apply below_drew1) | exact HB.out)))); have n2_ := Aside0.mk (below_step (by repeat (first | (with_reducible first | exact HB.out | apply below_alloc | apply pw_below_drewN | apply below_drew1) | exact HB.out)) hb); clear HO149; clear HB; have HO149 := n0_; have HO155 := n1_; have HB := n2_; clear n0_ n1_ n2_; (try clear hb); (try clear hb2); (try clear hk); (try clear hi); (try clear ho0); obtain ⟨Ao16, co16, eo16⟩ := Kd.R_slice HO155.out; subst eo16; have p156 : 0 ≤ (0 : Int) := (by omega); have q156 : 0 < (t152.length : Int) := of_decide_eq_true (by first | (with_reducible assumption) | assumption); obtain ⟨ad156, e156, hx156_0, hx156_1⟩ := at_T62 (Kd.R_reads' HO155.out).2.2 0 p156 q156; cases e156; have qi156 : (0 < t152.length) = True := eq_true (by omega); (try rw [show ((0 : Int)).toNat = 0 from rfl] at hx156_0); (try rw [show 0 * 2 = 0 from rfl] at hx156_0); (try rw [Addr.add_zero'] at hx156_0); (try rw [show ((0 : Int)).toNat = 0 from rfl] at hx156_1); (try rw [show 0 * 2 = 0 from rfl] at hx156_1); (try rw [Addr.add_zero'] at hx156_1); replace p156 := eq_true p156; replace q156 := eq_true q156))
                  first | go_ret | ((try simp only [Exit.inBlock, Exit.then]); refine bodyPost_ret (results_tmp rfl _ _ _) ?hd_ ?hR_; (case hd_ => rfl))
                  exact ⟨by first | rfl | (simp [errW_none, errW_some] <;> rfl) | (simp [*, errW_none, errW_some] <;> rfl), by repeat (first | (with_reducible first | exact HB.out | apply below_alloc | apply pw_below_drewN | apply below_drew1) | exact HB.out)⟩
                · rw [if_neg c10] at H
                  exact absurd H (by simp)
              · rw [if_neg c9] at H
                have c9b0 : ((t152.length : Int) == 1) = false := beq_eq_false_iff_ne.mpr c9
                have c9b1 : ((t152.length : Int) != 1) = true := bne_iff_ne.mpr c9
                obtain rfl := Option.some.inj H
                exact absurd hr_ (by decide)
            · rw [if_neg c8] at H
              have c8b0 : ((t150.extract 0 10).toList == ([56, 59, 49, 59, 49, 59, 97, 49, 59, 49] : List UInt8)) = false := beq_eq_false_iff_ne.mpr c8
              have c8b1 : ((t150.extract 0 10).toList != ([56, 59, 49, 59, 49, 59, 97, 49, 59, 49] : List UInt8)) = true := bne_iff_ne.mpr c8
              obtain rfl := Option.some.inj H
              exact absurd hr_ (by decide)
          · rw [if_neg c7] at H
            exact absurd H (by simp)
        · rw [if_neg c6] at H
          exact absurd H (by simp)
      · rw [if_neg c5] at H
        have c5b0 : decide (10 < (t150.size : Int)) = false := decide_eq_false c5
        have c5b1 : decide (10 < t150.size) = false := decide_eq_false (by omega)
        clear c5
        obtain rfl := Option.some.inj H
        exact absurd hr_ (by decide)
    · rw [if_neg c4] at H
      have c4b0 : (t153 == 0) = false := beq_eq_false_iff_ne.mpr c4
      have c4b1 : (t153 != 0) = true := bne_iff_ne.mpr c4
      obtain rfl := Option.some.inj H
      exact absurd hr_ (by decide)
  · rw [if_neg c3] at H
    have c3b0 : (t151 == 0) = false := beq_eq_false_iff_ne.mpr c3
    have c3b1 : (t151 != 0) = true := bne_iff_ne.mpr c3
    obtain rfl := Option.some.inj H
    exact absurd hr_ (by decide)

theorem stanchionlaw06_shown.now : stanchionlaw06_shown.f 100 = some true := by decide +kernel
theorem stanchionlaw06_shown.more : ∀ (n k : Nat) (r : Bool), stanchionlaw06_shown.f k = some r → stanchionlaw06_shown.f (k + n) = some r
  | 0, _, _, h => h
  | n + 1, k, r, h => stanchionlaw06_shown.mono (k + n) r (stanchionlaw06_shown.more n k r h)
theorem stanchionlaw06_shown.tells (k : Nat) (r : Bool) (h : stanchionlaw06_shown.f k  = some r) : r = true := by
  have h1 := stanchionlaw06_shown.more 100 k r h
  have h2 := stanchionlaw06_shown.more k 100 true stanchionlaw06_shown.now
  rw [Nat.add_comm] at h2
  exact Option.some.inj (h1.symm.trans h2)
theorem stanchionlaw06_shown.calls (k : Nat)  (r : Bool) (w : World) (h : stanchionlaw06_shown.f k  = some r) :
    Calls Try.prog 10 #[] w fun e w' => e = .returned (.bool r) ∧ Below w.heap.size w w' := stanchionlaw06_shown_t.calls k r w h (stanchionlaw06_shown.tells k r h)
/-! ### stanchionref05_Same: function 13 -/
set_option maxHeartbeats 8000000 in
set_option maxRecDepth 100000 in
theorem stanchionref05_Same.calls (k : Nat) (A0 : Option Addr) (c0 : Nat) (l0 : List (S62)) (A1 : Option Addr) (c1 : Nat) (l1 : List (S62)) (r : Bool) (w : World) (hr0 : Kd.C k62 w A0 l0.length l0) (hc0 : l0.length ≤ c0) (hr1 : Kd.C k62 w A1 l1.length l1) (hc1 : l1.length ≤ c1) (h : stanchionref05_Same.f k l0 l1 = some r) :
    Calls Try.prog 13 #[.slice A0 l0.length c0, .slice A1 l1.length c1] w fun e w' => e = .returned (.bool r) ∧ Drawn0 w w' := by
  have hu62 := Try.underlying62
  have HR0 := Aside0.mk hr0
  have HC0 := Aside0.mk hc0
  clear hr0 hc0
  have HR1 := Aside0.mk hr1
  have HC1 := Aside0.mk hc1
  clear hr1 hc1
  have H : (if (l0.length : Int) = (l1.length : Int) then (stanchionref05_Same.l0 k l0 l1 0) else (some false)) = some r := h
  clear h
  by_cases c3 : (l0.length : Int) = (l1.length : Int)
  · rw [if_pos c3] at H
    have c3b0 : ((l0.length : Int) == (l1.length : Int)) = true := beq_iff_eq.mpr c3
    have c3b1 : ((l0.length : Int) != (l1.length : Int)) = false := bne_eq_false_iff_eq.mpr c3
    have c3b2 : (l0.length == l1.length) = true := by first | simpa using c3 | (simp at c3 ⊢; omega)
    clear c3
    have H' := Aside0.mk H
    clear H
    go_enter Try.func13, Try.ntmps13
    go_wp2
    repeat (go_quiet (fail); try go_wp2)
    go_loopg [5] k (fun kq v5 w' => ∃ (x5_1 : Int), v5 = .int .i64 x5_1 ∧ Aside0 (stanchionref05_Same.l0 kq l0 l1 x5_1 = some r) ∧ Aside0 (kq ≤ k) ∧ Drawn0 w w')
    case atStart => exact ⟨(0), (by first | rfl | (simp; done) | (simp [*]; done)), H', ⟨Nat.le_refl _⟩, by repeat (first | exact Drawn0.refl _ | apply Drawn0.step)⟩
    case round =>
      clear H'
      try clear c1
      try clear p2
      try clear c3
      try clear c3b0
      try clear c3b1
      try clear c3b2
      obtain ⟨x5_1, rfl, HA, HK1, ⟨m1, rfl⟩⟩ := hrel
      cases gk with
      | zero => exact absurd HA.out (by simp [stanchionref05_Same.l0])
      | succ k1 =>
        have H := HA.out
        clear HA
        simp only [stanchionref05_Same.l0] at H
        by_cases c4 : x5_1 < (l0.length : Int)
        · rw [if_pos c4] at H
          have c4b0 : decide (x5_1 < (l0.length : Int)) = true := decide_eq_true c4
          clear c4
          by_cases c5 : 0 ≤ x5_1
          · rw [if_pos c5] at H
            have c5b0 : decide (0 ≤ x5_1) = true := decide_eq_true c5
            clear c5
            by_cases c6 : x5_1 < (l1.length : Int)
            · rw [if_pos c6] at H
              have c6b0 : decide (x5_1 < (l1.length : Int)) = true := decide_eq_true c6
              clear c6
              by_cases c7 : (!((((rd_T62 l0 x5_1).f0).toList) == (((rd_T62 l1 x5_1).f0).toList)) || (!((((rd_T62 l0 x5_1).f1).toList) == (((rd_T62 l1 x5_1).f1).toList)))) = true
              · rw [if_pos c7] at H
                have c7b0 : (!((((rd_T62 l0 x5_1).f0).toList) == (((rd_T62 l1 x5_1).f0).toList)) || (!((((rd_T62 l0 x5_1).f1).toList) == (((rd_T62 l1 x5_1).f1).toList)))) = true := c7
                clear c7
                obtain rfl := Option.some.inj H
                have p157 : 0 ≤ (x5_1 : Int) := of_decide_eq_true (by first | (with_reducible assumption) | assumption)
                have q157 : x5_1 < (l0.length : Int) := of_decide_eq_true (by first | (with_reducible assumption) | assumption)
                obtain ⟨ad157, e157, hx157_0, hx157_1⟩ := at_T62 HR0.out x5_1 p157 q157
                cases e157
                replace p157 := eq_true p157
                replace q157 := eq_true q157
                have p158 : 0 ≤ (x5_1 : Int) := of_decide_eq_true (by first | (with_reducible assumption) | assumption)
                have q158 : x5_1 < (l1.length : Int) := of_decide_eq_true (by first | (with_reducible assumption) | assumption)
                obtain ⟨ad158, e158, hx158_0, hx158_1⟩ := at_T62 HR1.out x5_1 p158 q158
                cases e158
                replace p158 := eq_true p158
                replace q158 := eq_true q158
                go_wp2
                repeat (go_quiet (fail); try go_wp2)
                go_ret
                exact ⟨by first | rfl | (simp; done) | (simp [*]; done), by repeat (first | exact Drawn0.refl _ | apply Drawn0.step)⟩
              · rw [if_neg c7] at H
                have c7b0 : (!((((rd_T62 l0 x5_1).f0).toList) == (((rd_T62 l1 x5_1).f0).toList)) || (!((((rd_T62 l0 x5_1).f1).toList) == (((rd_T62 l1 x5_1).f1).toList)))) = false := by simpa using c7
                clear c7
                have H' := Aside0.mk H
                clear H
                have p157 : 0 ≤ (x5_1 : Int) := of_decide_eq_true (by first | (with_reducible assumption) | assumption)
                have q157 : x5_1 < (l0.length : Int) := of_decide_eq_true (by first | (with_reducible assumption) | assumption)
                obtain ⟨ad157, e157, hx157_0, hx157_1⟩ := at_T62 HR0.out x5_1 p157 q157
                cases e157
                replace p157 := eq_true p157
                replace q157 := eq_true q157
                have p158 : 0 ≤ (x5_1 : Int) := of_decide_eq_true (by first | (with_reducible assumption) | assumption)
                have q158 : x5_1 < (l1.length : Int) := of_decide_eq_true (by first | (with_reducible assumption) | assumption)
                obtain ⟨ad158, e158, hx158_0, hx158_1⟩ := at_T62 HR1.out x5_1 p158 q158
                cases e158
                replace p158 := eq_true p158
                replace q158 := eq_true q158
                go_wp2
                repeat (go_quiet (fail); try go_wp2)
                go_roundg k1
                case measure => have := HK1.out; omega
                case rel => exact ⟨(wrap64 (x5_1 + 1)), (by first | rfl | (simp; done) | (simp [*]; done)), H', ⟨by have := HK1.out; omega⟩, by repeat (first | exact Drawn0.refl _ | apply Drawn0.step)⟩
            · rw [if_neg c6] at H
              exact absurd H (by simp)
          · rw [if_neg c5] at H
            exact absurd H (by simp)
        · rw [if_neg c4] at H
          have c4b0 : decide (x5_1 < (l0.length : Int)) = false := decide_eq_false c4
          clear c4
          obtain rfl := Option.some.inj H
          go_wp2
          repeat (go_quiet (fail); try go_wp2)
          go_ret
          exact ⟨by first | rfl | (simp; done) | (simp [*]; done), by repeat (first | exact Drawn0.refl _ | apply Drawn0.step)⟩
  · rw [if_neg c3] at H
    have c3b0 : ((l0.length : Int) == (l1.length : Int)) = false := beq_eq_false_iff_ne.mpr c3
    have c3b1 : ((l0.length : Int) != (l1.length : Int)) = true := bne_iff_ne.mpr c3
    have c3b2 : (l0.length == l1.length) = false := by first | simpa using c3 | (simp at c3 ⊢; omega)
    obtain rfl := Option.some.inj H
    go_enter Try.func13, Try.ntmps13
    go_wp2
    repeat (go_quiet (fail); try go_wp2)
    go_ret
    exact ⟨by first | rfl | (simp; done) | (simp [*]; done), by repeat (first | exact Drawn0.refl _ | apply Drawn0.step)⟩

-- NOT PRINTED: function 78 (api_Write_78)

-- NOT PRINTED: function 50 (api_Write_50)

-- NOT PRINTED: function 94 (api_Write_94)

-- NOT PRINTED: function 106 (api_Write_106)

-- NOT PRINTED: function 95 (api_Write_95)

-- NOT PRINTED: function 102 (bits_Len32)

-- NOT PRINTED: function 103 (bits_Len64)

-- NOT PRINTED: function 80 (bits_Len)

-- NOT PRINTED: function 107 (slices_nextPowerOfTwo)

-- NOT PRINTED: function 108 (slices_xorshift_Next)

-- NOT PRINTED: function 96 (api_Write_96)

-- NOT PRINTED: function 116 (api_Write_116)

-- NOT PRINTED: function 110 (api_Write_110)

-- NOT PRINTED: function 109 (api_Write_109)

-- NOT PRINTED: function 97 (api_Write_97)

-- NOT PRINTED: function 98 (api_Write_98)

-- NOT PRINTED: function 99 (api_Write_99)

-- NOT PRINTED: function 100 (api_Write_100)

-- NOT PRINTED: function 101 (api_Write_101)

-- NOT PRINTED: function 79 (api_Write_79)

-- NOT PRINTED: function 51 (api_Write_51)

end Go.Proofs.Ytbhkopbalhhpgaa.PM
