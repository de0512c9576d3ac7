-- Made by a program of this workplace out of the translation (wip/tools in the repo). Not trusted: Lean checks it.
import Derived.Test.YthcdlgphabaidaaPOx0
import Derived.Test.YthcdlgphabaidaaPOx2
import Derived.Test.YthcdlgphabaidaaPOx4
namespace Go.Proofs.Ythcdlgphabaidaa.PO
open Go.RowKit Go.Proofs.YthcdlgphabaidaaW.PrintWords Go.Proofs.YthcdlgphabaidaaW.PrintLast Go.Proofs.YthcdlgphabaidaaW.PrintMore
attribute [local go_sem] max2_int min2_int max_two min_two max_three min_three max_four min_four   -- for this text's walks alone
set_option linter.unusedVariables false
set_option linter.unusedSimpArgs false

/-! ### stanchionlaw07_shown: function 11 -/
set_option maxHeartbeats 8000000 in
set_option maxRecDepth 100000 in
theorem stanchionlaw07_shown_t.calls (k : Nat)  (r : Bool) (w : World) (h : stanchionlaw07_shown.f k  = some r) (hr_ : r = true) :
    Calls Try.prog 11 #[] w fun e w' => e = .returned (.bool r) ∧ Below w.heap.size w w' := by
  have hu54 := Try.underlying54
  have hu37 := Try.underlying37
  have HB := Aside0.mk (Below.refl w.heap.size w)
  have H : ((batch_Bytes.f k 1 (⟨#[116]⟩ : ByteArray) (([(⟨(⟨#[97]⟩ : ByteArray), (⟨#[49]⟩ : ByteArray), false⟩ : S54)] : List (S54)))).bind fun bt123 => (if bt123.1.toList = ([49, 59, 49, 59, 116, 49, 59, 48, 59, 49, 59, 97, 49, 59, 49] : List UInt8) then (some (bt123.2 == 0)) else (some false))) = some r := h
  clear h
  obtain ⟨y120, hy120⟩ : ∃ y_ : List (S54), y_ = (([(⟨(⟨#[97]⟩ : ByteArray), (⟨#[49]⟩ : ByteArray), false⟩ : S54)] : List (S54))) := ⟨_, rfl⟩
  replace H : ((batch_Bytes.f k 1 (⟨#[116]⟩ : ByteArray) y120).bind fun bt123 => (if bt123.1.toList = ([49, 59, 49, 59, 116, 49, 59, 48, 59, 49, 59, 97, 49, 59, 49] : List UInt8) then (some (bt123.2 == 0)) else (some false))) = some r := by first | (rw [hy120]; with_reducible exact H) | (have H2_ := (Option.bind_some _ _).symm.trans H; rw [hy120]; with_reducible exact H2_) | (have H2_ := (Option.bind_some _ _).symm.trans H; with_reducible exact H2_) | with_reducible exact H | (rw [hy120]; exact H) | exact H
  have Ny120 := Aside0.mk hy120
  clear hy120
  replace H := Option.bind_eq_some_iff.mp H
  obtain ⟨⟨t123, t124⟩, A10, H⟩ := H
  replace H : (if t123.toList = ([49, 59, 49, 59, 116, 49, 59, 48, 59, 49, 59, 97, 49, 59, 49] : List UInt8) then (some (t124 == 0)) else (some false)) = some r := H
  have A1 := Aside0.mk A10
  clear A10
  by_cases c2 : t123.toList = ([49, 59, 49, 59, 116, 49, 59, 48, 59, 49, 59, 97, 49, 59, 49] : List UInt8)
  · rw [if_pos c2] at H
    have c2b0 : (t123.toList == ([49, 59, 49, 59, 116, 49, 59, 48, 59, 49, 59, 97, 49, 59, 49] : List UInt8)) = true := beq_iff_eq.mpr c2
    have c2b1 : (t123.toList != ([49, 59, 49, 59, 116, 49, 59, 48, 59, 49, 59, 97, 49, 59, 49] : List UInt8)) = false := bne_eq_false_iff_eq.mpr c2
    clear c2
    obtain rfl := Option.some.inj H
    have hbd_ : ∀ W : World, (Instr.build 54 #[(0, .string ⟨#[97]⟩), (1, .string ⟨#[49]⟩)]).run Try.prog W = .ok (.agg #[.string ⟨#[97]⟩, .string ⟨#[49]⟩, .bool false]) W := fun W => run_build W 54 _ _ (by kernel_rfl)
    go_enter Try.func11, Try.ntmps11
    go_wp2_with (first | ((with_reducible refine gate_dst (N := 5) rfl ?_); refine Kd.R_lit k54 _ 54 ?hg (N := 5) ?hd (xs := ([(⟨(⟨#[97]⟩ : ByteArray), (⟨#[49]⟩ : ByteArray), false⟩ : S54)] : List (S54))) (inner := [.string (⟨#[97]⟩ : ByteArray), .string (⟨#[49]⟩ : ByteArray), .bool false]) (ok := fun _ => True) (okp := fun _ => True) ?hr ?hp (fun _ hk => hk) trivial (Below.refl _ _) (Nat.le_refl _) (by simp) ?_; (case hd => rfl); (case hg => rfl); (case hr => first | (go_simp; done) | (go_simp; rfl)); (case hp => exact (Reps.c3 (show Kd.M k54 _ _ _ (⟨(⟨#[97]⟩ : ByteArray), (⟨#[49]⟩ : ByteArray), false⟩ : S54) [.string (⟨#[97]⟩ : ByteArray), .string (⟨#[49]⟩ : ByteArray), .bool false] from (k54_mkM _ _ _ (⟨(⟨#[97]⟩ : ByteArray), (⟨#[49]⟩ : ByteArray), false⟩ : S54) )) (Reps.none _ _))); intro v121 w3 ho4 hb hg_ hnew_; clear hg_ hnew_; (first | rw [← Ny120.out] at ho4 | (simp only [Int.reduceToNat] at ho4; rw [← Ny120.out] at ho4)); have n0_ := Aside0.mk (Kd.R_lower ho4 (below_size (by repeat (first | (with_reducible first | exact HB.out | apply below_alloc | apply pw_below_drewN | apply below_drew1) | exact HB.out)))); have n1_ := Aside0.mk (below_step (by repeat (first | (with_reducible first | exact HB.out | apply below_alloc | apply pw_below_drewN | apply below_drew1) | exact HB.out)) hb); clear HB; have HO122 := n0_; have HB := n1_; clear n0_ n1_; clear hb ho4; obtain ⟨Ao5, co5, eo5⟩ := Kd.R_slice HO122.out; subst eo5) | ((with_reducible refine gate_callee (f := 18) rfl ?_); refine goesL_ (some 7) rfl rfl Try.func18 (by kernel_rfl) rfl #[.agg #[.int .i64 1, .string (⟨#[116]⟩ : ByteArray), .slice Ao5 y120.length co5]] rfl (by (try simp only [List.map_toArray, List.map_cons, List.map_nil]); first | done | rfl | (simp only [List.length_drop, List.length_take]; rfl)) ?_; (with_reducible refine (batch_Bytes.calls k 1 (⟨#[116]⟩ : ByteArray) _ _ y120 t123 t124 _ ?side1 ?side2 A1.out).mono ?_); (case side1 => repeat (first | exact (Kd.R_reads' HO122.out).2.2 | (with_reducible refine Kd.C_alloc ?_ _) | (with_reducible refine Kd.C_drewN ?_ _) | (with_reducible refine Kd.C_drew ?_))); (case side2 => exact (Kd.R_reads' HO122.out).2.1); rintro e w6 ⟨rfl, hb⟩; refine ⟨_, rfl, ?_⟩; have n0_ := Aside0.mk (Kd.R_below (by (with_reducible repeat (first | apply Kd.R_alloc | apply Kd.R_drewN | apply Kd.R_drew)); exact HO122.out) hb); have n1_ := Aside0.mk (below_step (by repeat (first | (with_reducible first | exact HB.out | apply below_alloc | apply pw_below_drewN | apply below_drew1) | exact HB.out)) hb); clear HO122; clear HB; have HO122 := n0_; have HB := n1_; clear n0_ n1_; (try clear hb); (try clear hb2); (try clear hk); (try clear hi)))
    first | go_ret | ((try simp only [Exit.inBlock, Exit.then]); refine bodyPost_ret (results_tmp rfl _ _ _) ?hd_ ?hR_; (case hd_ => rfl))
    exact ⟨by first | rfl | (simp [errW_none, errW_some] <;> rfl) | (simp [*, errW_none, errW_some] <;> rfl), by repeat (first | (with_reducible first | exact HB.out | apply below_alloc | apply pw_below_drewN | apply below_drew1) | exact HB.out)⟩
  · rw [if_neg c2] at H
    have c2b0 : (t123.toList == ([49, 59, 49, 59, 116, 49, 59, 48, 59, 49, 59, 97, 49, 59, 49] : List UInt8)) = false := beq_eq_false_iff_ne.mpr c2
    have c2b1 : (t123.toList != ([49, 59, 49, 59, 116, 49, 59, 48, 59, 49, 59, 97, 49, 59, 49] : List UInt8)) = true := bne_iff_ne.mpr c2
    obtain rfl := Option.some.inj H
    exact absurd hr_ (by decide)

theorem stanchionlaw07_shown.now : stanchionlaw07_shown.f 100 = some true := by decide +kernel
theorem stanchionlaw07_shown.more : ∀ (n k : Nat) (r : Bool), stanchionlaw07_shown.f k = some r → stanchionlaw07_shown.f (k + n) = some r
  | 0, _, _, h => h
  | n + 1, k, r, h => stanchionlaw07_shown.mono (k + n) r (stanchionlaw07_shown.more n k r h)
theorem stanchionlaw07_shown.tells (k : Nat) (r : Bool) (h : stanchionlaw07_shown.f k  = some r) : r = true := by
  have h1 := stanchionlaw07_shown.more 100 k r h
  have h2 := stanchionlaw07_shown.more k 100 true stanchionlaw07_shown.now
  rw [Nat.add_comm] at h2
  exact Option.some.inj (h1.symm.trans h2)
theorem stanchionlaw07_shown.calls (k : Nat)  (r : Bool) (w : World) (h : stanchionlaw07_shown.f k  = some r) :
    Calls Try.prog 11 #[] w fun e w' => e = .returned (.bool r) ∧ Below w.heap.size w w' := stanchionlaw07_shown_t.calls k r w h (stanchionlaw07_shown.tells k r h)
/-! ### batch_Pairs: function 13 -/
set_option maxHeartbeats 8000000 in
set_option maxRecDepth 100000 in
theorem batch_Pairs.calls (k : Nat) (A0_0 : Option Addr) (c0_0 : Nat) (l0_0 : List (S68)) (A0_1 : Option Addr) (c0_1 : Nat) (l0_1 : List (S68)) (r : List (S68)) (w : World) (hr0_0 : Kd.C k68 w A0_0 l0_0.length l0_0) (hc0_0 : l0_0.length ≤ c0_0) (hr0_1 : Kd.C k68 w A0_1 l0_1.length l0_1) (hc0_1 : l0_1.length ≤ c0_1) (h : batch_Pairs.f k l0_0 l0_1 = some r) :
    Calls Try.prog 13 #[.agg #[.slice A0_0 l0_0.length c0_0, .slice A0_1 l0_1.length c0_1]] w fun e w' => ∃ v0_ : Value, e = .returned (v0_) ∧ Kd.R k68 68 w' w.heap.size (fun _ => True) v0_ r ∧ Below w.heap.size w w' := by
  have hu24 := Try.underlying24
  have hu68 := Try.underlying68
  have HR0_0 := Aside0.mk hr0_0
  have HC0_0 := Aside0.mk hc0_0
  clear hr0_0 hc0_0
  have HR0_1 := Aside0.mk hr0_1
  have HC0_1 := Aside0.mk hc0_1
  clear hr0_1 hc0_1
  have HB := Aside0.mk (Below.refl w.heap.size w)
  have H : (batch_Pairs.l0 k ([] : List (S68)) l0_0 (l0_0.length : Int) 0 l0_0 l0_1) = some r := h
  clear h
  have H' := Aside0.mk H
  clear H
  go_enter Try.func13, Try.ntmps13
  go_wp2_with (first | ((with_reducible refine gate_dst (N := 1) rfl ?_); refine box_event ?hg (N := 1) ?hd (cs := #[.slice A0_0 l0_0.length c0_0, .slice A0_1 l0_1.length c0_1]) (t := 24) ?hr ?_; (case hd => rfl); (case hg => rfl); (case hr => first | (go_simp; done) | (go_simp; rfl)); intro gb125 hg w2 hbox hb; have n0_ := Aside0.mk (below_step (by repeat (first | (with_reducible first | exact HB.out | apply below_alloc | apply pw_below_drewN | apply below_drew1) | exact HB.out)) hb); have n1_ := Aside0.mk (hbox); have n2_ := Aside0.mk ((by rw [hg]; exact (below_size (by repeat (first | (with_reducible first | exact HB.out | apply below_alloc | apply pw_below_drewN | apply below_drew1) | exact HB.out))) : w.heap.size ≤ gb125)); have n3_ := Aside0.mk ((by rw [hg]; exact (below_size (by repeat (first | (with_reducible first | exact HB.out | apply below_alloc | apply pw_below_drewN | apply below_drew1) | exact HB.out))) : w.heap.size ≤ gb125)); clear HB; have HB := n0_; have BK125 := n1_; have GW125 := n2_; have GE125 := n3_; clear n0_ n1_ n2_ n3_; clear hb hbox hg; have hcz3_0 : w2.cell? ⟨gb125, 0, none⟩ = some (.slice A0_0 l0_0.length c0_0) := (blk_cell BK125.out 0).trans rfl; have hcz3_1 : w2.cell? ⟨gb125, 1, none⟩ = some (.slice A0_1 l0_1.length c0_1) := (blk_cell BK125.out 1).trans rfl; have hfz3_0 := blk_frozen BK125.out 0; have hfz3_1 := blk_frozen BK125.out 1))
  go_loopg [3, 11] k (fun kq v3 v11 w' => ∃ (x3_1 : List (S68)) (x11_1 : Int), v11 = .int .i64 x11_1 ∧ Aside0 (batch_Pairs.l0 kq x3_1 l0_0 (l0_0.length : Int) x11_1 l0_0 l0_1 = some r) ∧ Aside0 (kq ≤ k) ∧ Aside0 (Kd.R k68 68 w' w.heap.size (fun _ => True) v3 x3_1) ∧ Aside0 (w'.heap[gb125]? = some (.cells #[(.slice A0_0 l0_0.length c0_0), (.slice A0_1 l0_1.length c0_1)] 24 (0, 0))) ∧ Aside0 (Below w.heap.size w w'))
  case atStart => exact ⟨(([] : List (S68))), (0), (by first | rfl | (simp; done) | (simp [*]; done)), H', ⟨Nat.le_refl _⟩, ⟨by first | exact Kd.R_nil _ _ _ _ _ | exact Kd.N_nil _ _ _ _ _ | exact Kd.V_nil _ _ _ _ _ | exact Kd.Q_nil _ _ _ _ _ | exact Kd.S_nil _ _ _ _ _⟩, ⟨by (with_reducible repeat (first | refine blk_drewN ?_ _ | refine blk_drew ?_ | refine blk_alloc ?_ _)); exact BK125.out⟩, ⟨by repeat (first | (with_reducible first | exact HB.out | apply below_alloc | apply pw_below_drewN | apply below_drew1 | refine below_set ?_ GE125.out) | exact HB.out)⟩⟩
  case round =>
    clear H'
    try clear c1
    try clear p2
    try clear hcz3_0
    try clear hcz3_1
    try clear hfz3_0
    try clear hfz3_1
    obtain ⟨x3_1, x11_1, rfl, HA, HK1, HO_3, BK125, HB⟩ := hrel
    cases gk with
    | zero => exact absurd HA.out (by simp [batch_Pairs.l0])
    | succ k1 =>
      have H := HA.out
      clear HA
      simp only [batch_Pairs.l0] at H
      by_cases c4 : x11_1 < (l0_0.length : Int)
      · rw [if_pos c4] at H
        have c4b0 : decide (x11_1 < (l0_0.length : Int)) = true := decide_eq_true c4
        clear c4
        by_cases c5 : 0 ≤ x11_1
        · rw [if_pos c5] at H
          have c5b0 : decide (0 ≤ x11_1) = true := decide_eq_true c5
          clear c5
          by_cases c6 : x11_1 < (l0_0.length : Int)
          · rw [if_pos c6] at H
            have c6b0 : decide (x11_1 < (l0_0.length : Int)) = true := decide_eq_true c6
            clear c6
            by_cases c7 : 1 + ((rd_T68 l0_0 x11_1).f0).size ≤ 9223372036854775807
            · rw [if_pos c7] at H
              have c7b0 := eq_true c7
              have c7b1 : decide (1 + ((rd_T68 l0_0 x11_1).f0).size ≤ 9223372036854775807) = true := decide_eq_true c7
              try have c7b2 : (9223372036854775807 < 1 + ((rd_T68 l0_0 x11_1).f0).size) = False := eq_false (Nat.not_lt.2 c7)
              by_cases c8 : x3_1.length < 4398046511104
              · rw [if_pos c8] at H
                have LMc8 := Aside0.mk c8
                clear c8
                obtain ⟨y128, hy128⟩ : ∃ y_ : List (S68), y_ = (x3_1 ++ [(⟨(⟨#[100]⟩ : ByteArray) ++ ((rd_T68 l0_0 x11_1).f0), (rd_T68 l0_0 x11_1).f1⟩ : S68)]) := ⟨_, rfl⟩
                replace H : (batch_Pairs.l0 k1 y128 l0_0 (l0_0.length : Int) (wrap64 (x11_1 + 1)) l0_0 l0_1) = some r := by first | (rw [hy128]; with_reducible exact H) | (have H2_ := (Option.bind_some _ _).symm.trans H; rw [hy128]; with_reducible exact H2_) | (have H2_ := (Option.bind_some _ _).symm.trans H; with_reducible exact H2_) | with_reducible exact H | (rw [hy128]; exact H) | exact H
                have Ny128 := Aside0.mk hy128
                clear hy128
                have H' := Aside0.mk H
                clear H
                have p126 : 0 ≤ (x11_1 : Int) := of_decide_eq_true (by first | (with_reducible assumption) | assumption)
                have q126 : x11_1 < (l0_0.length : Int) := of_decide_eq_true (by first | (with_reducible assumption) | assumption)
                obtain ⟨ad126, e126, hx126_0, hx126_1⟩ := at_T68 HR0_0.out x11_1 p126 q126
                cases e126
                replace hx126_0 := (HB.out.cell (World.block_lt_of_cell? w _ hx126_0)).trans hx126_0
                replace hx126_1 := (HB.out.cell (World.block_lt_of_cell? w _ hx126_1)).trans hx126_1
                replace p126 := eq_true p126
                replace q126 := eq_true q126
                go_wp2_with (first | ((with_reducible refine gate_dst (N := 5) rfl ?_); refine box_event ?hg (N := 5) ?hd (cs := #[.string (⟨#[]⟩ : ByteArray), .string (⟨#[]⟩ : ByteArray)]) (t := 68) ?hr ?_; (case hd => rfl); (case hg => rfl); (case hr => first | (go_simp; done) | (go_simp; rfl)); intro gb127 hg w9 hbox hb; have n0_ := Aside0.mk (Kd.R_below (Kd.R_elderB (by (with_reducible repeat (first | apply Kd.R_alloc | apply Kd.R_drewN | apply Kd.R_drew)); exact HO_3.out) gb127 (Nat.le_of_eq hg.symm)) hb); have n1_ := Aside0.mk (blk_below (g := gb125) (o := .cells #[.slice (some ad126) l0_0.length c0_0, .slice A0_1 l0_1.length c0_1] 24 (0, 0)) (by (with_reducible repeat (first | refine blk_drewN ?_ _ | refine blk_drew ?_ | refine blk_alloc ?_ _)); exact BK125.out) hb); have n2_ := Aside0.mk (below_step (by repeat (first | (with_reducible first | exact HB.out | apply below_alloc | apply pw_below_drewN | apply below_drew1 | refine below_set ?_ GE125.out) | exact HB.out)) hb); have n3_ := Aside0.mk (hbox); have n4_ := Aside0.mk ((by rw [hg]; exact (below_size (by repeat (first | (with_reducible first | exact HB.out | apply below_alloc | apply pw_below_drewN | apply below_drew1 | refine below_set ?_ GE125.out) | exact HB.out))) : w.heap.size ≤ gb127)); have n5_ := Aside0.mk ((by rw [hg]; exact (below_size (by repeat (first | (with_reducible first | exact HB.out | apply below_alloc | apply pw_below_drewN | apply below_drew1 | refine below_set ?_ GE125.out) | exact HB.out))) : w.heap.size ≤ gb127)); have n6_ := Aside0.mk ((by rw [hg]; exact Nat.ne_of_lt (blk_lt (g := gb125) (o := .cells #[.slice (some ad126) l0_0.length c0_0, .slice A0_1 l0_1.length c0_1] 24 (0, 0)) (by (with_reducible repeat (first | refine blk_drewN ?_ _ | refine blk_drew ?_ | refine blk_alloc ?_ _)); exact BK125.out)) : gb125 ≠ gb127)); have n7_ := Aside0.mk ((by rw [hg]; exact Nat.ne_of_gt (blk_lt (g := gb125) (o := .cells #[.slice (some ad126) l0_0.length c0_0, .slice A0_1 l0_1.length c0_1] 24 (0, 0)) (by (with_reducible repeat (first | refine blk_drewN ?_ _ | refine blk_drew ?_ | refine blk_alloc ?_ _)); exact BK125.out)) : gb127 ≠ gb125)); clear HO_3; clear BK125; clear HB; have HO_3 := n0_; have BK125 := n1_; have HB := n2_; have BK127 := n3_; have GW127 := n4_; have GE127 := n5_; have NB125_127 := n6_; have NB127_125 := n7_; clear n0_ n1_ n2_ n3_ n4_ n5_ n6_ n7_; clear hb hbox hg; have hnb10 := NB127_125.out; have hnc10 := NB125_127.out; have hcz11_0 : w9.cell? ⟨gb127, 0, none⟩ = some (.string (⟨#[]⟩ : ByteArray)) := (blk_cell BK127.out 0).trans rfl; have hcz11_1 : w9.cell? ⟨gb127, 1, none⟩ = some (.string (⟨#[]⟩ : ByteArray)) := (blk_cell BK127.out 1).trans rfl; have hfz11_0 := blk_frozen BK127.out 0; have hfz11_1 := blk_frozen BK127.out 1) | ((with_reducible refine gate_builtin (b := .append) (xs := #[.tmp 15, .tmp 22]) rfl ?_); at_builtin; refine Kd.R_append k68 (w0 := w) w.heap.size rfl (.tmp 15) (.tmp 22) 22 68 (.agg #[(.string ⟨#[]⟩), (.string ⟨#[]⟩)]) 32 rfl Try.underlying22 info68 rfl (by decide) (by omega) u3 x3_1 (⟨(⟨#[100]⟩ : ByteArray) ++ ((rd_T68 l0_0 x11_1).f0), (rd_T68 l0_0 x11_1).f1⟩ : S68) [.string ((⟨#[100]⟩ : ByteArray) ++ ((rd_T68 l0_0 x11_1).f0)), .string ((rd_T68 l0_0 x11_1).f1)] (fun k_ => k_ ≠ gb127) (fun _ => False) rfl (by first | (go_simp; done) | (go_simp; rfl)) ?aP (fun _ hk => hk.elim) ?aF ?aO ?aB ?aS ?aL ?_; (case aP => exact k68_mkM _ _ _ (⟨(⟨#[100]⟩ : ByteArray) ++ ((rd_T68 l0_0 x11_1).f0), (rd_T68 l0_0 x11_1).f1⟩ : S68)); (case aB => exact (by repeat (first | (with_reducible first | exact HB.out | apply below_alloc | apply pw_below_drewN | apply below_drew1 | refine below_set ?_ GE125.out | refine below_set ?_ GE127.out) | exact HB.out))); (case aF => exact (fun k_ hk => Kd.freshB (g := gb127) (o := .cells #[.string ((rd_T68 l0_0 x11_1).f0), .string ((rd_T68 l0_0 x11_1).f1)] 68 (0, 0)) (by (with_reducible repeat (first | refine blk_drewN ?_ _ | refine blk_drew ?_ | refine blk_alloc ?_ _)); refine blk_put (cs := #[.string ((rd_T68 l0_0 x11_1).f0), .string (⟨#[]⟩ : ByteArray)]) ?_ 1 _ rfl; (with_reducible repeat (first | refine blk_drewN ?_ _ | refine blk_drew ?_ | refine blk_alloc ?_ _)); refine blk_put (cs := #[.string (⟨#[]⟩ : ByteArray), .string (⟨#[]⟩ : ByteArray)]) ?_ 0 _ rfl; (with_reducible repeat (first | refine blk_drewN ?_ _ | refine blk_drew ?_ | refine blk_alloc ?_ _)); exact BK127.out) k_ hk)); (case aO => exact (by (with_reducible repeat (first | apply Kd.R_alloc | apply Kd.R_drewN | apply Kd.R_drew)); exact Kd.R_mono (Kd.R_far (p := ⟨gb127, 1, none⟩) (Kd.R_far (p := ⟨gb127, 0, none⟩) (Kd.R_mono HO_3.out (fun k_ hk => (⟨hk, hk.2⟩ : _ ∧ k_ ≠ gb127))) (fun _ hk => hk.2) (.string ((rd_T68 l0_0 x11_1).f0))) (fun _ hk => hk.2) (.string ((rd_T68 l0_0 x11_1).f1))) (fun _ hk => hk.1.2))); (case aS => exact (below_size (by repeat (first | (with_reducible first | exact HB.out | apply below_alloc | apply pw_below_drewN | apply below_drew1 | refine below_set ?_ GE125.out | refine below_set ?_ GE127.out) | exact HB.out)))); (case aL => have := LMc8.out; omega); intro v129 w12 ho hb hg hat; rw [← Ny128.out] at ho; have n0_ := Aside0.mk (blk_grown (g := gb125) (o := .cells #[.slice (some ad126) l0_0.length c0_0, .slice A0_1 l0_1.length c0_1] 24 (0, 0)) (by (with_reducible repeat (first | refine blk_drewN ?_ _ | refine blk_drew ?_ | refine blk_alloc ?_ _)); refine blk_far ?_ NB125_127.out _; (with_reducible repeat (first | refine blk_drewN ?_ _ | refine blk_drew ?_ | refine blk_alloc ?_ _)); refine blk_far ?_ NB125_127.out _; (with_reducible repeat (first | refine blk_drewN ?_ _ | refine blk_drew ?_ | refine blk_alloc ?_ _)); exact BK125.out) hg (Kd.R_ne HO_3.out BK125.out (by decide))); have n1_ := Aside0.mk (blk_grown (g := gb127) (o := .cells #[.string ((rd_T68 l0_0 x11_1).f0), .string ((rd_T68 l0_0 x11_1).f1)] 68 (0, 0)) (by (with_reducible repeat (first | refine blk_drewN ?_ _ | refine blk_drew ?_ | refine blk_alloc ?_ _)); refine blk_put (cs := #[.string ((rd_T68 l0_0 x11_1).f0), .string (⟨#[]⟩ : ByteArray)]) ?_ 1 _ rfl; (with_reducible repeat (first | refine blk_drewN ?_ _ | refine blk_drew ?_ | refine blk_alloc ?_ _)); refine blk_put (cs := #[.string (⟨#[]⟩ : ByteArray), .string (⟨#[]⟩ : ByteArray)]) ?_ 0 _ rfl; (with_reducible repeat (first | refine blk_drewN ?_ _ | refine blk_drew ?_ | refine blk_alloc ?_ _)); exact BK127.out) hg (Kd.R_away HO_3.out (fun _ hk => hk.2))); have n2_ := Aside0.mk (hb); have n3_ := Aside0.mk (ho); clear BK125; clear BK127; clear HB; clear HO_3; have BK125 := n0_; have BK127 := n1_; have HB := n2_; have HO130 := n3_; clear n0_ n1_ n2_ n3_; clear ho hb hg hat))
                go_roundg k1
                case measure => have := HK1.out; omega
                case rel => exact ⟨(y128), (wrap64 (x11_1 + 1)), (by first | rfl | (simp; done) | (simp [*]; done)), H', ⟨by have := HK1.out; omega⟩, ⟨by (with_reducible repeat (first | apply Kd.R_alloc | apply Kd.R_drewN | apply Kd.R_drew)); exact Kd.R_mono HO130.out (fun _ hk => trivial)⟩, ⟨by (with_reducible repeat (first | refine blk_drewN ?_ _ | refine blk_drew ?_ | refine blk_alloc ?_ _)); exact BK125.out⟩, ⟨by repeat (first | (with_reducible first | exact HB.out | apply below_alloc | apply pw_below_drewN | apply below_drew1 | refine below_set ?_ GE125.out | refine below_set ?_ GE127.out) | exact HB.out)⟩⟩
              · rw [if_neg c8] at H
                exact absurd H (by simp)
            · rw [if_neg c7] at H
              exact absurd H (by simp)
          · rw [if_neg c6] at H
            exact absurd H (by simp)
        · rw [if_neg c5] at H
          exact absurd H (by simp)
      · rw [if_neg c4] at H
        have c4b0 : decide (x11_1 < (l0_0.length : Int)) = false := decide_eq_false c4
        clear c4
        have H' := Aside0.mk H
        clear H
        have hcz13_0 : wr.cell? ⟨gb125, 0, none⟩ = some (.slice A0_0 l0_0.length c0_0) := (blk_cell BK125.out 0).trans rfl
        have hcz13_1 : wr.cell? ⟨gb125, 1, none⟩ = some (.slice A0_1 l0_1.length c0_1) := (blk_cell BK125.out 1).trans rfl
        have hfz13_0 := blk_frozen BK125.out 0
        have hfz13_1 := blk_frozen BK125.out 1
        go_wp2
        go_loopg [3, 28] k1 (fun kq v3 v28 w' => ∃ (x3_2 : List (S68)) (x28_2 : Int), v28 = .int .i64 x28_2 ∧ Aside0 (batch_Pairs.l1 kq x3_2 l0_1 (l0_1.length : Int) x28_2 = some r) ∧ Aside0 (kq ≤ k1) ∧ Aside0 (Kd.R k68 68 w' w.heap.size (fun _ => True) v3 x3_2) ∧ Aside0 (w'.heap[gb125]? = some (.cells #[(.slice A0_0 l0_0.length c0_0), (.slice A0_1 l0_1.length c0_1)] 24 (0, 0))) ∧ Aside0 (Below w.heap.size w w'))
        case atStart => exact ⟨(x3_1), (0), (by first | rfl | (simp; done) | (simp [*]; done)), H', ⟨Nat.le_refl _⟩, ⟨by (with_reducible repeat (first | apply Kd.R_alloc | apply Kd.R_drewN | apply Kd.R_drew)); exact HO_3.out⟩, ⟨by (with_reducible repeat (first | refine blk_drewN ?_ _ | refine blk_drew ?_ | refine blk_alloc ?_ _)); exact BK125.out⟩, ⟨by repeat (first | (with_reducible first | exact HB.out | apply below_alloc | apply pw_below_drewN | apply below_drew1 | refine below_set ?_ GE125.out) | exact HB.out)⟩⟩
        case round =>
          clear H'
          try clear c1
          try clear p1
          try clear q1
          try clear hx1
          try clear p2
          try clear c4
          try clear c4b0
          try clear c5
          try clear c5b0
          try clear c6
          try clear c6b0
          try clear p6
          try clear c7
          try clear c7b0
          try clear c7b1
          try clear c7b2
          try clear c8
          try clear c10
          try clear p12
          try clear q12
          try clear hx12
          try clear c13
          try clear hcz11_0
          try clear hcz11_1
          try clear hcz13_0
          try clear hcz13_1
          try clear hcz3_0
          try clear hcz3_1
          try clear hfz11_0
          try clear hfz11_1
          try clear hfz13_0
          try clear hfz13_1
          try clear hfz3_0
          try clear hfz3_1
          try clear hx126_0
          try clear hx126_1
          try clear p126
          try clear p2
          try clear q126
          obtain ⟨x3_2, x28_2, rfl, HA, HK2, HO_3, BK125, HB⟩ := hrel
          cases gk with
          | zero => exact absurd HA.out (by simp [batch_Pairs.l1])
          | succ k2 =>
            have H := HA.out
            clear HA
            simp only [batch_Pairs.l1] at H
            by_cases c14 : x28_2 < (l0_1.length : Int)
            · rw [if_pos c14] at H
              have c14b0 : decide (x28_2 < (l0_1.length : Int)) = true := decide_eq_true c14
              clear c14
              by_cases c15 : 0 ≤ x28_2
              · rw [if_pos c15] at H
                have c15b0 : decide (0 ≤ x28_2) = true := decide_eq_true c15
                clear c15
                by_cases c16 : x28_2 < (l0_1.length : Int)
                · rw [if_pos c16] at H
                  have c16b0 : decide (x28_2 < (l0_1.length : Int)) = true := decide_eq_true c16
                  clear c16
                  by_cases c17 : 1 + ((rd_T68 l0_1 x28_2).f0).size ≤ 9223372036854775807
                  · rw [if_pos c17] at H
                    have c17b0 := eq_true c17
                    have c17b1 : decide (1 + ((rd_T68 l0_1 x28_2).f0).size ≤ 9223372036854775807) = true := decide_eq_true c17
                    try have c17b2 : (9223372036854775807 < 1 + ((rd_T68 l0_1 x28_2).f0).size) = False := eq_false (Nat.not_lt.2 c17)
                    by_cases c18 : x3_2.length < 4398046511104
                    · rw [if_pos c18] at H
                      have LMc18 := Aside0.mk c18
                      clear c18
                      obtain ⟨y133, hy133⟩ : ∃ y_ : List (S68), y_ = (x3_2 ++ [(⟨(⟨#[116]⟩ : ByteArray) ++ ((rd_T68 l0_1 x28_2).f0), (rd_T68 l0_1 x28_2).f1⟩ : S68)]) := ⟨_, rfl⟩
                      replace H : (batch_Pairs.l1 k2 y133 l0_1 (l0_1.length : Int) (wrap64 (x28_2 + 1))) = some r := by first | (rw [hy133]; with_reducible exact H) | (have H2_ := (Option.bind_some _ _).symm.trans H; rw [hy133]; with_reducible exact H2_) | (have H2_ := (Option.bind_some _ _).symm.trans H; with_reducible exact H2_) | with_reducible exact H | (rw [hy133]; exact H) | exact H
                      have Ny133 := Aside0.mk hy133
                      clear hy133
                      have H' := Aside0.mk H
                      clear H
                      have p131 : 0 ≤ (x28_2 : Int) := of_decide_eq_true (by first | (with_reducible assumption) | assumption)
                      have q131 : x28_2 < (l0_1.length : Int) := of_decide_eq_true (by first | (with_reducible assumption) | assumption)
                      obtain ⟨ad131, e131, hx131_0, hx131_1⟩ := at_T68 HR0_1.out x28_2 p131 q131
                      cases e131
                      replace hx131_0 := (HB.out.cell (World.block_lt_of_cell? w _ hx131_0)).trans hx131_0
                      replace hx131_1 := (HB.out.cell (World.block_lt_of_cell? w _ hx131_1)).trans hx131_1
                      replace p131 := eq_true p131
                      replace q131 := eq_true q131
                      go_wp2_with (first | ((with_reducible refine gate_dst (N := 7) rfl ?_); refine box_event ?hg (N := 7) ?hd (cs := #[.string (⟨#[]⟩ : ByteArray), .string (⟨#[]⟩ : ByteArray)]) (t := 68) ?hr ?_; (case hd => rfl); (case hg => rfl); (case hr => first | (go_simp; done) | (go_simp; rfl)); intro gb132 hg w19 hbox hb; have n0_ := Aside0.mk (Kd.R_below (Kd.R_elderB (by (with_reducible repeat (first | apply Kd.R_alloc | apply Kd.R_drewN | apply Kd.R_drew)); exact HO_3.out) gb132 (Nat.le_of_eq hg.symm)) hb); have n1_ := Aside0.mk (blk_below (g := gb125) (o := .cells #[.slice A0_0 l0_0.length c0_0, .slice (some ad131) l0_1.length c0_1] 24 (0, 0)) (by (with_reducible repeat (first | refine blk_drewN ?_ _ | refine blk_drew ?_ | refine blk_alloc ?_ _)); exact BK125.out) hb); have n2_ := Aside0.mk (below_step (by repeat (first | (with_reducible first | exact HB.out | apply below_alloc | apply pw_below_drewN | apply below_drew1 | refine below_set ?_ GE125.out) | exact HB.out)) hb); have n3_ := Aside0.mk (hbox); have n4_ := Aside0.mk ((by rw [hg]; exact (below_size (by repeat (first | (with_reducible first | exact HB.out | apply below_alloc | apply pw_below_drewN | apply below_drew1 | refine below_set ?_ GE125.out) | exact HB.out))) : w.heap.size ≤ gb132)); have n5_ := Aside0.mk ((by rw [hg]; exact (below_size (by repeat (first | (with_reducible first | exact HB.out | apply below_alloc | apply pw_below_drewN | apply below_drew1 | refine below_set ?_ GE125.out) | exact HB.out))) : w.heap.size ≤ gb132)); have n6_ := Aside0.mk ((by rw [hg]; exact Nat.ne_of_lt (blk_lt (g := gb125) (o := .cells #[.slice A0_0 l0_0.length c0_0, .slice (some ad131) l0_1.length c0_1] 24 (0, 0)) (by (with_reducible repeat (first | refine blk_drewN ?_ _ | refine blk_drew ?_ | refine blk_alloc ?_ _)); exact BK125.out)) : gb125 ≠ gb132)); have n7_ := Aside0.mk ((by rw [hg]; exact Nat.ne_of_gt (blk_lt (g := gb125) (o := .cells #[.slice A0_0 l0_0.length c0_0, .slice (some ad131) l0_1.length c0_1] 24 (0, 0)) (by (with_reducible repeat (first | refine blk_drewN ?_ _ | refine blk_drew ?_ | refine blk_alloc ?_ _)); exact BK125.out)) : gb132 ≠ gb125)); clear HO_3; clear BK125; clear HB; have HO_3 := n0_; have BK125 := n1_; have HB := n2_; have BK132 := n3_; have GW132 := n4_; have GE132 := n5_; have NB125_132 := n6_; have NB132_125 := n7_; clear n0_ n1_ n2_ n3_ n4_ n5_ n6_ n7_; clear hb hbox hg; have hnb20 := NB132_125.out; have hnc20 := NB125_132.out; have hcz21_0 : w19.cell? ⟨gb132, 0, none⟩ = some (.string (⟨#[]⟩ : ByteArray)) := (blk_cell BK132.out 0).trans rfl; have hcz21_1 : w19.cell? ⟨gb132, 1, none⟩ = some (.string (⟨#[]⟩ : ByteArray)) := (blk_cell BK132.out 1).trans rfl; have hfz21_0 := blk_frozen BK132.out 0; have hfz21_1 := blk_frozen BK132.out 1) | ((with_reducible refine gate_builtin (b := .append) (xs := #[.tmp 32, .tmp 39]) rfl ?_); at_builtin; refine Kd.R_append k68 (w0 := w) w.heap.size rfl (.tmp 32) (.tmp 39) 22 68 (.agg #[(.string ⟨#[]⟩), (.string ⟨#[]⟩)]) 32 rfl Try.underlying22 info68 rfl (by decide) (by omega) u3 x3_2 (⟨(⟨#[116]⟩ : ByteArray) ++ ((rd_T68 l0_1 x28_2).f0), (rd_T68 l0_1 x28_2).f1⟩ : S68) [.string ((⟨#[116]⟩ : ByteArray) ++ ((rd_T68 l0_1 x28_2).f0)), .string ((rd_T68 l0_1 x28_2).f1)] (fun k_ => k_ ≠ gb132) (fun _ => False) rfl (by first | (go_simp; done) | (go_simp; rfl)) ?aP (fun _ hk => hk.elim) ?aF ?aO ?aB ?aS ?aL ?_; (case aP => exact k68_mkM _ _ _ (⟨(⟨#[116]⟩ : ByteArray) ++ ((rd_T68 l0_1 x28_2).f0), (rd_T68 l0_1 x28_2).f1⟩ : S68)); (case aB => exact (by repeat (first | (with_reducible first | exact HB.out | apply below_alloc | apply pw_below_drewN | apply below_drew1 | refine below_set ?_ GE125.out | refine below_set ?_ GE132.out) | exact HB.out))); (case aF => exact (fun k_ hk => Kd.freshB (g := gb132) (o := .cells #[.string ((rd_T68 l0_1 x28_2).f0), .string ((rd_T68 l0_1 x28_2).f1)] 68 (0, 0)) (by (with_reducible repeat (first | refine blk_drewN ?_ _ | refine blk_drew ?_ | refine blk_alloc ?_ _)); refine blk_put (cs := #[.string ((rd_T68 l0_1 x28_2).f0), .string (⟨#[]⟩ : ByteArray)]) ?_ 1 _ rfl; (with_reducible repeat (first | refine blk_drewN ?_ _ | refine blk_drew ?_ | refine blk_alloc ?_ _)); refine blk_put (cs := #[.string (⟨#[]⟩ : ByteArray), .string (⟨#[]⟩ : ByteArray)]) ?_ 0 _ rfl; (with_reducible repeat (first | refine blk_drewN ?_ _ | refine blk_drew ?_ | refine blk_alloc ?_ _)); exact BK132.out) k_ hk)); (case aO => exact (by (with_reducible repeat (first | apply Kd.R_alloc | apply Kd.R_drewN | apply Kd.R_drew)); exact Kd.R_mono (Kd.R_far (p := ⟨gb132, 1, none⟩) (Kd.R_far (p := ⟨gb132, 0, none⟩) (Kd.R_mono HO_3.out (fun k_ hk => (⟨hk, hk.2⟩ : _ ∧ k_ ≠ gb132))) (fun _ hk => hk.2) (.string ((rd_T68 l0_1 x28_2).f0))) (fun _ hk => hk.2) (.string ((rd_T68 l0_1 x28_2).f1))) (fun _ hk => hk.1.2))); (case aS => exact (below_size (by repeat (first | (with_reducible first | exact HB.out | apply below_alloc | apply pw_below_drewN | apply below_drew1 | refine below_set ?_ GE125.out | refine below_set ?_ GE132.out) | exact HB.out)))); (case aL => have := LMc18.out; omega); intro v134 w22 ho hb hg hat; rw [← Ny133.out] at ho; have n0_ := Aside0.mk (blk_grown (g := gb125) (o := .cells #[.slice A0_0 l0_0.length c0_0, .slice (some ad131) l0_1.length c0_1] 24 (0, 0)) (by (with_reducible repeat (first | refine blk_drewN ?_ _ | refine blk_drew ?_ | refine blk_alloc ?_ _)); refine blk_far ?_ NB125_132.out _; (with_reducible repeat (first | refine blk_drewN ?_ _ | refine blk_drew ?_ | refine blk_alloc ?_ _)); refine blk_far ?_ NB125_132.out _; (with_reducible repeat (first | refine blk_drewN ?_ _ | refine blk_drew ?_ | refine blk_alloc ?_ _)); exact BK125.out) hg (Kd.R_ne HO_3.out BK125.out (by decide))); have n1_ := Aside0.mk (blk_grown (g := gb132) (o := .cells #[.string ((rd_T68 l0_1 x28_2).f0), .string ((rd_T68 l0_1 x28_2).f1)] 68 (0, 0)) (by (with_reducible repeat (first | refine blk_drewN ?_ _ | refine blk_drew ?_ | refine blk_alloc ?_ _)); refine blk_put (cs := #[.string ((rd_T68 l0_1 x28_2).f0), .string (⟨#[]⟩ : ByteArray)]) ?_ 1 _ rfl; (with_reducible repeat (first | refine blk_drewN ?_ _ | refine blk_drew ?_ | refine blk_alloc ?_ _)); refine blk_put (cs := #[.string (⟨#[]⟩ : ByteArray), .string (⟨#[]⟩ : ByteArray)]) ?_ 0 _ rfl; (with_reducible repeat (first | refine blk_drewN ?_ _ | refine blk_drew ?_ | refine blk_alloc ?_ _)); exact BK132.out) hg (Kd.R_away HO_3.out (fun _ hk => hk.2))); have n2_ := Aside0.mk (hb); have n3_ := Aside0.mk (ho); clear BK125; clear BK132; clear HB; clear HO_3; have BK125 := n0_; have BK132 := n1_; have HB := n2_; have HO135 := n3_; clear n0_ n1_ n2_ n3_; clear ho hb hg hat))
                      go_roundg k2
                      case measure => have := HK1.out; have := HK2.out; omega
                      case rel => exact ⟨(y133), (wrap64 (x28_2 + 1)), (by first | rfl | (simp; done) | (simp [*]; done)), H', ⟨by have := HK1.out; have := HK2.out; omega⟩, ⟨by (with_reducible repeat (first | apply Kd.R_alloc | apply Kd.R_drewN | apply Kd.R_drew)); exact Kd.R_mono HO135.out (fun _ hk => trivial)⟩, ⟨by (with_reducible repeat (first | refine blk_drewN ?_ _ | refine blk_drew ?_ | refine blk_alloc ?_ _)); exact BK125.out⟩, ⟨by repeat (first | (with_reducible first | exact HB.out | apply below_alloc | apply pw_below_drewN | apply below_drew1 | refine below_set ?_ GE125.out | refine below_set ?_ GE132.out) | exact HB.out)⟩⟩
                    · rw [if_neg c18] at H
                      exact absurd H (by simp)
                  · rw [if_neg c17] at H
                    exact absurd H (by simp)
                · rw [if_neg c16] at H
                  exact absurd H (by simp)
              · rw [if_neg c15] at H
                exact absurd H (by simp)
            · rw [if_neg c14] at H
              have c14b0 : decide (x28_2 < (l0_1.length : Int)) = false := decide_eq_false c14
              clear c14
              obtain rfl := Option.some.inj H
              go_wp2
              go_ret
              exact ⟨_, by first | rfl | (simp [errW_none, errW_some] <;> rfl) | (simp [*, errW_none, errW_some] <;> rfl), by (with_reducible repeat (first | apply Kd.R_alloc | apply Kd.R_drewN | apply Kd.R_drew)); exact HO_3.out, by repeat (first | (with_reducible first | exact HB.out | apply below_alloc | apply pw_below_drewN | apply below_drew1 | refine below_set ?_ GE125.out) | exact HB.out)⟩

/-! ### stringslite_HasPrefix: function 66 -/
set_option maxHeartbeats 8000000 in
set_option maxRecDepth 100000 in
theorem stringslite_HasPrefix.calls (a0 : ByteArray) (a1 : ByteArray) (r : Bool) (w : World) (h : stringslite_HasPrefix.f a0 a1 = some r) :
    Calls Try.prog 66 #[.string a0, .string a1] w fun e w' => e = .returned (.bool r) ∧ Drawn0 w w' := by
  have H : (if (a0.size : Int) ≥ (a1.size : Int) then (if 0 ≤ (a1.size : Int) then (if (a1.size : Int) ≤ (a0.size : Int) then (some ((a0.extract 0 ((a1.size : Int) : Int).toNat).toList == a1.toList)) else (none)) else (none)) else (some false)) = some r := h
  clear h
  by_cases c3 : (a0.size : Int) ≥ (a1.size : Int)
  · rw [if_pos c3] at H
    have c3b0 : decide ((a1.size : Int) ≤ (a0.size : Int)) = true := decide_eq_true c3
    have c3b1 : decide (a1.size ≤ a0.size) = true := decide_eq_true (Int.ofNat_le.mp c3)
    clear c3
    by_cases c4 : 0 ≤ (a1.size : Int)
    · rw [if_pos c4] at H
      have c4b0 := eq_true c4
      have c4b1 : decide (0 ≤ (a1.size : Int)) = true := decide_eq_true c4
      clear c4
      by_cases c5 : (a1.size : Int) ≤ (a0.size : Int)
      · rw [if_pos c5] at H
        have c5b0 := eq_true c5
        have c5b1 : decide ((a1.size : Int) ≤ (a0.size : Int)) = true := decide_eq_true c5
        clear c5
        obtain rfl := Option.some.inj H
        go_enter Try.func66, Try.ntmps66
        go_wp2
        go_ret
        exact ⟨by first | rfl | (simp; done) | (simp [*]; done), by repeat (first | exact Drawn0.refl _ | apply Drawn0.step)⟩
      · rw [if_neg c5] at H
        exact absurd H (by simp)
    · rw [if_neg c4] at H
      exact absurd H (by simp)
  · rw [if_neg c3] at H
    have c3b0 : decide ((a1.size : Int) ≤ (a0.size : Int)) = false := decide_eq_false c3
    have c3b1 : decide (a1.size ≤ a0.size) = false := decide_eq_false (fun h => c3 (Int.ofNat_le.mpr h))
    clear c3
    obtain rfl := Option.some.inj H
    go_enter Try.func66, Try.ntmps66
    go_wp2
    go_ret
    exact ⟨by first | rfl | (simp; done) | (simp [*]; done), by repeat (first | exact Drawn0.refl _ | apply Drawn0.step)⟩

/-! ### stringslite_CutPrefix: function 53 -/
set_option maxHeartbeats 8000000 in
set_option maxRecDepth 100000 in
theorem stringslite_CutPrefix.calls (a0 : ByteArray) (a1 : ByteArray) (r1 : ByteArray) (r2 : Bool) (w : World) (h : stringslite_CutPrefix.f a0 a1 = some (r1, r2)) :
    Calls Try.prog 53 #[.string a0, .string a1] w fun e w' => e = .returned (.tuple #[.string r1, .bool r2]) ∧ Drawn0 w w' := by
  have H : ((stringslite_HasPrefix.f a0 a1).bind fun t136 => (if t136 = true then (if 0 ≤ (a1.size : Int) then (if (a1.size : Int) ≤ (a0.size : Int) then (some (a0.extract ((a1.size : Int) : Int).toNat a0.size, true)) else (none)) else (none)) else (some (a0, false)))) = some (r1, r2) := h
  clear h
  replace H := Option.bind_eq_some_iff.mp H
  obtain ⟨t136, A30, H⟩ := H
  replace H : (if t136 = true then (if 0 ≤ (a1.size : Int) then (if (a1.size : Int) ≤ (a0.size : Int) then (some (a0.extract ((a1.size : Int) : Int).toNat a0.size, true)) else (none)) else (none)) else (some (a0, false))) = some (r1, r2) := H
  have A3 := Aside0.mk A30
  clear A30
  by_cases c4 : t136 = true
  · subst c4
    have H1 : (if 0 ≤ (a1.size : Int) then (if (a1.size : Int) ≤ (a0.size : Int) then (some (a0.extract ((a1.size : Int) : Int).toNat a0.size, true)) else (none)) else (none)) = some (r1, r2) := by rw [if_pos rfl] at H; exact H
    clear H
    have H := H1
    clear H1
    by_cases c5 : 0 ≤ (a1.size : Int)
    · rw [if_pos c5] at H
      have c5b0 := eq_true c5
      have c5b1 : decide (0 ≤ (a1.size : Int)) = true := decide_eq_true c5
      clear c5
      by_cases c6 : (a1.size : Int) ≤ (a0.size : Int)
      · rw [if_pos c6] at H
        have c6b0 := eq_true c6
        have c6b1 : decide ((a1.size : Int) ≤ (a0.size : Int)) = true := decide_eq_true c6
        clear c6
        simp only [Option.some.injEq, Prod.mk.injEq] at H
        obtain ⟨rfl, rfl⟩ := H
        go_enter Try.func53, Try.ntmps53
        go_wp2_with (first | ((with_reducible refine gate_callee (f := 66) rfl ?_); refine goesL_ (some 8) rfl rfl Try.func66 (by kernel_rfl) rfl #[.string a0, .string a1] rfl (by (try simp only [List.map_toArray, List.map_cons, List.map_nil]); first | done | rfl | (simp only [List.length_drop, List.length_take]; rfl)) ?_; (with_reducible refine (stringslite_HasPrefix.calls a0 a1 true _ A3.out).mono ?_); rintro e w' ⟨rfl, ⟨nd, rfl⟩⟩; refine ⟨_, rfl, ?_⟩))
        go_ret2
        exact ⟨by first | rfl | (simp; done) | (simp [*]; done), by repeat (first | exact Drawn0.refl _ | apply Drawn0.step)⟩
      · rw [if_neg c6] at H
        exact absurd H (by simp)
    · rw [if_neg c5] at H
      exact absurd H (by simp)
  · replace c4 := Bool.eq_false_iff.mpr c4
    subst c4
    have H1 : (some (a0, false)) = some (r1, r2) := by rw [if_neg (show ¬ (false = true) by decide)] at H; exact H
    clear H
    have H := H1
    clear H1
    simp only [Option.some.injEq, Prod.mk.injEq] at H
    obtain ⟨rfl, rfl⟩ := H
    go_enter Try.func53, Try.ntmps53
    go_wp2_with (first | ((with_reducible refine gate_callee (f := 66) rfl ?_); refine goesL_ (some 8) rfl rfl Try.func66 (by kernel_rfl) rfl #[.string a0, .string a1] rfl (by (try simp only [List.map_toArray, List.map_cons, List.map_nil]); first | done | rfl | (simp only [List.length_drop, List.length_take]; rfl)) ?_; (with_reducible refine (stringslite_HasPrefix.calls a0 a1 false _ A3.out).mono ?_); rintro e w' ⟨rfl, ⟨nd, rfl⟩⟩; refine ⟨_, rfl, ?_⟩))
    go_ret2
    exact ⟨by first | rfl | (simp; done) | (simp [*]; done), by repeat (first | exact Drawn0.refl _ | apply Drawn0.step)⟩

/-! ### strings_CutPrefix: function 32 -/
set_option maxHeartbeats 8000000 in
set_option maxRecDepth 100000 in
theorem strings_CutPrefix.calls (a0 : ByteArray) (a1 : ByteArray) (r1 : ByteArray) (r2 : Bool) (w : World) (h : strings_CutPrefix.f a0 a1 = some (r1, r2)) :
    Calls Try.prog 32 #[.string a0, .string a1] w fun e w' => e = .returned (.tuple #[.string r1, .bool r2]) ∧ Drawn0 w w' := by
  have H : ((stringslite_CutPrefix.f a0 a1).bind fun bt137 => (some (bt137.1, bt137.2))) = some (r1, r2) := h
  clear h
  replace H := Option.bind_eq_some_iff.mp H
  obtain ⟨⟨t137, t138⟩, A30, H⟩ := H
  replace H : (some (t137, t138)) = some (r1, r2) := H
  have A3 := Aside0.mk A30
  clear A30
  simp only [Option.some.injEq, Prod.mk.injEq] at H
  obtain ⟨rfl, rfl⟩ := H
  go_enter Try.func32, Try.ntmps32
  go_wp2_with (first | ((with_reducible refine gate_callee (f := 53) rfl ?_); refine goesL_ (some 8) rfl rfl Try.func53 (by kernel_rfl) rfl #[.string a0, .string a1] rfl (by (try simp only [List.map_toArray, List.map_cons, List.map_nil]); first | done | rfl | (simp only [List.length_drop, List.length_take]; rfl)) ?_; (with_reducible refine (stringslite_CutPrefix.calls a0 a1 t137 t138 _ A3.out).mono ?_); rintro e w' ⟨rfl, ⟨nd, rfl⟩⟩; refine ⟨_, rfl, ?_⟩))
  go_ret2
  exact ⟨by first | rfl | (simp; done) | (simp [*]; done), by repeat (first | exact Drawn0.refl _ | apply Drawn0.step)⟩

/-! ### batch_Back: function 15 -/
set_option maxHeartbeats 8000000 in
set_option maxRecDepth 100000 in
theorem batch_Back.calls (k : Nat) (A0 : Option Addr) (c0 : Nat) (l0 : List (S68)) (r1 : List (S68)) (r2 : List (S68)) (r3 : Int) (w : World) (hr0 : Kd.C k68 w A0 l0.length l0) (hc0 : l0.length ≤ c0) (h : batch_Back.f k l0 = some (r1, r2, r3)) :
    Calls Try.prog 15 #[.slice A0 l0.length c0] w fun e w' => ∃ v0_ v1_ : Value, e = .returned (.tuple #[.agg #[v0_, v1_], .int .i64 r3]) ∧ Kd.R k68 68 w' w.heap.size (fun k_ => some k_ ≠ (v1_ : Value).ownBlock) v0_ r1 ∧ Kd.R k68 68 w' w.heap.size (fun k_ => some k_ ≠ (v0_ : Value).ownBlock) v1_ r2 ∧ Below w.heap.size w w' := by
  have hu24 := Try.underlying24
  have hu68 := Try.underlying68
  have HR0 := Aside0.mk hr0
  have HC0 := Aside0.mk hc0
  clear hr0 hc0
  have HB := Aside0.mk (Below.refl w.heap.size w)
  have H : (batch_Back.l0 k l0 (l0.length : Int) 0 ([] : List (S68)) ([] : List (S68))) = some (r1, r2, r3) := h
  clear h
  have H' := Aside0.mk H
  clear H
  go_enter Try.func15, Try.ntmps15
  go_wp2_with (first | ((with_reducible refine gate_dst (N := 2) rfl ?_); (try (refine gate_guard (by rfl) ?_; dsimp only)); refine box_event ?hg (N := 2) ?hd (cs := #[.slice none 0 0, .slice none 0 0]) (t := 24) ?hr ?_; (case hd => rfl); (case hg => rfl); (case hr => first | (go_simp; done) | (go_simp; rfl)); intro gb139 hg w2 hbox hb; have n0_ := Aside0.mk (below_step (by repeat (first | (with_reducible first | exact HB.out | apply below_alloc | apply pw_below_drewN | apply below_drew1) | exact HB.out)) hb); have n1_ := Aside0.mk (hbox); have n2_ := Aside0.mk ((by rw [hg]; exact (below_size (by repeat (first | (with_reducible first | exact HB.out | apply below_alloc | apply pw_below_drewN | apply below_drew1) | exact HB.out))) : w.heap.size ≤ gb139)); have n3_ := Aside0.mk ((by rw [hg]; exact (below_size (by repeat (first | (with_reducible first | exact HB.out | apply below_alloc | apply pw_below_drewN | apply below_drew1) | exact HB.out))) : w.heap.size ≤ gb139)); clear HB; have HB := n0_; have BK139 := n1_; have GW139 := n2_; have GE139 := n3_; clear n0_ n1_ n2_ n3_; clear hb hbox hg) | ((with_reducible refine gate_dst (N := 4) rfl ?_); (try (refine gate_guard (by rfl) ?_; dsimp only)); refine box_event ?hg (N := 4) ?hd (cs := #[.slice none 0 0, .slice none 0 0]) (t := 24) ?hr ?_; (case hd => rfl); (case hg => rfl); (case hr => first | (go_simp; done) | (go_simp; rfl)); intro gb140 hg w3 hbox hb; have n0_ := Aside0.mk (blk_below (g := gb139) (o := .cells #[.slice none 0 0, .slice none 0 0] 24 (0, 0)) (by (with_reducible repeat (first | refine blk_drewN ?_ _ | refine blk_drew ?_ | refine blk_alloc ?_ _)); exact BK139.out) hb); have n1_ := Aside0.mk (below_step (by repeat (first | (with_reducible first | exact HB.out | apply below_alloc | apply pw_below_drewN | apply below_drew1 | refine below_set ?_ GE139.out) | exact HB.out)) hb); have n2_ := Aside0.mk (hbox); have n3_ := Aside0.mk ((by rw [hg]; exact (below_size (by repeat (first | (with_reducible first | exact HB.out | apply below_alloc | apply pw_below_drewN | apply below_drew1 | refine below_set ?_ GE139.out) | exact HB.out))) : w.heap.size ≤ gb140)); have n4_ := Aside0.mk ((by rw [hg]; exact (below_size (by repeat (first | (with_reducible first | exact HB.out | apply below_alloc | apply pw_below_drewN | apply below_drew1 | refine below_set ?_ GE139.out) | exact HB.out))) : w.heap.size ≤ gb140)); have n5_ := Aside0.mk ((by rw [hg]; exact Nat.ne_of_lt (blk_lt (g := gb139) (o := .cells #[.slice none 0 0, .slice none 0 0] 24 (0, 0)) (by (with_reducible repeat (first | refine blk_drewN ?_ _ | refine blk_drew ?_ | refine blk_alloc ?_ _)); exact BK139.out)) : gb139 ≠ gb140)); have n6_ := Aside0.mk ((by rw [hg]; exact Nat.ne_of_gt (blk_lt (g := gb139) (o := .cells #[.slice none 0 0, .slice none 0 0] 24 (0, 0)) (by (with_reducible repeat (first | refine blk_drewN ?_ _ | refine blk_drew ?_ | refine blk_alloc ?_ _)); exact BK139.out)) : gb140 ≠ gb139)); clear BK139; clear HB; have BK139 := n0_; have HB := n1_; have BK140 := n2_; have GW140 := n3_; have GE140 := n4_; have NB139_140 := n5_; have NB140_139 := n6_; clear n0_ n1_ n2_ n3_ n4_ n5_ n6_; clear hb hbox hg))
  go_loopg [13] k (fun kq v13 w' => ∃ (x13_1 : Int) (x141000_1 : List (S68)) (x141001_1 : List (S68)) (u141000 : Value) (u141001 : Value), v13 = .int .i64 x13_1 ∧ Aside0 (batch_Back.l0 kq l0 (l0.length : Int) x13_1 x141000_1 x141001_1 = some (r1, r2, r3)) ∧ Aside0 (kq ≤ k) ∧ Aside0 (Kd.R k68 68 w' w.heap.size (fun k_ => some k_ ≠ (u141001 : Value).ownBlock) u141000 x141000_1) ∧ Aside0 (Kd.R k68 68 w' w.heap.size (fun k_ => some k_ ≠ (u141000 : Value).ownBlock) u141001 x141001_1) ∧ Aside0 (w'.heap[gb139]? = some (.cells #[(.slice none 0 0), (.slice none 0 0)] 24 (0, 0))) ∧ Aside0 (w'.heap[gb140]? = some (.cells #[u141000, u141001] 24 (0, 0))) ∧ Aside0 (Below w.heap.size w w'))
  case atStart => exact ⟨(0), (([] : List (S68))), (([] : List (S68))), (.slice none 0 0), (.slice none 0 0), (by first | rfl | (simp; done) | (simp [*]; done)), H', ⟨Nat.le_refl _⟩, ⟨by first | exact Kd.R_nil _ _ _ _ _ | exact Kd.N_nil _ _ _ _ _ | exact Kd.V_nil _ _ _ _ _ | exact Kd.Q_nil _ _ _ _ _ | exact Kd.S_nil _ _ _ _ _⟩, ⟨by first | exact Kd.R_nil _ _ _ _ _ | exact Kd.N_nil _ _ _ _ _ | exact Kd.V_nil _ _ _ _ _ | exact Kd.Q_nil _ _ _ _ _ | exact Kd.S_nil _ _ _ _ _⟩, ⟨by (with_reducible repeat (first | refine blk_drewN ?_ _ | refine blk_drew ?_ | refine blk_alloc ?_ _)); exact BK139.out⟩, ⟨by (with_reducible repeat (first | refine blk_drewN ?_ _ | refine blk_drew ?_ | refine blk_alloc ?_ _)); exact BK140.out⟩, ⟨by repeat (first | (with_reducible first | exact HB.out | apply below_alloc | apply pw_below_drewN | apply below_drew1 | refine below_set ?_ GE139.out | refine below_set ?_ GE140.out) | exact HB.out)⟩⟩
  case round =>
    clear H'
    try clear c1
    try clear p2
    obtain ⟨x13_1, x141000_1, x141001_1, u141000, u141001, rfl, HA, HK1, HO_141000, HO_141001, BK139, BK140, HB⟩ := hrel
    cases gk with
    | zero => exact absurd HA.out (by simp [batch_Back.l0])
    | succ k1 =>
      have H := HA.out
      clear HA
      simp only [batch_Back.l0] at H
      by_cases c4 : x13_1 < (l0.length : Int)
      · rw [if_pos c4] at H
        have c4b0 : decide (x13_1 < (l0.length : Int)) = true := decide_eq_true c4
        clear c4
        by_cases c5 : 0 ≤ x13_1
        · rw [if_pos c5] at H
          have c5b0 : decide (0 ≤ x13_1) = true := decide_eq_true c5
          clear c5
          by_cases c6 : x13_1 < (l0.length : Int)
          · rw [if_pos c6] at H
            have c6b0 : decide (x13_1 < (l0.length : Int)) = true := decide_eq_true c6
            clear c6
            replace H := Option.bind_eq_some_iff.mp H
            obtain ⟨⟨t143, t144⟩, A70, H⟩ := H
            replace H : (if t144 = true then (batch_Back.j1 k1 t143 l0 (l0.length : Int) x13_1 ((x141001_1.length : Int) == 0) x141000_1 x141001_1 ((rd_T68 l0 x13_1).f0) ((rd_T68 l0 x13_1).f1)) else (batch_Back.j1 k1 t143 l0 (l0.length : Int) x13_1 false x141000_1 x141001_1 ((rd_T68 l0 x13_1).f0) ((rd_T68 l0 x13_1).f1))) = some (r1, r2, r3) := H
            have A7 := Aside0.mk A70
            clear A70
            have HC8 := Aside0.mk H
            clear H
            have p141 : 0 ≤ (x13_1 : Int) := of_decide_eq_true (by first | (with_reducible assumption) | assumption)
            have q141 : x13_1 < (l0.length : Int) := of_decide_eq_true (by first | (with_reducible assumption) | assumption)
            obtain ⟨ad141, e141, hx141_0, hx141_1⟩ := at_T68 HR0.out x13_1 p141 q141
            cases e141
            replace hx141_0 := (HB.out.cell (World.block_lt_of_cell? w _ hx141_0)).trans hx141_0
            replace hx141_1 := (HB.out.cell (World.block_lt_of_cell? w _ hx141_1)).trans hx141_1
            replace p141 := eq_true p141
            replace q141 := eq_true q141
            go_upto_region 6 with (first | ((with_reducible refine gate_dst (N := 6) rfl ?_); (try (refine gate_guard (by rfl) ?_; dsimp only)); refine box_event ?hg (N := 6) ?hd (cs := #[.string (⟨#[]⟩ : ByteArray), .string (⟨#[]⟩ : ByteArray)]) (t := 68) ?hr ?_; (case hd => rfl); (case hg => rfl); (case hr => first | (go_simp; done) | (go_simp; rfl)); intro gb142 hg w9 hbox hb; have n0_ := Aside0.mk (Kd.R_below (Kd.R_elderB (by (with_reducible repeat (first | apply Kd.R_alloc | apply Kd.R_drewN | apply Kd.R_drew)); exact HO_141000.out) gb142 (Nat.le_of_eq hg.symm)) hb); have n1_ := Aside0.mk (Kd.R_below (Kd.R_elderB (by (with_reducible repeat (first | apply Kd.R_alloc | apply Kd.R_drewN | apply Kd.R_drew)); exact HO_141001.out) gb142 (Nat.le_of_eq hg.symm)) hb); have n2_ := Aside0.mk (blk_below (g := gb139) (o := .cells #[.slice none 0 0, .slice none 0 0] 24 (0, 0)) (by (with_reducible repeat (first | refine blk_drewN ?_ _ | refine blk_drew ?_ | refine blk_alloc ?_ _)); exact BK139.out) hb); have n3_ := Aside0.mk (blk_below (g := gb140) (o := .cells #[u141000, u141001] 24 (0, 0)) (by (with_reducible repeat (first | refine blk_drewN ?_ _ | refine blk_drew ?_ | refine blk_alloc ?_ _)); exact BK140.out) hb); have n4_ := Aside0.mk (below_step (by repeat (first | (with_reducible first | exact HB.out | apply below_alloc | apply pw_below_drewN | apply below_drew1 | refine below_set ?_ GE139.out | refine below_set ?_ GE140.out) | exact HB.out)) hb); have n5_ := Aside0.mk (hbox); have n6_ := Aside0.mk ((by rw [hg]; exact (below_size (by repeat (first | (with_reducible first | exact HB.out | apply below_alloc | apply pw_below_drewN | apply below_drew1 | refine below_set ?_ GE139.out | refine below_set ?_ GE140.out) | exact HB.out))) : w.heap.size ≤ gb142)); have n7_ := Aside0.mk ((by rw [hg]; exact (below_size (by repeat (first | (with_reducible first | exact HB.out | apply below_alloc | apply pw_below_drewN | apply below_drew1 | refine below_set ?_ GE139.out | refine below_set ?_ GE140.out) | exact HB.out))) : w.heap.size ≤ gb142)); have n8_ := Aside0.mk ((by rw [hg]; exact Nat.ne_of_lt (blk_lt (g := gb139) (o := .cells #[.slice none 0 0, .slice none 0 0] 24 (0, 0)) (by (with_reducible repeat (first | refine blk_drewN ?_ _ | refine blk_drew ?_ | refine blk_alloc ?_ _)); exact BK139.out)) : gb139 ≠ gb142)); have n9_ := Aside0.mk ((by rw [hg]; exact Nat.ne_of_gt (blk_lt (g := gb139) (o := .cells #[.slice none 0 0, .slice none 0 0] 24 (0, 0)) (by (with_reducible repeat (first | refine blk_drewN ?_ _ | refine blk_drew ?_ | refine blk_alloc ?_ _)); exact BK139.out)) : gb142 ≠ gb139)); have n10_ := Aside0.mk ((by rw [hg]; exact Nat.ne_of_lt (blk_lt (g := gb140) (o := .cells #[u141000, u141001] 24 (0, 0)) (by (with_reducible repeat (first | refine blk_drewN ?_ _ | refine blk_drew ?_ | refine blk_alloc ?_ _)); exact BK140.out)) : gb140 ≠ gb142)); have n11_ := Aside0.mk ((by rw [hg]; exact Nat.ne_of_gt (blk_lt (g := gb140) (o := .cells #[u141000, u141001] 24 (0, 0)) (by (with_reducible repeat (first | refine blk_drewN ?_ _ | refine blk_drew ?_ | refine blk_alloc ?_ _)); exact BK140.out)) : gb142 ≠ gb140)); clear HO_141000; clear HO_141001; clear BK139; clear BK140; clear HB; have HO_141000 := n0_; have HO_141001 := n1_; have BK139 := n2_; have BK140 := n3_; have HB := n4_; have BK142 := n5_; have GW142 := n6_; have GE142 := n7_; have NB139_142 := n8_; have NB142_139 := n9_; have NB140_142 := n10_; have NB142_140 := n11_; clear n0_ n1_ n2_ n3_ n4_ n5_ n6_ n7_ n8_ n9_ n10_ n11_; clear hb hbox hg; have hnb10 := NB142_139.out; have hnc10 := NB139_142.out; have hnb11 := NB142_140.out; have hnc11 := NB140_142.out; have hcz12_0 : w9.cell? ⟨gb142, 0, none⟩ = some (.string (⟨#[]⟩ : ByteArray)) := (blk_cell BK142.out 0).trans rfl; have hcz12_1 : w9.cell? ⟨gb142, 1, none⟩ = some (.string (⟨#[]⟩ : ByteArray)) := (blk_cell BK142.out 1).trans rfl; have hfz12_0 := blk_frozen BK142.out 0; have hfz12_1 := blk_frozen BK142.out 1) | ((with_reducible refine gate_callee (f := 32) rfl ?_); refine goesL_ (some 20) rfl rfl Try.func32 (by kernel_rfl) rfl #[.string ((rd_T68 l0 x13_1).f0), .string (⟨#[100]⟩ : ByteArray)] rfl (by (try simp only [List.map_toArray, List.map_cons, List.map_nil]); first | done | rfl | (simp only [List.length_drop, List.length_take]; rfl)) ?_; (with_reducible refine (strings_CutPrefix.calls ((rd_T68 l0 x13_1).f0) (⟨#[100]⟩ : ByteArray) t143 t144 _ A7.out).mono ?_); rintro e w' ⟨rfl, ⟨nd, rfl⟩⟩; refine ⟨_, rfl, ?_⟩))
            (try simp only [Act.put, List.setIfInBounds_toArray, List.set_cons_zero, List.set_cons_succ])
            go_cut [29] (fun v29 wc => ∃ (kq : Nat) (x29_7 : Bool), v29 = .bool x29_7 ∧ Aside0 (batch_Back.j1 kq t143 l0 (l0.length : Int) x13_1 x29_7 x141000_1 x141001_1 ((rd_T68 l0 x13_1).f0) ((rd_T68 l0 x13_1).f1) = some (r1, r2, r3)) ∧ Aside0 (kq ≤ k1) ∧ Aside0 (Kd.R k68 68 wc w.heap.size (fun k_ => some k_ ≠ (u141001 : Value).ownBlock ∧ k_ ≠ gb142) u141000 x141000_1) ∧ Aside0 (Kd.R k68 68 wc w.heap.size (fun k_ => some k_ ≠ (u141000 : Value).ownBlock ∧ k_ ≠ gb142) u141001 x141001_1) ∧ Aside0 (wc.heap[gb139]? = some (.cells #[(.slice none 0 0), (.slice none 0 0)] 24 (0, 0))) ∧ Aside0 (wc.heap[gb140]? = some (.cells #[u141000, u141001] 24 (0, 0))) ∧ Aside0 (wc.heap[gb142]? = some (.cells #[.string ((rd_T68 l0 x13_1).f0), .string ((rd_T68 l0 x13_1).f1)] 68 (0, 0))) ∧ Aside0 (Below w.heap.size w wc))
            case first =>
              have H := HC8.out
              clear HC8
              by_cases c13 : t144 = true
              · subst c13
                have H1 : (batch_Back.j1 k1 t143 l0 (l0.length : Int) x13_1 ((x141001_1.length : Int) == 0) x141000_1 x141001_1 ((rd_T68 l0 x13_1).f0) ((rd_T68 l0 x13_1).f1)) = some (r1, r2, r3) := by rw [if_pos rfl] at H; exact H
                clear H
                have H := H1
                clear H1
                have H' := Aside0.mk H
                clear H
                have hnb14 := NB140_139.out
                have hnc14 := NB139_140.out
                have hnb15 := NB140_142.out
                have hnc15 := NB142_140.out
                have hcz16_0 : w9.cell? ⟨gb140, 0, none⟩ = some (u141000) := (blk_cell BK140.out 0).trans rfl
                have hcz16_1 : w9.cell? ⟨gb140, 1, none⟩ = some (u141001) := (blk_cell BK140.out 1).trans rfl
                have hfz16_0 := blk_frozen BK140.out 0
                have hfz16_1 := blk_frozen BK140.out 1
                obtain ⟨Ao17, co17, eo17⟩ := Kd.R_slice HO_141001.out
                subst eo17
                go_wp2
                go_meet
                case rel => exact ⟨_, (((x141001_1.length : Int) == 0)), (by first | rfl | (simp; done) | (simp [*]; done)), H', ⟨by have := HK1.out; first | omega | exact Nat.le_refl _⟩, ⟨by (with_reducible repeat (first | apply Kd.R_alloc | apply Kd.R_drewN | apply Kd.R_drew)); exact Kd.R_mono (Kd.R_far (p := ⟨gb142, 1, none⟩) (Kd.R_far (p := ⟨gb142, 0, none⟩) (Kd.R_mono HO_141000.out (fun k_ hk => (⟨hk, hk.2⟩ : _ ∧ k_ ≠ gb142))) (fun _ hk => hk.2) (.string ((rd_T68 l0 x13_1).f0))) (fun _ hk => hk.2) (.string ((rd_T68 l0 x13_1).f1))) (fun _ hk => ⟨hk.1.1, hk.1.2⟩)⟩, ⟨by (with_reducible repeat (first | apply Kd.R_alloc | apply Kd.R_drewN | apply Kd.R_drew)); exact Kd.R_mono (Kd.R_far (p := ⟨gb142, 1, none⟩) (Kd.R_far (p := ⟨gb142, 0, none⟩) (Kd.R_mono HO_141001.out (fun k_ hk => (⟨hk, hk.2⟩ : _ ∧ k_ ≠ gb142))) (fun _ hk => hk.2) (.string ((rd_T68 l0 x13_1).f0))) (fun _ hk => hk.2) (.string ((rd_T68 l0 x13_1).f1))) (fun _ hk => ⟨hk.1.1, hk.1.2⟩)⟩, ⟨by (with_reducible repeat (first | refine blk_drewN ?_ _ | refine blk_drew ?_ | refine blk_alloc ?_ _)); refine blk_far ?_ NB139_142.out _; (with_reducible repeat (first | refine blk_drewN ?_ _ | refine blk_drew ?_ | refine blk_alloc ?_ _)); refine blk_far ?_ NB139_142.out _; (with_reducible repeat (first | refine blk_drewN ?_ _ | refine blk_drew ?_ | refine blk_alloc ?_ _)); exact BK139.out⟩, ⟨by (with_reducible repeat (first | refine blk_drewN ?_ _ | refine blk_drew ?_ | refine blk_alloc ?_ _)); refine blk_far ?_ NB140_142.out _; (with_reducible repeat (first | refine blk_drewN ?_ _ | refine blk_drew ?_ | refine blk_alloc ?_ _)); refine blk_far ?_ NB140_142.out _; (with_reducible repeat (first | refine blk_drewN ?_ _ | refine blk_drew ?_ | refine blk_alloc ?_ _)); exact BK140.out⟩, ⟨by (with_reducible repeat (first | refine blk_drewN ?_ _ | refine blk_drew ?_ | refine blk_alloc ?_ _)); refine blk_put (cs := #[.string ((rd_T68 l0 x13_1).f0), .string (⟨#[]⟩ : ByteArray)]) ?_ 1 _ rfl; (with_reducible repeat (first | refine blk_drewN ?_ _ | refine blk_drew ?_ | refine blk_alloc ?_ _)); refine blk_put (cs := #[.string (⟨#[]⟩ : ByteArray), .string (⟨#[]⟩ : ByteArray)]) ?_ 0 _ rfl; (with_reducible repeat (first | refine blk_drewN ?_ _ | refine blk_drew ?_ | refine blk_alloc ?_ _)); exact BK142.out⟩, ⟨by repeat (first | (with_reducible first | exact HB.out | apply below_alloc | apply pw_below_drewN | apply below_drew1 | refine below_set ?_ GE139.out | refine below_set ?_ GE140.out | refine below_set ?_ GE142.out) | exact HB.out)⟩⟩
              · replace c13 := Bool.eq_false_iff.mpr c13
                subst c13
                have H1 : (batch_Back.j1 k1 t143 l0 (l0.length : Int) x13_1 false x141000_1 x141001_1 ((rd_T68 l0 x13_1).f0) ((rd_T68 l0 x13_1).f1)) = some (r1, r2, r3) := by rw [if_neg (show ¬ (false = true) by decide)] at H; exact H
                clear H
                have H := H1
                clear H1
                have H' := Aside0.mk H
                clear H
                go_wp2
                go_meet
                case rel => exact ⟨_, (false), (by first | rfl | (simp; done) | (simp [*]; done)), H', ⟨by have := HK1.out; first | omega | exact Nat.le_refl _⟩, ⟨by (with_reducible repeat (first | apply Kd.R_alloc | apply Kd.R_drewN | apply Kd.R_drew)); exact Kd.R_mono (Kd.R_far (p := ⟨gb142, 1, none⟩) (Kd.R_far (p := ⟨gb142, 0, none⟩) (Kd.R_mono HO_141000.out (fun k_ hk => (⟨hk, hk.2⟩ : _ ∧ k_ ≠ gb142))) (fun _ hk => hk.2) (.string ((rd_T68 l0 x13_1).f0))) (fun _ hk => hk.2) (.string ((rd_T68 l0 x13_1).f1))) (fun _ hk => ⟨hk.1.1, hk.1.2⟩)⟩, ⟨by (with_reducible repeat (first | apply Kd.R_alloc | apply Kd.R_drewN | apply Kd.R_drew)); exact Kd.R_mono (Kd.R_far (p := ⟨gb142, 1, none⟩) (Kd.R_far (p := ⟨gb142, 0, none⟩) (Kd.R_mono HO_141001.out (fun k_ hk => (⟨hk, hk.2⟩ : _ ∧ k_ ≠ gb142))) (fun _ hk => hk.2) (.string ((rd_T68 l0 x13_1).f0))) (fun _ hk => hk.2) (.string ((rd_T68 l0 x13_1).f1))) (fun _ hk => ⟨hk.1.1, hk.1.2⟩)⟩, ⟨by (with_reducible repeat (first | refine blk_drewN ?_ _ | refine blk_drew ?_ | refine blk_alloc ?_ _)); refine blk_far ?_ NB139_142.out _; (with_reducible repeat (first | refine blk_drewN ?_ _ | refine blk_drew ?_ | refine blk_alloc ?_ _)); refine blk_far ?_ NB139_142.out _; (with_reducible repeat (first | refine blk_drewN ?_ _ | refine blk_drew ?_ | refine blk_alloc ?_ _)); exact BK139.out⟩, ⟨by (with_reducible repeat (first | refine blk_drewN ?_ _ | refine blk_drew ?_ | refine blk_alloc ?_ _)); refine blk_far ?_ NB140_142.out _; (with_reducible repeat (first | refine blk_drewN ?_ _ | refine blk_drew ?_ | refine blk_alloc ?_ _)); refine blk_far ?_ NB140_142.out _; (with_reducible repeat (first | refine blk_drewN ?_ _ | refine blk_drew ?_ | refine blk_alloc ?_ _)); exact BK140.out⟩, ⟨by (with_reducible repeat (first | refine blk_drewN ?_ _ | refine blk_drew ?_ | refine blk_alloc ?_ _)); refine blk_put (cs := #[.string ((rd_T68 l0 x13_1).f0), .string (⟨#[]⟩ : ByteArray)]) ?_ 1 _ rfl; (with_reducible repeat (first | refine blk_drewN ?_ _ | refine blk_drew ?_ | refine blk_alloc ?_ _)); refine blk_put (cs := #[.string (⟨#[]⟩ : ByteArray), .string (⟨#[]⟩ : ByteArray)]) ?_ 0 _ rfl; (with_reducible repeat (first | refine blk_drewN ?_ _ | refine blk_drew ?_ | refine blk_alloc ?_ _)); exact BK142.out⟩, ⟨by repeat (first | (with_reducible first | exact HB.out | apply below_alloc | apply pw_below_drewN | apply below_drew1 | refine below_set ?_ GE139.out | refine below_set ?_ GE140.out | refine below_set ?_ GE142.out) | exact HB.out)⟩⟩
            case rest =>
              clear HC8
              try clear c1
              try clear p1
              try clear q1
              try clear hx1
              try clear p2
              try clear c3
              try clear c4
              try clear c4b0
              try clear c5
              try clear c5b0
              try clear c6
              try clear c6b0
              try clear c10
              try clear c11
              try clear c13
              try clear c14
              try clear p14
              try clear q14
              try clear hx14
              try clear c15
              try clear hcz12_0
              try clear hcz12_1
              try clear hcz16_0
              try clear hcz16_1
              try clear hfz12_0
              try clear hfz12_1
              try clear hfz16_0
              try clear hfz16_1
              try clear hx141_0
              try clear hx141_1
              try clear p141
              try clear p2
              try clear q141
              obtain ⟨kq, x29_7, rfl, HA, HJ7, HO_141000, HO_141001, BK139, BK140, BK142, HB⟩ := hcut
              cases kq with
              | zero => exact absurd HA.out (by simp [batch_Back.j1])
              | succ kj7 =>
                have H := HA.out
                clear HA
                simp only [batch_Back.j1] at H
                by_cases c18 : x29_7 = true
                · subst c18
                  have H1 : (if x141000_1.length < 4398046511104 then (batch_Back.l0 kj7 l0 (l0.length : Int) (wrap64 (x13_1 + 1)) (x141000_1 ++ [(⟨t143, ((rd_T68 l0 x13_1).f1)⟩ : S68)]) x141001_1) else (none)) = some (r1, r2, r3) := by rw [if_pos rfl] at H; exact H
                  clear H
                  have H := H1
                  clear H1
                  by_cases c19 : x141000_1.length < 4398046511104
                  · rw [if_pos c19] at H
                    have LMc19 := Aside0.mk c19
                    clear c19
                    obtain ⟨y145, hy145⟩ : ∃ y_ : List (S68), y_ = (x141000_1 ++ [(⟨t143, ((rd_T68 l0 x13_1).f1)⟩ : S68)]) := ⟨_, rfl⟩
                    replace H : (batch_Back.l0 kj7 l0 (l0.length : Int) (wrap64 (x13_1 + 1)) y145 x141001_1) = some (r1, r2, r3) := by first | (rw [hy145]; with_reducible exact H) | (have H2_ := (Option.bind_some _ _).symm.trans H; rw [hy145]; with_reducible exact H2_) | (have H2_ := (Option.bind_some _ _).symm.trans H; with_reducible exact H2_) | with_reducible exact H | (rw [hy145]; exact H) | exact H
                    have Ny145 := Aside0.mk hy145
                    clear hy145
                    have H' := Aside0.mk H
                    clear H
                    have hnb20 := NB140_139.out
                    have hnc20 := NB139_140.out
                    have hnb21 := NB140_142.out
                    have hnc21 := NB142_140.out
                    have hcz22_0 : wc.cell? ⟨gb140, 0, none⟩ = some (u141000) := (blk_cell BK140.out 0).trans rfl
                    have hcz22_1 : wc.cell? ⟨gb140, 1, none⟩ = some (u141001) := (blk_cell BK140.out 1).trans rfl
                    have hfz22_0 := blk_frozen BK140.out 0
                    have hfz22_1 := blk_frozen BK140.out 1
                    have hnb23 := NB142_139.out
                    have hnc23 := NB139_142.out
                    have hcz24_0 : wc.cell? ⟨gb142, 0, none⟩ = some (.string ((rd_T68 l0 x13_1).f0)) := (blk_cell BK142.out 0).trans rfl
                    have hcz24_1 : wc.cell? ⟨gb142, 1, none⟩ = some (.string ((rd_T68 l0 x13_1).f1)) := (blk_cell BK142.out 1).trans rfl
                    have hfz24_0 := blk_frozen BK142.out 0
                    have hfz24_1 := blk_frozen BK142.out 1
                    go_wp2_with (first | ((with_reducible refine gate_builtin (b := .append) (xs := #[.tmp 31, .tmp 36]) rfl ?_); (try (refine gate_guard (by rfl) ?_; dsimp only)); at_builtin; refine Kd.R_append k68 (w0 := w) w.heap.size rfl (.tmp 31) (.tmp 36) 22 68 (.agg #[(.string ⟨#[]⟩), (.string ⟨#[]⟩)]) 32 rfl Try.underlying22 info68 rfl (by decide) (by omega) u141000 x141000_1 (⟨t143, ((rd_T68 l0 x13_1).f1)⟩ : S68) [.string t143, .string ((rd_T68 l0 x13_1).f1)] (fun k_ => some k_ ≠ (u141001 : Value).ownBlock ∧ k_ ≠ gb142) (fun _ => False) rfl rfl ?aP (fun _ hk => hk.elim) ?aF ?aO ?aB ?aS ?aL ?_; (case aP => exact k68_mkM _ _ _ (⟨t143, ((rd_T68 l0 x13_1).f1)⟩ : S68)); (case aB => exact (by repeat (first | (with_reducible first | exact HB.out | apply below_alloc | apply pw_below_drewN | apply below_drew1 | refine below_set ?_ GE139.out | refine below_set ?_ GE140.out | refine below_set ?_ GE142.out) | exact HB.out))); (case aF => exact (fun k_ hk => ⟨Kd.fresh' (Kd.R_lt (by (with_reducible repeat (first | apply Kd.R_alloc | apply Kd.R_drewN | apply Kd.R_drew)); exact HO_141001.out)) k_ hk, Kd.freshB (g := gb142) (o := .cells #[.string ((rd_T68 l0 x13_1).f0), .string ((rd_T68 l0 x13_1).f1)] 68 (0, 0)) (by (with_reducible repeat (first | refine blk_drewN ?_ _ | refine blk_drew ?_ | refine blk_alloc ?_ _)); exact BK142.out) k_ hk⟩)); (case aO => exact (by (with_reducible repeat (first | apply Kd.R_alloc | apply Kd.R_drewN | apply Kd.R_drew)); exact HO_141000.out)); (case aS => exact (below_size (by repeat (first | (with_reducible first | exact HB.out | apply below_alloc | apply pw_below_drewN | apply below_drew1 | refine below_set ?_ GE139.out | refine below_set ?_ GE140.out | refine below_set ?_ GE142.out) | exact HB.out)))); (case aL => have := LMc19.out; omega); intro v146 w25 ho hb hg hat; rw [← Ny145.out] at ho; have n0_ := Aside0.mk (Kd.R_after (ok := (fun k_ => k_ ≠ gb142)) (by (with_reducible repeat (first | apply Kd.R_alloc | apply Kd.R_drewN | apply Kd.R_drew)); exact Kd.R_mono HO_141001.out (fun _ hk => ⟨hk.2, hk.1⟩)) hg hat); have n1_ := Aside0.mk (blk_grown (g := gb139) (o := .cells #[.slice none 0 0, .slice none 0 0] 24 (0, 0)) (by (with_reducible repeat (first | refine blk_drewN ?_ _ | refine blk_drew ?_ | refine blk_alloc ?_ _)); exact BK139.out) hg (Kd.R_ne HO_141000.out BK139.out (by decide))); have n2_ := Aside0.mk (blk_grown (g := gb140) (o := .cells #[u141000, u141001] 24 (0, 0)) (by (with_reducible repeat (first | refine blk_drewN ?_ _ | refine blk_drew ?_ | refine blk_alloc ?_ _)); exact BK140.out) hg (Kd.R_ne HO_141000.out BK140.out (by decide))); have n3_ := Aside0.mk (blk_grown (g := gb142) (o := .cells #[.string ((rd_T68 l0 x13_1).f0), .string ((rd_T68 l0 x13_1).f1)] 68 (0, 0)) (by (with_reducible repeat (first | refine blk_drewN ?_ _ | refine blk_drew ?_ | refine blk_alloc ?_ _)); exact BK142.out) hg (Kd.R_away HO_141000.out (fun _ hk => hk.2))); have n4_ := Aside0.mk (hb); have n5_ := Aside0.mk (ho); clear HO_141001; clear BK139; clear BK140; clear BK142; clear HB; clear HO_141000; have HO_141001 := n0_; have BK139 := n1_; have BK140 := n2_; have BK142 := n3_; have HB := n4_; have HO147 := n5_; clear n0_ n1_ n2_ n3_ n4_ n5_; clear ho hb hg hat; obtain ⟨Ao26, co26, eo26⟩ := Kd.R_slice HO147.out; subst eo26; have hcz27_0 : w25.cell? ⟨gb140, 0, none⟩ = some (u141000) := (blk_cell BK140.out 0).trans rfl; have hcz27_1 : w25.cell? ⟨gb140, 1, none⟩ = some (u141001) := (blk_cell BK140.out 1).trans rfl; have hfz27_0 := blk_frozen BK140.out 0; have hfz27_1 := blk_frozen BK140.out 1))
                    go_roundg kj7
                    case measure => have := HK1.out; have := HJ7.out; omega
                    case rel => exact ⟨(wrap64 (x13_1 + 1)), (y145), (x141001_1), (.slice Ao26 y145.length co26), (u141001), (by first | rfl | (simp; done) | (simp [*]; done)), H', ⟨by have := HK1.out; have := HJ7.out; omega⟩, ⟨by (with_reducible repeat (first | apply Kd.R_alloc | apply Kd.R_drewN | apply Kd.R_drew)); exact Kd.R_mono (Kd.R_far (p := ⟨gb140, 0, none⟩) (Kd.R_types HO147.out BK140.out (by decide)) (fun _ hk => hk.2) (.slice Ao26 y145.length co26)) (fun _ hk => hk.1.1)⟩, ⟨by (with_reducible repeat (first | apply Kd.R_alloc | apply Kd.R_drewN | apply Kd.R_drew)); exact Kd.R_mono (Kd.R_far (p := ⟨gb140, 0, none⟩) (Kd.R_types HO_141001.out BK140.out (by decide)) (fun _ hk => hk.2) (.slice Ao26 y145.length co26)) (fun _ hk => hk.1.2)⟩, ⟨by (with_reducible repeat (first | refine blk_drewN ?_ _ | refine blk_drew ?_ | refine blk_alloc ?_ _)); refine blk_far ?_ NB139_140.out _; (with_reducible repeat (first | refine blk_drewN ?_ _ | refine blk_drew ?_ | refine blk_alloc ?_ _)); exact BK139.out⟩, ⟨by (with_reducible repeat (first | refine blk_drewN ?_ _ | refine blk_drew ?_ | refine blk_alloc ?_ _)); refine blk_put (cs := #[u141000, u141001]) ?_ 0 _ rfl; (with_reducible repeat (first | refine blk_drewN ?_ _ | refine blk_drew ?_ | refine blk_alloc ?_ _)); exact BK140.out⟩, ⟨by repeat (first | (with_reducible first | exact HB.out | apply below_alloc | apply pw_below_drewN | apply below_drew1 | refine below_set ?_ GE139.out | refine below_set ?_ GE140.out | refine below_set ?_ GE142.out) | exact HB.out)⟩⟩
                  · rw [if_neg c19] at H
                    exact absurd H (by simp)
                · replace c18 := Bool.eq_false_iff.mpr c18
                  subst c18
                  have H1 : ((strings_CutPrefix.f ((rd_T68 l0 x13_1).f0) (⟨#[116]⟩ : ByteArray)).bind fun bt148 => (if bt148.2 = true then (if ((rd_T68 l0 x13_1).f1).toList = ([99] : List UInt8) then (if x141001_1.length < 4398046511104 then (batch_Back.l0 kj7 l0 (l0.length : Int) (wrap64 (x13_1 + 1)) x141000_1 (x141001_1 ++ [(⟨bt148.1, ((rd_T68 l0 x13_1).f1)⟩ : S68)])) else (none)) else (if ((rd_T68 l0 x13_1).f1).toList = ([103] : List UInt8) then (if x141001_1.length < 4398046511104 then (batch_Back.l0 kj7 l0 (l0.length : Int) (wrap64 (x13_1 + 1)) x141000_1 (x141001_1 ++ [(⟨bt148.1, ((rd_T68 l0 x13_1).f1)⟩ : S68)])) else (none)) else (some (([] : List (S68)), ([] : List (S68)), 3)))) else (some (([] : List (S68)), ([] : List (S68)), 3)))) = some (r1, r2, r3) := by rw [if_neg (show ¬ (false = true) by decide)] at H; exact H
                  clear H
                  have H := H1
                  clear H1
                  replace H := Option.bind_eq_some_iff.mp H
                  obtain ⟨⟨t148, t149⟩, A280, H⟩ := H
                  replace H : (if t149 = true then (if ((rd_T68 l0 x13_1).f1).toList = ([99] : List UInt8) then (if x141001_1.length < 4398046511104 then (batch_Back.l0 kj7 l0 (l0.length : Int) (wrap64 (x13_1 + 1)) x141000_1 (x141001_1 ++ [(⟨t148, ((rd_T68 l0 x13_1).f1)⟩ : S68)])) else (none)) else (if ((rd_T68 l0 x13_1).f1).toList = ([103] : List UInt8) then (if x141001_1.length < 4398046511104 then (batch_Back.l0 kj7 l0 (l0.length : Int) (wrap64 (x13_1 + 1)) x141000_1 (x141001_1 ++ [(⟨t148, ((rd_T68 l0 x13_1).f1)⟩ : S68)])) else (none)) else (some (([] : List (S68)), ([] : List (S68)), 3)))) else (some (([] : List (S68)), ([] : List (S68)), 3))) = some (r1, r2, r3) := H
                  have A28 := Aside0.mk A280
                  clear A280
                  by_cases c29 : t149 = true
                  · subst c29
                    have H1 : (if ((rd_T68 l0 x13_1).f1).toList = ([99] : List UInt8) then (if x141001_1.length < 4398046511104 then (batch_Back.l0 kj7 l0 (l0.length : Int) (wrap64 (x13_1 + 1)) x141000_1 (x141001_1 ++ [(⟨t148, ((rd_T68 l0 x13_1).f1)⟩ : S68)])) else (none)) else (if ((rd_T68 l0 x13_1).f1).toList = ([103] : List UInt8) then (if x141001_1.length < 4398046511104 then (batch_Back.l0 kj7 l0 (l0.length : Int) (wrap64 (x13_1 + 1)) x141000_1 (x141001_1 ++ [(⟨t148, ((rd_T68 l0 x13_1).f1)⟩ : S68)])) else (none)) else (some (([] : List (S68)), ([] : List (S68)), 3)))) = some (r1, r2, r3) := by rw [if_pos rfl] at H; exact H
                    clear H
                    have H := H1
                    clear H1
                    by_cases c30 : ((rd_T68 l0 x13_1).f1).toList = ([99] : List UInt8)
                    · rw [if_pos c30] at H
                      have c30b0 : (((rd_T68 l0 x13_1).f1).toList == ([99] : List UInt8)) = true := beq_iff_eq.mpr c30
                      have c30b1 : (((rd_T68 l0 x13_1).f1).toList != ([99] : List UInt8)) = false := bne_eq_false_iff_eq.mpr c30
                      clear c30
                      by_cases c31 : x141001_1.length < 4398046511104
                      · rw [if_pos c31] at H
                        have LMc31 := Aside0.mk c31
                        clear c31
                        obtain ⟨y150, hy150⟩ : ∃ y_ : List (S68), y_ = (x141001_1 ++ [(⟨t148, ((rd_T68 l0 x13_1).f1)⟩ : S68)]) := ⟨_, rfl⟩
                        replace H : (batch_Back.l0 kj7 l0 (l0.length : Int) (wrap64 (x13_1 + 1)) x141000_1 y150) = some (r1, r2, r3) := by first | (rw [hy150]; with_reducible exact H) | (have H2_ := (Option.bind_some _ _).symm.trans H; rw [hy150]; with_reducible exact H2_) | (have H2_ := (Option.bind_some _ _).symm.trans H; with_reducible exact H2_) | with_reducible exact H | (rw [hy150]; exact H) | exact H
                        have Ny150 := Aside0.mk hy150
                        clear hy150
                        have H' := Aside0.mk H
                        clear H
                        have hnb32 := NB142_139.out
                        have hnc32 := NB139_142.out
                        have hnb33 := NB142_140.out
                        have hnc33 := NB140_142.out
                        have hcz34_0 : wc.cell? ⟨gb142, 0, none⟩ = some (.string ((rd_T68 l0 x13_1).f0)) := (blk_cell BK142.out 0).trans rfl
                        have hcz34_1 : wc.cell? ⟨gb142, 1, none⟩ = some (.string ((rd_T68 l0 x13_1).f1)) := (blk_cell BK142.out 1).trans rfl
                        have hfz34_0 := blk_frozen BK142.out 0
                        have hfz34_1 := blk_frozen BK142.out 1
                        go_wp2_with (first | ((with_reducible refine gate_callee (f := 32) rfl ?_); refine goesL_ (some 42) rfl rfl Try.func32 (by kernel_rfl) rfl #[.string ((rd_T68 l0 x13_1).f0), .string (⟨#[116]⟩ : ByteArray)] rfl (by (try simp only [List.map_toArray, List.map_cons, List.map_nil]); first | done | rfl | (simp only [List.length_drop, List.length_take]; rfl)) ?_; (with_reducible refine (strings_CutPrefix.calls ((rd_T68 l0 x13_1).f0) (⟨#[116]⟩ : ByteArray) t148 true _ A28.out).mono ?_); rintro e w' ⟨rfl, ⟨nd, rfl⟩⟩; refine ⟨_, rfl, ?_⟩; (try (rw [drewN_self wc]; generalize hq_ : World.drewN wc _ = wc; have n0_ : Aside0 (Kd.R k68 68 wc w.heap.size (fun k_ => some k_ ≠ (u141001 : Value).ownBlock ∧ k_ ≠ gb142) u141000 x141000_1) := ⟨by rw [← hq_]; exact (by (with_reducible repeat (first | apply Kd.R_alloc | apply Kd.R_drewN | apply Kd.R_drew)); exact HO_141000.out)⟩; have n1_ : Aside0 (Kd.R k68 68 wc w.heap.size (fun k_ => some k_ ≠ (u141000 : Value).ownBlock ∧ k_ ≠ gb142) u141001 x141001_1) := ⟨by rw [← hq_]; exact (by (with_reducible repeat (first | apply Kd.R_alloc | apply Kd.R_drewN | apply Kd.R_drew)); exact HO_141001.out)⟩; have n2_ : Aside0 (wc.heap[gb139]? = some (.cells #[.slice none 0 0, .slice none 0 0] 24 (0, 0))) := ⟨by rw [← hq_]; exact (by (with_reducible repeat (first | refine blk_drewN ?_ _ | refine blk_drew ?_ | refine blk_alloc ?_ _)); exact BK139.out)⟩; have n3_ : Aside0 (wc.heap[gb140]? = some (.cells #[u141000, u141001] 24 (0, 0))) := ⟨by rw [← hq_]; exact (by (with_reducible repeat (first | refine blk_drewN ?_ _ | refine blk_drew ?_ | refine blk_alloc ?_ _)); exact BK140.out)⟩; have n4_ : Aside0 (wc.heap[gb142]? = some (.cells #[.string ((rd_T68 l0 x13_1).f0), .string ((rd_T68 l0 x13_1).f1)] 68 (0, 0))) := ⟨by rw [← hq_]; exact (by (with_reducible repeat (first | refine blk_drewN ?_ _ | refine blk_drew ?_ | refine blk_alloc ?_ _)); exact BK142.out)⟩; have n5_ : Aside0 (Below w.heap.size w wc) := ⟨by rw [← hq_]; exact (by repeat (first | (with_reducible first | exact HB.out | apply below_alloc | apply pw_below_drewN | apply below_drew1 | refine below_set ?_ GE139.out | refine below_set ?_ GE140.out | refine below_set ?_ GE142.out) | exact HB.out))⟩; clear HO_141000 HO_141001 BK139 BK140 BK142 HB hq_; have HO_141000 := n0_; have HO_141001 := n1_; have BK139 := n2_; have BK140 := n3_; have BK142 := n4_; have HB := n5_; clear n0_ n1_ n2_ n3_ n4_ n5_)); have hcq142_0 : wc.cell? ⟨gb142, 0, none⟩ = some _ := (blk_cell BK142.out 0).trans rfl; have hcq142_1 : wc.cell? ⟨gb142, 1, none⟩ = some _ := (blk_cell BK142.out 1).trans rfl; have hnb35 := NB140_139.out; have hnc35 := NB139_140.out; have hcz36_0 : wc.cell? ⟨gb140, 0, none⟩ = some (u141000) := (blk_cell BK140.out 0).trans rfl; have hcz36_1 : wc.cell? ⟨gb140, 1, none⟩ = some (u141001) := (blk_cell BK140.out 1).trans rfl; have hfz36_0 := blk_frozen BK140.out 0; have hfz36_1 := blk_frozen BK140.out 1) | ((with_reducible refine gate_builtin (b := .append) (xs := #[.tmp 59, .tmp 64]) rfl ?_); (try (refine gate_guard (by rfl) ?_; dsimp only)); at_builtin; refine Kd.R_append k68 (w0 := w) w.heap.size rfl (.tmp 59) (.tmp 64) 22 68 (.agg #[(.string ⟨#[]⟩), (.string ⟨#[]⟩)]) 32 rfl Try.underlying22 info68 rfl (by decide) (by omega) u141001 x141001_1 (⟨t148, ((rd_T68 l0 x13_1).f1)⟩ : S68) [.string t148, .string ((rd_T68 l0 x13_1).f1)] (fun k_ => some k_ ≠ (u141000 : Value).ownBlock ∧ k_ ≠ gb142) (fun _ => False) rfl rfl ?aP (fun _ hk => hk.elim) ?aF ?aO ?aB ?aS ?aL ?_; (case aP => exact k68_mkM _ _ _ (⟨t148, ((rd_T68 l0 x13_1).f1)⟩ : S68)); (case aB => exact (by repeat (first | (with_reducible first | exact HB.out | apply below_alloc | apply pw_below_drewN | apply below_drew1 | refine below_set ?_ GE139.out | refine below_set ?_ GE140.out | refine below_set ?_ GE142.out) | exact HB.out))); (case aF => exact (fun k_ hk => ⟨Kd.fresh' (Kd.R_lt (by (with_reducible repeat (first | apply Kd.R_alloc | apply Kd.R_drewN | apply Kd.R_drew)); exact HO_141000.out)) k_ hk, Kd.freshB (g := gb142) (o := .cells #[.string ((rd_T68 l0 x13_1).f0), .string ((rd_T68 l0 x13_1).f1)] 68 (0, 0)) (by (with_reducible repeat (first | refine blk_drewN ?_ _ | refine blk_drew ?_ | refine blk_alloc ?_ _)); exact BK142.out) k_ hk⟩)); (case aO => exact (by (with_reducible repeat (first | apply Kd.R_alloc | apply Kd.R_drewN | apply Kd.R_drew)); exact HO_141001.out)); (case aS => exact (below_size (by repeat (first | (with_reducible first | exact HB.out | apply below_alloc | apply pw_below_drewN | apply below_drew1 | refine below_set ?_ GE139.out | refine below_set ?_ GE140.out | refine below_set ?_ GE142.out) | exact HB.out)))); (case aL => have := LMc31.out; omega); intro v151 w37 ho hb hg hat; rw [← Ny150.out] at ho; have n0_ := Aside0.mk (Kd.R_after (ok := (fun k_ => k_ ≠ gb142)) (by (with_reducible repeat (first | apply Kd.R_alloc | apply Kd.R_drewN | apply Kd.R_drew)); exact Kd.R_mono HO_141000.out (fun _ hk => ⟨hk.2, hk.1⟩)) hg hat); have n1_ := Aside0.mk (blk_grown (g := gb139) (o := .cells #[.slice none 0 0, .slice none 0 0] 24 (0, 0)) (by (with_reducible repeat (first | refine blk_drewN ?_ _ | refine blk_drew ?_ | refine blk_alloc ?_ _)); exact BK139.out) hg (Kd.R_ne HO_141001.out BK139.out (by decide))); have n2_ := Aside0.mk (blk_grown (g := gb140) (o := .cells #[u141000, u141001] 24 (0, 0)) (by (with_reducible repeat (first | refine blk_drewN ?_ _ | refine blk_drew ?_ | refine blk_alloc ?_ _)); exact BK140.out) hg (Kd.R_ne HO_141001.out BK140.out (by decide))); have n3_ := Aside0.mk (blk_grown (g := gb142) (o := .cells #[.string ((rd_T68 l0 x13_1).f0), .string ((rd_T68 l0 x13_1).f1)] 68 (0, 0)) (by (with_reducible repeat (first | refine blk_drewN ?_ _ | refine blk_drew ?_ | refine blk_alloc ?_ _)); exact BK142.out) hg (Kd.R_away HO_141001.out (fun _ hk => hk.2))); have n4_ := Aside0.mk (hb); have n5_ := Aside0.mk (ho); clear HO_141000; clear BK139; clear BK140; clear BK142; clear HB; clear HO_141001; have HO_141000 := n0_; have BK139 := n1_; have BK140 := n2_; have BK142 := n3_; have HB := n4_; have HO152 := n5_; clear n0_ n1_ n2_ n3_ n4_ n5_; clear ho hb hg hat; obtain ⟨Ao38, co38, eo38⟩ := Kd.R_slice HO152.out; subst eo38; have hcz39_0 : w37.cell? ⟨gb140, 0, none⟩ = some (u141000) := (blk_cell BK140.out 0).trans rfl; have hcz39_1 : w37.cell? ⟨gb140, 1, none⟩ = some (u141001) := (blk_cell BK140.out 1).trans rfl; have hfz39_0 := blk_frozen BK140.out 0; have hfz39_1 := blk_frozen BK140.out 1))
                        go_roundg kj7
                        case measure => have := HK1.out; have := HJ7.out; omega
                        case rel => exact ⟨(wrap64 (x13_1 + 1)), (x141000_1), (y150), (u141000), (.slice Ao38 y150.length co38), (by first | rfl | (simp; done) | (simp [*]; done)), H', ⟨by have := HK1.out; have := HJ7.out; omega⟩, ⟨by (with_reducible repeat (first | apply Kd.R_alloc | apply Kd.R_drewN | apply Kd.R_drew)); exact Kd.R_mono (Kd.R_far (p := ⟨gb140, 1, none⟩) (Kd.R_types HO_141000.out BK140.out (by decide)) (fun _ hk => hk.2) (.slice Ao38 y150.length co38)) (fun _ hk => hk.1.2)⟩, ⟨by (with_reducible repeat (first | apply Kd.R_alloc | apply Kd.R_drewN | apply Kd.R_drew)); exact Kd.R_mono (Kd.R_far (p := ⟨gb140, 1, none⟩) (Kd.R_types HO152.out BK140.out (by decide)) (fun _ hk => hk.2) (.slice Ao38 y150.length co38)) (fun _ hk => hk.1.1)⟩, ⟨by (with_reducible repeat (first | refine blk_drewN ?_ _ | refine blk_drew ?_ | refine blk_alloc ?_ _)); refine blk_far ?_ NB139_140.out _; (with_reducible repeat (first | refine blk_drewN ?_ _ | refine blk_drew ?_ | refine blk_alloc ?_ _)); exact BK139.out⟩, ⟨by (with_reducible repeat (first | refine blk_drewN ?_ _ | refine blk_drew ?_ | refine blk_alloc ?_ _)); refine blk_put (cs := #[u141000, u141001]) ?_ 1 _ rfl; (with_reducible repeat (first | refine blk_drewN ?_ _ | refine blk_drew ?_ | refine blk_alloc ?_ _)); exact BK140.out⟩, ⟨by repeat (first | (with_reducible first | exact HB.out | apply below_alloc | apply pw_below_drewN | apply below_drew1 | refine below_set ?_ GE139.out | refine below_set ?_ GE140.out | refine below_set ?_ GE142.out) | exact HB.out)⟩⟩
                      · rw [if_neg c31] at H
                        exact absurd H (by simp)
                    · rw [if_neg c30] at H
                      have c30b0 : (((rd_T68 l0 x13_1).f1).toList == ([99] : List UInt8)) = false := beq_eq_false_iff_ne.mpr c30
                      have c30b1 : (((rd_T68 l0 x13_1).f1).toList != ([99] : List UInt8)) = true := bne_iff_ne.mpr c30
                      by_cases c40 : ((rd_T68 l0 x13_1).f1).toList = ([103] : List UInt8)
                      · rw [if_pos c40] at H
                        have c40b0 : (((rd_T68 l0 x13_1).f1).toList == ([103] : List UInt8)) = true := beq_iff_eq.mpr c40
                        have c40b1 : (((rd_T68 l0 x13_1).f1).toList != ([103] : List UInt8)) = false := bne_eq_false_iff_eq.mpr c40
                        clear c40
                        by_cases c41 : x141001_1.length < 4398046511104
                        · rw [if_pos c41] at H
                          have LMc41 := Aside0.mk c41
                          clear c41
                          obtain ⟨y153, hy153⟩ : ∃ y_ : List (S68), y_ = (x141001_1 ++ [(⟨t148, ((rd_T68 l0 x13_1).f1)⟩ : S68)]) := ⟨_, rfl⟩
                          replace H : (batch_Back.l0 kj7 l0 (l0.length : Int) (wrap64 (x13_1 + 1)) x141000_1 y153) = some (r1, r2, r3) := by first | (rw [hy153]; with_reducible exact H) | (have H2_ := (Option.bind_some _ _).symm.trans H; rw [hy153]; with_reducible exact H2_) | (have H2_ := (Option.bind_some _ _).symm.trans H; with_reducible exact H2_) | with_reducible exact H | (rw [hy153]; exact H) | exact H
                          have Ny153 := Aside0.mk hy153
                          clear hy153
                          have H' := Aside0.mk H
                          clear H
                          have hnb42 := NB142_139.out
                          have hnc42 := NB139_142.out
                          have hnb43 := NB142_140.out
                          have hnc43 := NB140_142.out
                          have hcz44_0 : wc.cell? ⟨gb142, 0, none⟩ = some (.string ((rd_T68 l0 x13_1).f0)) := (blk_cell BK142.out 0).trans rfl
                          have hcz44_1 : wc.cell? ⟨gb142, 1, none⟩ = some (.string ((rd_T68 l0 x13_1).f1)) := (blk_cell BK142.out 1).trans rfl
                          have hfz44_0 := blk_frozen BK142.out 0
                          have hfz44_1 := blk_frozen BK142.out 1
                          go_wp2_with (first | ((with_reducible refine gate_callee (f := 32) rfl ?_); refine goesL_ (some 42) rfl rfl Try.func32 (by kernel_rfl) rfl #[.string ((rd_T68 l0 x13_1).f0), .string (⟨#[116]⟩ : ByteArray)] rfl (by (try simp only [List.map_toArray, List.map_cons, List.map_nil]); first | done | rfl | (simp only [List.length_drop, List.length_take]; rfl)) ?_; (with_reducible refine (strings_CutPrefix.calls ((rd_T68 l0 x13_1).f0) (⟨#[116]⟩ : ByteArray) t148 true _ A28.out).mono ?_); rintro e w' ⟨rfl, ⟨nd, rfl⟩⟩; refine ⟨_, rfl, ?_⟩; (try (rw [drewN_self wc]; generalize hq_ : World.drewN wc _ = wc; have n0_ : Aside0 (Kd.R k68 68 wc w.heap.size (fun k_ => some k_ ≠ (u141001 : Value).ownBlock ∧ k_ ≠ gb142) u141000 x141000_1) := ⟨by rw [← hq_]; exact (by (with_reducible repeat (first | apply Kd.R_alloc | apply Kd.R_drewN | apply Kd.R_drew)); exact HO_141000.out)⟩; have n1_ : Aside0 (Kd.R k68 68 wc w.heap.size (fun k_ => some k_ ≠ (u141000 : Value).ownBlock ∧ k_ ≠ gb142) u141001 x141001_1) := ⟨by rw [← hq_]; exact (by (with_reducible repeat (first | apply Kd.R_alloc | apply Kd.R_drewN | apply Kd.R_drew)); exact HO_141001.out)⟩; have n2_ : Aside0 (wc.heap[gb139]? = some (.cells #[.slice none 0 0, .slice none 0 0] 24 (0, 0))) := ⟨by rw [← hq_]; exact (by (with_reducible repeat (first | refine blk_drewN ?_ _ | refine blk_drew ?_ | refine blk_alloc ?_ _)); exact BK139.out)⟩; have n3_ : Aside0 (wc.heap[gb140]? = some (.cells #[u141000, u141001] 24 (0, 0))) := ⟨by rw [← hq_]; exact (by (with_reducible repeat (first | refine blk_drewN ?_ _ | refine blk_drew ?_ | refine blk_alloc ?_ _)); exact BK140.out)⟩; have n4_ : Aside0 (wc.heap[gb142]? = some (.cells #[.string ((rd_T68 l0 x13_1).f0), .string ((rd_T68 l0 x13_1).f1)] 68 (0, 0))) := ⟨by rw [← hq_]; exact (by (with_reducible repeat (first | refine blk_drewN ?_ _ | refine blk_drew ?_ | refine blk_alloc ?_ _)); exact BK142.out)⟩; have n5_ : Aside0 (Below w.heap.size w wc) := ⟨by rw [← hq_]; exact (by repeat (first | (with_reducible first | exact HB.out | apply below_alloc | apply pw_below_drewN | apply below_drew1 | refine below_set ?_ GE139.out | refine below_set ?_ GE140.out | refine below_set ?_ GE142.out) | exact HB.out))⟩; clear HO_141000 HO_141001 BK139 BK140 BK142 HB hq_; have HO_141000 := n0_; have HO_141001 := n1_; have BK139 := n2_; have BK140 := n3_; have BK142 := n4_; have HB := n5_; clear n0_ n1_ n2_ n3_ n4_ n5_)); have hcq142_0 : wc.cell? ⟨gb142, 0, none⟩ = some _ := (blk_cell BK142.out 0).trans rfl; have hcq142_1 : wc.cell? ⟨gb142, 1, none⟩ = some _ := (blk_cell BK142.out 1).trans rfl; have hnb45 := NB140_139.out; have hnc45 := NB139_140.out; have hcz46_0 : wc.cell? ⟨gb140, 0, none⟩ = some (u141000) := (blk_cell BK140.out 0).trans rfl; have hcz46_1 : wc.cell? ⟨gb140, 1, none⟩ = some (u141001) := (blk_cell BK140.out 1).trans rfl; have hfz46_0 := blk_frozen BK140.out 0; have hfz46_1 := blk_frozen BK140.out 1) | ((with_reducible refine gate_builtin (b := .append) (xs := #[.tmp 59, .tmp 64]) rfl ?_); (try (refine gate_guard (by rfl) ?_; dsimp only)); at_builtin; refine Kd.R_append k68 (w0 := w) w.heap.size rfl (.tmp 59) (.tmp 64) 22 68 (.agg #[(.string ⟨#[]⟩), (.string ⟨#[]⟩)]) 32 rfl Try.underlying22 info68 rfl (by decide) (by omega) u141001 x141001_1 (⟨t148, ((rd_T68 l0 x13_1).f1)⟩ : S68) [.string t148, .string ((rd_T68 l0 x13_1).f1)] (fun k_ => some k_ ≠ (u141000 : Value).ownBlock ∧ k_ ≠ gb142) (fun _ => False) rfl rfl ?aP (fun _ hk => hk.elim) ?aF ?aO ?aB ?aS ?aL ?_; (case aP => exact k68_mkM _ _ _ (⟨t148, ((rd_T68 l0 x13_1).f1)⟩ : S68)); (case aB => exact (by repeat (first | (with_reducible first | exact HB.out | apply below_alloc | apply pw_below_drewN | apply below_drew1 | refine below_set ?_ GE139.out | refine below_set ?_ GE140.out | refine below_set ?_ GE142.out) | exact HB.out))); (case aF => exact (fun k_ hk => ⟨Kd.fresh' (Kd.R_lt (by (with_reducible repeat (first | apply Kd.R_alloc | apply Kd.R_drewN | apply Kd.R_drew)); exact HO_141000.out)) k_ hk, Kd.freshB (g := gb142) (o := .cells #[.string ((rd_T68 l0 x13_1).f0), .string ((rd_T68 l0 x13_1).f1)] 68 (0, 0)) (by (with_reducible repeat (first | refine blk_drewN ?_ _ | refine blk_drew ?_ | refine blk_alloc ?_ _)); exact BK142.out) k_ hk⟩)); (case aO => exact (by (with_reducible repeat (first | apply Kd.R_alloc | apply Kd.R_drewN | apply Kd.R_drew)); exact HO_141001.out)); (case aS => exact (below_size (by repeat (first | (with_reducible first | exact HB.out | apply below_alloc | apply pw_below_drewN | apply below_drew1 | refine below_set ?_ GE139.out | refine below_set ?_ GE140.out | refine below_set ?_ GE142.out) | exact HB.out)))); (case aL => have := LMc41.out; omega); intro v154 w47 ho hb hg hat; rw [← Ny153.out] at ho; have n0_ := Aside0.mk (Kd.R_after (ok := (fun k_ => k_ ≠ gb142)) (by (with_reducible repeat (first | apply Kd.R_alloc | apply Kd.R_drewN | apply Kd.R_drew)); exact Kd.R_mono HO_141000.out (fun _ hk => ⟨hk.2, hk.1⟩)) hg hat); have n1_ := Aside0.mk (blk_grown (g := gb139) (o := .cells #[.slice none 0 0, .slice none 0 0] 24 (0, 0)) (by (with_reducible repeat (first | refine blk_drewN ?_ _ | refine blk_drew ?_ | refine blk_alloc ?_ _)); exact BK139.out) hg (Kd.R_ne HO_141001.out BK139.out (by decide))); have n2_ := Aside0.mk (blk_grown (g := gb140) (o := .cells #[u141000, u141001] 24 (0, 0)) (by (with_reducible repeat (first | refine blk_drewN ?_ _ | refine blk_drew ?_ | refine blk_alloc ?_ _)); exact BK140.out) hg (Kd.R_ne HO_141001.out BK140.out (by decide))); have n3_ := Aside0.mk (blk_grown (g := gb142) (o := .cells #[.string ((rd_T68 l0 x13_1).f0), .string ((rd_T68 l0 x13_1).f1)] 68 (0, 0)) (by (with_reducible repeat (first | refine blk_drewN ?_ _ | refine blk_drew ?_ | refine blk_alloc ?_ _)); exact BK142.out) hg (Kd.R_away HO_141001.out (fun _ hk => hk.2))); have n4_ := Aside0.mk (hb); have n5_ := Aside0.mk (ho); clear HO_141000; clear BK139; clear BK140; clear BK142; clear HB; clear HO_141001; have HO_141000 := n0_; have BK139 := n1_; have BK140 := n2_; have BK142 := n3_; have HB := n4_; have HO155 := n5_; clear n0_ n1_ n2_ n3_ n4_ n5_; clear ho hb hg hat; obtain ⟨Ao48, co48, eo48⟩ := Kd.R_slice HO155.out; subst eo48; have hcz49_0 : w47.cell? ⟨gb140, 0, none⟩ = some (u141000) := (blk_cell BK140.out 0).trans rfl; have hcz49_1 : w47.cell? ⟨gb140, 1, none⟩ = some (u141001) := (blk_cell BK140.out 1).trans rfl; have hfz49_0 := blk_frozen BK140.out 0; have hfz49_1 := blk_frozen BK140.out 1))
                          go_roundg kj7
                          case measure => have := HK1.out; have := HJ7.out; omega
                          case rel => exact ⟨(wrap64 (x13_1 + 1)), (x141000_1), (y153), (u141000), (.slice Ao48 y153.length co48), (by first | rfl | (simp; done) | (simp [*]; done)), H', ⟨by have := HK1.out; have := HJ7.out; omega⟩, ⟨by (with_reducible repeat (first | apply Kd.R_alloc | apply Kd.R_drewN | apply Kd.R_drew)); exact Kd.R_mono (Kd.R_far (p := ⟨gb140, 1, none⟩) (Kd.R_types HO_141000.out BK140.out (by decide)) (fun _ hk => hk.2) (.slice Ao48 y153.length co48)) (fun _ hk => hk.1.2)⟩, ⟨by (with_reducible repeat (first | apply Kd.R_alloc | apply Kd.R_drewN | apply Kd.R_drew)); exact Kd.R_mono (Kd.R_far (p := ⟨gb140, 1, none⟩) (Kd.R_types HO155.out BK140.out (by decide)) (fun _ hk => hk.2) (.slice Ao48 y153.length co48)) (fun _ hk => hk.1.1)⟩, ⟨by (with_reducible repeat (first | refine blk_drewN ?_ _ | refine blk_drew ?_ | refine blk_alloc ?_ _)); refine blk_far ?_ NB139_140.out _; (with_reducible repeat (first | refine blk_drewN ?_ _ | refine blk_drew ?_ | refine blk_alloc ?_ _)); exact BK139.out⟩, ⟨by (with_reducible repeat (first | refine blk_drewN ?_ _ | refine blk_drew ?_ | refine blk_alloc ?_ _)); refine blk_put (cs := #[u141000, u141001]) ?_ 1 _ rfl; (with_reducible repeat (first | refine blk_drewN ?_ _ | refine blk_drew ?_ | refine blk_alloc ?_ _)); exact BK140.out⟩, ⟨by repeat (first | (with_reducible first | exact HB.out | apply below_alloc | apply pw_below_drewN | apply below_drew1 | refine below_set ?_ GE139.out | refine below_set ?_ GE140.out | refine below_set ?_ GE142.out) | exact HB.out)⟩⟩
                        · rw [if_neg c41] at H
                          exact absurd H (by simp)
                      · rw [if_neg c40] at H
                        have c40b0 : (((rd_T68 l0 x13_1).f1).toList == ([103] : List UInt8)) = false := beq_eq_false_iff_ne.mpr c40
                        have c40b1 : (((rd_T68 l0 x13_1).f1).toList != ([103] : List UInt8)) = true := bne_iff_ne.mpr c40
                        simp only [Option.some.injEq, Prod.mk.injEq] at H
                        obtain ⟨rfl, rfl, rfl⟩ := H
                        have hnb50 := NB142_139.out
                        have hnc50 := NB139_142.out
                        have hnb51 := NB142_140.out
                        have hnc51 := NB140_142.out
                        have hcz52_0 : wc.cell? ⟨gb142, 0, none⟩ = some (.string ((rd_T68 l0 x13_1).f0)) := (blk_cell BK142.out 0).trans rfl
                        have hcz52_1 : wc.cell? ⟨gb142, 1, none⟩ = some (.string ((rd_T68 l0 x13_1).f1)) := (blk_cell BK142.out 1).trans rfl
                        have hfz52_0 := blk_frozen BK142.out 0
                        have hfz52_1 := blk_frozen BK142.out 1
                        go_wp2_with (first | ((with_reducible refine gate_callee (f := 32) rfl ?_); refine goesL_ (some 42) rfl rfl Try.func32 (by kernel_rfl) rfl #[.string ((rd_T68 l0 x13_1).f0), .string (⟨#[116]⟩ : ByteArray)] rfl (by (try simp only [List.map_toArray, List.map_cons, List.map_nil]); first | done | rfl | (simp only [List.length_drop, List.length_take]; rfl)) ?_; (with_reducible refine (strings_CutPrefix.calls ((rd_T68 l0 x13_1).f0) (⟨#[116]⟩ : ByteArray) t148 true _ A28.out).mono ?_); rintro e w' ⟨rfl, ⟨nd, rfl⟩⟩; refine ⟨_, rfl, ?_⟩; (try (rw [drewN_self wc]; generalize hq_ : World.drewN wc _ = wc; have n0_ : Aside0 (Kd.R k68 68 wc w.heap.size (fun k_ => some k_ ≠ (u141001 : Value).ownBlock ∧ k_ ≠ gb142) u141000 x141000_1) := ⟨by rw [← hq_]; exact (by (with_reducible repeat (first | apply Kd.R_alloc | apply Kd.R_drewN | apply Kd.R_drew)); exact HO_141000.out)⟩; have n1_ : Aside0 (Kd.R k68 68 wc w.heap.size (fun k_ => some k_ ≠ (u141000 : Value).ownBlock ∧ k_ ≠ gb142) u141001 x141001_1) := ⟨by rw [← hq_]; exact (by (with_reducible repeat (first | apply Kd.R_alloc | apply Kd.R_drewN | apply Kd.R_drew)); exact HO_141001.out)⟩; have n2_ : Aside0 (wc.heap[gb139]? = some (.cells #[.slice none 0 0, .slice none 0 0] 24 (0, 0))) := ⟨by rw [← hq_]; exact (by (with_reducible repeat (first | refine blk_drewN ?_ _ | refine blk_drew ?_ | refine blk_alloc ?_ _)); exact BK139.out)⟩; have n3_ : Aside0 (wc.heap[gb140]? = some (.cells #[u141000, u141001] 24 (0, 0))) := ⟨by rw [← hq_]; exact (by (with_reducible repeat (first | refine blk_drewN ?_ _ | refine blk_drew ?_ | refine blk_alloc ?_ _)); exact BK140.out)⟩; have n4_ : Aside0 (wc.heap[gb142]? = some (.cells #[.string ((rd_T68 l0 x13_1).f0), .string ((rd_T68 l0 x13_1).f1)] 68 (0, 0))) := ⟨by rw [← hq_]; exact (by (with_reducible repeat (first | refine blk_drewN ?_ _ | refine blk_drew ?_ | refine blk_alloc ?_ _)); exact BK142.out)⟩; have n5_ : Aside0 (Below w.heap.size w wc) := ⟨by rw [← hq_]; exact (by repeat (first | (with_reducible first | exact HB.out | apply below_alloc | apply pw_below_drewN | apply below_drew1 | refine below_set ?_ GE139.out | refine below_set ?_ GE140.out | refine below_set ?_ GE142.out) | exact HB.out))⟩; clear HO_141000 HO_141001 BK139 BK140 BK142 HB hq_; have HO_141000 := n0_; have HO_141001 := n1_; have BK139 := n2_; have BK140 := n3_; have BK142 := n4_; have HB := n5_; clear n0_ n1_ n2_ n3_ n4_ n5_)); have hcq142_0 : wc.cell? ⟨gb142, 0, none⟩ = some _ := (blk_cell BK142.out 0).trans rfl; have hcq142_1 : wc.cell? ⟨gb142, 1, none⟩ = some _ := (blk_cell BK142.out 1).trans rfl; have hnb53 := NB139_140.out; have hnc53 := NB140_139.out; have hcz54_0 : wc.cell? ⟨gb139, 0, none⟩ = some (.slice none 0 0) := (blk_cell BK139.out 0).trans rfl; have hcz54_1 : wc.cell? ⟨gb139, 1, none⟩ = some (.slice none 0 0) := (blk_cell BK139.out 1).trans rfl; have hfz54_0 := blk_frozen BK139.out 0; have hfz54_1 := blk_frozen BK139.out 1))
                        refine bodyPost_ret (results_ct rfl _ _ gb139 24 #[.slice none 0 0, .slice none 0 0] (0, 0) _ rfl (by (with_reducible repeat (first | refine blk_drewN ?_ _ | refine blk_drew ?_ | refine blk_alloc ?_ _)); refine blk_put (cs := #[.slice none 0 0, .slice none 0 0]) ?_ 1 _ rfl; (with_reducible repeat (first | refine blk_drewN ?_ _ | refine blk_drew ?_ | refine blk_alloc ?_ _)); refine blk_put (cs := #[.slice none 0 0, .slice none 0 0]) ?_ 0 _ rfl; (with_reducible repeat (first | refine blk_drewN ?_ _ | refine blk_drew ?_ | refine blk_alloc ?_ _)); exact BK139.out) Try.underlying24 rfl (by kernel_rfl)) rfl ?_
                        exact ⟨_, _, by first | rfl | (simp [errW_none, errW_some] <;> rfl) | (simp [*, errW_none, errW_some] <;> rfl), by first | exact Kd.R_nil _ _ _ _ _ | exact Kd.N_nil _ _ _ _ _ | exact Kd.V_nil _ _ _ _ _ | exact Kd.Q_nil _ _ _ _ _ | exact Kd.S_nil _ _ _ _ _, by first | exact Kd.R_nil _ _ _ _ _ | exact Kd.N_nil _ _ _ _ _ | exact Kd.V_nil _ _ _ _ _ | exact Kd.Q_nil _ _ _ _ _ | exact Kd.S_nil _ _ _ _ _, by repeat (first | (with_reducible first | exact HB.out | apply below_alloc | apply pw_below_drewN | apply below_drew1 | refine below_set ?_ GE139.out | refine below_set ?_ GE140.out | refine below_set ?_ GE142.out) | exact HB.out)⟩
                  · replace c29 := Bool.eq_false_iff.mpr c29
                    subst c29
                    have H1 : (some (([] : List (S68)), ([] : List (S68)), 3)) = some (r1, r2, r3) := by rw [if_neg (show ¬ (false = true) by decide)] at H; exact H
                    clear H
                    have H := H1
                    clear H1
                    simp only [Option.some.injEq, Prod.mk.injEq] at H
                    obtain ⟨rfl, rfl, rfl⟩ := H
                    have hnb55 := NB142_139.out
                    have hnc55 := NB139_142.out
                    have hnb56 := NB142_140.out
                    have hnc56 := NB140_142.out
                    have hcz57_0 : wc.cell? ⟨gb142, 0, none⟩ = some (.string ((rd_T68 l0 x13_1).f0)) := (blk_cell BK142.out 0).trans rfl
                    have hcz57_1 : wc.cell? ⟨gb142, 1, none⟩ = some (.string ((rd_T68 l0 x13_1).f1)) := (blk_cell BK142.out 1).trans rfl
                    have hfz57_0 := blk_frozen BK142.out 0
                    have hfz57_1 := blk_frozen BK142.out 1
                    go_wp2_with (first | ((with_reducible refine gate_callee (f := 32) rfl ?_); refine goesL_ (some 42) rfl rfl Try.func32 (by kernel_rfl) rfl #[.string ((rd_T68 l0 x13_1).f0), .string (⟨#[116]⟩ : ByteArray)] rfl (by (try simp only [List.map_toArray, List.map_cons, List.map_nil]); first | done | rfl | (simp only [List.length_drop, List.length_take]; rfl)) ?_; (with_reducible refine (strings_CutPrefix.calls ((rd_T68 l0 x13_1).f0) (⟨#[116]⟩ : ByteArray) t148 false _ A28.out).mono ?_); rintro e w' ⟨rfl, ⟨nd, rfl⟩⟩; refine ⟨_, rfl, ?_⟩; (try (rw [drewN_self wc]; generalize hq_ : World.drewN wc _ = wc; have n0_ : Aside0 (Kd.R k68 68 wc w.heap.size (fun k_ => some k_ ≠ (u141001 : Value).ownBlock ∧ k_ ≠ gb142) u141000 x141000_1) := ⟨by rw [← hq_]; exact (by (with_reducible repeat (first | apply Kd.R_alloc | apply Kd.R_drewN | apply Kd.R_drew)); exact HO_141000.out)⟩; have n1_ : Aside0 (Kd.R k68 68 wc w.heap.size (fun k_ => some k_ ≠ (u141000 : Value).ownBlock ∧ k_ ≠ gb142) u141001 x141001_1) := ⟨by rw [← hq_]; exact (by (with_reducible repeat (first | apply Kd.R_alloc | apply Kd.R_drewN | apply Kd.R_drew)); exact HO_141001.out)⟩; have n2_ : Aside0 (wc.heap[gb139]? = some (.cells #[.slice none 0 0, .slice none 0 0] 24 (0, 0))) := ⟨by rw [← hq_]; exact (by (with_reducible repeat (first | refine blk_drewN ?_ _ | refine blk_drew ?_ | refine blk_alloc ?_ _)); exact BK139.out)⟩; have n3_ : Aside0 (wc.heap[gb140]? = some (.cells #[u141000, u141001] 24 (0, 0))) := ⟨by rw [← hq_]; exact (by (with_reducible repeat (first | refine blk_drewN ?_ _ | refine blk_drew ?_ | refine blk_alloc ?_ _)); exact BK140.out)⟩; have n4_ : Aside0 (wc.heap[gb142]? = some (.cells #[.string ((rd_T68 l0 x13_1).f0), .string ((rd_T68 l0 x13_1).f1)] 68 (0, 0))) := ⟨by rw [← hq_]; exact (by (with_reducible repeat (first | refine blk_drewN ?_ _ | refine blk_drew ?_ | refine blk_alloc ?_ _)); exact BK142.out)⟩; have n5_ : Aside0 (Below w.heap.size w wc) := ⟨by rw [← hq_]; exact (by repeat (first | (with_reducible first | exact HB.out | apply below_alloc | apply pw_below_drewN | apply below_drew1 | refine below_set ?_ GE139.out | refine below_set ?_ GE140.out | refine below_set ?_ GE142.out) | exact HB.out))⟩; clear HO_141000 HO_141001 BK139 BK140 BK142 HB hq_; have HO_141000 := n0_; have HO_141001 := n1_; have BK139 := n2_; have BK140 := n3_; have BK142 := n4_; have HB := n5_; clear n0_ n1_ n2_ n3_ n4_ n5_)); have hcq142_0 : wc.cell? ⟨gb142, 0, none⟩ = some _ := (blk_cell BK142.out 0).trans rfl; have hcq142_1 : wc.cell? ⟨gb142, 1, none⟩ = some _ := (blk_cell BK142.out 1).trans rfl; have hnb58 := NB139_140.out; have hnc58 := NB140_139.out; have hcz59_0 : wc.cell? ⟨gb139, 0, none⟩ = some (.slice none 0 0) := (blk_cell BK139.out 0).trans rfl; have hcz59_1 : wc.cell? ⟨gb139, 1, none⟩ = some (.slice none 0 0) := (blk_cell BK139.out 1).trans rfl; have hfz59_0 := blk_frozen BK139.out 0; have hfz59_1 := blk_frozen BK139.out 1))
                    refine bodyPost_ret (results_ct rfl _ _ gb139 24 #[.slice none 0 0, .slice none 0 0] (0, 0) _ rfl (by (with_reducible repeat (first | refine blk_drewN ?_ _ | refine blk_drew ?_ | refine blk_alloc ?_ _)); refine blk_put (cs := #[.slice none 0 0, .slice none 0 0]) ?_ 1 _ rfl; (with_reducible repeat (first | refine blk_drewN ?_ _ | refine blk_drew ?_ | refine blk_alloc ?_ _)); refine blk_put (cs := #[.slice none 0 0, .slice none 0 0]) ?_ 0 _ rfl; (with_reducible repeat (first | refine blk_drewN ?_ _ | refine blk_drew ?_ | refine blk_alloc ?_ _)); exact BK139.out) Try.underlying24 rfl (by kernel_rfl)) rfl ?_
                    exact ⟨_, _, by first | rfl | (simp [errW_none, errW_some] <;> rfl) | (simp [*, errW_none, errW_some] <;> rfl), by first | exact Kd.R_nil _ _ _ _ _ | exact Kd.N_nil _ _ _ _ _ | exact Kd.V_nil _ _ _ _ _ | exact Kd.Q_nil _ _ _ _ _ | exact Kd.S_nil _ _ _ _ _, by first | exact Kd.R_nil _ _ _ _ _ | exact Kd.N_nil _ _ _ _ _ | exact Kd.V_nil _ _ _ _ _ | exact Kd.Q_nil _ _ _ _ _ | exact Kd.S_nil _ _ _ _ _, by repeat (first | (with_reducible first | exact HB.out | apply below_alloc | apply pw_below_drewN | apply below_drew1 | refine below_set ?_ GE139.out | refine below_set ?_ GE140.out | refine below_set ?_ GE142.out) | exact HB.out)⟩
          · rw [if_neg c6] at H
            exact absurd H (by simp)
        · rw [if_neg c5] at H
          exact absurd H (by simp)
      · rw [if_neg c4] at H
        have c4b0 : decide (x13_1 < (l0.length : Int)) = false := decide_eq_false c4
        clear c4
        simp only [Option.some.injEq, Prod.mk.injEq] at H
        obtain ⟨rfl, rfl, rfl⟩ := H
        have hnb60 := NB140_139.out
        have hnc60 := NB139_140.out
        have hcz61_0 : wr.cell? ⟨gb140, 0, none⟩ = some (u141000) := (blk_cell BK140.out 0).trans rfl
        have hcz61_1 : wr.cell? ⟨gb140, 1, none⟩ = some (u141001) := (blk_cell BK140.out 1).trans rfl
        have hfz61_0 := blk_frozen BK140.out 0
        have hfz61_1 := blk_frozen BK140.out 1
        obtain ⟨Ao62, co62, eo62⟩ := Kd.R_slice HO_141000.out
        subst eo62
        have hcz63_0 : wr.cell? ⟨gb139, 0, none⟩ = some (.slice none 0 0) := (blk_cell BK139.out 0).trans rfl
        have hcz63_1 : wr.cell? ⟨gb139, 1, none⟩ = some (.slice none 0 0) := (blk_cell BK139.out 1).trans rfl
        have hfz63_0 := blk_frozen BK139.out 0
        have hfz63_1 := blk_frozen BK139.out 1
        obtain ⟨Ao64, co64, eo64⟩ := Kd.R_slice HO_141001.out
        subst eo64
        go_wp2
        refine bodyPost_ret (results_ct rfl _ _ gb139 24 #[.slice Ao62 x141000_1.length co62, .slice Ao64 x141001_1.length co64] (0, 0) _ rfl (by (with_reducible repeat (first | refine blk_drewN ?_ _ | refine blk_drew ?_ | refine blk_alloc ?_ _)); refine blk_put (cs := #[.slice Ao62 x141000_1.length co62, .slice none 0 0]) ?_ 1 _ rfl; (with_reducible repeat (first | refine blk_drewN ?_ _ | refine blk_drew ?_ | refine blk_alloc ?_ _)); refine blk_put (cs := #[.slice none 0 0, .slice none 0 0]) ?_ 0 _ rfl; (with_reducible repeat (first | refine blk_drewN ?_ _ | refine blk_drew ?_ | refine blk_alloc ?_ _)); exact BK139.out) Try.underlying24 rfl (by kernel_rfl)) rfl ?_
        exact ⟨_, _, by first | rfl | (simp [errW_none, errW_some] <;> rfl) | (simp [*, errW_none, errW_some] <;> rfl), by (with_reducible repeat (first | apply Kd.R_alloc | apply Kd.R_drewN | apply Kd.R_drew)); exact Kd.R_mono (Kd.R_far (p := ⟨gb139, 1, none⟩) (Kd.R_far (p := ⟨gb139, 0, none⟩) (Kd.R_types HO_141000.out BK139.out (by decide)) (fun _ hk => hk.2) (.slice Ao62 x141000_1.length co62)) (fun _ hk => hk.2) (.slice Ao64 x141001_1.length co64)) (fun _ hk => hk.1), by (with_reducible repeat (first | apply Kd.R_alloc | apply Kd.R_drewN | apply Kd.R_drew)); exact Kd.R_mono (Kd.R_far (p := ⟨gb139, 1, none⟩) (Kd.R_far (p := ⟨gb139, 0, none⟩) (Kd.R_types HO_141001.out BK139.out (by decide)) (fun _ hk => hk.2) (.slice Ao62 x141000_1.length co62)) (fun _ hk => hk.2) (.slice Ao64 x141001_1.length co64)) (fun _ hk => hk.1), by repeat (first | (with_reducible first | exact HB.out | apply below_alloc | apply pw_below_drewN | apply below_drew1 | refine below_set ?_ GE139.out | refine below_set ?_ GE140.out) | exact HB.out)⟩

open Go.Proofs.Ythcdlgphabaidaa.Cp
/-! ### api_Pair_62: function 62 -/
set_option maxHeartbeats 8000000 in
set_option maxRecDepth 100000 in
theorem api_Pair_62.calls (p : S68 → Bool) (g : Nat) (lb : Array Value) (eg : ∀ args w, (callFunc g args).run Try.prog w = .ok (.enter g args) w) (A0 : Option Addr) (c0 : Nat) (l0 : List (S68)) (w : World) (hr0 : Kd.C k68 w A0 l0.length l0)
    (hp : ∀ (W : World) (x : S68), Below w.heap.size w W → Calls Try.prog g (#[.agg #[.string x.f0, .string x.f1]] ++ lb) W fun e w' => e = .returned (.bool (p x)) ∧ Below W.heap.size W w') :
    Calls Try.prog 62 #[.slice A0 l0.length c0, .func (.func g) #[] lb] w fun e w' => e = .returned (.int .i64 (ixOf p l0)) ∧ Below w.heap.size w w' := by
  have hu68 := Try.underlying68
  have HR := Aside0.mk hr0
  have HP := Aside0.mk hp
  have hmx := hr0.2.1
  clear hr0 hp
  go_enter Try.func62, Try.ntmps62
  go_wp2
  go_loopg [5, 8] l0.length (fun gg _ s8 wr => ∃ kk : Nat, kk ≤ l0.length ∧ l0.length - kk ≤ gg ∧ s8 = .int .i64 kk ∧ Aside0 (Below w.heap.size w wr) ∧ Aside0 (∀ j, j < kk → p (l0.getD j z68) = false))
  case atStart => exact ⟨0, Nat.zero_le _, by omega, rfl, ⟨Below.refl _ w⟩, ⟨fun j hj => absurd hj (Nat.not_lt_zero _)⟩⟩
  case round =>
    obtain ⟨kk, hkk, hg, rfl, HB, A⟩ := hrel
    by_cases hlt : kk < l0.length
    · have hltz : (kk : Int) < (l0.length : Int) := by omega
      obtain ⟨ad, e, hx0, hx1⟩ := at_T68 (Kd.C_below HR.out HB.out) (kk : Int) (by omega) hltz
      cases e
      simp only [Int.toNat_natCast] at hx0 hx1
      have hcall := HP.out wr (l0.getD kk z68) HB.out
      have e0 : rd_T68 l0 (kk : Int) = l0.getD kk z68 := by simp [rd_T68]
      rw [e0] at hx0 hx1
      clear e0
      obtain ⟨y, hy⟩ : ∃ y, l0.getD kk z68 = y := ⟨_, rfl⟩
      rw [hy] at hx0 hx1 hcall
      have Y := Aside0.mk hy
      clear hy
      obtain ⟨q, hq⟩ : ∃ q, p y = q := ⟨_, rfl⟩
      rw [hq] at hcall
      have Q := Aside0.mk hq
      clear hq
      cases q with
      | true =>
        go_wp2_with (go_at_fn g; refine hcall.mono ?_; rintro e w' ⟨rfl, hb'⟩)
        go_ret
        exact ⟨by rw [ixOf_hit p l0 z68 kk hlt (by rw [Y.out]; exact Q.out) A.out]; rfl, below_step HB.out hb'⟩
      | false =>
        go_wp2_with (go_at_fn g; refine hcall.mono ?_; rintro e w' ⟨rfl, hb'⟩)
        go_roundg (l0.length - (kk + 1))
        case measure => omega
        case rel =>
          refine ⟨kk + 1, by omega, by omega, by go_num, ⟨below_step HB.out hb'⟩, ⟨fun j hj => ?_⟩⟩
          by_cases e : j = kk
          · subst e; rw [Y.out]; exact Q.out
          · exact A.out j (by omega)
    · have hltz : decide ((kk : Int) < (l0.length : Int)) = false := decide_eq_false (by omega)
      have hltn : decide (kk < l0.length) = false := decide_eq_false (by omega)
      have E := Aside0.mk (show kk = l0.length by omega)
      go_wp2
      go_ret
      exact ⟨by rw [ixOf_miss p l0 z68 (fun j hj => A.out j (by have := E.out; omega))]; rfl, HB.out⟩

open Go.Proofs.Ythcdlgphabaidaa.Cp
/-! ### table_at: function 61 -/
theorem enters70 : ∀ args w, (callFunc 70 args).run Try.prog w = .ok (.enter 70 args) w := enters_of Try.func70 (by kernel_rfl) rfl
set_option maxHeartbeats 8000000 in
theorem table_at_1.calls (x : S68) (key : ByteArray) (B : Nat) (W : World) (hc : W.cell? ⟨B, 0, none⟩ = some (.string key)) :
    Calls Try.prog 70 #[.agg #[.string x.f0, .string x.f1], .pointer (some ⟨B, 0, none⟩)] W fun e w' => e = .returned (.bool (x.f0.toList == key.toList)) ∧ Below W.heap.size W w' := by
  have hu68 := Try.underlying68
  have hB := World.block_lt_of_cell? W _ hc
  go_enter Try.func70, Try.ntmps70
  go_wp2
  go_ret
  exact ⟨rfl, (Below.refl _ _).alloc (Nat.le_refl _) _⟩
set_option maxHeartbeats 8000000 in
theorem table_at.calls (A0 : Option Addr) (c0 : Nat) (l0 : List (S68)) (a1 : ByteArray) (r : Int) (w : World) (hr0 : Kd.C k68 w A0 l0.length l0) (hc0 : l0.length ≤ c0) (h : table_at.f l0 a1 = some r) :
    Calls Try.prog 61 #[.slice A0 l0.length c0, .string a1] w fun e w' => e = .returned (.int .i64 r) ∧ Below w.heap.size w w' := by
  obtain rfl := Option.some.inj h
  have HR := Aside0.mk hr0
  clear hr0 h hc0
  go_enter Try.func61, Try.ntmps61
  go_wp2_with (go_at_call 62; (refine (api_Pair_62.calls (fun x => x.f0.toList == a1.toList) 70 #[.pointer (some ⟨w.heap.size, 0, none⟩)] enters70 A0 c0 l0 _ (Kd.C_alloc HR.out _) (fun W x hb => table_at_1.calls x a1 w.heap.size W ((hb.cell (p := ⟨w.heap.size, 0, none⟩) (by simp)).trans (by go_simp)))).mono ?_; rintro e w' ⟨rfl, hb⟩))
  go_ret
  exact ⟨rfl, ((Below.refl _ _).alloc (Nat.le_refl _) _).trans (hb.mono (by simp))⟩

/-! ### table_Find: function 49 -/
set_option maxHeartbeats 8000000 in
set_option maxRecDepth 100000 in
theorem table_Find.calls (A0 : Option Addr) (c0 : Nat) (l0 : List (S68)) (a1 : ByteArray) (r1 : ByteArray) (r2 : Bool) (w : World) (hr0 : Kd.C k68 w A0 l0.length l0) (hc0 : l0.length ≤ c0) (h : table_Find.f l0 a1 = some (r1, r2)) :
    Calls Try.prog 49 #[.slice A0 l0.length c0, .string a1] w fun e w' => e = .returned (.tuple #[.string r1, .bool r2]) ∧ Below w.heap.size w w' := by
  have HR0 := Aside0.mk hr0
  have HC0 := Aside0.mk hc0
  clear hr0 hc0
  have HB := Aside0.mk (Below.refl w.heap.size w)
  have H : ((table_at.f l0 a1).bind fun t156 => (if t156 < 0 then (some ((⟨#[]⟩ : ByteArray), false)) else (if 0 ≤ t156 then (if t156 < (l0.length : Int) then (some ((rd_T68 l0 t156).f1, true)) else (none)) else (none)))) = some (r1, r2) := h
  clear h
  replace H := Option.bind_eq_some_iff.mp H
  obtain ⟨t156, A30, H⟩ := H
  replace H : (if t156 < 0 then (some ((⟨#[]⟩ : ByteArray), false)) else (if 0 ≤ t156 then (if t156 < (l0.length : Int) then (some ((rd_T68 l0 t156).f1, true)) else (none)) else (none))) = some (r1, r2) := H
  have A3 := Aside0.mk A30
  clear A30
  by_cases c4 : t156 < 0
  · rw [if_pos c4] at H
    have c4b0 : decide (t156 < 0) = true := decide_eq_true c4
    clear c4
    simp only [Option.some.injEq, Prod.mk.injEq] at H
    obtain ⟨rfl, rfl⟩ := H
    go_enter Try.func49, Try.ntmps49
    go_wp2_with (first | ((with_reducible refine gate_callee (f := 61) rfl ?_); refine goesL_ (some 9) rfl rfl Try.func61 (by kernel_rfl) rfl #[.slice A0 l0.length c0, .string a1] rfl (by (try simp only [List.map_toArray, List.map_cons, List.map_nil]); first | done | rfl | (simp only [List.length_drop, List.length_take]; rfl)) ?_; (with_reducible refine (table_at.calls _ _ l0 a1 t156 _ ?side1 ?side2 A3.out).mono ?_); (case side1 => repeat (first | exact HR0.out | (with_reducible refine Kd.C_alloc ?_ _) | (with_reducible refine Kd.C_drewN ?_ _) | (with_reducible refine Kd.C_drew ?_))); (case side2 => exact HC0.out); rintro e w5 ⟨rfl, hb⟩; refine ⟨_, rfl, ?_⟩; have n0_ := Aside0.mk (below_step (by repeat (first | (with_reducible first | exact HB.out | apply below_alloc | apply pw_below_drewN | apply below_drew1) | exact HB.out)) hb); clear HB; have HB := n0_; clear n0_; (try clear hb); (try clear hb2); (try clear hk); (try clear hi)))
    go_ret2
    exact ⟨by first | rfl | (simp [errW_none, errW_some] <;> rfl) | (simp [*, errW_none, errW_some] <;> rfl), by repeat (first | (with_reducible first | exact HB.out | apply below_alloc | apply pw_below_drewN | apply below_drew1) | exact HB.out)⟩
  · rw [if_neg c4] at H
    have c4b0 : decide (t156 < 0) = false := decide_eq_false c4
    clear c4
    by_cases c6 : 0 ≤ t156
    · rw [if_pos c6] at H
      have c6b0 : decide (0 ≤ t156) = true := decide_eq_true c6
      clear c6
      by_cases c7 : t156 < (l0.length : Int)
      · rw [if_pos c7] at H
        have c7b0 : decide (t156 < (l0.length : Int)) = true := decide_eq_true c7
        clear c7
        simp only [Option.some.injEq, Prod.mk.injEq] at H
        obtain ⟨rfl, rfl⟩ := H
        go_enter Try.func49, Try.ntmps49
        go_wp2_with (first | ((with_reducible refine gate_callee (f := 61) rfl ?_); refine goesL_ (some 9) rfl rfl Try.func61 (by kernel_rfl) rfl #[.slice A0 l0.length c0, .string a1] rfl (by (try simp only [List.map_toArray, List.map_cons, List.map_nil]); first | done | rfl | (simp only [List.length_drop, List.length_take]; rfl)) ?_; (with_reducible refine (table_at.calls _ _ l0 a1 t156 _ ?side1 ?side2 A3.out).mono ?_); (case side1 => repeat (first | exact HR0.out | (with_reducible refine Kd.C_alloc ?_ _) | (with_reducible refine Kd.C_drewN ?_ _) | (with_reducible refine Kd.C_drew ?_))); (case side2 => exact HC0.out); rintro e w8 ⟨rfl, hb⟩; refine ⟨_, rfl, ?_⟩; have n0_ := Aside0.mk (below_step (by repeat (first | (with_reducible first | exact HB.out | apply below_alloc | apply pw_below_drewN | apply below_drew1) | exact HB.out)) hb); clear HB; have HB := n0_; clear n0_; (try clear hb); (try clear hb2); (try clear hk); (try clear hi); have p157 : 0 ≤ (t156 : Int) := of_decide_eq_true (by first | (with_reducible assumption) | assumption); have q157 : t156 < (l0.length : Int) := of_decide_eq_true (by first | (with_reducible assumption) | assumption); obtain ⟨ad157, e157, hx157_0, hx157_1⟩ := at_T68 HR0.out t156 p157 q157; cases e157; replace hx157_0 := (HB.out.cell (World.block_lt_of_cell? w _ hx157_0)).trans hx157_0; replace hx157_1 := (HB.out.cell (World.block_lt_of_cell? w _ hx157_1)).trans hx157_1; replace p157 := eq_true p157; replace q157 := eq_true q157))
        go_ret2
        exact ⟨by first | rfl | (simp [errW_none, errW_some] <;> rfl) | (simp [*, errW_none, errW_some] <;> rfl), by repeat (first | (with_reducible first | exact HB.out | apply below_alloc | apply pw_below_drewN | apply below_drew1) | exact HB.out)⟩
      · rw [if_neg c7] at H
        exact absurd H (by simp)
    · rw [if_neg c6] at H
      exact absurd H (by simp)

/-! ### batch_Decided: function 27 -/
set_option maxHeartbeats 8000000 in
set_option maxRecDepth 100000 in
theorem batch_Decided.calls (A0_0 : Option Addr) (c0_0 : Nat) (l0_0 : List (S68)) (A0_1 : Option Addr) (c0_1 : Nat) (l0_1 : List (S68)) (a1 : ByteArray) (r1 : ByteArray) (r2 : Bool) (w : World) (hr0_0 : Kd.C k68 w A0_0 l0_0.length l0_0) (hc0_0 : l0_0.length ≤ c0_0) (hr0_1 : Kd.C k68 w A0_1 l0_1.length l0_1) (hc0_1 : l0_1.length ≤ c0_1) (h : batch_Decided.f l0_0 l0_1 a1 = some (r1, r2)) :
    Calls Try.prog 27 #[.agg #[.slice A0_0 l0_0.length c0_0, .slice A0_1 l0_1.length c0_1], .string a1] w fun e w' => e = .returned (.tuple #[.string r1, .bool r2]) ∧ Below w.heap.size w w' := by
  have hu24 := Try.underlying24
  have HR0_0 := Aside0.mk hr0_0
  have HC0_0 := Aside0.mk hc0_0
  clear hr0_0 hc0_0
  have HR0_1 := Aside0.mk hr0_1
  have HC0_1 := Aside0.mk hc0_1
  clear hr0_1 hc0_1
  have HB := Aside0.mk (Below.refl w.heap.size w)
  have H : ((table_Find.f l0_1 a1).bind fun bt159 => (some (bt159.1, bt159.2))) = some (r1, r2) := h
  clear h
  replace H := Option.bind_eq_some_iff.mp H
  obtain ⟨⟨t159, t160⟩, A30, H⟩ := H
  replace H : (some (t159, t160)) = some (r1, r2) := H
  have A3 := Aside0.mk A30
  clear A30
  simp only [Option.some.injEq, Prod.mk.injEq] at H
  obtain ⟨rfl, rfl⟩ := H
  go_enter Try.func27, Try.ntmps27
  go_wp2_with (first | ((with_reducible refine gate_dst (N := 2) rfl ?_); refine box_event ?hg (N := 2) ?hd (cs := #[.slice A0_0 l0_0.length c0_0, .slice A0_1 l0_1.length c0_1]) (t := 24) ?hr ?_; (case hd => rfl); (case hg => rfl); (case hr => first | (go_simp; done) | (go_simp; rfl)); intro gb158 hg w4 hbox hb; have n0_ := Aside0.mk (below_step (by repeat (first | (with_reducible first | exact HB.out | apply below_alloc | apply pw_below_drewN | apply below_drew1) | exact HB.out)) hb); have n1_ := Aside0.mk (hbox); have n2_ := Aside0.mk ((by rw [hg]; exact (below_size (by repeat (first | (with_reducible first | exact HB.out | apply below_alloc | apply pw_below_drewN | apply below_drew1) | exact HB.out))) : w.heap.size ≤ gb158)); have n3_ := Aside0.mk ((by rw [hg]; exact (below_size (by repeat (first | (with_reducible first | exact HB.out | apply below_alloc | apply pw_below_drewN | apply below_drew1) | exact HB.out))) : w.heap.size ≤ gb158)); clear HB; have HB := n0_; have BK158 := n1_; have GW158 := n2_; have GE158 := n3_; clear n0_ n1_ n2_ n3_; clear hb hbox hg; have hcz5_0 : w4.cell? ⟨gb158, 0, none⟩ = some (.slice A0_0 l0_0.length c0_0) := (blk_cell BK158.out 0).trans rfl; have hcz5_1 : w4.cell? ⟨gb158, 1, none⟩ = some (.slice A0_1 l0_1.length c0_1) := (blk_cell BK158.out 1).trans rfl; have hfz5_0 := blk_frozen BK158.out 0; have hfz5_1 := blk_frozen BK158.out 1) | ((with_reducible refine gate_callee (f := 49) rfl ?_); refine goesL_ (some 9) rfl rfl Try.func49 (by kernel_rfl) rfl #[.slice A0_1 l0_1.length c0_1, .string a1] rfl (by (try simp only [List.map_toArray, List.map_cons, List.map_nil]); first | done | rfl | (simp only [List.length_drop, List.length_take]; rfl)) ?_; (with_reducible refine (table_Find.calls _ _ l0_1 a1 t159 t160 _ ?side1 ?side2 A3.out).mono ?_); (case side1 => repeat (first | exact (Kd.C_below HR0_1.out HB.out) | (with_reducible refine Kd.C_alloc ?_ _) | (with_reducible refine Kd.C_drewN ?_ _) | (with_reducible refine Kd.C_drew ?_))); (case side2 => exact HC0_1.out); rintro e w6 ⟨rfl, hb⟩; refine ⟨_, rfl, ?_⟩; have n0_ := Aside0.mk (blk_below (g := gb158) (o := .cells #[.slice A0_0 l0_0.length c0_0, .slice A0_1 l0_1.length c0_1] 24 (0, 0)) (by (with_reducible repeat (first | refine blk_drewN ?_ _ | refine blk_drew ?_ | refine blk_alloc ?_ _)); exact BK158.out) hb); have n1_ := Aside0.mk (below_step (by repeat (first | (with_reducible first | exact HB.out | apply below_alloc | apply pw_below_drewN | apply below_drew1 | refine below_set ?_ GE158.out) | exact HB.out)) hb); clear BK158; clear HB; have BK158 := n0_; have HB := n1_; clear n0_ n1_; (try clear hb); (try clear hb2); (try clear hk); (try clear hi)))
  go_ret2
  exact ⟨by first | rfl | (simp [errW_none, errW_some] <;> rfl) | (simp [*, errW_none, errW_some] <;> rfl), by repeat (first | (with_reducible first | exact HB.out | apply below_alloc | apply pw_below_drewN | apply below_drew1 | refine below_set ?_ GE158.out) | exact HB.out)⟩

/-! ### api_Pair_58: function 58 -/
set_option maxHeartbeats 8000000 in
set_option maxRecDepth 100000 in
theorem api_Pair_58.calls (A0 : Option Addr) (c0 : Nat) (l0 : List (S68)) (r : List (S68)) (w : World) (hr0 : Kd.C k68 w A0 l0.length l0) (hc0 : l0.length ≤ c0) (h : api_Pair_58.f l0 = some r) :
    Calls Try.prog 58 #[.slice A0 l0.length c0] w fun e w' => ∃ v0_ : Value, e = .returned (v0_) ∧ Kd.R k68 68 w' w.heap.size (fun _ => True) v0_ r ∧ Below w.heap.size w w' := by
  have HR0 := Aside0.mk hr0
  have HC0 := Aside0.mk hc0
  clear hr0 hc0
  have HB := Aside0.mk (Below.refl w.heap.size w)
  have H : ((some (([] : List (S68)) : List (S68))).bind fun y161 => (if y161.length + l0.length < 4398046511104 then (some (y161 ++ l0)) else (none))) = some r := h
  clear h
  obtain ⟨y161, hy161⟩ : ∃ y_ : List (S68), y_ = (([] : List (S68))) := ⟨_, rfl⟩
  replace H : (if y161.length + l0.length < 4398046511104 then (some (y161 ++ l0)) else (none)) = some r := by first | (rw [hy161]; with_reducible exact H) | (have H2_ := (Option.bind_some _ _).symm.trans H; rw [hy161]; with_reducible exact H2_) | (have H2_ := (Option.bind_some _ _).symm.trans H; with_reducible exact H2_) | with_reducible exact H | (rw [hy161]; exact H) | exact H
  have Ny161 := Aside0.mk hy161
  clear hy161
  by_cases c2 : y161.length + l0.length < 4398046511104
  · rw [if_pos c2] at H
    have LMc2 := Aside0.mk c2
    clear c2
    obtain ⟨y164, hy164⟩ : ∃ y_ : List (S68), y_ = (y161 ++ l0) := ⟨_, rfl⟩
    replace H : (some y164) = some r := by first | (rw [hy164]; with_reducible exact H) | (have H2_ := (Option.bind_some _ _).symm.trans H; rw [hy164]; with_reducible exact H2_) | (have H2_ := (Option.bind_some _ _).symm.trans H; with_reducible exact H2_) | with_reducible exact H | (rw [hy164]; exact H) | exact H
    have Ny164 := Aside0.mk hy164
    clear hy164
    obtain rfl := Option.some.inj H
    have qT := fun (w : World) (a : Option Addr) (l c : Nat) => Lib.run_eql_slice_nil (P := Try.prog) w 22 68 a l c 0 0 Try.underlying22
    rcases A0 with _ | ad0
    · have hl : l0 = [] := by
        rcases l0 with _ | ⟨x_, l_⟩
        · rfl
        · obtain ⟨_, h_, _⟩ := HR0.out.2.2 (by simp)
          cases h_
      have hy := Aside0.mk (show y164 = [] by rw [Ny164.out, Ny161.out, hl]; rfl)
      clear hl
      go_enter Try.func58, Try.ntmps58
      go_wp2
      go_ret
      exact ⟨_, rfl, by rw [hy.out]; exact Kd.R_nil _ _ _ _ _, HB.out⟩
    · go_enter Try.func58, Try.ntmps58
      go_wp2_with (first | ((with_reducible refine gate_dst (N := 5) rfl ?_); refine Kd.R_lit k68 _ 68 ?hg (N := 5) ?hd (xs := ([] : List (S68))) (inner := []) (ok := fun _ => True) (okp := fun _ => True) ?hr ?hp (fun _ hk => hk) trivial (Below.refl _ _) (Nat.le_refl _) (by simp) ?_; (case hd => rfl); (case hg => rfl); (case hr => first | (go_simp; done) | (go_simp; rfl)); (case hp => exact (Reps.none _ _)); intro v162 w3 ho4 hb hg_ hnew_; clear hg_ hnew_; (first | rw [← Ny161.out] at ho4 | (simp only [Int.reduceToNat] at ho4; rw [← Ny161.out] at ho4)); have n0_ := Aside0.mk (Kd.R_lower ho4 (below_size (by repeat (first | (with_reducible first | exact HB.out | apply below_alloc | apply pw_below_drewN | apply below_drew1) | exact HB.out)))); have n1_ := Aside0.mk (below_step (by repeat (first | (with_reducible first | exact HB.out | apply below_alloc | apply pw_below_drewN | apply below_drew1) | exact HB.out)) hb); clear HB; have HO163 := n0_; have HB := n1_; clear n0_ n1_; clear hb ho4) | ((with_reducible refine gate_builtin (b := .append) (xs := #[.tmp 5, .tmp 6]) rfl ?_); at_builtin; refine Kd.R_append_rows k68 (w0 := w) w.heap.size rfl (.tmp 5) (.tmp 6) 22 68 (.agg #[(.string ⟨#[]⟩), (.string ⟨#[]⟩)]) 32 rfl Try.underlying22 info68 rfl (by decide) (by omega) v162 y161 l0 _ _ _ (fun _ => True) (fun _ => False) rfl rfl ?aO ?aR (fun _ _ h => h) (fun _ h => h.elim) ?aF ?aB ?aS ?aL ?_; (case aR => repeat (first | exact (Kd.C_below HR0.out HB.out) | (with_reducible refine Kd.C_alloc ?_ _) | (with_reducible refine Kd.C_drewN ?_ _) | (with_reducible refine Kd.C_drew ?_))); (case aB => exact (by repeat (first | (with_reducible first | exact HB.out | apply below_alloc | apply pw_below_drewN | apply below_drew1) | exact HB.out))); (case aF => exact (fun _ _ => trivial)); (case aO => exact (by (with_reducible repeat (first | apply Kd.R_alloc | apply Kd.R_drewN | apply Kd.R_drew)); exact HO163.out)); (case aS => exact (below_size (by repeat (first | (with_reducible first | exact HB.out | apply below_alloc | apply pw_below_drewN | apply below_drew1) | exact HB.out)))); (case aL => have := LMc2.out; omega); intro v165 w5 ho hb hg hat; rw [← Ny164.out] at ho; have n0_ := Aside0.mk (hb); have n1_ := Aside0.mk (ho); clear HB; clear HO163; have HB := n0_; have HO166 := n1_; clear n0_ n1_; clear ho hb hg hat))
      go_ret
      exact ⟨_, by first | rfl | (simp [errW_none, errW_some] <;> rfl) | (simp [*, errW_none, errW_some] <;> rfl), by (with_reducible repeat (first | apply Kd.R_alloc | apply Kd.R_drewN | apply Kd.R_drew)); exact HO166.out, by repeat (first | (with_reducible first | exact HB.out | apply below_alloc | apply pw_below_drewN | apply below_drew1) | exact HB.out)⟩
  · rw [if_neg c2] at H
    exact absurd H (by simp)

-- function 71: no road meets it

-- function 76: no road meets it

-- function 75: no road meets it

-- function 72: no road meets it

end Go.Proofs.Ythcdlgphabaidaa.PO
