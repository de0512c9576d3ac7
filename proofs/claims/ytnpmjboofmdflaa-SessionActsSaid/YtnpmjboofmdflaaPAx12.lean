-- Made by a program of this workplace out of the translation (wip/tools in the repo). Not trusted: Lean checks it.
import Derived.Test.YtnpmjboofmdflaaPAx0
import Derived.Test.YtnpmjboofmdflaaSq
import Derived.Test.YtnpmjboofmdflaaTq
import Derived.Test.YtnpmjboofmdflaaPAx3
import Derived.Test.YtnpmjboofmdflaaPAx6
namespace Go.Proofs.Ytnpmjboofmdflaa.PA
open Go.RowKit Go.Proofs.YtnpmjboofmdflaaW.PrintWords Go.Proofs.YtnpmjboofmdflaaW.PrintLast Go.Proofs.YtnpmjboofmdflaaW.PrintMore
attribute [local go_sem] max2_int min2_int max_two min_two max_three min_three max_four min_four   -- for this text's walks alone
set_option linter.unusedVariables false
set_option linter.unusedSimpArgs false

/-! ### alarm_sink: function 71 -/
def alarm_sink.T11 : Bool × List (List Nat × List Nat) := (true, [([], []), ([], []), ([1], [1]), ([0, 2], [0, 2]), ([3], [3]), ([4], [4]), ([4], [4]), ([5, 6, 4], [4, 5, 6]), ([7, 4], [4, 7]), ([4], [4]), ([4], [4]), ([9, 10, 4], [4, 9, 10]), ([11, 4], [4, 11]), ([8, 12, 4, 4], [4, 8, 12]), ([4, 13], [4, 13])])
def alarm_sink.B11 : List Nat := [0, 0, 2, 7, 15, 31, 31, 127, 255, 31, 31, 1567, 3615, 8191, 16383]
theorem alarm_sink.tab11 : rtab .any (opsOf Try.f71 11) = alarm_sink.T11 := by kernel_rfl
theorem alarm_sink.bits11 : waitsOk alarm_sink.T11.2 alarm_sink.B11 = true := by kernel_rfl
def alarm_sink.T15 : Bool × List (List Nat × List Nat) := (true, [([], []), ([], []), ([], []), ([], []), ([], []), ([], []), ([4, 5], [4, 5]), ([6], [6]), ([], []), ([], []), ([8, 9], [8, 9]), ([10], [10]), ([0, 1, 0, 1, 4, 5, 6, 7, 11], [0, 1]), ([12, 7, 0, 1, 4, 5, 6, 7, 11], [7, 12]), ([2, 3, 0, 1, 2, 3, 4, 5, 6, 7, 8, 9, 10, 11, 12, 13], [2, 3]), ([14, 11, 13, 0, 1, 2, 3, 4, 5, 6, 7, 8, 9, 10, 11, 12, 13], [11, 14])])
def alarm_sink.B15 : List Nat := [0, 0, 0, 0, 0, 0, 48, 112, 0, 0, 768, 1792, 4083, 8179, 16383, 32767]
theorem alarm_sink.tab15 : rtab .any (opsOf Try.f71 15) = alarm_sink.T15 := by kernel_rfl
theorem alarm_sink.bits15 : waitsOk alarm_sink.T15.2 alarm_sink.B15 = true := by kernel_rfl
set_option maxHeartbeats 8000000 in
set_option maxRecDepth 100000 in
theorem alarm_sink.calls (k : Nat) (a4 : Nat → Prop) (aO : Value) (l0 : List (S85)) (r : List (S85)) (w0 w : World) (hB : Below w0.heap.size w0 w) (eB : Kd.R k85 85 w w0.heap.size a4 aO l0) (h : alarm_sink.f k l0 = some r) :
  Calls Try.prog 71 #[aO] w fun e w' => e = .returned (.tuple #[]) ∧ Kd.R k85 85 w' w0.heap.size (fun k_ => (a4 k_ ∨ w.heap.size ≤ k_)) aO r ∧ Below w0.heap.size w0 w' ∧ Kept w w' (fun k_ => a4 k_) := by
 have eC := Try.underlying85
 have eD := ak (show Kd.R k85 85 w w0.heap.size (fun k_ => (a4 k_ ∨ w.heap.size ≤ k_)) aO l0 from Kd.R_mono eB (fun k_ hk => (.inl hk)))
 have HK := ak (Kept.refl w (fun k_ => a4 k_))
 have eZ := ak hB.size
 have HB := ak hB
 clear hB
 have H : (alarm_sink.l0 k l0 0) = some r := h
 clear h
 have H' := ak H
 clear H
 have e0 : ∀ (a b : Value) (w : World), (Instr.index 100 (.agg #[a, b]) (.int .i64 0)).run Try.prog w = .ok a w := fun _ _ _ => by kernel_rfl
 have e1 : ∀ (a b : Value) (w : World), (Instr.index 100 (.agg #[a, b]) (.int .i64 1)).run Try.prog w = .ok b w := fun _ _ _ => by kernel_rfl
 go_enter Try.func71, Try.ntmps71
 go_wp2
 go_step3
 go_wp2
 go_step3
 go_wp2
 go_loopg [2] k (fun kq v2 w' => ∃ (aA : List (S85)) (aB : Int), v2 = .int .i64 aB ∧ Aside0 (alarm_sink.l0 kq aA aB = some r) ∧ Aside0 (kq ≤ k) ∧ Aside0 (Kd.R k85 85 w' w0.heap.size (fun k_ => (a4 k_ ∨ w.heap.size ≤ k_)) aO aA) ∧ Aside0 (Kept w w' (fun k_ => a4 k_)) ∧ Aside0 (Below w0.heap.size w0 w'))
 case atStart => exact ⟨(l0), (0), es, H', ⟨Nat.le_refl _⟩, ⟨pR eD.out⟩, ⟨by repeat (first | (with_reducible first | exact HK.out | apply Kept.alloc | apply Kept.drewN | apply Kept.drew) | exact HK.out)⟩, ⟨pB HB.out⟩⟩
 case round =>
  clear H'
  obtain ⟨aA, aB, rfl, HA, bU, HO_0, HK, HB⟩ := hrel
  cases gk with
  | zero => exact absurd HA.out (by simp [alarm_sink.l0])
  | succ k1 =>
   have H := HA.out
   clear HA
   simp only [alarm_sink.l0] at H
   have dQ := ak H
   clear H
   go_wp2
   refine wp_loop_rounds 3 ?_
   rw [rounds_succ]
   go_wp2
   rw [rounds_succ]
   go_wp2
   rw [rounds_succ]
   go_wp2
   obtain ⟨wro, rfl⟩ : ∃ wo : World, wo = wr := ⟨_, rfl⟩
   have hO := ak (Kd.R_alloc HO_0.out (.cells #[.int .i64 (wrap64 (wrap64 (wrap64 (2 * aB) + 1))), .int .i64 (wrap64 (wrap64 (wrap64 (2 * aB) + 1) + 1))] 100))
   have hK := ak (Kept.alloc HK.out (.cells #[.int .i64 (wrap64 (wrap64 (wrap64 (2 * aB) + 1))), .int .i64 (wrap64 (wrap64 (wrap64 (2 * aB) + 1) + 1))] 100))
   have hB_ := ak (below_alloc HB.out (.cells #[.int .i64 (wrap64 (wrap64 (wrap64 (2 * aB) + 1))), .int .i64 (wrap64 (wrap64 (wrap64 (2 * aB) + 1) + 1))] 100))
   generalize wro.alloc (.cells #[.int .i64 (wrap64 (wrap64 (wrap64 (2 * aB) + 1))), .int .i64 (wrap64 (wrap64 (wrap64 (2 * aB) + 1) + 1))] 100) = wr at hO hK hB_ ⊢
   clear HO_0 HK HB
   have HO_0 := hO
   have HK := hK
   have HB := hB_
   clear hO hK hB_
   have d4 : (wrap64 (wrap64 (wrap64 (2 * aB) + 1))) = wrap64 (wrap64 (2 * aB) + 1) := by unfold wrap64; omega
   rw [d4]
   clear d4
   obtain ⟨q0_, hq0_⟩ : ∃ q_ : Int, q_ = wrap64 (wrap64 (2 * aB) + 1) := ⟨_, rfl⟩
   obtain ⟨q1_, hq1_⟩ : ∃ q_ : Int, q_ = wrap64 (wrap64 (wrap64 (2 * aB) + 1) + 1) := ⟨_, rfl⟩
   rw [← hq1_, ← hq0_]
   rw [← hq0_] at dQ
   have eE := ak hq0_
   have dV := ak hq1_
   clear hq0_ hq1_
   refine wp_loop_rounds 3 ?_
   rw [rounds_succ]
   go_upto_block 5 with (fail)
   go_cut [3] (fun v3 wc => ∃ (kq : Nat) (aD : Int), v3 = .int .i64 aD ∧ Aside0 (alarm_sink.j1 kq aA aB aD = some r) ∧ Aside0 (kq ≤ k1) ∧ Aside0 (Kd.R k85 85 wc w0.heap.size (fun k_ => (a4 k_ ∨ w.heap.size ≤ k_)) aO aA) ∧ Aside0 (Kept w wc (fun k_ => a4 k_)) ∧ Aside0 (Below w0.heap.size w0 wc))
   case first =>
    have H := dQ.out
    clear dQ
    by_cases c3 : q0_ < (aA.length : Int)
    ·rw [if_pos c3] at H
     have a5 : decide (q0_ < (aA.length : Int)) = true := decide_eq_true c3
     clear c3
     (first | rw [a5] | (simp only [i64_w, i32_w]; rw [a5]) | skip)
     replace H : (if 0 ≤ (q0_) then (if 0 ≤ aB then (if aB < (aA.length : Int) then ((alarm_Less.f ((rd_T85 aA (q0_)).f0) ((rd_T85 aA (q0_)).f1) ((rd_T85 aA aB).f0) ((rd_T85 aA aB).f1)).bind fun bO => (if bO = true then (alarm_sink.j1 k1 aA aB q0_) else (alarm_sink.j1 k1 aA aB aB))) else (none)) else (none)) else (none)) = some r := H
     have c5 : 0 ≤ (q0_) := Decidable.byContradiction fun q => by rw [if_neg q] at H; exact absurd H (by simp)
     rw [if_pos c5] at H
     have cH : decide (0 ≤ (q0_)) = true := decide_eq_true c5
     clear c5
     have c6 : 0 ≤ aB := Decidable.byContradiction fun q => by rw [if_neg q] at H; exact absurd H (by simp)
     rw [if_pos c6] at H
     have cI : decide (0 ≤ aB) = true := decide_eq_true c6
     clear c6
     have c7 : aB < (aA.length : Int) := Decidable.byContradiction fun q => by rw [if_neg q] at H; exact absurd H (by simp)
     rw [if_pos c7] at H
     have cJ : decide (aB < (aA.length : Int)) = true := decide_eq_true c7
     clear c7
     replace H := Option.bind_eq_some_iff.mp H
     obtain ⟨bO, d5, H⟩ := H
     try dsimp only at H
     have A8 := ak d5
     clear d5
     by_cases c9 : bO = true
     ·subst c9
      rw [if_pos rfl] at H
      have H' := ak H
      clear H
      try go_wp2
      replace HO_0 := ak (Kd.R_drew HO_0.out)
      replace HK := ak (Kept.drew HK.out)
      replace HB := ak (below_drew1 HB.out)
      obtain ⟨eF, eG, cK⟩ := Kd.R_slice HO_0.out
      (first | subst cK | (injection cK with f1_ f2_ f3_; have bC := f1_.symm; have bD := f3_.symm; clear f1_ f2_ f3_; subst bC; subst bD))
      have aR : 0 ≤ ((q0_) : Int) := od
      have aS : (q0_) < (aA.length : Int) := od
      obtain ⟨aE, bZ, aG, aH⟩ := at_T85 (Kd.R_reads' HO_0.out).2.2 (q0_) aR aS
      cases bZ
      replace aR := eq_true aR
      replace aS := eq_true aS
      have aT : 0 ≤ (aB : Int) := od
      have aU : aB < (aA.length : Int) := od
      obtain ⟨bE, b0, aI, aJ⟩ := at_T85 (Kd.R_reads' HO_0.out).2.2 aB aT aU
      obtain rfl : aE = bE := (by injection b0)
      replace aT := eq_true aT
      replace aU := eq_true aU
      refine start_ (n := 15) (S := fun w' => w'.cell? (aE.add (((q0_)).toNat * 2)) = some (.int .u64 ((rd_T85 aA (q0_)).f0)) ∧ w'.cell? ⟨(aE.add (((q0_)).toNat * 2)).block, (aE.add (((q0_)).toNat * 2)).off + 1, none⟩ = some (.int .i64 ((rd_T85 aA (q0_)).f1)) ∧ w'.cell? (aE.add ((aB).toNat * 2)) = some (.int .u64 ((rd_T85 aA aB).f0)) ∧ w'.cell? ⟨(aE.add ((aB).toNat * 2)).block, (aE.add ((aB).toNat * 2)).off + 1, none⟩ = some (.int .i64 ((rd_T85 aA aB).f1))) (ds := []) #[false, false, false, false, false, false, false, false, false, false, false, false, false, false, false] (by kernel_rfl) rfl rfl ⟨aG, aH, aI, aJ⟩ (fun hHeld => ?_); refine with_tabW alarm_sink.tab11 alarm_sink.bits11 (fun HT_ HW_ => ?_)
      generalize wr.drew = w10 at HO_0 HK HB aG aH aI aJ hHeld ⊢
      refine qa 0 24 (tb 15 1) (any_of HT_.out (by kernel_rfl)) ?_
      refine qa 1 25 (tb 15 3) (any_of HT_.out (by kernel_rfl)) ?_
      refine qa 2 26 (tb 15 7) (any_of HT_.out (by kernel_rfl)) ?_
      refine qa 3 27 (tb 15 15) (any_of HT_.out (by kernel_rfl)) ?_
      refine qa 4 28 (tb 15 31) (any_of HT_.out (by kernel_rfl)) ?_
      refine qa 5 29 (tb 15 63) (any_of HT_.out (by kernel_rfl)) ?_
      refine qa 6 30 (tb 15 127) (any_of HT_.out (by kernel_rfl)) ?_
      refine qa 7 31 (tb 15 255) (any_of HT_.out (by kernel_rfl)) ?_
      refine qa 9 33 (tb 15 767) (any_of HT_.out (by kernel_rfl)) ?_
      refine qa 10 34 (tb 15 1791) (any_of HT_.out (by kernel_rfl)) ?_
      refine qa 11 35 (tb 15 3839) (any_of HT_.out (by kernel_rfl)) ?_
      refine kd 8 32 (tb 15 4095) (take_ofW HT_.out HW_.out (by kernel_rfl)) hHeld ?_
      refine kd 12 36 (tb 15 8191) (take_ofW HT_.out HW_.out (by kernel_rfl)) hHeld ?_
      refine one_ (i := 13) (N := some 37) (tb 15 16383) rfl rfl (one_of HT_.out (by kernel_rfl)) (by decide) (fun K hK => ?_)
      refine goes_ Try.func69 (by kernel_rfl) rfl #[.agg #[.int .u64 ((rd_T85 aA (q0_)).f0), .int .i64 ((rd_T85 aA (q0_)).f1)], .agg #[.int .u64 ((rd_T85 aA aB).f0), .int .i64 ((rd_T85 aA aB).f1)]] (by rfl) rfl rfl (by (try simp only [List.map_toArray, List.map_cons, List.map_nil]); first | done | (simp only [hji4]; rfl) | rfl | (simp only [List.length_drop, List.length_take]; rfl)) ?_
      with_reducible refine (alarm_Less.calls ((rd_T85 aA (q0_)).f0) ((rd_T85 aA (q0_)).f1) ((rd_T85 aA aB).f0) ((rd_T85 aA aB).f1) true _ A8.out).mono ?_
      rintro e e2 ⟨rfl, hb⟩
      have a6 := (hb.cell (World.block_lt_of_cell? _ _ (hHeld.1))).trans (hHeld.1)
      have a7 := (hb.cell (World.block_lt_of_cell? _ _ (hHeld.2.1))).trans (hHeld.2.1)
      have a8 := (hb.cell (World.block_lt_of_cell? _ _ (hHeld.2.2.1))).trans (hHeld.2.2.1)
      have a9 := (hb.cell (World.block_lt_of_cell? _ _ (hHeld.2.2.2))).trans (hHeld.2.2.2)
      refine ⟨_, rfl, ?_⟩
      replace HO_0 := rb HO_0 hb
      replace HK := ak (Kept.below (S := (fun k_ => a4 k_)) (by repeat (first | (with_reducible first | exact HK.out | apply Kept.alloc | apply Kept.drewN | apply Kept.drew) | exact HK.out)) hb)
      replace HB := ak (below_step (pB HB.out) hb)
      (try clear hb)
      (try clear hb2)
      (try clear hk)
      (try clear hi)
      refine hK.out _ _ ⟨a6, a7, a8, a9⟩ (fun hHeld => ?_)
      clear hK K
      refine norm_ (a' := ?_) ?_ ?_
      rotate_left
      ·show Act.put _ (some 37) _ = _
       simp only [Act.put, List.setIfInBounds_toArray, List.set_cons_zero, List.set_cons_succ, i64_w, i32_w]
       rfl
      refine qa 14 38 (tb 15 32767) (any_of HT_.out (by kernel_rfl)) ?_
      refine done_ (done_of HT_.out (by kernel_rfl)) ?_
      try go_wp2
      go_meet
      case rel => exact ⟨_, (q0_), (by first | rfl | (simp; done) | (simp only [← hji4] <;> (first | rfl | simp)) | (simp [*]; done)), H', ⟨by have := bU.out; first | omega | exact Nat.le_refl _⟩, ⟨pR HO_0.out⟩, ⟨by repeat (first | (with_reducible first | exact HK.out | apply Kept.alloc | apply Kept.drewN | apply Kept.drew) | exact HK.out)⟩, ⟨pB HB.out⟩⟩
     ·replace c9 := Bool.eq_false_iff.mpr c9
      subst c9
      rw [if_neg (show ¬ (false = true) by decide)] at H
      have H' := ak H
      clear H
      try go_wp2
      replace HO_0 := ak (Kd.R_drew HO_0.out)
      replace HK := ak (Kept.drew HK.out)
      replace HB := ak (below_drew1 HB.out)
      obtain ⟨eH, eI, cL⟩ := Kd.R_slice HO_0.out
      (first | subst cL | (injection cL with f1_ f2_ f3_; have bC := f1_.symm; have bD := f3_.symm; clear f1_ f2_ f3_; subst bC; subst bD))
      have aR : 0 ≤ ((q0_) : Int) := od
      have aS : (q0_) < (aA.length : Int) := od
      obtain ⟨aE, bZ, aG, aH⟩ := at_T85 (Kd.R_reads' HO_0.out).2.2 (q0_) aR aS
      cases bZ
      replace aR := eq_true aR
      replace aS := eq_true aS
      have aT : 0 ≤ (aB : Int) := od
      have aU : aB < (aA.length : Int) := od
      obtain ⟨bE, b0, aI, aJ⟩ := at_T85 (Kd.R_reads' HO_0.out).2.2 aB aT aU
      obtain rfl : aE = bE := (by injection b0)
      replace aT := eq_true aT
      replace aU := eq_true aU
      refine start_ (n := 15) (S := fun w' => w'.cell? (aE.add (((q0_)).toNat * 2)) = some (.int .u64 ((rd_T85 aA (q0_)).f0)) ∧ w'.cell? ⟨(aE.add (((q0_)).toNat * 2)).block, (aE.add (((q0_)).toNat * 2)).off + 1, none⟩ = some (.int .i64 ((rd_T85 aA (q0_)).f1)) ∧ w'.cell? (aE.add ((aB).toNat * 2)) = some (.int .u64 ((rd_T85 aA aB).f0)) ∧ w'.cell? ⟨(aE.add ((aB).toNat * 2)).block, (aE.add ((aB).toNat * 2)).off + 1, none⟩ = some (.int .i64 ((rd_T85 aA aB).f1))) (ds := []) #[false, false, false, false, false, false, false, false, false, false, false, false, false, false, false] (by kernel_rfl) rfl rfl ⟨aG, aH, aI, aJ⟩ (fun hHeld => ?_); refine with_tabW alarm_sink.tab11 alarm_sink.bits11 (fun HT_ HW_ => ?_)
      generalize wr.drew = w13 at HO_0 HK HB aG aH aI aJ hHeld ⊢
      refine qa 0 24 (tb 15 1) (any_of HT_.out (by kernel_rfl)) ?_
      refine qa 1 25 (tb 15 3) (any_of HT_.out (by kernel_rfl)) ?_
      refine qa 2 26 (tb 15 7) (any_of HT_.out (by kernel_rfl)) ?_
      refine qa 3 27 (tb 15 15) (any_of HT_.out (by kernel_rfl)) ?_
      refine qa 4 28 (tb 15 31) (any_of HT_.out (by kernel_rfl)) ?_
      refine qa 5 29 (tb 15 63) (any_of HT_.out (by kernel_rfl)) ?_
      refine qa 6 30 (tb 15 127) (any_of HT_.out (by kernel_rfl)) ?_
      refine qa 7 31 (tb 15 255) (any_of HT_.out (by kernel_rfl)) ?_
      refine qa 9 33 (tb 15 767) (any_of HT_.out (by kernel_rfl)) ?_
      refine qa 10 34 (tb 15 1791) (any_of HT_.out (by kernel_rfl)) ?_
      refine qa 11 35 (tb 15 3839) (any_of HT_.out (by kernel_rfl)) ?_
      refine kd 8 32 (tb 15 4095) (take_ofW HT_.out HW_.out (by kernel_rfl)) hHeld ?_
      refine kd 12 36 (tb 15 8191) (take_ofW HT_.out HW_.out (by kernel_rfl)) hHeld ?_
      refine one_ (i := 13) (N := some 37) (tb 15 16383) rfl rfl (one_of HT_.out (by kernel_rfl)) (by decide) (fun K hK => ?_)
      refine goes_ Try.func69 (by kernel_rfl) rfl #[.agg #[.int .u64 ((rd_T85 aA (q0_)).f0), .int .i64 ((rd_T85 aA (q0_)).f1)], .agg #[.int .u64 ((rd_T85 aA aB).f0), .int .i64 ((rd_T85 aA aB).f1)]] (by rfl) rfl rfl (by (try simp only [List.map_toArray, List.map_cons, List.map_nil]); first | done | (simp only [hji4]; rfl) | rfl | (simp only [List.length_drop, List.length_take]; rfl)) ?_
      with_reducible refine (alarm_Less.calls ((rd_T85 aA (q0_)).f0) ((rd_T85 aA (q0_)).f1) ((rd_T85 aA aB).f0) ((rd_T85 aA aB).f1) false _ A8.out).mono ?_
      rintro e e3 ⟨rfl, hb⟩
      have a6 := (hb.cell (World.block_lt_of_cell? _ _ (hHeld.1))).trans (hHeld.1)
      have a7 := (hb.cell (World.block_lt_of_cell? _ _ (hHeld.2.1))).trans (hHeld.2.1)
      have a8 := (hb.cell (World.block_lt_of_cell? _ _ (hHeld.2.2.1))).trans (hHeld.2.2.1)
      have a9 := (hb.cell (World.block_lt_of_cell? _ _ (hHeld.2.2.2))).trans (hHeld.2.2.2)
      refine ⟨_, rfl, ?_⟩
      replace HO_0 := rb HO_0 hb
      replace HK := ak (Kept.below (S := (fun k_ => a4 k_)) (by repeat (first | (with_reducible first | exact HK.out | apply Kept.alloc | apply Kept.drewN | apply Kept.drew) | exact HK.out)) hb)
      replace HB := ak (below_step (pB HB.out) hb)
      (try clear hb)
      (try clear hb2)
      (try clear hk)
      (try clear hi)
      refine hK.out _ _ ⟨a6, a7, a8, a9⟩ (fun hHeld => ?_)
      clear hK K
      refine norm_ (a' := ?_) ?_ ?_
      rotate_left
      ·show Act.put _ (some 37) _ = _
       simp only [Act.put, List.setIfInBounds_toArray, List.set_cons_zero, List.set_cons_succ, i64_w, i32_w]
       rfl
      refine qa 14 38 (tb 15 32767) (any_of HT_.out (by kernel_rfl)) ?_
      refine done_ (done_of HT_.out (by kernel_rfl)) ?_
      try go_wp2
      go_meet
      case rel => exact ⟨_, (aB), es, H', ⟨by have := bU.out; first | omega | exact Nat.le_refl _⟩, ⟨pR HO_0.out⟩, ⟨by repeat (first | (with_reducible first | exact HK.out | apply Kept.alloc | apply Kept.drewN | apply Kept.drew) | exact HK.out)⟩, ⟨pB HB.out⟩⟩
    ·rw [if_neg c3] at H
     have a5 : decide (q0_ < (aA.length : Int)) = false := decide_eq_false c3
     clear c3
     (first | rw [a5] | (simp only [i64_w, i32_w]; rw [a5]) | skip)
     have H' := ak H
     clear H
     try go_wp2
     replace HO_0 := ak (Kd.R_drew HO_0.out)
     replace HK := ak (Kept.drew HK.out)
     replace HB := ak (below_drew1 HB.out)
     obtain ⟨eJ, eK, cM⟩ := Kd.R_slice HO_0.out
     (first | subst cM | (injection cM with f1_ f2_ f3_; have bC := f1_.symm; have bD := f3_.symm; clear f1_ f2_ f3_; subst bC; subst bD))
     refine start_ (n := 15) (S := fun w' => True) (ds := []) #[false, false, false, false, false, false, false, false, false, false, false, false, false, false, false] (by kernel_rfl) rfl rfl trivial (fun hHeld => ?_); refine with_tabW alarm_sink.tab11 alarm_sink.bits11 (fun HT_ HW_ => ?_)
     generalize wr.drew = w16 at HO_0 HK HB hHeld ⊢
     refine qa 0 24 (tb 15 1) (any_of HT_.out (by kernel_rfl)) ?_
     refine qa 1 25 (tb 15 3) (any_of HT_.out (by kernel_rfl)) ?_
     refine qa 2 26 (tb 15 7) (any_of HT_.out (by kernel_rfl)) ?_
     refine qa 3 27 (tb 15 15) (any_of HT_.out (by kernel_rfl)) ?_
     refine qa 4 28 (tb 15 31) (any_of HT_.out (by kernel_rfl)) ?_
     refine qb 5 29 (tb 15 63) (any_of HT_.out (by kernel_rfl)) ?_
     refine qb 6 30 (tb 15 127) (any_of HT_.out (by kernel_rfl)) ?_
     refine qb 7 31 (tb 15 255) (any_of HT_.out (by kernel_rfl)) ?_
     refine qb 8 32 (tb 15 511) (any_of HT_.out (by kernel_rfl)) ?_
     refine qb 9 33 (tb 15 1023) (any_of HT_.out (by kernel_rfl)) ?_
     refine qb 10 34 (tb 15 2047) (any_of HT_.out (by kernel_rfl)) ?_
     refine qb 11 35 (tb 15 4095) (any_of HT_.out (by kernel_rfl)) ?_
     refine qb 12 36 (tb 15 8191) (any_of HT_.out (by kernel_rfl)) ?_
     refine qb 13 37 (tb 15 16383) (any_of HT_.out (by kernel_rfl)) ?_
     refine qa 14 38 (tb 15 32767) (any_of HT_.out (by kernel_rfl)) ?_
     refine done_ (done_of HT_.out (by kernel_rfl)) ?_
     try go_wp2
     go_meet
     case rel => exact ⟨_, (aB), es, H', ⟨by have := bU.out; first | omega | exact Nat.le_refl _⟩, ⟨pR HO_0.out⟩, ⟨by repeat (first | (with_reducible first | exact HK.out | apply Kept.alloc | apply Kept.drewN | apply Kept.drew) | exact HK.out)⟩, ⟨pB HB.out⟩⟩
   case rest =>
    clear dQ
    try clear p2 c3 a5 p3 q3 hx3 c5 cH c6 cI p6 c7 cJ c9 aG aH aI aJ aR aT aS aU
    obtain ⟨kq, aD, rfl, HA, cN, HO_0, HK, HB⟩ := hcut
    cases kq with
    | zero => exact absurd HA.out (by simp [alarm_sink.j1])
    | succ kj1 =>
     have H := HA.out
     clear HA
     simp only [alarm_sink.j1] at H
     rw [← dV.out] at H
     have b1 := ak H
     clear H
     go_wp2
     rw [rounds_succ]
     go_upto_block 5 with (fail)
     go_cut [3] (fun v3 wc => ∃ (kq : Nat) (aC : Int), v3 = .int .i64 aC ∧ Aside0 (alarm_sink.j2 kq aA aB aC = some r) ∧ Aside0 (kq ≤ kj1) ∧ Aside0 (Kd.R k85 85 wc w0.heap.size (fun k_ => (a4 k_ ∨ w.heap.size ≤ k_)) aO aA) ∧ Aside0 (Kept w wc (fun k_ => a4 k_)) ∧ Aside0 (Below w0.heap.size w0 wc))
     case first =>
      have H := b1.out
      clear b1
      by_cases b2 : q1_ < (aA.length : Int)
      ·rw [if_pos b2] at H
       have aQ : decide (q1_ < (aA.length : Int)) = true := decide_eq_true b2
       clear b2
       (first | rw [aQ] | (simp only [i64_w, i32_w]; rw [aQ]) | skip)
       replace H : (if 0 ≤ (q1_) then (if 0 ≤ aD then (if aD < (aA.length : Int) then ((alarm_Less.f ((rd_T85 aA (q1_)).f0) ((rd_T85 aA (q1_)).f1) ((rd_T85 aA aD).f0) ((rd_T85 aA aD).f1)).bind fun bP => (if bP = true then (alarm_sink.j2 kj1 aA aB q1_) else (alarm_sink.j2 kj1 aA aB aD))) else (none)) else (none)) else (none)) = some r := H
       have cO : 0 ≤ (q1_) := Decidable.byContradiction fun q => by rw [if_neg q] at H; exact absurd H (by simp)
       rw [if_pos cO] at H
       have cP : decide (0 ≤ (q1_)) = true := decide_eq_true cO
       clear cO
       have cQ : 0 ≤ aD := Decidable.byContradiction fun q => by rw [if_neg q] at H; exact absurd H (by simp)
       rw [if_pos cQ] at H
       have cR : decide (0 ≤ aD) = true := decide_eq_true cQ
       clear cQ
       have cS : aD < (aA.length : Int) := Decidable.byContradiction fun q => by rw [if_neg q] at H; exact absurd H (by simp)
       rw [if_pos cS] at H
       have cT : decide (aD < (aA.length : Int)) = true := decide_eq_true cS
       clear cS
       replace H := Option.bind_eq_some_iff.mp H
       obtain ⟨bP, cU, H⟩ := H
       try dsimp only at H
       have d6 := ak cU
       clear cU
       by_cases cV : bP = true
       ·subst cV
        rw [if_pos rfl] at H
        have H' := ak H
        clear H
        try go_wp2
        replace HO_0 := ak (Kd.R_drew HO_0.out)
        replace HK := ak (Kept.drew HK.out)
        replace HB := ak (below_drew1 HB.out)
        obtain ⟨eL, eM, cW⟩ := Kd.R_slice HO_0.out
        (first | subst cW | (injection cW with f1_ f2_ f3_; have bC := f1_.symm; have bD := f3_.symm; clear f1_ f2_ f3_; subst bC; subst bD))
        have a0 : 0 ≤ ((q1_) : Int) := od
        have a1 : (q1_) < (aA.length : Int) := od
        obtain ⟨aF, b3, aK, aL⟩ := at_T85 (Kd.R_reads' HO_0.out).2.2 (q1_) a0 a1
        cases b3
        replace a0 := eq_true a0
        replace a1 := eq_true a1
        have a2 : 0 ≤ (aD : Int) := od
        have a3 : aD < (aA.length : Int) := od
        obtain ⟨bF, b4, aM, aN⟩ := at_T85 (Kd.R_reads' HO_0.out).2.2 aD a2 a3
        obtain rfl : aF = bF := (by injection b4)
        replace a2 := eq_true a2
        replace a3 := eq_true a3
        refine start_ (n := 15) (S := fun w' => w'.cell? (aF.add (((q1_)).toNat * 2)) = some (.int .u64 ((rd_T85 aA (q1_)).f0)) ∧ w'.cell? ⟨(aF.add (((q1_)).toNat * 2)).block, (aF.add (((q1_)).toNat * 2)).off + 1, none⟩ = some (.int .i64 ((rd_T85 aA (q1_)).f1)) ∧ w'.cell? (aF.add ((aD).toNat * 2)) = some (.int .u64 ((rd_T85 aA aD).f0)) ∧ w'.cell? ⟨(aF.add ((aD).toNat * 2)).block, (aF.add ((aD).toNat * 2)).off + 1, none⟩ = some (.int .i64 ((rd_T85 aA aD).f1))) (ds := []) #[false, false, false, false, false, false, false, false, false, false, false, false, false, false, false] (by kernel_rfl) rfl rfl ⟨aK, aL, aM, aN⟩ (fun hHeld => ?_); refine with_tabW alarm_sink.tab11 alarm_sink.bits11 (fun HT_ HW_ => ?_)
        generalize wc.drew = w26 at HO_0 HK HB aK aL aM aN hHeld ⊢
        refine qa 0 24 (tb 15 1) (any_of HT_.out (by kernel_rfl)) ?_
        refine qa 1 25 (tb 15 3) (any_of HT_.out (by kernel_rfl)) ?_
        refine qa 2 26 (tb 15 7) (any_of HT_.out (by kernel_rfl)) ?_
        refine qa 3 27 (tb 15 15) (any_of HT_.out (by kernel_rfl)) ?_
        refine qa 4 28 (tb 15 31) (any_of HT_.out (by kernel_rfl)) ?_
        refine qa 5 29 (tb 15 63) (any_of HT_.out (by kernel_rfl)) ?_
        refine qa 6 30 (tb 15 127) (any_of HT_.out (by kernel_rfl)) ?_
        refine qa 7 31 (tb 15 255) (any_of HT_.out (by kernel_rfl)) ?_
        refine qa 9 33 (tb 15 767) (any_of HT_.out (by kernel_rfl)) ?_
        refine qa 10 34 (tb 15 1791) (any_of HT_.out (by kernel_rfl)) ?_
        refine qa 11 35 (tb 15 3839) (any_of HT_.out (by kernel_rfl)) ?_
        refine kd 8 32 (tb 15 4095) (take_ofW HT_.out HW_.out (by kernel_rfl)) hHeld ?_
        refine kd 12 36 (tb 15 8191) (take_ofW HT_.out HW_.out (by kernel_rfl)) hHeld ?_
        refine one_ (i := 13) (N := some 37) (tb 15 16383) rfl rfl (one_of HT_.out (by kernel_rfl)) (by decide) (fun K hK => ?_)
        refine goes_ Try.func69 (by kernel_rfl) rfl #[.agg #[.int .u64 ((rd_T85 aA (q1_)).f0), .int .i64 ((rd_T85 aA (q1_)).f1)], .agg #[.int .u64 ((rd_T85 aA aD).f0), .int .i64 ((rd_T85 aA aD).f1)]] (by rfl) rfl rfl (by (try simp only [List.map_toArray, List.map_cons, List.map_nil]); first | done | (simp only [hji20]; rfl) | rfl | (simp only [List.length_drop, List.length_take]; rfl)) ?_
        with_reducible refine (alarm_Less.calls ((rd_T85 aA (q1_)).f0) ((rd_T85 aA (q1_)).f1) ((rd_T85 aA aD).f0) ((rd_T85 aA aD).f1) true _ d6.out).mono ?_
        rintro e e4 ⟨rfl, hb⟩
        have a6 := (hb.cell (World.block_lt_of_cell? _ _ (hHeld.1))).trans (hHeld.1)
        have a7 := (hb.cell (World.block_lt_of_cell? _ _ (hHeld.2.1))).trans (hHeld.2.1)
        have a8 := (hb.cell (World.block_lt_of_cell? _ _ (hHeld.2.2.1))).trans (hHeld.2.2.1)
        have a9 := (hb.cell (World.block_lt_of_cell? _ _ (hHeld.2.2.2))).trans (hHeld.2.2.2)
        refine ⟨_, rfl, ?_⟩
        replace HO_0 := rb HO_0 hb
        replace HK := ak (Kept.below (S := (fun k_ => a4 k_)) (by repeat (first | (with_reducible first | exact HK.out | apply Kept.alloc | apply Kept.drewN | apply Kept.drew) | exact HK.out)) hb)
        replace HB := ak (below_step (pB HB.out) hb)
        (try clear hb)
        (try clear hb2)
        (try clear hk)
        (try clear hi)
        refine hK.out _ _ ⟨a6, a7, a8, a9⟩ (fun hHeld => ?_)
        clear hK K
        refine norm_ (a' := ?_) ?_ ?_
        rotate_left
        ·show Act.put _ (some 37) _ = _
         simp only [Act.put, List.setIfInBounds_toArray, List.set_cons_zero, List.set_cons_succ, i64_w, i32_w]
         rfl
        refine qa 14 38 (tb 15 32767) (any_of HT_.out (by kernel_rfl)) ?_
        refine done_ (done_of HT_.out (by kernel_rfl)) ?_
        try go_wp2
        go_meet
        case rel => exact ⟨_, (q1_), (by first | rfl | (simp; done) | (simp only [← hji20] <;> (first | rfl | simp)) | (simp [*]; done)), H', ⟨by have := bU.out; have := cN.out; first | omega | exact Nat.le_refl _⟩, ⟨pR HO_0.out⟩, ⟨by repeat (first | (with_reducible first | exact HK.out | apply Kept.alloc | apply Kept.drewN | apply Kept.drew) | exact HK.out)⟩, ⟨pB HB.out⟩⟩
       ·replace cV := Bool.eq_false_iff.mpr cV
        subst cV
        rw [if_neg (show ¬ (false = true) by decide)] at H
        have H' := ak H
        clear H
        try go_wp2
        replace HO_0 := ak (Kd.R_drew HO_0.out)
        replace HK := ak (Kept.drew HK.out)
        replace HB := ak (below_drew1 HB.out)
        obtain ⟨eN, eO, cX⟩ := Kd.R_slice HO_0.out
        (first | subst cX | (injection cX with f1_ f2_ f3_; have bC := f1_.symm; have bD := f3_.symm; clear f1_ f2_ f3_; subst bC; subst bD))
        have a0 : 0 ≤ ((q1_) : Int) := od
        have a1 : (q1_) < (aA.length : Int) := od
        obtain ⟨aF, b3, aK, aL⟩ := at_T85 (Kd.R_reads' HO_0.out).2.2 (q1_) a0 a1
        cases b3
        replace a0 := eq_true a0
        replace a1 := eq_true a1
        have a2 : 0 ≤ (aD : Int) := od
        have a3 : aD < (aA.length : Int) := od
        obtain ⟨bF, b4, aM, aN⟩ := at_T85 (Kd.R_reads' HO_0.out).2.2 aD a2 a3
        obtain rfl : aF = bF := (by injection b4)
        replace a2 := eq_true a2
        replace a3 := eq_true a3
        refine start_ (n := 15) (S := fun w' => w'.cell? (aF.add (((q1_)).toNat * 2)) = some (.int .u64 ((rd_T85 aA (q1_)).f0)) ∧ w'.cell? ⟨(aF.add (((q1_)).toNat * 2)).block, (aF.add (((q1_)).toNat * 2)).off + 1, none⟩ = some (.int .i64 ((rd_T85 aA (q1_)).f1)) ∧ w'.cell? (aF.add ((aD).toNat * 2)) = some (.int .u64 ((rd_T85 aA aD).f0)) ∧ w'.cell? ⟨(aF.add ((aD).toNat * 2)).block, (aF.add ((aD).toNat * 2)).off + 1, none⟩ = some (.int .i64 ((rd_T85 aA aD).f1))) (ds := []) #[false, false, false, false, false, false, false, false, false, false, false, false, false, false, false] (by kernel_rfl) rfl rfl ⟨aK, aL, aM, aN⟩ (fun hHeld => ?_); refine with_tabW alarm_sink.tab11 alarm_sink.bits11 (fun HT_ HW_ => ?_)
        generalize wc.drew = w29 at HO_0 HK HB aK aL aM aN hHeld ⊢
        refine qa 0 24 (tb 15 1) (any_of HT_.out (by kernel_rfl)) ?_
        refine qa 1 25 (tb 15 3) (any_of HT_.out (by kernel_rfl)) ?_
        refine qa 2 26 (tb 15 7) (any_of HT_.out (by kernel_rfl)) ?_
        refine qa 3 27 (tb 15 15) (any_of HT_.out (by kernel_rfl)) ?_
        refine qa 4 28 (tb 15 31) (any_of HT_.out (by kernel_rfl)) ?_
        refine qa 5 29 (tb 15 63) (any_of HT_.out (by kernel_rfl)) ?_
        refine qa 6 30 (tb 15 127) (any_of HT_.out (by kernel_rfl)) ?_
        refine qa 7 31 (tb 15 255) (any_of HT_.out (by kernel_rfl)) ?_
        refine qa 9 33 (tb 15 767) (any_of HT_.out (by kernel_rfl)) ?_
        refine qa 10 34 (tb 15 1791) (any_of HT_.out (by kernel_rfl)) ?_
        refine qa 11 35 (tb 15 3839) (any_of HT_.out (by kernel_rfl)) ?_
        refine kd 8 32 (tb 15 4095) (take_ofW HT_.out HW_.out (by kernel_rfl)) hHeld ?_
        refine kd 12 36 (tb 15 8191) (take_ofW HT_.out HW_.out (by kernel_rfl)) hHeld ?_
        refine one_ (i := 13) (N := some 37) (tb 15 16383) rfl rfl (one_of HT_.out (by kernel_rfl)) (by decide) (fun K hK => ?_)
        refine goes_ Try.func69 (by kernel_rfl) rfl #[.agg #[.int .u64 ((rd_T85 aA (q1_)).f0), .int .i64 ((rd_T85 aA (q1_)).f1)], .agg #[.int .u64 ((rd_T85 aA aD).f0), .int .i64 ((rd_T85 aA aD).f1)]] (by rfl) rfl rfl (by (try simp only [List.map_toArray, List.map_cons, List.map_nil]); first | done | (simp only [hji20]; rfl) | rfl | (simp only [List.length_drop, List.length_take]; rfl)) ?_
        with_reducible refine (alarm_Less.calls ((rd_T85 aA (q1_)).f0) ((rd_T85 aA (q1_)).f1) ((rd_T85 aA aD).f0) ((rd_T85 aA aD).f1) false _ d6.out).mono ?_
        rintro e e5 ⟨rfl, hb⟩
        have a6 := (hb.cell (World.block_lt_of_cell? _ _ (hHeld.1))).trans (hHeld.1)
        have a7 := (hb.cell (World.block_lt_of_cell? _ _ (hHeld.2.1))).trans (hHeld.2.1)
        have a8 := (hb.cell (World.block_lt_of_cell? _ _ (hHeld.2.2.1))).trans (hHeld.2.2.1)
        have a9 := (hb.cell (World.block_lt_of_cell? _ _ (hHeld.2.2.2))).trans (hHeld.2.2.2)
        refine ⟨_, rfl, ?_⟩
        replace HO_0 := rb HO_0 hb
        replace HK := ak (Kept.below (S := (fun k_ => a4 k_)) (by repeat (first | (with_reducible first | exact HK.out | apply Kept.alloc | apply Kept.drewN | apply Kept.drew) | exact HK.out)) hb)
        replace HB := ak (below_step (pB HB.out) hb)
        (try clear hb)
        (try clear hb2)
        (try clear hk)
        (try clear hi)
        refine hK.out _ _ ⟨a6, a7, a8, a9⟩ (fun hHeld => ?_)
        clear hK K
        refine norm_ (a' := ?_) ?_ ?_
        rotate_left
        ·show Act.put _ (some 37) _ = _
         simp only [Act.put, List.setIfInBounds_toArray, List.set_cons_zero, List.set_cons_succ, i64_w, i32_w]
         rfl
        refine qa 14 38 (tb 15 32767) (any_of HT_.out (by kernel_rfl)) ?_
        refine done_ (done_of HT_.out (by kernel_rfl)) ?_
        try go_wp2
        go_meet
        case rel => exact ⟨_, (aD), es, H', ⟨by have := bU.out; have := cN.out; first | omega | exact Nat.le_refl _⟩, ⟨pR HO_0.out⟩, ⟨by repeat (first | (with_reducible first | exact HK.out | apply Kept.alloc | apply Kept.drewN | apply Kept.drew) | exact HK.out)⟩, ⟨pB HB.out⟩⟩
      ·rw [if_neg b2] at H
       have aQ : decide (q1_ < (aA.length : Int)) = false := decide_eq_false b2
       clear b2
       (first | rw [aQ] | (simp only [i64_w, i32_w]; rw [aQ]) | skip)
       have H' := ak H
       clear H
       try go_wp2
       replace HO_0 := ak (Kd.R_drew HO_0.out)
       replace HK := ak (Kept.drew HK.out)
       replace HB := ak (below_drew1 HB.out)
       obtain ⟨eP, eQ, cY⟩ := Kd.R_slice HO_0.out
       (first | subst cY | (injection cY with f1_ f2_ f3_; have bC := f1_.symm; have bD := f3_.symm; clear f1_ f2_ f3_; subst bC; subst bD))
       refine start_ (n := 15) (S := fun w' => True) (ds := []) #[false, false, false, false, false, false, false, false, false, false, false, false, false, false, false] (by kernel_rfl) rfl rfl trivial (fun hHeld => ?_); refine with_tabW alarm_sink.tab11 alarm_sink.bits11 (fun HT_ HW_ => ?_)
       generalize wc.drew = w32 at HO_0 HK HB hHeld ⊢
       refine qa 0 24 (tb 15 1) (any_of HT_.out (by kernel_rfl)) ?_
       refine qa 1 25 (tb 15 3) (any_of HT_.out (by kernel_rfl)) ?_
       refine qa 2 26 (tb 15 7) (any_of HT_.out (by kernel_rfl)) ?_
       refine qa 3 27 (tb 15 15) (any_of HT_.out (by kernel_rfl)) ?_
       refine qa 4 28 (tb 15 31) (any_of HT_.out (by kernel_rfl)) ?_
       refine qb 5 29 (tb 15 63) (any_of HT_.out (by kernel_rfl)) ?_
       refine qb 6 30 (tb 15 127) (any_of HT_.out (by kernel_rfl)) ?_
       refine qb 7 31 (tb 15 255) (any_of HT_.out (by kernel_rfl)) ?_
       refine qb 8 32 (tb 15 511) (any_of HT_.out (by kernel_rfl)) ?_
       refine qb 9 33 (tb 15 1023) (any_of HT_.out (by kernel_rfl)) ?_
       refine qb 10 34 (tb 15 2047) (any_of HT_.out (by kernel_rfl)) ?_
       refine qb 11 35 (tb 15 4095) (any_of HT_.out (by kernel_rfl)) ?_
       refine qb 12 36 (tb 15 8191) (any_of HT_.out (by kernel_rfl)) ?_
       refine qb 13 37 (tb 15 16383) (any_of HT_.out (by kernel_rfl)) ?_
       refine qa 14 38 (tb 15 32767) (any_of HT_.out (by kernel_rfl)) ?_
       refine done_ (done_of HT_.out (by kernel_rfl)) ?_
       try go_wp2
       go_meet
       case rel => exact ⟨_, (aD), es, H', ⟨by have := bU.out; have := cN.out; first | omega | exact Nat.le_refl _⟩, ⟨pR HO_0.out⟩, ⟨by repeat (first | (with_reducible first | exact HK.out | apply Kept.alloc | apply Kept.drewN | apply Kept.drew) | exact HK.out)⟩, ⟨pB HB.out⟩⟩
     case rest =>
      clear b1
      try clear c1 c2 p2 c3 a5 p3 q3 hx3 c5 cH c6 cI p6 c7 cJ c9 b2 aQ cO cP cQ cR cS cT cV aG aH aI aJ aK aL aM aN p2 p3 aR aT a0 a2 p6 q3 aS aU a1 a3
      obtain ⟨kq, aC, rfl, HA, cZ, HO_0, HK, HB⟩ := hcut
      cases kq with
      | zero => exact absurd HA.out (by simp [alarm_sink.j2])
      | succ kj17 =>
       have H := HA.out
       clear HA
       simp only [alarm_sink.j2] at H
       by_cases b5 : aC = aB
       ·rw [if_pos b5] at H
        have c0 : (aC == aB) = true := beq_iff_eq.mpr b5
        have c4 : (aC != aB) = false := bne_eq_false_iff_eq.mpr b5
        clear b5
        obtain rfl := Option.some.inj H
        go_wp2
        rw [rounds_succ]
        go_wp2
        (try rw [Exit.noGoto_normal]); first | go_end0 | ((try simp only [Exit.inBlock, Exit.then]); refine bodyPost_ret (results_none rfl _ _ _) rfl ?_)
        exact ⟨by first | rfl | (simp [errW_none, errW_some] <;> rfl) | (simp [*, errW_none, errW_some] <;> rfl), pR HO_0.out, pB HB.out, by repeat (first | (with_reducible first | exact HK.out | apply Kept.alloc | apply Kept.drewN | apply Kept.drew) | exact HK.out)⟩
       ·rw [if_neg b5] at H
        have c0 : (aC == aB) = false := beq_eq_false_iff_ne.mpr b5
        have c4 : (aC != aB) = true := bne_iff_ne.mpr b5
        have dR : 0 ≤ aC := Decidable.byContradiction fun q => by rw [if_neg q] at H; exact absurd H (by simp)
        rw [if_pos dR] at H
        have d7 : decide (0 ≤ aC) = true := decide_eq_true dR
        clear dR
        have dS : aC < (aA.length : Int) := Decidable.byContradiction fun q => by rw [if_neg q] at H; exact absurd H (by simp)
        rw [if_pos dS] at H
        have d8 : decide (aC < (aA.length : Int)) = true := decide_eq_true dS
        clear dS
        have dT : 0 ≤ aB := Decidable.byContradiction fun q => by rw [if_neg q] at H; exact absurd H (by simp)
        rw [if_pos dT] at H
        have d9 : decide (0 ≤ aB) = true := decide_eq_true dT
        clear dT
        have dU : aB < (aA.length : Int) := Decidable.byContradiction fun q => by rw [if_neg q] at H; exact absurd H (by simp)
        rw [if_pos dU] at H
        have eA : decide (aB < (aA.length : Int)) = true := decide_eq_true dU
        clear dU
        obtain ⟨y364, hy364⟩ : ∃ y_ : List (S85), y_ = (aA.set (aB : Int).toNat (⟨(rd_T85 aA aC).f0, (rd_T85 aA aC).f1⟩ : S85)) := ⟨_, rfl⟩
        replace H : (alarm_sink.l0 kj17 (y364.set (aC : Int).toNat (⟨(rd_T85 aA aB).f0, (rd_T85 aA aB).f1⟩ : S85)) aC) = some r := by first | (rw [hy364]; with_reducible exact H) | (have b6 := (Option.bind_some _ _).symm.trans H; rw [hy364]; with_reducible exact b6) | (have b6 := (Option.bind_some _ _).symm.trans H; with_reducible exact b6) | with_reducible exact H | (rw [hy364]; exact H) | exact H
        have c8 := ak hy364
        clear hy364
        obtain ⟨y365, hy365⟩ : ∃ y_ : List (S85), y_ = (y364.set (aC : Int).toNat (⟨(rd_T85 aA aB).f0, (rd_T85 aA aB).f1⟩ : S85)) := ⟨_, rfl⟩
        replace H : (alarm_sink.l0 kj17 y365 aC) = some r := by first | (rw [hy365]; with_reducible exact H) | (have b6 := (Option.bind_some _ _).symm.trans H; rw [hy365]; with_reducible exact b6) | (have b6 := (Option.bind_some _ _).symm.trans H; with_reducible exact b6) | with_reducible exact H | (rw [hy365]; exact H) | exact H
        have dA := ak hy365
        clear hy365
        have H' := ak H
        clear H
        go_wp2
        rw [rounds_succ]
        go_wp2
        replace HO_0 := ak (Kd.R_drew HO_0.out)
        replace HK := ak (Kept.drew HK.out)
        replace HB := ak (below_drew1 HB.out)
        obtain ⟨eR, eS, dB⟩ := Kd.R_slice HO_0.out
        (first | subst dB | (injection dB with f1_ f2_ f3_; have bC := f1_.symm; have bD := f3_.symm; clear f1_ f2_ f3_; subst bC; subst bD))
        have b7 : 0 ≤ (aC : Int) := od
        have b8 : aC < (aA.length : Int) := od
        obtain ⟨dC, dW, aV, aW⟩ := at_T85 (Kd.R_reads' HO_0.out).2.2 aC b7 b8
        cases dW
        replace b7 := eq_true b7
        replace b8 := eq_true b8
        have b9 : 0 ≤ (aB : Int) := od
        have cA : aB < (aA.length : Int) := od
        obtain ⟨dD, dX, aX, aY⟩ := at_T85 (Kd.R_reads' HO_0.out).2.2 aB b9 cA
        obtain rfl : dC = dD := (by injection dX)
        replace b9 := eq_true b9
        replace cA := eq_true cA
        have dY : 0 ≤ (aB : Int) := od
        have dZ : (aB : Int) < ((aA.length : Int) : Int) := od
        obtain ⟨aP, eT, dE, dF, d0, eU, dG⟩ := Kd.R_form HO_0.out (by omega)
        (first | cases dE | (injection dE with ea_ en_ ec_; (first | subst ea_ | (injection ea_ with ea_; subst ea_)); subst ec_; clear en_))
        have bQ := ak dF
        have d1 := ak dG
        clear dF d0 dG
        have aZ := ak (show (a4 aP ∨ w.heap.size ≤ aP) from (HO_0.out.1 _ rfl))
        (first | simp only [add_plain] at aV | skip)
        (first | simp only [add_plain] at aW | skip)
        (first | simp only [add_plain] at aX | skip)
        (first | simp only [add_plain] at aY | skip)
        obtain ⟨eV, dH, dI, bG, bH⟩ := Kd.R_elem HO_0.out z85 (aB : Int) dY dZ
        obtain rfl := k85_openM dI
        have cB : World.cell? _ ⟨aP, (aB : Int).toNat * 2, none⟩ = some (.int .u64 ((rd_T85 aA aB).f0)) := bG 0 _ rfl
        have cC : World.cell? _ ⟨aP, (aB : Int).toNat * 2 + 1, none⟩ = some (.int .i64 ((rd_T85 aA aB).f1)) := bG 1 _ rfl
        have cD : World.frozen? _ ⟨aP, (aB : Int).toNat * 2, none⟩ = false := bH 0
        have cE : World.frozen? _ ⟨aP, (aB : Int).toNat * 2 + 1, none⟩ = false := bH 1
        clear dH bG bH dI
        replace dY := eq_true dY
        replace dZ := eq_true dZ
        obtain ⟨eW, bV, dJ, bW, dK⟩ := Kd.R_elem HO_0.out z85 (aB : Int) (od) (by have h_ : (aB : Int) < ((aA.length : Int) : Int) := od; first | exact h_ | (have e_ := (Kd.R_reads' HO_0.out).1; omega) | simpa using h_)
        obtain rfl := k85_openM dJ
        have cF := (Kd.R_seg HO_0.out (aB : Int) (od) (by have h_ : (aB : Int) < ((aA.length : Int) : Int) := od; first | exact h_ | (have e_ := (Kd.R_reads' HO_0.out).1; omega) | simpa using h_) (seg := [.int .u64 ((rd_T85 aA aC).f0), .int .i64 ((rd_T85 aA aC).f1)]) (j := 0) bV bW (show 2 ≤ 2 from by decide) (x' := (⟨(rd_T85 aA aC).f0, (rd_T85 aA aC).f1⟩ : S85)) (k85_mkM _ _ _ (⟨(rd_T85 aA aC).f0, (rd_T85 aA aC).f1⟩ : S85) ) (fun _ hk => hk)).1
        rw [← c8.out] at cF
        have bR := ak cF
        clear bV bW dK dJ cF
        have d2 : 0 ≤ (aC : Int) := od
        have d3 : (aC : Int) < ((aA.length : Int) : Int) := od
        obtain ⟨eX, dL, dM, bI, bJ⟩ := Kd.R_elem bR.out z85 (aC : Int) d2 d3
        obtain rfl := k85_openM dM
        have bK : World.cell? _ ⟨aP, (aC : Int).toNat * 2, none⟩ = some (.int .u64 ((rd_T85 y364 aC).f0)) := bI 0 _ rfl
        have bL : World.cell? _ ⟨aP, (aC : Int).toNat * 2 + 1, none⟩ = some (.int .i64 ((rd_T85 y364 aC).f1)) := bI 1 _ rfl
        have bM : World.frozen? _ ⟨aP, (aC : Int).toNat * 2, none⟩ = false := bJ 0
        have bN : World.frozen? _ ⟨aP, (aC : Int).toNat * 2 + 1, none⟩ = false := bJ 1
        clear dL bI bJ dM
        replace d2 := eq_true d2
        replace d3 := eq_true d3
        obtain ⟨eY, bX, dN, bY, dO⟩ := Kd.R_elem bR.out z85 (aC : Int) (od) (by have h_ : (aC : Int) < ((aA.length : Int) : Int) := od; first | exact h_ | (have e_ := (Kd.R_reads' HO_0.out).1; omega) | simpa using h_)
        obtain rfl := k85_openM dN
        have cG := (Kd.R_seg bR.out (aC : Int) (od) (by have h_ : (aC : Int) < ((aA.length : Int) : Int) := od; first | exact h_ | (have e_ := (Kd.R_reads' HO_0.out).1; omega) | simpa using h_) (seg := [.int .u64 ((rd_T85 aA aB).f0), .int .i64 ((rd_T85 aA aB).f1)]) (j := 0) bX bY (show 2 ≤ 2 from by decide) (x' := (⟨(rd_T85 aA aB).f0, (rd_T85 aA aB).f1⟩ : S85)) (k85_mkM _ _ _ (⟨(rd_T85 aA aB).f0, (rd_T85 aA aB).f1⟩ : S85) ) (fun _ hk => hk)).1
        rw [← dA.out] at cG
        have dP := ak cG
        clear bX bY dO dN cG
        refine start_ (n := 16) (S := fun w' => w'.cell? ⟨aP, ((aC).toNat * 2), none⟩ = some (.int .u64 ((rd_T85 aA aC).f0)) ∧ w'.cell? ⟨aP, ((aC).toNat * 2) + 1, none⟩ = some (.int .i64 ((rd_T85 aA aC).f1)) ∧ w'.cell? ⟨aP, ((aB).toNat * 2), none⟩ = some (.int .u64 ((rd_T85 aA aB).f0)) ∧ w'.cell? ⟨aP, ((aB).toNat * 2) + 1, none⟩ = some (.int .i64 ((rd_T85 aA aB).f1))) (ds := [13, 15]) #[false, false, false, false, false, false, false, false, false, false, false, false, false, false, false, false] (by kernel_rfl) rfl rfl ⟨aV, aW, aX, aY⟩ (fun hHeld => ?_); refine with_tabW alarm_sink.tab15 alarm_sink.bits15 (fun HT_ HW_ => ?_)
        generalize wc.drew = w41 at HO_0 HK HB d1 bR dP cD cE bM bN aV aW aX aY cB cC bK bL hHeld ⊢
        have bS := bM; (try simp only [World.setCells, show k85.sz = 2 from rfl, Nat.add_zero, World.frozen?_setCell] at bS)
        have bT := bN; (try simp only [World.setCells, show k85.sz = 2 from rfl, Nat.add_zero, World.frozen?_setCell] at bT)
        have bA := bK; (try simp only [World.setCells, show k85.sz = 2 from rfl, Nat.add_zero] at bA); (repeat rw [World.cell?_setCell_other (by intro h_; injection h_ with _ h2_ _; omega)] at bA)
        have bB := bL; (try simp only [World.setCells, show k85.sz = 2 from rfl, Nat.add_zero] at bB); (repeat rw [World.cell?_setCell_other (by intro h_; injection h_ with _ h2_ _; omega)] at bB)
        refine qa 0 44 (tb 16 1) (any_of HT_.out (by kernel_rfl)) ?_
        refine qa 1 45 (tb 16 3) (any_of HT_.out (by kernel_rfl)) ?_
        refine qa 2 46 (tb 16 7) (any_of HT_.out (by kernel_rfl)) ?_
        refine qa 3 47 (tb 16 15) (any_of HT_.out (by kernel_rfl)) ?_
        refine qa 4 48 (tb 16 31) (any_of HT_.out (by kernel_rfl)) ?_
        refine qa 5 49 (tb 16 63) (any_of HT_.out (by kernel_rfl)) ?_
        refine qa 6 50 (tb 16 127) (any_of HT_.out (by kernel_rfl)) ?_
        refine qa 8 52 (tb 16 383) (any_of HT_.out (by kernel_rfl)) ?_
        refine qa 9 53 (tb 16 895) (any_of HT_.out (by kernel_rfl)) ?_
        refine qa 10 54 (tb 16 1919) (any_of HT_.out (by kernel_rfl)) ?_
        refine kd 7 51 (tb 16 2047) (take_ofW HT_.out HW_.out (by kernel_rfl)) hHeld ?_
        refine kd 11 55 (tb 16 4095) (take_ofW HT_.out HW_.out (by kernel_rfl)) hHeld ?_
        refine qa 12 56 (tb 16 8191) (any_of HT_.out (by kernel_rfl)) ?_
        refine last_ (i := 13) (N := none) (tb 16 16383) rfl rfl (one_of HT_.out (by kernel_rfl)) (by decide) (fun K hK => ?_)
        refine skip_ (w1 := ?_) (by rfl) rfl ?_ ?_
        rotate_left
        ·go_simp
         rfl
        refine hK.out _ _ ?_
        clear hK K
        refine qa 14 57 (tb 16 32767) (any_of HT_.out (by kernel_rfl)) ?_
        refine last_ (i := 15) (N := none) (tb 16 65535) rfl rfl (one_of HT_.out (by kernel_rfl)) (by decide) (fun K hK => ?_)
        refine skip_ (w1 := ?_) (by rfl) rfl ?_ ?_
        rotate_left
        ·go_simp
         rfl
        refine hK.out _ _ ?_
        clear hK K
        refine done_ (done_of HT_.out (by kernel_rfl)) ?_
        try go_wp2
        go_roundg kj17
        case measure => have := bU.out; have := cN.out; have := cZ.out; omega
        case rel => exact ⟨(y365), (aC), es, H', ⟨by have := bU.out; have := cN.out; have := cZ.out; omega⟩, ⟨dP.out⟩, ⟨by repeat (first | (with_reducible first | exact HK.out | apply Kept.alloc | apply Kept.drewN | apply Kept.drew | refine Kept.setCell ?_ aZ.out _ | refine Kept.setCell ?_ aZ.out _ | refine Kept.setCell ?_ aZ.out _ | refine Kept.setCell ?_ aZ.out _) | exact HK.out)⟩, ⟨ua bQ.out HB.out⟩⟩

end Go.Proofs.Ytnpmjboofmdflaa.PA
