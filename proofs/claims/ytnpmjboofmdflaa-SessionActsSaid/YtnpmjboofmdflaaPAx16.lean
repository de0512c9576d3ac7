-- Made by a program of this workplace out of the translation (wip/tools in the repo). Not trusted: Lean checks it.
import Derived.Test.YtnpmjboofmdflaaPAx0
import Derived.Test.YtnpmjboofmdflaaCb
import Derived.Test.YtnpmjboofmdflaaSq
import Derived.Test.YtnpmjboofmdflaaTq
import Derived.Test.YtnpmjboofmdflaaPAx3
import Derived.Test.YtnpmjboofmdflaaPAx4
import Derived.Test.YtnpmjboofmdflaaPAx13
namespace Go.Proofs.Ytnpmjboofmdflaa.PA
open Go.RowKit Go.Proofs.YtnpmjboofmdflaaW.PrintWords Go.Proofs.YtnpmjboofmdflaaW.PrintLast Go.Proofs.YtnpmjboofmdflaaW.PrintMore Go.Proofs.Ytnpmjboofmdflaa
attribute [local go_sem] max2_int min2_int max_two min_two max_three min_three max_four min_four   -- for this text's walks alone
set_option linter.unusedVariables false
set_option linter.unusedSimpArgs false

/-! ### stanchionref15_Pop: function 67 -/
def stanchionref15_Pop.T10 : Bool × List (List Nat × List Nat) := (true, [([], []), ([0], [0]), ([1], [1]), ([], []), ([3], [3]), ([2, 4], [2, 4]), ([5], [5]), ([6], [6]), ([6], [6]), ([8, 6], [6, 8]), ([9, 6], [6, 9]), ([7, 10, 6], [6, 7, 10]), ([11, 6], [6, 11]), ([6], [6]), ([6], [6]), ([13, 14, 6], [6, 13, 14]), ([15, 6], [6, 15]), ([12, 16, 6, 6], [6, 12, 16]), ([6, 17], [6, 17])])
def stanchionref15_Pop.B10 : List Nat := [0, 1, 3, 0, 8, 31, 63, 127, 127, 383, 895, 2047, 4095, 127, 127, 24703, 57471, 131071, 262143]
theorem stanchionref15_Pop.tab10 : rtab .any (opsOf Try.f67 10) = stanchionref15_Pop.T10 := by kernel_rfl
theorem stanchionref15_Pop.bits10 : waitsOk stanchionref15_Pop.T10.2 stanchionref15_Pop.B10 = true := by kernel_rfl
def stanchionref15_Pop.T12 : Bool × List (List Nat × List Nat) := (true, [([], []), ([0], [0]), ([1], [1]), ([], []), ([3], [3]), ([2, 4], [2, 4]), ([5], [5]), ([6], [6]), ([6], [6]), ([8, 6], [6, 8]), ([9, 6], [6, 9]), ([7, 10, 6], [6, 7, 10]), ([11, 6], [6, 11]), ([6], [6]), ([6], [6]), ([13, 14, 6], [6, 13, 14]), ([15, 6], [6, 15]), ([12, 16, 6, 6], [6, 12, 16]), ([6, 17], [6, 17])])
def stanchionref15_Pop.B12 : List Nat := [0, 1, 3, 0, 8, 31, 63, 127, 127, 383, 895, 2047, 4095, 127, 127, 24703, 57471, 131071, 262143]
theorem stanchionref15_Pop.tab12 : rtab .any (opsOf Try.f67 12) = stanchionref15_Pop.T12 := by kernel_rfl
theorem stanchionref15_Pop.bits12 : waitsOk stanchionref15_Pop.T12.2 stanchionref15_Pop.B12 = true := by kernel_rfl
set_option maxHeartbeats 8000000 in
set_option maxRecDepth 100000 in
theorem stanchionref15_Pop.calls (k : Nat) (dI : Nat → Prop) (A0 : Option Addr) (c0 : Nat) (l0 : List (S85)) (r1 : List (S85)) (r2 : Int) (r3 : Int) (r4 : Bool) (w : World) (g8 : Kd.V k85 85 w w.heap.size (fun k_ => dI k_) (.slice A0 l0.length c0) l0) (h : stanchionref15_Pop.f k l0 = some (r1, r2, r3, r4)) :
  Calls Try.prog 67 #[.slice A0 l0.length c0] w fun e w' => ∃ v0_ : Value, e = .returned (.tuple #[v0_, .agg #[.int .u64 r2, .int .i64 r3], .bool r4]) ∧ Kd.V k85 85 w' w.heap.size (fun k_ => (dI k_ ∨ w.heap.size ≤ k_)) v0_ r1 ∧ Below w.heap.size w w' := by
 have g9 := Try.underlying85
 have aX := ak (show Kd.V k85 85 w w.heap.size (fun k_ => (dI k_ ∨ w.heap.size ≤ k_)) (.slice A0 l0.length c0) l0 from Kd.V_mono g8 (fun k_ hk => .inl hk))
 have HB := ak (Below.refl w.heap.size w)
 have H : (if (l0.length : Int) = 0 then (some (l0, 0, 0, false)) else (if 0 < (l0.length : Int) then ((some (([] : List (S85)) : List (S85))).bind fun y528 => (if 0 ≤ (wrap64 ((l0.length : Int) - 1)) then (if (wrap64 ((l0.length : Int) - 1)) ≤ (l0.length : Int) then ((some (l0.take ((wrap64 ((l0.length : Int) - 1)) : Int).toNat : List (S85))).bind fun y531 => (if y528.length + y531.length < 8796093022208 then ((some (y528 ++ y531 : List (S85))).bind fun y536 => (if (y536.length : Int) = 0 then (some (y536, (rd_T85 l0 0).f0, (rd_T85 l0 0).f1, true)) else (if (wrap64 ((l0.length : Int) - 1)) < (l0.length : Int) then (if 0 < (y536.length : Int) then (stanchionref15_Pop.l0 k (y536.set (0 : Int).toNat (⟨(rd_T85 l0 (wrap64 ((l0.length : Int) - 1))).f0, (rd_T85 l0 (wrap64 ((l0.length : Int) - 1))).f1⟩ : S85)) 0 ((rd_T85 l0 0).f0) ((rd_T85 l0 0).f1)) else (none)) else (none)))) else (none))) else (none)) else (none))) else (none))) = some (r1, r2, r3, r4) := h
 clear h
 by_cases c2 : (l0.length : Int) = 0
 ·rw [if_pos c2] at H
  have cP : ((l0.length : Int) == 0) = true := beq_iff_eq.mpr c2
  have cQ : ((l0.length : Int) != 0) = false := bne_eq_false_iff_eq.mpr c2
  clear c2
  simp only [Option.some.injEq, Prod.mk.injEq] at H
  obtain ⟨rfl, rfl, rfl, rfl⟩ := H
  go_enter Try.func67, Try.ntmps67
  go_wp2_with (first | ((with_reducible refine gate_dst (N := 3) rfl ?_); refine bv 3 85 #[.int .u64 0, .int .i64 0] ?_; intro aD hg w3 hbox hb; obtain ⟨n_, aK⟩ := Cb.bx (pB HB.out) hg hb; have dX := aK; have aA := ak (hbox); replace aX := vb aX aD hg hb; replace HB := n_; clear n_; clear hb hbox hg; obtain ⟨bP, bQ⟩ := Cb.c2 aA.out; obtain ⟨bR, bS⟩ := Cb.f2 aA.out))
  refine bodyPost_ret (results_list (rs := [.tmp 2, .cell 3 85, .tmp 4]) rfl (by simp) (.tmp (.cell aD 85 #[.int .u64 0, .int .i64 0] (0, 0) _ rfl (by exact pq (blk_put (blk_put (pk aA.out) 0 _ rfl) 1 _ rfl)) Try.underlying85 rfl (by kernel_rfl) (.tmp .nil)))) rfl ?_
  exact ⟨_, by first | rfl | (simp [errW_none, errW_some] <;> rfl) | (simp [*, errW_none, errW_some] <;> rfl), qv (Kd.V_mono (vf2 aX.out fun _ hk => hk.2) (fun _ hk => hk.1)), ua aK.out HB.out⟩
 ·rw [if_neg c2] at H
  have cP : ((l0.length : Int) == 0) = false := beq_eq_false_iff_ne.mpr c2
  have cQ : ((l0.length : Int) != 0) = true := bne_iff_ne.mpr c2
  have dJ : ¬ (l0 = []) := fun h_ => c2 (by rw [h_]; rfl)
  have c5 : 0 < (l0.length : Int) := Decidable.byContradiction fun q => by rw [if_neg q] at H; exact absurd H (by simp)
  rw [if_pos c5] at H
  have dK : decide (0 < (l0.length : Int)) = true := decide_eq_true c5
  have dL : decide (0 < l0.length) = true := decide_eq_true (by omega)
  clear c5
  obtain ⟨y528, hy528⟩ : ∃ y_ : List (S85), y_ = (([] : List (S85))) := ⟨_, rfl⟩
  replace H : (if 0 ≤ (wrap64 ((l0.length : Int) - 1)) then (if (wrap64 ((l0.length : Int) - 1)) ≤ (l0.length : Int) then ((some (l0.take ((wrap64 ((l0.length : Int) - 1)) : Int).toNat : List (S85))).bind fun y531 => (if y528.length + y531.length < 8796093022208 then ((some (y528 ++ y531 : List (S85))).bind fun y536 => (if (y536.length : Int) = 0 then (some (y536, (rd_T85 l0 0).f0, (rd_T85 l0 0).f1, true)) else (if (wrap64 ((l0.length : Int) - 1)) < (l0.length : Int) then (if 0 < (y536.length : Int) then (stanchionref15_Pop.l0 k (y536.set (0 : Int).toNat (⟨(rd_T85 l0 (wrap64 ((l0.length : Int) - 1))).f0, (rd_T85 l0 (wrap64 ((l0.length : Int) - 1))).f1⟩ : S85)) 0 ((rd_T85 l0 0).f0) ((rd_T85 l0 0).f1)) else (none)) else (none)))) else (none))) else (none)) else (none)) = some (r1, r2, r3, r4) := by first | (rw [hy528]; with_reducible exact H) | (have b2 := (Option.bind_some _ _).symm.trans H; rw [hy528]; with_reducible exact b2) | (have b2 := (Option.bind_some _ _).symm.trans H; with_reducible exact b2) | with_reducible exact H | (rw [hy528]; exact H) | exact H
  have b7 := ak hy528
  clear hy528
  obtain ⟨ji6, hji6⟩ : ∃ j_ : Int, (wrap64 ((l0.length : Int) - 1)) = j_ := ⟨_, rfl⟩
  replace H : (if 0 ≤ (ji6) then (if (ji6) ≤ (l0.length : Int) then ((some (l0.take ((ji6) : Int).toNat : List (S85))).bind fun y531 => (if y528.length + y531.length < 8796093022208 then ((some (y528 ++ y531 : List (S85))).bind fun y536 => (if (y536.length : Int) = 0 then (some (y536, (rd_T85 l0 0).f0, (rd_T85 l0 0).f1, true)) else (if (ji6) < (l0.length : Int) then (if 0 < (y536.length : Int) then (stanchionref15_Pop.l0 k (y536.set (0 : Int).toNat (⟨(rd_T85 l0 (ji6)).f0, (rd_T85 l0 (ji6)).f1⟩ : S85)) 0 ((rd_T85 l0 0).f0) ((rd_T85 l0 0).f1)) else (none)) else (none)))) else (none))) else (none)) else (none)) = some (r1, r2, r3, r4) := by first | (rw [hji6] at H; exact H) | (simp only [hji6] at H ⊢; exact H)
  have gX : (IntKind.i64.wrap ((l0.length : Int) - 1)) = ji6 := (i64_w _).trans hji6
  have c7 : 0 ≤ (ji6) := Decidable.byContradiction fun q => by rw [if_neg q] at H; exact absurd H (by simp)
  rw [if_pos c7] at H
  have dM := eq_true c7
  have dN : decide (0 ≤ (ji6)) = true := decide_eq_true c7
  clear c7
  have c8 : (ji6) ≤ (l0.length : Int) := Decidable.byContradiction fun q => by rw [if_neg q] at H; exact absurd H (by simp)
  rw [if_pos c8] at H
  have dO := eq_true c8
  have dP : decide ((ji6) ≤ (l0.length : Int)) = true := decide_eq_true c8
  clear c8
  obtain ⟨y531, hy531⟩ : ∃ y_ : List (S85), y_ = (l0.take ((ji6) : Int).toNat) := ⟨_, rfl⟩
  replace H : (if y528.length + y531.length < 8796093022208 then ((some (y528 ++ y531 : List (S85))).bind fun y536 => (if (y536.length : Int) = 0 then (some (y536, (rd_T85 l0 0).f0, (rd_T85 l0 0).f1, true)) else (if (ji6) < (l0.length : Int) then (if 0 < (y536.length : Int) then (stanchionref15_Pop.l0 k (y536.set (0 : Int).toNat (⟨(rd_T85 l0 (ji6)).f0, (rd_T85 l0 (ji6)).f1⟩ : S85)) 0 ((rd_T85 l0 0).f0) ((rd_T85 l0 0).f1)) else (none)) else (none)))) else (none)) = some (r1, r2, r3, r4) := by first | (rw [hy531]; with_reducible exact H) | (have b2 := (Option.bind_some _ _).symm.trans H; rw [hy531]; with_reducible exact b2) | (have b2 := (Option.bind_some _ _).symm.trans H; with_reducible exact b2) | with_reducible exact H | (rw [hy531]; exact H) | exact H
  have b8 := ak hy531
  clear hy531
  have c9 : y528.length + y531.length < 8796093022208 := Decidable.byContradiction fun q => by rw [if_neg q] at H; exact absurd H (by simp)
  rw [if_pos c9] at H
  have eV := ak c9
  clear c9
  obtain ⟨y536, hy536⟩ : ∃ y_ : List (S85), y_ = (y528 ++ y531) := ⟨_, rfl⟩
  replace H : (if (y536.length : Int) = 0 then (some (y536, (rd_T85 l0 0).f0, (rd_T85 l0 0).f1, true)) else (if (ji6) < (l0.length : Int) then (if 0 < (y536.length : Int) then (stanchionref15_Pop.l0 k (y536.set (0 : Int).toNat (⟨(rd_T85 l0 (ji6)).f0, (rd_T85 l0 (ji6)).f1⟩ : S85)) 0 ((rd_T85 l0 0).f0) ((rd_T85 l0 0).f1)) else (none)) else (none))) = some (r1, r2, r3, r4) := by first | (rw [hy536]; with_reducible exact H) | (have b2 := (Option.bind_some _ _).symm.trans H; rw [hy536]; with_reducible exact b2) | (have b2 := (Option.bind_some _ _).symm.trans H; with_reducible exact b2) | with_reducible exact H | (rw [hy536]; exact H) | exact H
  have dY := ak hy536
  clear hy536
  by_cases cO : (y536.length : Int) = 0
  ·rw [if_pos cO] at H
   have bZ : ((y536.length : Int) == 0) = true := beq_iff_eq.mpr cO
   have b0 : ((y536.length : Int) != 0) = false := bne_eq_false_iff_eq.mpr cO
   clear cO
   simp only [Option.some.injEq, Prod.mk.injEq] at H
   obtain ⟨rfl, rfl, rfl, rfl⟩ := H
   go_enter Try.func67, Try.ntmps67
   try go_wp2_with (first | ((with_reducible refine gate_dst (N := 3) rfl ?_); refine bv 3 85 #[.int .u64 0, .int .i64 0] ?_; intro aD hg h6 hbox hb; obtain ⟨n_, aK⟩ := Cb.bx (pB HB.out) hg hb; have dX := aK; have aA := ak (hbox); replace aX := vb aX aD hg hb; replace HB := n_; clear n_; clear hb hbox hg; have bK : 0 ≤ (0 : Int) := (by omega); have bL : 0 < (l0.length : Int) := od; obtain ⟨a9, d4, aT, aU⟩ := at_T85 (Kd.V_reads' aX.out).2.2 0 bK bL; cases d4; have eW : (0 < l0.length) = True := eq_true (by omega); (try rw [show ((0 : Int)).toNat = 0 from rfl] at aT); (try rw [show 0 * 2 = 0 from rfl] at aT); (try rw [Addr.add_zero'] at aT); (try rw [show ((0 : Int)).toNat = 0 from rfl] at aU); (try rw [show 0 * 2 = 0 from rfl] at aU); (try rw [Addr.add_zero'] at aU); replace bK := eq_true bK; replace bL := eq_true bL) | ((with_reducible refine gate_dst (N := 5) rfl ?_); refine bv 5 85 #[.int .u64 0, .int .i64 0] ?_; intro aI hg h7 hbox hb; obtain ⟨n_, aP⟩ := Cb.bx (ua aK.out HB.out) hg hb; have eX := aP; obtain ⟨aJ, aG⟩ := Cb.nb hg aA.out; have aC := ak (hbox); replace aX := vb aX aI hg hb; replace aA := bb aA hb; replace HB := n_; clear n_; clear hb hbox hg; have gY := aG.out; have gZ := aJ.out; obtain ⟨bA, bB⟩ := Cb.c2 aC.out; obtain ⟨bC, bD⟩ := Cb.f2 aC.out) | ((with_reducible refine gate_dst (N := 17) rfl ?_); refine Kd.R_lit k85 _ 85 ?hg (N := 17) ?hd (xs := ([] : List (S85))) (inner := []) (ok := fun _ => True) (okp := fun _ => True) ?hr ?hp (fun _ hk => hk) trivial (Below.refl _ _) (Nat.le_refl _) (by simp) ?_; (case hd => rfl); (case hg => rfl); (case hr => first | (go_simp; done) | (go_simp; rfl)); (case hp => exact (Reps.none _ _)); intro d5 h8 cG hb hg_ hnew_; clear hg_ hnew_; (first | rw [← b7.out] at cG | (simp only [Int.reduceToNat] at cG; rw [← b7.out] at cG)); have a0 := ak (Kd.R_lower (Kd.R_newB (Kd.R_newB (Kd.R_newM (M := fun k_ => (w.heap.size ≤ k_)) cG (below_size (ub aK.out aP.out HB.out)) (fun k_ h_ => h_)) (g := aD) (o := .cells #[.int .u64 0, .int .i64 0] 85 (0, 0)) (by exact pq (blk_far (blk_far (pk aA.out) aJ.out _) aJ.out _))) (g := aI) (o := .cells #[.int .u64 ((rd_T85 l0 0).f0), .int .i64 ((rd_T85 l0 0).f1)] 85 (0, 0)) (by exact pq (blk_put (blk_put (pk aC.out) 0 _ rfl) 1 _ rfl))) (below_size (ub aK.out aP.out HB.out))); replace aX := ak (Kd.V_elder' (qv ((vf2 aX.out fun _ hk => hk.2))) (Kd.R_base cG) hb); replace aA := fb aA aJ hb; replace aC := ak (blk_below (g := aI) (o := .cells #[.int .u64 ((rd_T85 l0 0).f0), .int .i64 ((rd_T85 l0 0).f1)] 85 (0, 0)) (by exact pq (blk_put (blk_put (pk aC.out) 0 _ rfl) 1 _ rfl)) hb); replace HB := ak (below_step (ub aK.out aP.out HB.out) hb); clear hb cG; have cR : ((ji6) : Int) ≤ ((l0.length : Int) : Int) := od; obtain ⟨i017, dZ, _, eY, _⟩ := info_parts info85; have b9 : l0.length ≤ c0 := (Kd.V_reads' aX.out).2.1; have eZ : Kd.F k85 _ _ (some a9) l0.length l0 := (Kd.V_at (base := w.heap.size) aX.out).2.2; have d6 := cut_to (P := Try.prog) 23 85 .i64 Try.underlying23 dZ (some a9) l0.length c0 (ji6) (od) cR b9; have d7 := Kd.F_take (m := ((ji6) : Int).toNat) eZ (by omega); have d8 : y531.length = ((ji6) : Int).toNat := (by rw [b8.out, List.length_take]; omega); rw [← b8.out] at d7; rw [← d8] at d6; have aW := ak (show Kd.V k85 85 _ w.heap.size _ (.slice (some a9) y531.length c0) y531 from Kd.V_mk (by omega) d7); have e0 := ak (show y531.length ≤ c0 from by omega); clear d7 eZ b9 dZ eY; have hA := ak d8; clear d8; replace cR := eq_true cR) | ((with_reducible refine gate_builtin (b := .append) (xs := #[.tmp 17, .tmp 22]) rfl ?_); at_builtin; refine Kd.R_append_rows k85 (w0 := w) w.heap.size rfl (.tmp 17) (.tmp 22) 23 85 (.agg #[(.int .u64 0), (.int .i64 0)]) 16 rfl Try.underlying23 info85 rfl (by decide) (by omega) d5 y528 y531 _ _ _ (fun k_ => (w.heap.size ≤ k_) ∧ k_ ≠ aD ∧ k_ ≠ aI) (fun _ => False) rfl rfl ?aO ?aR (fun _ _ h => h) (fun _ h => h.elim) ?aF ?aB ?aS ?aL ?_; (case aR => exact pc (Kd.V_reads' aW.out).2.2); (case aB => exact (ub aK.out aP.out HB.out)); (case aF => exact (fun k_ hk => ⟨(Nat.le_trans (below_size (ub aK.out aP.out HB.out)) hk), Kd.freshB (pk aA.out) k_ hk, Kd.freshB (pk aC.out) k_ hk⟩)); (case aO => exact (pR (rm a0.out))); (case aS => exact (below_size (ub aK.out aP.out HB.out))); (case aL => have := eV.out; omega); intro gF hB ho hb hg hat; rw [← dY.out] at ho; have n0_ := ak (Kd.V_afterv (ok := (fun k_ => (dI k_ ∨ w.heap.size ≤ k_) ∧ k_ ≠ aD ∧ k_ ≠ aI)) (pV (vm aX.out)) hg hat); have n1_ := ak (blk_grown (pk aA.out) hg (Kd.R_away a0.out (fun _ hk => hk.1.2))); have n2_ := ak (blk_grown (pk aC.out) hg (Kd.R_away a0.out (fun _ hk => hk.2))); have n3_ := ak (Kd.V_afterv (ok := (fun k_ => (dI k_ ∨ w.heap.size ≤ k_) ∧ k_ ≠ aD ∧ k_ ≠ aI)) (pV (vm aW.out)) hg hat); have n4_ := ak (hb); have n5_ := ak (ho); clear aX; clear aA; clear aC; clear aW; clear HB; clear a0; have aX := n0_; have aA := n1_; have aC := n2_; have aW := n3_; have HB := n4_; have aV := n5_; clear n0_ n1_ n2_ n3_ n4_ n5_; clear ho hb hg hat; obtain ⟨hC, hD, gG⟩ := Kd.R_slice aV.out; subst gG))
   replace aX := ak (Kd.V_drew aX.out)
   replace aW := ak (Kd.V_drew aW.out)
   replace aV := ak (Kd.R_drew aV.out)
   replace aA := ak (blk_drew aA.out)
   replace aC := ak (blk_drew aC.out)
   replace HB := ak (below_drew1 HB.out)
   refine start_ (n := 5) (S := fun w' => w'.cell? ⟨aI, 0, none⟩ = some (.int .u64 ((rd_T85 l0 0).f0)) ∧ w'.cell? ⟨aI, 1, none⟩ = some (.int .i64 ((rd_T85 l0 0).f1))) (ds := []) #[false, false, false, false, false] (by kernel_rfl) rfl rfl ⟨(blk_cell aC.out 0).trans rfl, (blk_cell aC.out 1).trans rfl⟩ (fun hHeld => ?_)
   generalize hB.drew = w20 at aX aW aV aA aC HB hHeld ⊢
   refine qa 0 27 (tb 5 1) (by kernel_rfl) ?_
   refine qa 2 2 (tb 5 5) (by kernel_rfl) ?_
   refine kb 1 28 (tb 5 7) (by kernel_rfl) hHeld ?_
   refine one_ (i := 3) (N := none) (tb 5 15) rfl rfl (by kernel_rfl) (by decide) (fun K hK => ?_)
   have hE : w20.cell? ⟨aD, 0, none⟩ = some (.int .u64 0) := (blk_cell aA.out 0).trans rfl
   have g0 := blk_frozen aA.out 0
   have fZ := aG.out
   have f3 := aJ.out
   have hF : w20.cell? ⟨aD, 1, none⟩ = some (.int .i64 0) := (blk_cell aA.out 1).trans rfl
   have g1 := blk_frozen aA.out 1
   have f4 := aG.out
   have f5 := aJ.out
   refine skip_ (w1 := ?_) (by rfl) rfl ?_ ?_
   rotate_left
   ·go_simp
    rfl
   refine hK.out _ _ ⟨((cell_far (p := ⟨aD, _, none⟩) aG.out _).trans (((cell_far (p := ⟨aD, _, none⟩) aG.out _).trans (hHeld.1)))), ((cell_far (p := ⟨aD, _, none⟩) aG.out _).trans (((cell_far (p := ⟨aD, _, none⟩) aG.out _).trans (hHeld.2))))⟩ (fun hHeld => ?_)
   clear hK K
   refine qa 4 4 (tb 5 31) (by kernel_rfl) ?_
   refine done_ (by kernel_rfl) ?_
   try go_wp2
   refine bodyPost_ret (results_list (rs := [.tmp 2, .cell 3 85, .tmp 4]) rfl (by simp) (.tmp (.cell aD 85 #[.int .u64 ((rd_T85 l0 0).f0), .int .i64 ((rd_T85 l0 0).f1)] (0, 0) _ rfl (by exact pq (blk_put (blk_put (pk aA.out) 0 _ rfl) 1 _ rfl)) Try.underlying85 rfl (by kernel_rfl) (.tmp .nil)))) rfl ?_
   exact ⟨_, by first | rfl | (simp [errW_none, errW_some] <;> rfl) | (simp only [← hji6]; first | rfl | (simp [errW_none, errW_some] <;> rfl)) | (simp [*, errW_none, errW_some] <;> rfl), Kd.V_mono (Kd.R_V (qr (Kd.R_mono (rf2 (Kd.R_mono aV.out (fun k_ hk => (⟨hk, hk.2.1⟩ : _ ∧ k_ ≠ aD))) fun _ hk => hk.2) (fun _ hk => hk.1.1)))) (fun k_ hk => by first | exact ⟨(.inr (hk.1)), hk.2⟩ | exact (.inr (hk))), ub aK.out aP.out HB.out⟩
  ·rw [if_neg cO] at H
   have bZ : ((y536.length : Int) == 0) = false := beq_eq_false_iff_ne.mpr cO
   have b0 : ((y536.length : Int) != 0) = true := bne_iff_ne.mpr cO
   have cA : ¬ (y536 = []) := fun h_ => cO (by rw [h_]; rfl)
   have d0 : (ji6) < (l0.length : Int) := Decidable.byContradiction fun q => by rw [if_neg q] at H; exact absurd H (by simp)
   rw [if_pos d0] at H
   have cB : decide ((ji6) < (l0.length : Int)) = true := decide_eq_true d0
   clear d0
   have d1 : 0 < (y536.length : Int) := Decidable.byContradiction fun q => by rw [if_neg q] at H; exact absurd H (by simp)
   rw [if_pos d1] at H
   have cC : decide (0 < (y536.length : Int)) = true := decide_eq_true d1
   have cD : decide (0 < y536.length) = true := decide_eq_true (by omega)
   clear d1
   obtain ⟨y540, hy540⟩ : ∃ y_ : List (S85), y_ = (y536.set (0 : Int).toNat (⟨(rd_T85 l0 (ji6)).f0, (rd_T85 l0 (ji6)).f1⟩ : S85)) := ⟨_, rfl⟩
   replace H : (stanchionref15_Pop.l0 k y540 0 ((rd_T85 l0 0).f0) ((rd_T85 l0 0).f1)) = some (r1, r2, r3, r4) := by first | (rw [hy540]; with_reducible exact H) | (have b2 := (Option.bind_some _ _).symm.trans H; rw [hy540]; with_reducible exact b2) | (have b2 := (Option.bind_some _ _).symm.trans H; with_reducible exact b2) | with_reducible exact H | (rw [hy540]; exact H) | exact H
   have e1 := ak hy540
   clear hy540
   have H' := ak H
   clear H
   go_enter Try.func67, Try.ntmps67
   go_wp2_with (first | ((with_reducible refine gate_dst (N := 3) rfl ?_); refine bv 3 85 #[.int .u64 0, .int .i64 0] ?_; intro aD hg h9 hbox hb; obtain ⟨n_, aK⟩ := Cb.bx (pB HB.out) hg hb; have dX := aK; have aA := ak (hbox); replace aX := vb aX aD hg hb; replace HB := n_; clear n_; clear hb hbox hg; have bK : 0 ≤ (0 : Int) := (by omega); have bL : 0 < (l0.length : Int) := od; obtain ⟨a9, d4, aT, aU⟩ := at_T85 (Kd.V_reads' aX.out).2.2 0 bK bL; cases d4; have eW : (0 < l0.length) = True := eq_true (by omega); (try rw [show ((0 : Int)).toNat = 0 from rfl] at aT); (try rw [show 0 * 2 = 0 from rfl] at aT); (try rw [Addr.add_zero'] at aT); (try rw [show ((0 : Int)).toNat = 0 from rfl] at aU); (try rw [show 0 * 2 = 0 from rfl] at aU); (try rw [Addr.add_zero'] at aU); replace bK := eq_true bK; replace bL := eq_true bL) | ((with_reducible refine gate_dst (N := 5) rfl ?_); refine bv 5 85 #[.int .u64 0, .int .i64 0] ?_; intro aI hg iA hbox hb; obtain ⟨n_, aP⟩ := Cb.bx (ua aK.out HB.out) hg hb; have eX := aP; obtain ⟨aJ, aG⟩ := Cb.nb hg aA.out; have aC := ak (hbox); replace aX := vb aX aI hg hb; replace aA := bb aA hb; replace HB := n_; clear n_; clear hb hbox hg; have g2 := aG.out; have g3 := aJ.out; obtain ⟨bE, bF⟩ := Cb.c2 aC.out; obtain ⟨bG, bH⟩ := Cb.f2 aC.out) | ((with_reducible refine gate_dst (N := 17) rfl ?_); refine Kd.R_lit k85 _ 85 ?hg (N := 17) ?hd (xs := ([] : List (S85))) (inner := []) (ok := fun _ => True) (okp := fun _ => True) ?hr ?hp (fun _ hk => hk) trivial (Below.refl _ _) (Nat.le_refl _) (by simp) ?_; (case hd => rfl); (case hg => rfl); (case hr => first | (go_simp; done) | (go_simp; rfl)); (case hp => exact (Reps.none _ _)); intro d5 iB cH hb hg_ hnew_; clear hg_ hnew_; (first | rw [← b7.out] at cH | (simp only [Int.reduceToNat] at cH; rw [← b7.out] at cH)); have a0 := ak (Kd.R_lower (Kd.R_newB (Kd.R_newB (Kd.R_newM (M := fun k_ => (w.heap.size ≤ k_)) cH (below_size (ub aK.out aP.out HB.out)) (fun k_ h_ => h_)) (g := aD) (o := .cells #[.int .u64 0, .int .i64 0] 85 (0, 0)) (by exact pq (blk_far (blk_far (pk aA.out) aJ.out _) aJ.out _))) (g := aI) (o := .cells #[.int .u64 ((rd_T85 l0 0).f0), .int .i64 ((rd_T85 l0 0).f1)] 85 (0, 0)) (by exact pq (blk_put (blk_put (pk aC.out) 0 _ rfl) 1 _ rfl))) (below_size (ub aK.out aP.out HB.out))); replace aX := ak (Kd.V_elder' (qv ((vf2 aX.out fun _ hk => hk.2))) (Kd.R_base cH) hb); replace aA := fb aA aJ hb; replace aC := ak (blk_below (g := aI) (o := .cells #[.int .u64 ((rd_T85 l0 0).f0), .int .i64 ((rd_T85 l0 0).f1)] 85 (0, 0)) (by exact pq (blk_put (blk_put (pk aC.out) 0 _ rfl) 1 _ rfl)) hb); replace HB := ak (below_step (ub aK.out aP.out HB.out) hb); clear hb cH; have cS : ((ji6) : Int) ≤ ((l0.length : Int) : Int) := od; obtain ⟨i032, d2, _, e2, _⟩ := info_parts info85; have cE : l0.length ≤ c0 := (Kd.V_reads' aX.out).2.1; have e3 : Kd.F k85 _ _ (some a9) l0.length l0 := (Kd.V_at (base := w.heap.size) aX.out).2.2; have d9 := cut_to (P := Try.prog) 23 85 .i64 Try.underlying23 d2 (some a9) l0.length c0 (ji6) (od) cS cE; have eA := Kd.F_take (m := ((ji6) : Int).toNat) e3 (by omega); have eB : y531.length = ((ji6) : Int).toNat := (by rw [b8.out, List.length_take]; omega); rw [← b8.out] at eA; rw [← eB] at d9; have aW := ak (show Kd.V k85 85 _ w.heap.size _ (.slice (some a9) y531.length c0) y531 from Kd.V_mk (by omega) eA); have e0 := ak (show y531.length ≤ c0 from by omega); clear eA e3 cE d2 e2; have hG := ak eB; clear eB; replace cS := eq_true cS) | ((with_reducible refine gate_builtin (b := .append) (xs := #[.tmp 17, .tmp 22]) rfl ?_); at_builtin; refine Kd.R_append_rows k85 (w0 := w) w.heap.size rfl (.tmp 17) (.tmp 22) 23 85 (.agg #[(.int .u64 0), (.int .i64 0)]) 16 rfl Try.underlying23 info85 rfl (by decide) (by omega) d5 y528 y531 _ _ _ (fun k_ => (w.heap.size ≤ k_) ∧ k_ ≠ aD ∧ k_ ≠ aI) (fun _ => False) rfl rfl ?aO ?aR (fun _ _ h => h) (fun _ h => h.elim) ?aF ?aB ?aS ?aL ?_; (case aR => exact pc (Kd.V_reads' aW.out).2.2); (case aB => exact (ub aK.out aP.out HB.out)); (case aF => exact (fun k_ hk => ⟨(Nat.le_trans (below_size (ub aK.out aP.out HB.out)) hk), Kd.freshB (pk aA.out) k_ hk, Kd.freshB (pk aC.out) k_ hk⟩)); (case aO => exact (pR (rm a0.out))); (case aS => exact (below_size (ub aK.out aP.out HB.out))); (case aL => have := eV.out; omega); intro gF eC ho hb hg hat; rw [← dY.out] at ho; have n0_ := ak (Kd.V_afterv (ok := (fun k_ => (dI k_ ∨ w.heap.size ≤ k_) ∧ k_ ≠ aD ∧ k_ ≠ aI)) (pV (vm aX.out)) hg hat); have n1_ := ak (blk_grown (pk aA.out) hg (Kd.R_away a0.out (fun _ hk => hk.1.2))); have n2_ := ak (blk_grown (pk aC.out) hg (Kd.R_away a0.out (fun _ hk => hk.2))); have n3_ := ak (Kd.V_afterv (ok := (fun k_ => (dI k_ ∨ w.heap.size ≤ k_) ∧ k_ ≠ aD ∧ k_ ≠ aI)) (pV (vm aW.out)) hg hat); have n4_ := ak (hb); have n5_ := ak (ho); clear aX; clear aA; clear aC; clear aW; clear HB; clear a0; have aX := n0_; have aA := n1_; have aC := n2_; have aW := n3_; have HB := n4_; have aV := n5_; clear n0_ n1_ n2_ n3_ n4_ n5_; clear ho hb hg hat; obtain ⟨hH, cI, gH⟩ := Kd.R_slice aV.out; subst gH; have b3 : 0 ≤ ((ji6) : Int) := od; have b4 : (ji6) < (l0.length : Int) := od; obtain ⟨e4, gI, bI, bJ⟩ := at_T85 (Kd.V_reads' aX.out).2.2 (ji6) b3 b4; obtain rfl : a9 = e4 := (by injection gI); replace b3 := eq_true b3; replace b4 := eq_true b4; have cT : 0 ≤ (0 : Int) := (by omega); have cU : (0 : Int) < ((y536.length : Int) : Int) := od; have dQ : (0 < y536.length) = True := eq_true (by omega); obtain ⟨a6, hI, e5, e6, gJ, hJ, e7⟩ := Kd.R_form aV.out (by omega); (first | cases e5 | (injection e5 with ea_ en_ ec_; (first | subst ea_ | (injection ea_ with ea_; subst ea_)); subst ec_; clear en_)); have e8 := ak e6; have hL := ak e7; clear e6 gJ e7; obtain ⟨hM, e9, fA, cV, cW⟩ := Kd.R_elem aV.out z85 (0 : Int) cT cU; obtain rfl := k85_openM fA; have a7 : eC.cell? ⟨a6, (0 : Int).toNat * 2, none⟩ = some (.int .u64 ((rd_T85 y536 0).f0)) := cV 0 _ rfl; have a8 : eC.cell? ⟨a6, (0 : Int).toNat * 2 + 1, none⟩ = some (.int .i64 ((rd_T85 y536 0).f1)) := cV 1 _ rfl; have cX : eC.frozen? ⟨a6, (0 : Int).toNat * 2, none⟩ = false := cW 0; have cY : eC.frozen? ⟨a6, (0 : Int).toNat * 2 + 1, none⟩ = false := cW 1; clear e9 cV cW fA; (try rw [show ((0 : Int)).toNat = 0 from rfl] at a7); (try simp only [Nat.reduceMul, Nat.zero_mul, Nat.zero_add, Nat.reduceAdd] at a7); (try rw [show ((0 : Int)).toNat = 0 from rfl] at cX); (try simp only [Nat.reduceMul, Nat.zero_mul, Nat.zero_add, Nat.reduceAdd] at cX); (try rw [show ((0 : Int)).toNat = 0 from rfl] at a8); (try simp only [Nat.reduceMul, Nat.zero_mul, Nat.zero_add, Nat.reduceAdd] at a8); (try rw [show ((0 : Int)).toNat = 0 from rfl] at cY); (try simp only [Nat.reduceMul, Nat.zero_mul, Nat.zero_add, Nat.reduceAdd] at cY); replace cT := eq_true cT; replace cU := eq_true cU; have fB := ak (show Kd.R k85 85 eC w.heap.size (fun k_ => (w.heap.size ≤ k_) ∧ k_ ≠ aD ∧ k_ ≠ aI) (.slice (some ⟨a6, 0, none⟩) y536.length cI) y536 from (pR aV.out)); obtain ⟨hN, d3, fC, cF, cZ⟩ := Kd.R_elem fB.out z85 (0 : Int) (by omega) (by have h_ : (0 : Int) < ((y536.length : Int) : Int) := od; first | exact h_ | (have e_ := (Kd.R_reads' aV.out).1; omega) | simpa using h_); obtain rfl := k85_openM fC; have eD := Kd.R_seg fB.out (0 : Int) (by omega) (by have h_ : (0 : Int) < ((y536.length : Int) : Int) := od; first | exact h_ | (have e_ := (Kd.R_reads' aV.out).1; omega) | simpa using h_) (seg := [.int .u64 ((rd_T85 l0 (ji6)).f0), .int .i64 ((rd_T85 l0 (ji6)).f1)]) (j := 0) d3 cF (show 2 ≤ 2 from by decide) (x' := (⟨(rd_T85 l0 (ji6)).f0, (rd_T85 l0 (ji6)).f1⟩ : S85)) (k85_mkM _ _ _ (⟨(rd_T85 l0 (ji6)).f0, (rd_T85 l0 (ji6)).f1⟩ : S85) ) (fun _ hk => hk); have aY := cF 0 _ rfl; (try simp only [show (k85).sz = 2 from rfl, Nat.mul_one, Nat.add_zero] at aY); (try rw [show ((0 : Int)).toNat = 0 from rfl] at aY); (try simp only [Nat.reduceMul, Nat.zero_mul, Nat.zero_add, Nat.reduceAdd] at aY); have b5 := cZ 0; (try simp only [show (k85).sz = 2 from rfl, Nat.mul_one, Nat.add_zero] at b5); (try rw [show ((0 : Int)).toNat = 0 from rfl] at b5); (try simp only [Nat.reduceMul, Nat.zero_mul, Nat.zero_add, Nat.reduceAdd] at b5); have aZ := cF 1 _ rfl; (try simp only [show (k85).sz = 2 from rfl, Nat.mul_one, Nat.add_zero] at aZ); (try rw [show ((0 : Int)).toNat = 0 from rfl] at aZ); (try simp only [Nat.reduceMul, Nat.zero_mul, Nat.zero_add, Nat.reduceAdd] at aZ); have b6 := cZ 1; (try simp only [show (k85).sz = 2 from rfl, Nat.mul_one, Nat.add_zero] at b6); (try rw [show ((0 : Int)).toNat = 0 from rfl] at b6); (try simp only [Nat.reduceMul, Nat.zero_mul, Nat.zero_add, Nat.reduceAdd] at b6); clear d3 cF cZ fC) | ((with_reducible refine gate_store (t := 85) (p := 36) rfl ?_); refine store_event (t := 85) (p := 36) (v := ?vo_w36) (w1 := ((eC.setCell ⟨a6, 0, none⟩ (.int .u64 ((rd_T85 l0 (ji6)).f0))).setCell ⟨a6, 1, none⟩ (.int .i64 ((rd_T85 l0 (ji6)).f1)))) ?hg ?ho ?hn ?hr ?_; (case ho => rfl); (case hg => rfl); (case hn => rfl); (case hr => first | (go_simp; done) | (go_simp; rfl)); intro gK hw; have hg : eC.grownBy gK (some a6) := (by rw [hw]; exact eD.2); have hp_ : Kd.R k85 85 gK w.heap.size (fun k_ => (w.heap.size ≤ k_) ∧ k_ ≠ aD ∧ k_ ≠ aI) (.slice (some ⟨a6, 0, none⟩) y536.length cI) y540 := (by rw [hw, e1.out]; exact eD.1); clear eD; replace aX := ak (Kd.V_afterv (v := (.slice (some ⟨a6, 0, none⟩) y536.length cI)) (v1 := (.slice (some ⟨a6, 0, none⟩) y536.length cI)) (ok := (fun k_ => (dI k_ ∨ w.heap.size ≤ k_) ∧ k_ ≠ aD ∧ k_ ≠ aI)) (by exact aX.out) hg (.inl rfl)); replace aA := ak (blk_grown (g := aD) (o := .cells #[.int .u64 0, .int .i64 0] 85 (0, 0)) (by exact aA.out) hg (Kd.R_away aV.out (fun _ hk => hk.2.1))); replace aC := ak (blk_grown (g := aI) (o := .cells #[.int .u64 ((rd_T85 l0 0).f0), .int .i64 ((rd_T85 l0 0).f1)] 85 (0, 0)) (by exact aC.out) hg (Kd.R_away aV.out (fun _ hk => hk.2.2))); replace aW := ak (Kd.V_afterv (v := (.slice (some ⟨a6, 0, none⟩) y536.length cI)) (v1 := (.slice (some ⟨a6, 0, none⟩) y536.length cI)) (ok := (fun k_ => (dI k_ ∨ w.heap.size ≤ k_) ∧ k_ ≠ aD ∧ k_ ≠ aI)) (by exact aW.out) hg (.inl rfl)); replace aV := ak (hp_); replace HB := ak ((by rw [hw]; exact below_set (below_set (HB.out) e8.out) e8.out : Below w.heap.size w gK)); clear hg hw hp_))
   go_loopg [6, 7] k (fun kq v6 v7 w' => ∃ (aH : List (S85)) (aE : Int) (aQ : Int) (aN : Int), v7 = .int .i64 aE ∧ Aside0 (stanchionref15_Pop.l0 kq aH aE ((rd_T85 l0 0).f0) ((rd_T85 l0 0).f1) = some (r1, r2, r3, r4)) ∧ Aside0 (kq ≤ k) ∧ Aside0 (Kd.R k85 85 w' w.heap.size (fun k_ => (w.heap.size ≤ k_) ∧ k_ ≠ aD ∧ k_ ≠ aI) v6 aH) ∧ Aside0 (w'.heap[aD]? = some (.cells #[.int .u64 aQ, .int .i64 aN] 85 (0, 0))) ∧ Aside0 (w'.heap[aI]? = some (.cells #[.int .u64 ((rd_T85 l0 0).f0), .int .i64 ((rd_T85 l0 0).f1)] 85 (0, 0))) ∧ Aside0 (Below w.heap.size w w'))
   case atStart => exact ⟨(y540), (0), (0), (0), es, H', ⟨Nat.le_refl _⟩, ⟨pR aV.out⟩, ⟨pk aA.out⟩, ⟨pk aC.out⟩, ⟨ub aK.out aP.out HB.out⟩⟩
   case round =>
    clear H'
    try clear c1 q1 c2 cP cQ dJ p2 q2 hx2 qi2 hf2 c3 q3 hx3 hf3 c5 dK dL p5 q5 hx5 qi5 c6 p6 c7 dM dN c8 dO dP c9 cO bZ b0 cA c13 cR d0 cB d1 cC cD c25 cT cU hx25 dQ hf25 c28 cS c35 hx35 hf35 bA bB bE bF bP bQ bC bD bG bH bR bS a7 a8 aY aZ aT aU bI bJ cT bK b3 cR cU cS bL b4
    obtain ⟨aH, aE, aQ, aN, rfl, HA, dH, HO_6, aA, aC, HB⟩ := hrel
    cases gk with
    | zero => exact absurd HA.out (by simp [stanchionref15_Pop.l0])
    | succ k1 =>
     have H := HA.out
     clear HA
     simp only [stanchionref15_Pop.l0] at H
     have eE := ak H
     clear H
     go_upto_region 10 with (fail)
     go_cut [56] (fun v56 wc => ∃ (kq : Nat) (bT : Bool), v56 = .bool bT ∧ Aside0 (stanchionref15_Pop.j1 kq aH aE aE bT ((rd_T85 l0 0).f0) ((rd_T85 l0 0).f1) = some (r1, r2, r3, r4)) ∧ Aside0 (kq ≤ k1) ∧ Aside0 (Kd.R k85 85 wc w.heap.size (fun k_ => (w.heap.size ≤ k_) ∧ k_ ≠ aD ∧ k_ ≠ aI) u6 aH) ∧ Aside0 (wc.heap[aD]? = some (.cells #[.int .u64 aQ, .int .i64 aN] 85 (0, 0))) ∧ Aside0 (wc.heap[aI]? = some (.cells #[.int .u64 ((rd_T85 l0 0).f0), .int .i64 ((rd_T85 l0 0).f1)] 85 (0, 0))) ∧ Aside0 (Below w.heap.size w wc))
     case first =>
      have H := eE.out
      clear eE
      by_cases dR : (wrap64 ((wrap64 (2 * aE)) + 1)) < (aH.length : Int)
      ·rw [if_pos dR] at H
       have a1 : decide ((wrap64 ((wrap64 (2 * aE)) + 1)) < (aH.length : Int)) = true := decide_eq_true dR
       clear dR
       (first | rw [a1] | (simp only [i64_w, i32_w]; rw [a1]) | skip)
       obtain ⟨ji39, hji39⟩ : ∃ j_ : Int, (wrap64 ((wrap64 (2 * aE)) + 1)) = j_ := ⟨_, rfl⟩
       replace H : (if 0 ≤ (ji39) then (if 0 ≤ aE then (if aE < (aH.length : Int) then ((stanchionref15_Less.f ((rd_T85 aH (ji39)).f0) ((rd_T85 aH (ji39)).f1) ((rd_T85 aH aE).f0) ((rd_T85 aH aE).f1)).bind fun dA => (stanchionref15_Pop.j1 k1 aH aE aE dA ((rd_T85 l0 0).f0) ((rd_T85 l0 0).f1))) else (none)) else (none)) else (none)) = some (r1, r2, r3, r4) := by first | (rw [hji39] at H; exact H) | (simp only [hji39] at H ⊢; exact H)
       (try rw [hji39] at a1)
       have gL : (IntKind.i64.wrap ((wrap64 (2 * aE)) + 1)) = ji39 := (i64_w _).trans hji39
       have eF : 0 ≤ (ji39) := Decidable.byContradiction fun q => by rw [if_neg q] at H; exact absurd H (by simp)
       rw [if_pos eF] at H
       have dB : decide (0 ≤ (ji39)) = true := decide_eq_true eF
       clear eF
       have eG : 0 ≤ aE := Decidable.byContradiction fun q => by rw [if_neg q] at H; exact absurd H (by simp)
       rw [if_pos eG] at H
       have dC : decide (0 ≤ aE) = true := decide_eq_true eG
       clear eG
       have eH : aE < (aH.length : Int) := Decidable.byContradiction fun q => by rw [if_neg q] at H; exact absurd H (by simp)
       rw [if_pos eH] at H
       have dD : decide (aE < (aH.length : Int)) = true := decide_eq_true eH
       clear eH
       replace H := Option.bind_eq_some_iff.mp H
       obtain ⟨dA, fD, H⟩ := H
       try dsimp only at H
       have hO := ak fD
       clear fD
       have H' := ak H
       clear H
       try go_wp2
       replace HO_6 := ak (Kd.R_drew HO_6.out)
       replace aA := ak (blk_drew aA.out)
       replace aC := ak (blk_drew aC.out)
       replace HB := ak (below_drew1 HB.out)
       obtain ⟨hP, hQ, fE⟩ := Kd.R_slice HO_6.out
       (first | subst fE | (injection fE with f1_ f2_ f3_; have eI := f1_.symm; have eJ := f3_.symm; clear f1_ f2_ f3_; subst eI; subst eJ))
       have cJ : 0 ≤ ((ji39) : Int) := od
       have cK : (ji39) < (aH.length : Int) := od
       obtain ⟨bM, gM, a2, a3⟩ := at_T85 (Kd.R_reads' HO_6.out).2.2 (ji39) cJ cK
       cases gM
       replace cJ := eq_true cJ
       replace cK := eq_true cK
       have cL : 0 ≤ (aE : Int) := od
       have cM : aE < (aH.length : Int) := od
       obtain ⟨fF, gN, a4, a5⟩ := at_T85 (Kd.R_reads' HO_6.out).2.2 aE cL cM
       obtain rfl : bM = fF := (by injection gN)
       replace cL := eq_true cL
       replace cM := eq_true cM
       refine start_ (n := 19) (S := fun w' => w'.cell? (bM.add (((ji39)).toNat * 2)) = some (.int .u64 ((rd_T85 aH (ji39)).f0)) ∧ w'.cell? ⟨(bM.add (((ji39)).toNat * 2)).block, (bM.add (((ji39)).toNat * 2)).off + 1, none⟩ = some (.int .i64 ((rd_T85 aH (ji39)).f1)) ∧ w'.cell? (bM.add ((aE).toNat * 2)) = some (.int .u64 ((rd_T85 aH aE).f0)) ∧ w'.cell? ⟨(bM.add ((aE).toNat * 2)).block, (bM.add ((aE).toNat * 2)).off + 1, none⟩ = some (.int .i64 ((rd_T85 aH aE).f1))) (ds := []) #[false, false, false, false, false, false, false, false, false, false, false, false, false, false, false, false, false, false, false] (by kernel_rfl) rfl rfl ⟨a2, a3, a4, a5⟩ (fun hHeld => ?_); refine with_tabW stanchionref15_Pop.tab10 stanchionref15_Pop.bits10 (fun HT_ HW_ => ?_)
       generalize wr.drew = w44 at HO_6 aA aC HB a2 a3 a4 a5 hHeld ⊢
       refine qa 0 38 (tb 19 1) (any_of HT_.out (by kernel_rfl)) ?_
       refine qa 1 39 (tb 19 3) (any_of HT_.out (by kernel_rfl)) ?_
       refine qa 2 40 (tb 19 7) (any_of HT_.out (by kernel_rfl)) ?_
       refine qa 3 41 (tb 19 15) (any_of HT_.out (by kernel_rfl)) ?_
       refine qa 4 42 (tb 19 31) (any_of HT_.out (by kernel_rfl)) ?_
       refine qa 5 43 (tb 19 63) (any_of HT_.out (by kernel_rfl)) ?_
       refine qa 6 44 (tb 19 127) (any_of HT_.out (by kernel_rfl)) ?_
       refine qa 7 45 (tb 19 255) (any_of HT_.out (by kernel_rfl)) ?_
       refine qa 8 46 (tb 19 511) (any_of HT_.out (by kernel_rfl)) ?_
       refine qa 9 47 (tb 19 1023) (any_of HT_.out (by kernel_rfl)) ?_
       refine qa 10 48 (tb 19 2047) (any_of HT_.out (by kernel_rfl)) ?_
       refine qa 11 49 (tb 19 4095) (any_of HT_.out (by kernel_rfl)) ?_
       refine qa 13 51 (tb 19 12287) (any_of HT_.out (by kernel_rfl)) ?_
       refine qa 14 52 (tb 19 28671) (any_of HT_.out (by kernel_rfl)) ?_
       refine qa 15 53 (tb 19 61439) (any_of HT_.out (by kernel_rfl)) ?_
       refine kd 12 50 (tb 19 65535) (take_ofW HT_.out HW_.out (by kernel_rfl)) hHeld ?_
       refine kd 16 54 (tb 19 131071) (take_ofW HT_.out HW_.out (by kernel_rfl)) hHeld ?_
       refine one_ (i := 17) (N := some 55) (tb 19 262143) rfl rfl (one_of HT_.out (by kernel_rfl)) (by decide) (fun K hK => ?_)
       refine goes_ Try.func53 (by kernel_rfl) rfl #[.agg #[.int .u64 ((rd_T85 aH (ji39)).f0), .int .i64 ((rd_T85 aH (ji39)).f1)], .agg #[.int .u64 ((rd_T85 aH aE).f0), .int .i64 ((rd_T85 aH aE).f1)]] (by rfl) rfl rfl (by (try simp only [List.map_toArray, List.map_cons, List.map_nil]); first | done | (simp only [hji39]; rfl) | rfl | (simp only [List.length_drop, List.length_take]; rfl)) ?_
       with_reducible refine (stanchionref15_Less.calls ((rd_T85 aH (ji39)).f0) ((rd_T85 aH (ji39)).f1) ((rd_T85 aH aE).f0) ((rd_T85 aH aE).f1) dA _ hO.out).mono ?_
       rintro e iC ⟨rfl, hb⟩
       have eK := (hb.cell (World.block_lt_of_cell? _ _ (hHeld.1))).trans (hHeld.1)
       have eL := (hb.cell (World.block_lt_of_cell? _ _ (hHeld.2.1))).trans (hHeld.2.1)
       have eM := (hb.cell (World.block_lt_of_cell? _ _ (hHeld.2.2.1))).trans (hHeld.2.2.1)
       have eN := (hb.cell (World.block_lt_of_cell? _ _ (hHeld.2.2.2))).trans (hHeld.2.2.2)
       refine ⟨_, rfl, ?_⟩
       replace HO_6 := rb HO_6 hb
       replace aA := bb aA hb
       replace aC := bb aC hb
       replace HB := ak (below_step (ub aK.out aP.out HB.out) hb)
       (try clear hb)
       (try clear hb2)
       (try clear hk)
       (try clear hi)
       refine hK.out _ _ ⟨eK, eL, eM, eN⟩ (fun hHeld => ?_)
       clear hK K
       refine norm_ (a' := ?_) ?_ ?_
       rotate_left
       ·show Act.put _ (some 55) _ = _
        simp only [Act.put, List.setIfInBounds_toArray, List.set_cons_zero, List.set_cons_succ, i64_w, i32_w]
        rfl
       refine qa 18 56 (tb 19 524287) (any_of HT_.out (by kernel_rfl)) ?_
       refine done_ (done_of HT_.out (by kernel_rfl)) ?_
       try go_wp2
       go_meet
       case rel => exact ⟨_, (dA), es, H', ⟨by have := dH.out; first | omega | exact Nat.le_refl _⟩, ⟨pR HO_6.out⟩, ⟨pk aA.out⟩, ⟨pk aC.out⟩, ⟨ub aK.out aP.out HB.out⟩⟩
      ·rw [if_neg dR] at H
       have a1 : decide ((wrap64 ((wrap64 (2 * aE)) + 1)) < (aH.length : Int)) = false := decide_eq_false dR
       clear dR
       (first | rw [a1] | (simp only [i64_w, i32_w]; rw [a1]) | skip)
       have H' := ak H
       clear H
       try go_wp2
       replace HO_6 := ak (Kd.R_drew HO_6.out)
       replace aA := ak (blk_drew aA.out)
       replace aC := ak (blk_drew aC.out)
       replace HB := ak (below_drew1 HB.out)
       obtain ⟨hR, hS, fG⟩ := Kd.R_slice HO_6.out
       (first | subst fG | (injection fG with f1_ f2_ f3_; have eI := f1_.symm; have eJ := f3_.symm; clear f1_ f2_ f3_; subst eI; subst eJ))
       refine start_ (n := 19) (S := fun w' => True) (ds := []) #[false, false, false, false, false, false, false, false, false, false, false, false, false, false, false, false, false, false, false] (by kernel_rfl) rfl rfl trivial (fun hHeld => ?_); refine with_tabW stanchionref15_Pop.tab10 stanchionref15_Pop.bits10 (fun HT_ HW_ => ?_)
       generalize wr.drew = w47 at HO_6 aA aC HB hHeld ⊢
       refine qa 0 38 (tb 19 1) (any_of HT_.out (by kernel_rfl)) ?_
       refine qa 1 39 (tb 19 3) (any_of HT_.out (by kernel_rfl)) ?_
       refine qa 2 40 (tb 19 7) (any_of HT_.out (by kernel_rfl)) ?_
       refine qa 3 41 (tb 19 15) (any_of HT_.out (by kernel_rfl)) ?_
       refine qa 4 42 (tb 19 31) (any_of HT_.out (by kernel_rfl)) ?_
       refine qa 5 43 (tb 19 63) (any_of HT_.out (by kernel_rfl)) ?_
       refine qa 6 44 (tb 19 127) (any_of HT_.out (by kernel_rfl)) ?_
       refine qb 7 45 (tb 19 255) (any_of HT_.out (by kernel_rfl)) ?_
       refine qb 8 46 (tb 19 511) (any_of HT_.out (by kernel_rfl)) ?_
       refine qb 9 47 (tb 19 1023) (any_of HT_.out (by kernel_rfl)) ?_
       refine qb 10 48 (tb 19 2047) (any_of HT_.out (by kernel_rfl)) ?_
       refine qb 11 49 (tb 19 4095) (any_of HT_.out (by kernel_rfl)) ?_
       refine qb 12 50 (tb 19 8191) (any_of HT_.out (by kernel_rfl)) ?_
       refine qb 13 51 (tb 19 16383) (any_of HT_.out (by kernel_rfl)) ?_
       refine qb 14 52 (tb 19 32767) (any_of HT_.out (by kernel_rfl)) ?_
       refine qb 15 53 (tb 19 65535) (any_of HT_.out (by kernel_rfl)) ?_
       refine qb 16 54 (tb 19 131071) (any_of HT_.out (by kernel_rfl)) ?_
       refine qb 17 55 (tb 19 262143) (any_of HT_.out (by kernel_rfl)) ?_
       refine qa 18 56 (tb 19 524287) (any_of HT_.out (by kernel_rfl)) ?_
       refine done_ (done_of HT_.out (by kernel_rfl)) ?_
       try go_wp2
       go_meet
       case rel => exact ⟨_, (false), es, H', ⟨by have := dH.out; first | omega | exact Nat.le_refl _⟩, ⟨pR HO_6.out⟩, ⟨pk aA.out⟩, ⟨pk aC.out⟩, ⟨ub aK.out aP.out HB.out⟩⟩
     case rest =>
      clear eE
      try clear c1 q1 c2 cP cQ dJ p2 q2 hx2 qi2 hf2 c3 q3 hx3 hf3 c4 c5 dK dL p5 q5 hx5 qi5 c6 p6 c7 dM dN c8 dO dP c9 cO bZ b0 cA c13 cR d0 cB d1 cC cD c25 cT cU hx25 dQ hf25 c28 cS c35 hx35 hf35 dR a1 eF dB eG dC eH dD bA bB bE bF bP bQ bC bD bG bH bR bS a7 a8 aY aZ aT aU bI bJ a2 a3 a4 a5 p2 cT p5 bK b3 cJ cL p6 q1 cR q2 cU q3 cS q5 bL b4 cK cM
      obtain ⟨kq, bT, rfl, HA, b1, HO_6, aA, aC, HB⟩ := hcut
      cases kq with
      | zero => exact absurd HA.out (by simp [stanchionref15_Pop.j1])
      | succ kj36 =>
       have H := HA.out
       clear HA
       simp only [stanchionref15_Pop.j1] at H
       have eO := ak H
       clear H
       go_upto_if 56 with (fail)
       go_cut [8] (fun v8 wc => ∃ (kq : Nat) (aM : Int), v8 = .int .i64 aM ∧ Aside0 (stanchionref15_Pop.j2 kq aH aE aM ((rd_T85 l0 0).f0) ((rd_T85 l0 0).f1) = some (r1, r2, r3, r4)) ∧ Aside0 (kq ≤ kj36) ∧ Aside0 (Kd.R k85 85 wc w.heap.size (fun k_ => (w.heap.size ≤ k_) ∧ k_ ≠ aD ∧ k_ ≠ aI) u6 aH) ∧ Aside0 (wc.heap[aD]? = some (.cells #[.int .u64 aQ, .int .i64 aN] 85 (0, 0))) ∧ Aside0 (wc.heap[aI]? = some (.cells #[.int .u64 ((rd_T85 l0 0).f0), .int .i64 ((rd_T85 l0 0).f1)] 85 (0, 0))) ∧ Aside0 (Below w.heap.size w wc))
       case first =>
        have H := eO.out
        clear eO
        by_cases eU : bT = true
        ·subst eU
         have H1 : (stanchionref15_Pop.j2 kj36 aH aE (wrap64 ((wrap64 (2 * aE)) + 1)) ((rd_T85 l0 0).f0) ((rd_T85 l0 0).f1)) = some (r1, r2, r3, r4) := by rw [if_pos rfl] at H; exact H
         clear H
         have H := H1
         clear H1
         have H' := ak H
         clear H
         go_wp2
         go_meet
         case rel => exact ⟨_, (wrap64 ((wrap64 (2 * aE)) + 1)), es, H', ⟨by have := dH.out; have := b1.out; first | omega | exact Nat.le_refl _⟩, ⟨pR HO_6.out⟩, ⟨pk aA.out⟩, ⟨pk aC.out⟩, ⟨ub aK.out aP.out HB.out⟩⟩
        ·replace eU := Bool.eq_false_iff.mpr eU
         subst eU
         have H1 : (stanchionref15_Pop.j2 kj36 aH aE aE ((rd_T85 l0 0).f0) ((rd_T85 l0 0).f1)) = some (r1, r2, r3, r4) := by rw [if_neg (show ¬ (false = true) by decide)] at H; exact H
         clear H
         have H := H1
         clear H1
         have H' := ak H
         clear H
         go_wp2
         go_meet
         case rel => exact ⟨_, (aE), es, H', ⟨by have := dH.out; have := b1.out; first | omega | exact Nat.le_refl _⟩, ⟨pR HO_6.out⟩, ⟨pk aA.out⟩, ⟨pk aC.out⟩, ⟨ub aK.out aP.out HB.out⟩⟩
       case rest =>
        clear eO
        try clear c1 q1 c2 cP cQ dJ p2 q2 hx2 qi2 hf2 c3 q3 hx3 hf3 c4 c5 dK dL p5 q5 hx5 qi5 c6 p6 c7 dM dN c8 dO dP c9 cO bZ b0 cA c13 cR d0 cB d1 cC cD c25 cT cU hx25 dQ hf25 c28 cS c35 hx35 hf35 dR a1 eF dB eG dC eH dD eU bA bB bE bF bP bQ bC bD bG bH bR bS a7 a8 aY aZ aT aU bI bJ a2 a3 a4 a5 p2 cT p5 bK b3 cJ cL p6 q1 cR q2 cU q3 cS q5 bL b4 cK cM
        obtain ⟨kq, aM, rfl, HA, cN, HO_6, aA, aC, HB⟩ := hcut
        cases kq with
        | zero => exact absurd HA.out (by simp [stanchionref15_Pop.j2])
        | succ kj48 =>
         have H := HA.out
         clear HA
         simp only [stanchionref15_Pop.j2] at H
         have eP := ak H
         clear H
         go_upto_region 12 with (fail)
         go_cut [78] (fun v78 wc => ∃ (kq : Nat) (bU : Bool), v78 = .bool bU ∧ Aside0 (stanchionref15_Pop.j3 kq aH aE aM bU ((rd_T85 l0 0).f0) ((rd_T85 l0 0).f1) = some (r1, r2, r3, r4)) ∧ Aside0 (kq ≤ kj48) ∧ Aside0 (Kd.R k85 85 wc w.heap.size (fun k_ => (w.heap.size ≤ k_) ∧ k_ ≠ aD ∧ k_ ≠ aI) u6 aH) ∧ Aside0 (wc.heap[aD]? = some (.cells #[.int .u64 aQ, .int .i64 aN] 85 (0, 0))) ∧ Aside0 (wc.heap[aI]? = some (.cells #[.int .u64 ((rd_T85 l0 0).f0), .int .i64 ((rd_T85 l0 0).f1)] 85 (0, 0))) ∧ Aside0 (Below w.heap.size w wc))
         case first =>
          have H := eP.out
          clear eP
          by_cases eQ : (wrap64 ((wrap64 (2 * aE)) + 2)) < (aH.length : Int)
          ·rw [if_pos eQ] at H
           have bN : decide ((wrap64 ((wrap64 (2 * aE)) + 2)) < (aH.length : Int)) = true := decide_eq_true eQ
           clear eQ
           (first | rw [bN] | (simp only [i64_w, i32_w]; rw [bN]) | skip)
           obtain ⟨ji53, hji53⟩ : ∃ j_ : Int, (wrap64 ((wrap64 (2 * aE)) + 2)) = j_ := ⟨_, rfl⟩
           replace H : (if 0 ≤ (ji53) then (if 0 ≤ aM then (if aM < (aH.length : Int) then ((stanchionref15_Less.f ((rd_T85 aH (ji53)).f0) ((rd_T85 aH (ji53)).f1) ((rd_T85 aH aM).f0) ((rd_T85 aH aM).f1)).bind fun dE => (stanchionref15_Pop.j3 kj48 aH aE aM dE ((rd_T85 l0 0).f0) ((rd_T85 l0 0).f1))) else (none)) else (none)) else (none)) = some (r1, r2, r3, r4) := by first | (rw [hji53] at H; exact H) | (simp only [hji53] at H ⊢; exact H)
           (try rw [hji53] at bN)
           have gO : (IntKind.i64.wrap ((wrap64 (2 * aE)) + 2)) = ji53 := (i64_w _).trans hji53
           have fH : 0 ≤ (ji53) := Decidable.byContradiction fun q => by rw [if_neg q] at H; exact absurd H (by simp)
           rw [if_pos fH] at H
           have fI : decide (0 ≤ (ji53)) = true := decide_eq_true fH
           clear fH
           have fJ : 0 ≤ aM := Decidable.byContradiction fun q => by rw [if_neg q] at H; exact absurd H (by simp)
           rw [if_pos fJ] at H
           have fK : decide (0 ≤ aM) = true := decide_eq_true fJ
           clear fJ
           have fL : aM < (aH.length : Int) := Decidable.byContradiction fun q => by rw [if_neg q] at H; exact absurd H (by simp)
           rw [if_pos fL] at H
           have fM : decide (aM < (aH.length : Int)) = true := decide_eq_true fL
           clear fL
           replace H := Option.bind_eq_some_iff.mp H
           obtain ⟨dE, fN, H⟩ := H
           try dsimp only at H
           have hT := ak fN
           clear fN
           have H' := ak H
           clear H
           try go_wp2
           replace HO_6 := ak (Kd.R_drew HO_6.out)
           replace aA := ak (blk_drew aA.out)
           replace aC := ak (blk_drew aC.out)
           replace HB := ak (below_drew1 HB.out)
           obtain ⟨hU, hV, fO⟩ := Kd.R_slice HO_6.out
           (first | subst fO | (injection fO with f1_ f2_ f3_; have eI := f1_.symm; have eJ := f3_.symm; clear f1_ f2_ f3_; subst eI; subst eJ))
           have dS : 0 ≤ ((ji53) : Int) := od
           have dT : (ji53) < (aH.length : Int) := od
           obtain ⟨bO, gP, bV, bW⟩ := at_T85 (Kd.R_reads' HO_6.out).2.2 (ji53) dS dT
           cases gP
           replace dS := eq_true dS
           replace dT := eq_true dT
           have dU : 0 ≤ (aM : Int) := od
           have dV : aM < (aH.length : Int) := od
           obtain ⟨fP, gQ, bX, bY⟩ := at_T85 (Kd.R_reads' HO_6.out).2.2 aM dU dV
           obtain rfl : bO = fP := (by injection gQ)
           replace dU := eq_true dU
           replace dV := eq_true dV
           refine start_ (n := 19) (S := fun w' => w'.cell? (bO.add (((ji53)).toNat * 2)) = some (.int .u64 ((rd_T85 aH (ji53)).f0)) ∧ w'.cell? ⟨(bO.add (((ji53)).toNat * 2)).block, (bO.add (((ji53)).toNat * 2)).off + 1, none⟩ = some (.int .i64 ((rd_T85 aH (ji53)).f1)) ∧ w'.cell? (bO.add ((aM).toNat * 2)) = some (.int .u64 ((rd_T85 aH aM).f0)) ∧ w'.cell? ⟨(bO.add ((aM).toNat * 2)).block, (bO.add ((aM).toNat * 2)).off + 1, none⟩ = some (.int .i64 ((rd_T85 aH aM).f1))) (ds := []) #[false, false, false, false, false, false, false, false, false, false, false, false, false, false, false, false, false, false, false] (by kernel_rfl) rfl rfl ⟨bV, bW, bX, bY⟩ (fun hHeld => ?_); refine with_tabW stanchionref15_Pop.tab12 stanchionref15_Pop.bits12 (fun HT_ HW_ => ?_)
           generalize wc.drew = w58 at HO_6 aA aC HB bV bW bX bY hHeld ⊢
           refine qa 0 60 (tb 19 1) (any_of HT_.out (by kernel_rfl)) ?_
           refine qa 1 61 (tb 19 3) (any_of HT_.out (by kernel_rfl)) ?_
           refine qa 2 62 (tb 19 7) (any_of HT_.out (by kernel_rfl)) ?_
           refine qa 3 63 (tb 19 15) (any_of HT_.out (by kernel_rfl)) ?_
           refine qa 4 64 (tb 19 31) (any_of HT_.out (by kernel_rfl)) ?_
           refine qa 5 65 (tb 19 63) (any_of HT_.out (by kernel_rfl)) ?_
           refine qa 6 66 (tb 19 127) (any_of HT_.out (by kernel_rfl)) ?_
           refine qa 7 67 (tb 19 255) (any_of HT_.out (by kernel_rfl)) ?_
           refine qa 8 68 (tb 19 511) (any_of HT_.out (by kernel_rfl)) ?_
           refine qa 9 69 (tb 19 1023) (any_of HT_.out (by kernel_rfl)) ?_
           refine qa 10 70 (tb 19 2047) (any_of HT_.out (by kernel_rfl)) ?_
           refine qa 11 71 (tb 19 4095) (any_of HT_.out (by kernel_rfl)) ?_
           refine qa 13 73 (tb 19 12287) (any_of HT_.out (by kernel_rfl)) ?_
           refine qa 14 74 (tb 19 28671) (any_of HT_.out (by kernel_rfl)) ?_
           refine qa 15 75 (tb 19 61439) (any_of HT_.out (by kernel_rfl)) ?_
           refine kd 12 72 (tb 19 65535) (take_ofW HT_.out HW_.out (by kernel_rfl)) hHeld ?_
           refine kd 16 76 (tb 19 131071) (take_ofW HT_.out HW_.out (by kernel_rfl)) hHeld ?_
           refine one_ (i := 17) (N := some 77) (tb 19 262143) rfl rfl (one_of HT_.out (by kernel_rfl)) (by decide) (fun K hK => ?_)
           refine goes_ Try.func53 (by kernel_rfl) rfl #[.agg #[.int .u64 ((rd_T85 aH (ji53)).f0), .int .i64 ((rd_T85 aH (ji53)).f1)], .agg #[.int .u64 ((rd_T85 aH aM).f0), .int .i64 ((rd_T85 aH aM).f1)]] (by rfl) rfl rfl (by (try simp only [List.map_toArray, List.map_cons, List.map_nil]); first | done | (simp only [hji53]; rfl) | rfl | (simp only [List.length_drop, List.length_take]; rfl)) ?_
           with_reducible refine (stanchionref15_Less.calls ((rd_T85 aH (ji53)).f0) ((rd_T85 aH (ji53)).f1) ((rd_T85 aH aM).f0) ((rd_T85 aH aM).f1) dE _ hT.out).mono ?_
           rintro e iD ⟨rfl, hb⟩
           have eK := (hb.cell (World.block_lt_of_cell? _ _ (hHeld.1))).trans (hHeld.1)
           have eL := (hb.cell (World.block_lt_of_cell? _ _ (hHeld.2.1))).trans (hHeld.2.1)
           have eM := (hb.cell (World.block_lt_of_cell? _ _ (hHeld.2.2.1))).trans (hHeld.2.2.1)
           have eN := (hb.cell (World.block_lt_of_cell? _ _ (hHeld.2.2.2))).trans (hHeld.2.2.2)
           refine ⟨_, rfl, ?_⟩
           replace HO_6 := rb HO_6 hb
           replace aA := bb aA hb
           replace aC := bb aC hb
           replace HB := ak (below_step (ub aK.out aP.out HB.out) hb)
           (try clear hb)
           (try clear hb2)
           (try clear hk)
           (try clear hi)
           refine hK.out _ _ ⟨eK, eL, eM, eN⟩ (fun hHeld => ?_)
           clear hK K
           refine norm_ (a' := ?_) ?_ ?_
           rotate_left
           ·show Act.put _ (some 77) _ = _
            simp only [Act.put, List.setIfInBounds_toArray, List.set_cons_zero, List.set_cons_succ, i64_w, i32_w]
            rfl
           refine qa 18 78 (tb 19 524287) (any_of HT_.out (by kernel_rfl)) ?_
           refine done_ (done_of HT_.out (by kernel_rfl)) ?_
           try go_wp2
           go_meet
           case rel => exact ⟨_, (dE), es, H', ⟨by have := dH.out; have := b1.out; have := cN.out; first | omega | exact Nat.le_refl _⟩, ⟨pR HO_6.out⟩, ⟨pk aA.out⟩, ⟨pk aC.out⟩, ⟨ub aK.out aP.out HB.out⟩⟩
          ·rw [if_neg eQ] at H
           have bN : decide ((wrap64 ((wrap64 (2 * aE)) + 2)) < (aH.length : Int)) = false := decide_eq_false eQ
           clear eQ
           (first | rw [bN] | (simp only [i64_w, i32_w]; rw [bN]) | skip)
           have H' := ak H
           clear H
           try go_wp2
           replace HO_6 := ak (Kd.R_drew HO_6.out)
           replace aA := ak (blk_drew aA.out)
           replace aC := ak (blk_drew aC.out)
           replace HB := ak (below_drew1 HB.out)
           obtain ⟨hW, hX, fQ⟩ := Kd.R_slice HO_6.out
           (first | subst fQ | (injection fQ with f1_ f2_ f3_; have eI := f1_.symm; have eJ := f3_.symm; clear f1_ f2_ f3_; subst eI; subst eJ))
           refine start_ (n := 19) (S := fun w' => True) (ds := []) #[false, false, false, false, false, false, false, false, false, false, false, false, false, false, false, false, false, false, false] (by kernel_rfl) rfl rfl trivial (fun hHeld => ?_); refine with_tabW stanchionref15_Pop.tab12 stanchionref15_Pop.bits12 (fun HT_ HW_ => ?_)
           generalize wc.drew = w61 at HO_6 aA aC HB hHeld ⊢
           refine qa 0 60 (tb 19 1) (any_of HT_.out (by kernel_rfl)) ?_
           refine qa 1 61 (tb 19 3) (any_of HT_.out (by kernel_rfl)) ?_
           refine qa 2 62 (tb 19 7) (any_of HT_.out (by kernel_rfl)) ?_
           refine qa 3 63 (tb 19 15) (any_of HT_.out (by kernel_rfl)) ?_
           refine qa 4 64 (tb 19 31) (any_of HT_.out (by kernel_rfl)) ?_
           refine qa 5 65 (tb 19 63) (any_of HT_.out (by kernel_rfl)) ?_
           refine qa 6 66 (tb 19 127) (any_of HT_.out (by kernel_rfl)) ?_
           refine qb 7 67 (tb 19 255) (any_of HT_.out (by kernel_rfl)) ?_
           refine qb 8 68 (tb 19 511) (any_of HT_.out (by kernel_rfl)) ?_
           refine qb 9 69 (tb 19 1023) (any_of HT_.out (by kernel_rfl)) ?_
           refine qb 10 70 (tb 19 2047) (any_of HT_.out (by kernel_rfl)) ?_
           refine qb 11 71 (tb 19 4095) (any_of HT_.out (by kernel_rfl)) ?_
           refine qb 12 72 (tb 19 8191) (any_of HT_.out (by kernel_rfl)) ?_
           refine qb 13 73 (tb 19 16383) (any_of HT_.out (by kernel_rfl)) ?_
           refine qb 14 74 (tb 19 32767) (any_of HT_.out (by kernel_rfl)) ?_
           refine qb 15 75 (tb 19 65535) (any_of HT_.out (by kernel_rfl)) ?_
           refine qb 16 76 (tb 19 131071) (any_of HT_.out (by kernel_rfl)) ?_
           refine qb 17 77 (tb 19 262143) (any_of HT_.out (by kernel_rfl)) ?_
           refine qa 18 78 (tb 19 524287) (any_of HT_.out (by kernel_rfl)) ?_
           refine done_ (done_of HT_.out (by kernel_rfl)) ?_
           try go_wp2
           go_meet
           case rel => exact ⟨_, (false), es, H', ⟨by have := dH.out; have := b1.out; have := cN.out; first | omega | exact Nat.le_refl _⟩, ⟨pR HO_6.out⟩, ⟨pk aA.out⟩, ⟨pk aC.out⟩, ⟨ub aK.out aP.out HB.out⟩⟩
         case rest =>
          clear eP
          try clear c1 q1 c2 cP cQ dJ p2 q2 hx2 qi2 hf2 c3 q3 hx3 hf3 c4 c5 dK dL p5 q5 hx5 qi5 c6 p6 c7 dM dN c8 dO dP c9 cO bZ b0 cA c13 cR d0 cB d1 cC cD c25 cT cU hx25 dQ hf25 c28 cS c35 hx35 hf35 dR a1 eF dB eG dC eH dD eU eQ bN p52 q52 hx52 c53 p53 q53 hx53 fH fI p54 q54 hx54 fJ fK fL fM bA bB bE bF bP bQ bC bD bG bH bR bS a7 a8 aY aZ aT aU bI bJ a2 a3 a4 a5 bV bW bX bY p2 cT p5 bK b3 cJ cL dS dU p6 q1 cR q2 cU q3 cS q5 bL b4 cK cM dT dV
          obtain ⟨kq, bU, rfl, HA, dW, HO_6, aA, aC, HB⟩ := hcut
          cases kq with
          | zero => exact absurd HA.out (by simp [stanchionref15_Pop.j3])
          | succ kj50 =>
           have H := HA.out
           clear HA
           simp only [stanchionref15_Pop.j3] at H
           by_cases f6 : bU = true
           ·subst f6
            have H1 : (if (wrap64 ((wrap64 (2 * aE)) + 2)) = aE then (some (aH, ((rd_T85 l0 0).f0), ((rd_T85 l0 0).f1), true)) else ((stanchionref15_swap.f aH aE (wrap64 ((wrap64 (2 * aE)) + 2))).bind fun dF => (stanchionref15_Pop.l0 kj50 dF (wrap64 ((wrap64 (2 * aE)) + 2)) ((rd_T85 l0 0).f0) ((rd_T85 l0 0).f1)))) = some (r1, r2, r3, r4) := by rw [if_pos rfl] at H; exact H
            clear H
            have H := H1
            clear H1
            by_cases eR : (wrap64 ((wrap64 (2 * aE)) + 2)) = aE
            ·rw [if_pos eR] at H
             have fR : ((wrap64 ((wrap64 (2 * aE)) + 2)) == aE) = true := beq_iff_eq.mpr eR
             have fS : ((wrap64 ((wrap64 (2 * aE)) + 2)) != aE) = false := bne_eq_false_iff_eq.mpr eR
             clear eR
             simp only [Option.some.injEq, Prod.mk.injEq] at H
             obtain ⟨rfl, rfl, rfl, rfl⟩ := H
             try go_wp2
             replace HO_6 := ak (Kd.R_drew HO_6.out)
             replace aA := ak (blk_drew aA.out)
             replace aC := ak (blk_drew aC.out)
             replace HB := ak (below_drew1 HB.out)
             refine start_ (n := 5) (S := fun w' => w'.cell? ⟨aI, 0, none⟩ = some (.int .u64 ((rd_T85 l0 0).f0)) ∧ w'.cell? ⟨aI, 1, none⟩ = some (.int .i64 ((rd_T85 l0 0).f1))) (ds := []) #[false, false, false, false, false] (by kernel_rfl) rfl rfl ⟨(blk_cell aC.out 0).trans rfl, (blk_cell aC.out 1).trans rfl⟩ (fun hHeld => ?_)
             generalize wc.drew = w65 at HO_6 aA aC HB hHeld ⊢
             refine qa 0 85 (tb 5 1) (by kernel_rfl) ?_
             refine qa 2 2 (tb 5 5) (by kernel_rfl) ?_
             refine kb 1 86 (tb 5 7) (by kernel_rfl) hHeld ?_
             refine one_ (i := 3) (N := none) (tb 5 15) rfl rfl (by kernel_rfl) (by decide) (fun K hK => ?_)
             have hY : w65.cell? ⟨aD, 0, none⟩ = some (.int .u64 aQ) := (blk_cell aA.out 0).trans rfl
             have g4 := blk_frozen aA.out 0
             have f7 := aG.out
             have f8 := aJ.out
             have hZ : w65.cell? ⟨aD, 1, none⟩ = some (.int .i64 aN) := (blk_cell aA.out 1).trans rfl
             have g5 := blk_frozen aA.out 1
             have f9 := aG.out
             have gA := aJ.out
             refine skip_ (w1 := ?_) (by rfl) rfl ?_ ?_
             rotate_left
             ·go_simp
              rfl
             refine hK.out _ _ ⟨((cell_far (p := ⟨aD, _, none⟩) aG.out _).trans (((cell_far (p := ⟨aD, _, none⟩) aG.out _).trans (hHeld.1)))), ((cell_far (p := ⟨aD, _, none⟩) aG.out _).trans (((cell_far (p := ⟨aD, _, none⟩) aG.out _).trans (hHeld.2))))⟩ (fun hHeld => ?_)
             clear hK K
             refine qa 4 4 (tb 5 31) (by kernel_rfl) ?_
             refine done_ (by kernel_rfl) ?_
             try go_wp2
             refine bodyPost_ret (results_list (rs := [.tmp 2, .cell 3 85, .tmp 4]) rfl (by simp) (.tmp (.cell aD 85 #[.int .u64 ((rd_T85 l0 0).f0), .int .i64 ((rd_T85 l0 0).f1)] (0, 0) _ rfl (by exact pq (blk_put (blk_put (pk aA.out) 0 _ rfl) 1 _ rfl)) Try.underlying85 rfl (by kernel_rfl) (.tmp .nil)))) rfl ?_
             exact ⟨_, by first | rfl | (simp [errW_none, errW_some] <;> rfl) | (simp only [← hji6]; first | rfl | (simp [errW_none, errW_some] <;> rfl)) | (simp [*, errW_none, errW_some] <;> rfl), Kd.V_mono (Kd.R_V (qr (Kd.R_mono (rf2 (Kd.R_mono HO_6.out (fun k_ hk => (⟨hk, hk.2.1⟩ : _ ∧ k_ ≠ aD))) fun _ hk => hk.2) (fun _ hk => hk.1.1)))) (fun k_ hk => by first | exact ⟨(.inr (hk.1)), hk.2⟩ | exact (.inr (hk))), ub aK.out aP.out HB.out⟩
            ·rw [if_neg eR] at H
             have fR : ((wrap64 ((wrap64 (2 * aE)) + 2)) == aE) = false := beq_eq_false_iff_ne.mpr eR
             have fS : ((wrap64 ((wrap64 (2 * aE)) + 2)) != aE) = true := bne_iff_ne.mpr eR
             replace H := Option.bind_eq_some_iff.mp H
             obtain ⟨dF, fT, H⟩ := H
             try dsimp only at H
             have h0 := ak fT
             clear fT
             have H' := ak H
             clear H
             obtain ⟨gR, gS, gT⟩ := Kd.R_slice HO_6.out
             subst gT
             go_wp2_with (first | ((with_reducible refine gate_callee (f := 70) rfl ?_); refine goesL_ (some 90) rfl rfl Try.func70 (by kernel_rfl) rfl #[.slice gR aH.length gS, .int .i64 aE, .int .i64 (wrap64 ((wrap64 (2 * aE)) + 2))] rfl mp ?_; (with_reducible refine (stanchionref15_swap.calls _ _ aH aE (wrap64 ((wrap64 (2 * aE)) + 2)) dF _ ?side1 ?side2 h0.out).mono ?_); (case side1 => exact pc (Kd.R_reads' HO_6.out).2.2); (case side2 => exact (Kd.R_reads' HO_6.out).2.1); rintro e iE ⟨h1, rfl, eS, hb⟩; refine ⟨_, rfl, ?_⟩; have fU := ak (Kd.R_lower (Kd.R_newB (Kd.R_newB (Kd.R_new' (Kd.R_newM (M := fun k_ => (w.heap.size ≤ k_)) eS (below_size (ub aK.out aP.out HB.out)) (fun k_ h_ => h_)) (Kd.R_lt (pR HO_6.out))) (pk aA.out)) (pk aC.out)) (below_size (ub aK.out aP.out HB.out))); replace HO_6 := ak (Kd.R_elder' (pR HO_6.out) (Kd.R_base eS) hb); replace aA := bb aA hb; replace aC := bb aC hb; replace HB := ak (below_step (ub aK.out aP.out HB.out) hb); (try clear hb); (try clear hb2); (try clear hk); (try clear hi); (try clear eS)))
             go_roundg kj50
             case measure => have := dH.out; have := b1.out; have := cN.out; have := dW.out; omega
             case rel => exact ⟨(dF), (wrap64 ((wrap64 (2 * aE)) + 2)), (aQ), (aN), es, H', ⟨by have := dH.out; have := b1.out; have := cN.out; have := dW.out; omega⟩, ⟨pR (rm fU.out)⟩, ⟨pk aA.out⟩, ⟨pk aC.out⟩, ⟨ub aK.out aP.out HB.out⟩⟩
           ·replace f6 := Bool.eq_false_iff.mpr f6
            subst f6
            have H1 : (if aM = aE then (some (aH, ((rd_T85 l0 0).f0), ((rd_T85 l0 0).f1), true)) else ((stanchionref15_swap.f aH aE aM).bind fun dG => (stanchionref15_Pop.l0 kj50 dG aM ((rd_T85 l0 0).f0) ((rd_T85 l0 0).f1)))) = some (r1, r2, r3, r4) := by rw [if_neg (show ¬ (false = true) by decide)] at H; exact H
            clear H
            have H := H1
            clear H1
            by_cases eT : aM = aE
            ·rw [if_pos eT] at H
             have fV : (aM == aE) = true := beq_iff_eq.mpr eT
             have fW : (aM != aE) = false := bne_eq_false_iff_eq.mpr eT
             clear eT
             simp only [Option.some.injEq, Prod.mk.injEq] at H
             obtain ⟨rfl, rfl, rfl, rfl⟩ := H
             try go_wp2
             replace HO_6 := ak (Kd.R_drew HO_6.out)
             replace aA := ak (blk_drew aA.out)
             replace aC := ak (blk_drew aC.out)
             replace HB := ak (below_drew1 HB.out)
             refine start_ (n := 5) (S := fun w' => w'.cell? ⟨aI, 0, none⟩ = some (.int .u64 ((rd_T85 l0 0).f0)) ∧ w'.cell? ⟨aI, 1, none⟩ = some (.int .i64 ((rd_T85 l0 0).f1))) (ds := []) #[false, false, false, false, false] (by kernel_rfl) rfl rfl ⟨(blk_cell aC.out 0).trans rfl, (blk_cell aC.out 1).trans rfl⟩ (fun hHeld => ?_)
             generalize wc.drew = w72 at HO_6 aA aC HB hHeld ⊢
             refine qa 0 85 (tb 5 1) (by kernel_rfl) ?_
             refine qa 2 2 (tb 5 5) (by kernel_rfl) ?_
             refine kb 1 86 (tb 5 7) (by kernel_rfl) hHeld ?_
             refine one_ (i := 3) (N := none) (tb 5 15) rfl rfl (by kernel_rfl) (by decide) (fun K hK => ?_)
             have h2 : w72.cell? ⟨aD, 0, none⟩ = some (.int .u64 aQ) := (blk_cell aA.out 0).trans rfl
             have g6 := blk_frozen aA.out 0
             have gB := aG.out
             have gC := aJ.out
             have h3 : w72.cell? ⟨aD, 1, none⟩ = some (.int .i64 aN) := (blk_cell aA.out 1).trans rfl
             have g7 := blk_frozen aA.out 1
             have gD := aG.out
             have gE := aJ.out
             refine skip_ (w1 := ?_) (by rfl) rfl ?_ ?_
             rotate_left
             ·go_simp
              rfl
             refine hK.out _ _ ⟨((cell_far (p := ⟨aD, _, none⟩) aG.out _).trans (((cell_far (p := ⟨aD, _, none⟩) aG.out _).trans (hHeld.1)))), ((cell_far (p := ⟨aD, _, none⟩) aG.out _).trans (((cell_far (p := ⟨aD, _, none⟩) aG.out _).trans (hHeld.2))))⟩ (fun hHeld => ?_)
             clear hK K
             refine qa 4 4 (tb 5 31) (by kernel_rfl) ?_
             refine done_ (by kernel_rfl) ?_
             try go_wp2
             refine bodyPost_ret (results_list (rs := [.tmp 2, .cell 3 85, .tmp 4]) rfl (by simp) (.tmp (.cell aD 85 #[.int .u64 ((rd_T85 l0 0).f0), .int .i64 ((rd_T85 l0 0).f1)] (0, 0) _ rfl (by exact pq (blk_put (blk_put (pk aA.out) 0 _ rfl) 1 _ rfl)) Try.underlying85 rfl (by kernel_rfl) (.tmp .nil)))) rfl ?_
             exact ⟨_, by first | rfl | (simp [errW_none, errW_some] <;> rfl) | (simp only [← hji6]; first | rfl | (simp [errW_none, errW_some] <;> rfl)) | (simp [*, errW_none, errW_some] <;> rfl), Kd.V_mono (Kd.R_V (qr (Kd.R_mono (rf2 (Kd.R_mono HO_6.out (fun k_ hk => (⟨hk, hk.2.1⟩ : _ ∧ k_ ≠ aD))) fun _ hk => hk.2) (fun _ hk => hk.1.1)))) (fun k_ hk => by first | exact ⟨(.inr (hk.1)), hk.2⟩ | exact (.inr (hk))), ub aK.out aP.out HB.out⟩
            ·rw [if_neg eT] at H
             have fV : (aM == aE) = false := beq_eq_false_iff_ne.mpr eT
             have fW : (aM != aE) = true := bne_iff_ne.mpr eT
             replace H := Option.bind_eq_some_iff.mp H
             obtain ⟨dG, fX, H⟩ := H
             try dsimp only at H
             have h4 := ak fX
             clear fX
             have H' := ak H
             clear H
             obtain ⟨gU, gV, gW⟩ := Kd.R_slice HO_6.out
             subst gW
             go_wp2_with (first | ((with_reducible refine gate_callee (f := 70) rfl ?_); refine goesL_ (some 90) rfl rfl Try.func70 (by kernel_rfl) rfl #[.slice gU aH.length gV, .int .i64 aE, .int .i64 aM] rfl mp ?_; (with_reducible refine (stanchionref15_swap.calls _ _ aH aE aM dG _ ?side1 ?side2 h4.out).mono ?_); (case side1 => exact pc (Kd.R_reads' HO_6.out).2.2); (case side2 => exact (Kd.R_reads' HO_6.out).2.1); rintro e iF ⟨h5, rfl, eS, hb⟩; refine ⟨_, rfl, ?_⟩; have fY := ak (Kd.R_lower (Kd.R_newB (Kd.R_newB (Kd.R_new' (Kd.R_newM (M := fun k_ => (w.heap.size ≤ k_)) eS (below_size (ub aK.out aP.out HB.out)) (fun k_ h_ => h_)) (Kd.R_lt (pR HO_6.out))) (pk aA.out)) (pk aC.out)) (below_size (ub aK.out aP.out HB.out))); replace HO_6 := ak (Kd.R_elder' (pR HO_6.out) (Kd.R_base eS) hb); replace aA := bb aA hb; replace aC := bb aC hb; replace HB := ak (below_step (ub aK.out aP.out HB.out) hb); (try clear hb); (try clear hb2); (try clear hk); (try clear hi); (try clear eS)))
             go_roundg kj50
             case measure => have := dH.out; have := b1.out; have := cN.out; have := dW.out; omega
             case rel => exact ⟨(dG), (aM), (aQ), (aN), es, H', ⟨by have := dH.out; have := b1.out; have := cN.out; have := dW.out; omega⟩, ⟨pR (rm fY.out)⟩, ⟨pk aA.out⟩, ⟨pk aC.out⟩, ⟨ub aK.out aP.out HB.out⟩⟩

end Go.Proofs.Ytnpmjboofmdflaa.PA
