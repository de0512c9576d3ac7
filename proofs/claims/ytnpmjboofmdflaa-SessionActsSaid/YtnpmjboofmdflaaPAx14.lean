-- Made by a program of this workplace out of the translation (wip/tools in the repo). Not trusted: Lean checks it.
import Derived.Test.YtnpmjboofmdflaaPAx0
import Derived.Test.YtnpmjboofmdflaaCb
import Derived.Test.YtnpmjboofmdflaaSq
import Derived.Test.YtnpmjboofmdflaaTq
import Derived.Test.YtnpmjboofmdflaaPAx3
import Derived.Test.YtnpmjboofmdflaaPAx13
namespace Go.Proofs.Ytnpmjboofmdflaa.PA
open Go.RowKit Go.Proofs.YtnpmjboofmdflaaW.PrintWords Go.Proofs.YtnpmjboofmdflaaW.PrintLast Go.Proofs.YtnpmjboofmdflaaW.PrintMore Go.Proofs.Ytnpmjboofmdflaa
attribute [local go_sem] max2_int min2_int max_two min_two max_three min_three max_four min_four   -- for this text's walks alone
set_option linter.unusedVariables false
set_option linter.unusedSimpArgs false

/-! ### stanchionref15_Put: function 63 -/
def stanchionref15_Put.T4 : Bool × List (List Nat × List Nat) := (true, [([], []), ([0], [0]), ([1], [1]), ([2], [2]), ([2], [2]), ([3, 4, 2], [2, 3, 4]), ([5, 2], [2, 5]), ([2], [2]), ([2], [2]), ([8, 2], [2, 8]), ([9, 2], [2, 9]), ([7, 10, 2], [2, 7, 10]), ([11, 2], [2, 11]), ([6, 12, 2, 2], [2, 6, 12]), ([2, 13], [2, 13])])
def stanchionref15_Put.B4 : List Nat := [0, 1, 3, 7, 7, 31, 63, 7, 7, 263, 775, 1927, 3975, 8191, 16383]
theorem stanchionref15_Put.tab4 : rtab .any (opsOf Try.f63 4) = stanchionref15_Put.T4 := by kernel_rfl
theorem stanchionref15_Put.bits4 : waitsOk stanchionref15_Put.T4.2 stanchionref15_Put.B4 = true := by kernel_rfl
set_option maxHeartbeats 8000000 in
set_option maxRecDepth 100000 in
theorem stanchionref15_Put.calls (k : Nat) (A0 : Option Addr) (c0 : Nat) (l0 : List (S85)) (aH : Int) (aI : Int) (r : List (S85)) (w : World) (b5 : Kd.C k85 w A0 l0.length l0) (b6 : l0.length ≤ c0) (h : stanchionref15_Put.f k l0 aH aI = some r) :
  Calls Try.prog 63 #[.slice A0 l0.length c0, .agg #[.int .u64 aH, .int .i64 aI]] w fun e w' => ∃ v0_ : Value, e = .returned (v0_) ∧ Kd.R k85 85 w' w.heap.size (fun _ => True) v0_ r ∧ Below w.heap.size w w' := by
 have cE := Try.underlying85
 have cF := ak b5
 have cO := ak b6
 clear b5 b6
 have HB := ak (Below.refl w.heap.size w)
 have H : ((some (([] : List (S85)) : List (S85))).bind fun y431 => (if y431.length + l0.length < 8796093022208 then ((some (y431 ++ l0 : List (S85))).bind fun y434 => (if y434.length < 8796093022208 then ((some (y434 ++ [(⟨aH, aI⟩ : S85)] : List (S85))).bind fun y437 => (stanchionref15_Put.l0 k y437 (wrap64 ((y437.length : Int) - 1)))) else (none))) else (none))) = some r := h
 clear h
 obtain ⟨y431, hy431⟩ : ∃ y_ : List (S85), y_ = (([] : List (S85))) := ⟨_, rfl⟩
 replace H : (if y431.length + l0.length < 8796093022208 then ((some (y431 ++ l0 : List (S85))).bind fun y434 => (if y434.length < 8796093022208 then ((some (y434 ++ [(⟨aH, aI⟩ : S85)] : List (S85))).bind fun y437 => (stanchionref15_Put.l0 k y437 (wrap64 ((y437.length : Int) - 1)))) else (none))) else (none)) = some r := by first | (rw [hy431]; with_reducible exact H) | (have aY := (Option.bind_some _ _).symm.trans H; rw [hy431]; with_reducible exact aY) | (have aY := (Option.bind_some _ _).symm.trans H; with_reducible exact aY) | with_reducible exact H | (rw [hy431]; exact H) | exact H
 have a4 := ak hy431
 clear hy431
 have c3 : y431.length + l0.length < 8796093022208 := Decidable.byContradiction fun q => by rw [if_neg q] at H; exact absurd H (by simp)
 rw [if_pos c3] at H
 have bV := ak c3
 clear c3
 obtain ⟨y434, hy434⟩ : ∃ y_ : List (S85), y_ = (y431 ++ l0) := ⟨_, rfl⟩
 replace H : (if y434.length < 8796093022208 then ((some (y434 ++ [(⟨aH, aI⟩ : S85)] : List (S85))).bind fun y437 => (stanchionref15_Put.l0 k y437 (wrap64 ((y437.length : Int) - 1)))) else (none)) = some r := by first | (rw [hy434]; with_reducible exact H) | (have aY := (Option.bind_some _ _).symm.trans H; rw [hy434]; with_reducible exact aY) | (have aY := (Option.bind_some _ _).symm.trans H; with_reducible exact aY) | with_reducible exact H | (rw [hy434]; exact H) | exact H
 have bH := ak hy434
 clear hy434
 have c4 : y434.length < 8796093022208 := Decidable.byContradiction fun q => by rw [if_neg q] at H; exact absurd H (by simp)
 rw [if_pos c4] at H
 have bW := ak c4
 clear c4
 obtain ⟨y437, hy437⟩ : ∃ y_ : List (S85), y_ = (y434 ++ [(⟨aH, aI⟩ : S85)]) := ⟨_, rfl⟩
 replace H : (stanchionref15_Put.l0 k y437 (wrap64 ((y437.length : Int) - 1))) = some r := by first | (rw [hy437]; with_reducible exact H) | (have aY := (Option.bind_some _ _).symm.trans H; rw [hy437]; with_reducible exact aY) | (have aY := (Option.bind_some _ _).symm.trans H; with_reducible exact aY) | with_reducible exact H | (rw [hy437]; exact H) | exact H
 have bI := ak hy437
 clear hy437
 have H' := ak H
 clear H
 go_enter Try.func63, Try.ntmps63
 go_wp2_with (first | ((with_reducible refine gate_dst (N := 3) rfl ?_); refine bv 3 85 #[.int .u64 aH, .int .i64 aI] ?_; intro aJ hg w5 hbox hb; obtain ⟨n_, aG⟩ := Cb.bx (pB HB.out) hg hb; have b7 := aG; have aA := ak (hbox); replace HB := n_; clear n_; clear hb hbox hg) | ((with_reducible refine gate_dst (N := 7) rfl ?_); refine Kd.R_lit k85 _ 85 ?hg (N := 7) ?hd (xs := ([] : List (S85))) (inner := []) (ok := fun _ => True) (okp := fun _ => True) ?hr ?hp (fun _ hk => hk) trivial (Below.refl _ _) (Nat.le_refl _) (by simp) ?_; (case hd => rfl); (case hg => rfl); (case hr => first | (go_simp; done) | (go_simp; rfl)); (case hp => exact (Reps.none _ _)); intro bX w6 bJ hb hg_ hnew_; clear hg_ hnew_; (first | rw [← a4.out] at bJ | (simp only [Int.reduceToNat] at bJ; rw [← a4.out] at bJ)); have aZ := ak (Kd.R_lower (Kd.R_newB bJ (pk aA.out)) (below_size (ua aG.out HB.out))); replace aA := bb aA hb; replace HB := ak (below_step (ua aG.out HB.out) hb); clear hb bJ) | ((with_reducible refine gate_builtin (b := .append) (xs := #[.tmp 7, .tmp 8]) rfl ?_); at_builtin; refine Kd.R_append_rows k85 (w0 := w) w.heap.size rfl (.tmp 7) (.tmp 8) 23 85 (.agg #[(.int .u64 0), (.int .i64 0)]) 16 rfl Try.underlying23 info85 rfl (by decide) (by omega) bX y431 l0 _ _ _ (fun k_ => k_ ≠ aJ) (fun _ => False) rfl rfl ?aO ?aR (fun _ _ h => h) (fun _ h => h.elim) ?aF ?aB ?aS ?aL ?_; (case aR => exact pc (Kd.C_below cF.out HB.out)); (case aB => exact (ua aG.out HB.out)); (case aF => exact (fun k_ hk => Kd.freshB (pk aA.out) k_ hk)); (case aO => exact (pR (Kd.R_mono aZ.out (fun _ hk => hk.2)))); (case aS => exact (below_size (ua aG.out HB.out))); (case aL => have := bV.out; omega); intro bY w8 ho hb hg hat; rw [← bH.out] at ho; have n0_ := ak (blk_grown (pk aA.out) hg (Kd.R_away aZ.out (fun _ hk => hk.2))); have n1_ := ak (hb); have n2_ := ak (ho); clear aA; clear HB; clear aZ; have aA := n0_; have HB := n1_; have a0 := n2_; clear n0_ n1_ n2_; clear ho hb hg hat; obtain ⟨a6, a7⟩ := Cb.c2 aA.out; obtain ⟨a8, a9⟩ := Cb.f2 aA.out) | ((with_reducible refine gate_builtin (b := .append) (xs := #[.tmp 10, .tmp 12]) rfl ?_); at_builtin; refine Kd.R_append k85 (w0 := w) w.heap.size rfl (.tmp 10) (.tmp 12) 23 85 (.agg #[(.int .u64 0), (.int .i64 0)]) 16 rfl Try.underlying23 info85 rfl (by decide) (by omega) bY y434 (⟨aH, aI⟩ : S85) [.int .u64 aH, .int .i64 aI] (fun k_ => k_ ≠ aJ) (fun _ => False) rfl rfl ?aP (fun _ hk => hk.elim) ?aF ?aO ?aB ?aS ?aL ?_; (case aP => exact k85_mkM _ _ _ (⟨aH, aI⟩ : S85)); (case aB => exact (ua aG.out HB.out)); (case aF => exact (fun k_ hk => Kd.freshB (pk aA.out) k_ hk)); (case aO => exact (pR a0.out)); (case aS => exact (below_size (ua aG.out HB.out))); (case aL => have := bW.out; omega); intro cG cP ho hb hg hat; rw [← bI.out] at ho; have n0_ := ak (blk_grown (pk aA.out) hg (Kd.R_away a0.out (fun _ hk => hk))); have n1_ := ak (hb); have n2_ := ak (ho); clear aA; clear HB; clear a0; have aA := n0_; have HB := n1_; have a5 := n2_; clear n0_ n1_ n2_; clear ho hb hg hat; obtain ⟨cH, cI, bZ⟩ := Kd.R_slice a5.out; subst bZ))
 go_loopg [5, 6] k (fun kq v5 v6 w' => ∃ (aC : List (S85)) (aD : Int), v6 = .int .i64 aD ∧ Aside0 (stanchionref15_Put.l0 kq aC aD = some r) ∧ Aside0 (kq ≤ k) ∧ Aside0 (Kd.R k85 85 w' w.heap.size (fun k_ => k_ ≠ aJ) v5 aC) ∧ Aside0 (w'.heap[aJ]? = some (.cells #[.int .u64 aH, .int .i64 aI] 85 (0, 0))) ∧ Aside0 (Below w.heap.size w w'))
 case atStart => exact ⟨(y437), (wrap64 ((y437.length : Int) - 1)), es, H', ⟨Nat.le_refl _⟩, ⟨pR a5.out⟩, ⟨pk aA.out⟩, ⟨ua aG.out HB.out⟩⟩
 case round =>
  clear H'
  try clear p2 c3 c4 c6 p6 a6 a7 a8 a9
  obtain ⟨aC, aD, rfl, HA, b8, HO_5, aA, HB⟩ := hrel
  cases gk with
  | zero => exact absurd HA.out (by simp [stanchionref15_Put.l0])
  | succ k1 =>
   have H := HA.out
   clear HA
   simp only [stanchionref15_Put.l0] at H
   by_cases bG : aD > 0
   ·rw [if_pos bG] at H
    have bK : decide (0 < aD) = true := decide_eq_true bG
    clear bG
    have bQ : 0 ≤ aD := Decidable.byContradiction fun q => by rw [if_neg q] at H; exact absurd H (by simp)
    rw [if_pos bQ] at H
    have b9 : decide (0 ≤ aD) = true := decide_eq_true bQ
    clear bQ
    have bR : aD < (aC.length : Int) := Decidable.byContradiction fun q => by rw [if_neg q] at H; exact absurd H (by simp)
    rw [if_pos bR] at H
    have cA : decide (aD < (aC.length : Int)) = true := decide_eq_true bR
    clear bR
    obtain ⟨ji15, hji15⟩ : ∃ j_ : Int, (wrap64 (Int.tdiv (wrap64 (aD - 1)) 2)) = j_ := ⟨_, rfl⟩
    replace H : (if 0 ≤ (ji15) then (if (ji15) < (aC.length : Int) then ((stanchionref15_Less.f ((rd_T85 aC aD).f0) ((rd_T85 aC aD).f1) ((rd_T85 aC (ji15)).f0) ((rd_T85 aC (ji15)).f1)).bind fun a3 => (if a3 = true then ((stanchionref15_swap.f aC aD (ji15)).bind fun aT => (stanchionref15_Put.l0 k1 aT ji15)) else (some aC))) else (none)) else (none)) = some r := by first | (rw [hji15] at H; exact H) | (simp only [hji15] at H ⊢; exact H)
    have b0 : (IntKind.i64.wrap (Int.tdiv (wrap64 (aD - 1)) 2)) = ji15 := (i64_w _).trans hji15
    have bS : 0 ≤ (ji15) := Decidable.byContradiction fun q => by rw [if_neg q] at H; exact absurd H (by simp)
    rw [if_pos bS] at H
    have cB : decide (0 ≤ (ji15)) = true := decide_eq_true bS
    clear bS
    have bT : (ji15) < (aC.length : Int) := Decidable.byContradiction fun q => by rw [if_neg q] at H; exact absurd H (by simp)
    rw [if_pos bT] at H
    have cC : decide ((ji15) < (aC.length : Int)) = true := decide_eq_true bT
    clear bT
    replace H := Option.bind_eq_some_iff.mp H
    obtain ⟨a3, bL, H⟩ := H
    try dsimp only at H
    have cD := ak bL
    clear bL
    by_cases bU : a3 = true
    ·subst bU
     rw [if_pos rfl] at H
     replace H := Option.bind_eq_some_iff.mp H
     obtain ⟨aT, bM, H⟩ := H
     try dsimp only at H
     have cJ := ak bM
     clear bM
     have H' := ak H
     clear H
     try go_wp2
     replace HO_5 := ak (Kd.R_drew HO_5.out)
     replace aA := ak (blk_drew aA.out)
     replace HB := ak (below_drew1 HB.out)
     obtain ⟨cK, b1, bN⟩ := Kd.R_slice HO_5.out
     (first | subst bN | (injection bN with f1_ f2_ f3_; have b2 := f1_.symm; have b3 := f3_.symm; clear f1_ f2_ f3_; subst b2; subst b3))
     have aU : 0 ≤ (aD : Int) := od
     have aV : aD < (aC.length : Int) := od
     obtain ⟨aE, bA, aK, aM⟩ := at_T85 (Kd.R_reads' HO_5.out).2.2 aD aU aV
     cases bA
     replace aU := eq_true aU
     replace aV := eq_true aV
     have aW : 0 ≤ ((ji15) : Int) := od
     have aX : (ji15) < (aC.length : Int) := od
     obtain ⟨a2, bB, aN, aQ⟩ := at_T85 (Kd.R_reads' HO_5.out).2.2 (ji15) aW aX
     obtain rfl : aE = a2 := (by injection bB)
     replace aW := eq_true aW
     replace aX := eq_true aX
     refine start_ (n := 15) (S := fun w' => w'.cell? (aE.add ((aD).toNat * 2)) = some (.int .u64 ((rd_T85 aC aD).f0)) ∧ w'.cell? ⟨(aE.add ((aD).toNat * 2)).block, (aE.add ((aD).toNat * 2)).off + 1, none⟩ = some (.int .i64 ((rd_T85 aC aD).f1)) ∧ w'.cell? (aE.add (((ji15)).toNat * 2)) = some (.int .u64 ((rd_T85 aC (ji15)).f0)) ∧ w'.cell? ⟨(aE.add (((ji15)).toNat * 2)).block, (aE.add (((ji15)).toNat * 2)).off + 1, none⟩ = some (.int .i64 ((rd_T85 aC (ji15)).f1))) (ds := []) #[false, false, false, false, false, false, false, false, false, false, false, false, false, false, false] (by kernel_rfl) rfl rfl ⟨aK, aM, aN, aQ⟩ (fun hHeld => ?_); refine with_tabW stanchionref15_Put.tab4 stanchionref15_Put.bits4 (fun HT_ HW_ => ?_)
     generalize wr.drew = w21 at HO_5 aA HB aK aM aN aQ hHeld ⊢
     refine qa 0 17 (tb 15 1) (any_of HT_.out (by kernel_rfl)) ?_
     refine qa 1 18 (tb 15 3) (any_of HT_.out (by kernel_rfl)) ?_
     refine qa 2 19 (tb 15 7) (any_of HT_.out (by kernel_rfl)) ?_
     refine qa 3 20 (tb 15 15) (any_of HT_.out (by kernel_rfl)) ?_
     refine qa 4 21 (tb 15 31) (any_of HT_.out (by kernel_rfl)) ?_
     refine qa 5 22 (tb 15 63) (any_of HT_.out (by kernel_rfl)) ?_
     refine qa 7 24 (tb 15 191) (any_of HT_.out (by kernel_rfl)) ?_
     refine qa 8 25 (tb 15 447) (any_of HT_.out (by kernel_rfl)) ?_
     refine qa 9 26 (tb 15 959) (any_of HT_.out (by kernel_rfl)) ?_
     refine qa 10 27 (tb 15 1983) (any_of HT_.out (by kernel_rfl)) ?_
     refine qa 11 28 (tb 15 4031) (any_of HT_.out (by kernel_rfl)) ?_
     refine kd 6 23 (tb 15 4095) (take_ofW HT_.out HW_.out (by kernel_rfl)) hHeld ?_
     refine kd 12 29 (tb 15 8191) (take_ofW HT_.out HW_.out (by kernel_rfl)) hHeld ?_
     refine one_ (i := 13) (N := some 30) (tb 15 16383) rfl rfl (one_of HT_.out (by kernel_rfl)) (by decide) (fun K hK => ?_)
     refine goes_ Try.func53 (by kernel_rfl) rfl #[.agg #[.int .u64 ((rd_T85 aC aD).f0), .int .i64 ((rd_T85 aC aD).f1)], .agg #[.int .u64 ((rd_T85 aC (ji15)).f0), .int .i64 ((rd_T85 aC (ji15)).f1)]] (by rfl) rfl rfl (by (try simp only [List.map_toArray, List.map_cons, List.map_nil]); first | done | (simp only [hji15]; rfl) | rfl | (simp only [List.length_drop, List.length_take]; rfl)) ?_
     with_reducible refine (stanchionref15_Less.calls ((rd_T85 aC aD).f0) ((rd_T85 aC aD).f1) ((rd_T85 aC (ji15)).f0) ((rd_T85 aC (ji15)).f1) true _ cD.out).mono ?_
     rintro e cQ ⟨rfl, hb⟩
     have bC := (hb.cell (World.block_lt_of_cell? _ _ (hHeld.1))).trans (hHeld.1)
     have bD := (hb.cell (World.block_lt_of_cell? _ _ (hHeld.2.1))).trans (hHeld.2.1)
     have bE := (hb.cell (World.block_lt_of_cell? _ _ (hHeld.2.2.1))).trans (hHeld.2.2.1)
     have bF := (hb.cell (World.block_lt_of_cell? _ _ (hHeld.2.2.2))).trans (hHeld.2.2.2)
     refine ⟨_, rfl, ?_⟩
     replace HO_5 := rb HO_5 hb
     replace aA := bb aA hb
     replace HB := ak (below_step (ua aG.out HB.out) hb)
     (try clear hb)
     (try clear hb2)
     (try clear hk)
     (try clear hi)
     refine hK.out _ _ ⟨bC, bD, bE, bF⟩ (fun hHeld => ?_)
     clear hK K
     refine norm_ (a' := ?_) ?_ ?_
     rotate_left
     ·show Act.put _ (some 30) _ = _
      simp only [Act.put, List.setIfInBounds_toArray, List.set_cons_zero, List.set_cons_succ, i64_w, i32_w]
      rfl
     refine qa 14 31 (tb 15 32767) (any_of HT_.out (by kernel_rfl)) ?_
     refine done_ (done_of HT_.out (by kernel_rfl)) ?_
     try go_wp2_with (first | ((with_reducible refine gate_callee (f := 70) rfl ?_); refine goesL_ (some 37) rfl rfl Try.func70 (by kernel_rfl) rfl #[.slice (some aE) aC.length b1, .int .i64 aD, .int .i64 ji15] rfl (by (try simp only [List.map_toArray, List.map_cons, List.map_nil]); first | done | (simp only [hji15]; rfl) | rfl | (simp only [List.length_drop, List.length_take]; rfl)) ?_; (with_reducible refine (stanchionref15_swap.calls _ _ aC aD ji15 aT _ ?side1 ?side2 cJ.out).mono ?_); (case side1 => exact pc (Kd.R_reads' HO_5.out).2.2); (case side2 => exact (Kd.R_reads' HO_5.out).2.1); rintro e cR ⟨cL, rfl, b4, hb⟩; refine ⟨_, rfl, ?_⟩; have bO := ak (Kd.R_lower (Kd.R_newB (Kd.R_new' b4 (Kd.R_lt (pR HO_5.out))) (pk aA.out)) (below_size (ua aG.out HB.out))); replace HO_5 := ak (Kd.R_elder' (pR HO_5.out) (Kd.R_base b4) hb); replace aA := bb aA hb; replace HB := ak (below_step (ua aG.out HB.out) hb); (try clear hb); (try clear hb2); (try clear hk); (try clear hi); (try clear b4)))
     go_roundg k1
     case measure => have := b8.out; omega
     case rel => exact ⟨(aT), (ji15), (by first | rfl | (simp; done) | (simp only [← hji15] <;> (first | rfl | simp)) | (simp [*]; done)), H', ⟨by have := b8.out; omega⟩, ⟨pR (Kd.R_mono bO.out (fun _ hk => hk.2))⟩, ⟨pk aA.out⟩, ⟨ua aG.out HB.out⟩⟩
    ·replace bU := Bool.eq_false_iff.mpr bU
     subst bU
     rw [if_neg (show ¬ (false = true) by decide)] at H
     obtain rfl := Option.some.inj H
     try go_wp2
     replace HO_5 := ak (Kd.R_drew HO_5.out)
     replace aA := ak (blk_drew aA.out)
     replace HB := ak (below_drew1 HB.out)
     obtain ⟨cM, cN, bP⟩ := Kd.R_slice HO_5.out
     (first | subst bP | (injection bP with f1_ f2_ f3_; have b2 := f1_.symm; have b3 := f3_.symm; clear f1_ f2_ f3_; subst b2; subst b3))
     have aU : 0 ≤ (aD : Int) := od
     have aV : aD < (aC.length : Int) := od
     obtain ⟨aE, bA, aK, aM⟩ := at_T85 (Kd.R_reads' HO_5.out).2.2 aD aU aV
     cases bA
     replace aU := eq_true aU
     replace aV := eq_true aV
     have aW : 0 ≤ ((ji15) : Int) := od
     have aX : (ji15) < (aC.length : Int) := od
     obtain ⟨a2, bB, aN, aQ⟩ := at_T85 (Kd.R_reads' HO_5.out).2.2 (ji15) aW aX
     obtain rfl : aE = a2 := (by injection bB)
     replace aW := eq_true aW
     replace aX := eq_true aX
     refine start_ (n := 15) (S := fun w' => w'.cell? (aE.add ((aD).toNat * 2)) = some (.int .u64 ((rd_T85 aC aD).f0)) ∧ w'.cell? ⟨(aE.add ((aD).toNat * 2)).block, (aE.add ((aD).toNat * 2)).off + 1, none⟩ = some (.int .i64 ((rd_T85 aC aD).f1)) ∧ w'.cell? (aE.add (((ji15)).toNat * 2)) = some (.int .u64 ((rd_T85 aC (ji15)).f0)) ∧ w'.cell? ⟨(aE.add (((ji15)).toNat * 2)).block, (aE.add (((ji15)).toNat * 2)).off + 1, none⟩ = some (.int .i64 ((rd_T85 aC (ji15)).f1))) (ds := []) #[false, false, false, false, false, false, false, false, false, false, false, false, false, false, false] (by kernel_rfl) rfl rfl ⟨aK, aM, aN, aQ⟩ (fun hHeld => ?_); refine with_tabW stanchionref15_Put.tab4 stanchionref15_Put.bits4 (fun HT_ HW_ => ?_)
     generalize wr.drew = w25 at HO_5 aA HB aK aM aN aQ hHeld ⊢
     refine qa 0 17 (tb 15 1) (any_of HT_.out (by kernel_rfl)) ?_
     refine qa 1 18 (tb 15 3) (any_of HT_.out (by kernel_rfl)) ?_
     refine qa 2 19 (tb 15 7) (any_of HT_.out (by kernel_rfl)) ?_
     refine qa 3 20 (tb 15 15) (any_of HT_.out (by kernel_rfl)) ?_
     refine qa 4 21 (tb 15 31) (any_of HT_.out (by kernel_rfl)) ?_
     refine qa 5 22 (tb 15 63) (any_of HT_.out (by kernel_rfl)) ?_
     refine qa 7 24 (tb 15 191) (any_of HT_.out (by kernel_rfl)) ?_
     refine qa 8 25 (tb 15 447) (any_of HT_.out (by kernel_rfl)) ?_
     refine qa 9 26 (tb 15 959) (any_of HT_.out (by kernel_rfl)) ?_
     refine qa 10 27 (tb 15 1983) (any_of HT_.out (by kernel_rfl)) ?_
     refine qa 11 28 (tb 15 4031) (any_of HT_.out (by kernel_rfl)) ?_
     refine kd 6 23 (tb 15 4095) (take_ofW HT_.out HW_.out (by kernel_rfl)) hHeld ?_
     refine kd 12 29 (tb 15 8191) (take_ofW HT_.out HW_.out (by kernel_rfl)) hHeld ?_
     refine one_ (i := 13) (N := some 30) (tb 15 16383) rfl rfl (one_of HT_.out (by kernel_rfl)) (by decide) (fun K hK => ?_)
     refine goes_ Try.func53 (by kernel_rfl) rfl #[.agg #[.int .u64 ((rd_T85 aC aD).f0), .int .i64 ((rd_T85 aC aD).f1)], .agg #[.int .u64 ((rd_T85 aC (ji15)).f0), .int .i64 ((rd_T85 aC (ji15)).f1)]] (by rfl) rfl rfl (by (try simp only [List.map_toArray, List.map_cons, List.map_nil]); first | done | (simp only [hji15]; rfl) | rfl | (simp only [List.length_drop, List.length_take]; rfl)) ?_
     with_reducible refine (stanchionref15_Less.calls ((rd_T85 aC aD).f0) ((rd_T85 aC aD).f1) ((rd_T85 aC (ji15)).f0) ((rd_T85 aC (ji15)).f1) false _ cD.out).mono ?_
     rintro e cS ⟨rfl, hb⟩
     have bC := (hb.cell (World.block_lt_of_cell? _ _ (hHeld.1))).trans (hHeld.1)
     have bD := (hb.cell (World.block_lt_of_cell? _ _ (hHeld.2.1))).trans (hHeld.2.1)
     have bE := (hb.cell (World.block_lt_of_cell? _ _ (hHeld.2.2.1))).trans (hHeld.2.2.1)
     have bF := (hb.cell (World.block_lt_of_cell? _ _ (hHeld.2.2.2))).trans (hHeld.2.2.2)
     refine ⟨_, rfl, ?_⟩
     replace HO_5 := rb HO_5 hb
     replace aA := bb aA hb
     replace HB := ak (below_step (ua aG.out HB.out) hb)
     (try clear hb)
     (try clear hb2)
     (try clear hk)
     (try clear hi)
     refine hK.out _ _ ⟨bC, bD, bE, bF⟩ (fun hHeld => ?_)
     clear hK K
     refine norm_ (a' := ?_) ?_ ?_
     rotate_left
     ·show Act.put _ (some 30) _ = _
      simp only [Act.put, List.setIfInBounds_toArray, List.set_cons_zero, List.set_cons_succ, i64_w, i32_w]
      rfl
     refine qa 14 31 (tb 15 32767) (any_of HT_.out (by kernel_rfl)) ?_
     refine done_ (done_of HT_.out (by kernel_rfl)) ?_
     try go_wp2
     go_ret
     exact ⟨_, by first | rfl | (simp [errW_none, errW_some] <;> rfl) | (simp only [← hji15]; first | rfl | (simp [errW_none, errW_some] <;> rfl)) | (simp [*, errW_none, errW_some] <;> rfl), pR (Kd.R_mono HO_5.out (fun _ hk => trivial)), ua aG.out HB.out⟩
   ·rw [if_neg bG] at H
    have bK : decide (0 < aD) = false := decide_eq_false bG
    clear bG
    obtain rfl := Option.some.inj H
    try go_wp2
    replace HO_5 := ak (Kd.R_drew HO_5.out)
    replace aA := ak (blk_drew aA.out)
    replace HB := ak (below_drew1 HB.out)
    refine start_ (n := 15) (S := fun w' => True) (ds := []) #[false, false, false, false, false, false, false, false, false, false, false, false, false, false, false] (by kernel_rfl) rfl rfl trivial (fun hHeld => ?_); refine with_tabW stanchionref15_Put.tab4 stanchionref15_Put.bits4 (fun HT_ HW_ => ?_)
    generalize wr.drew = w28 at HO_5 aA HB hHeld ⊢
    refine qa 0 17 (tb 15 1) (any_of HT_.out (by kernel_rfl)) ?_
    refine qa 1 18 (tb 15 3) (any_of HT_.out (by kernel_rfl)) ?_
    refine qa 2 19 (tb 15 7) (any_of HT_.out (by kernel_rfl)) ?_
    refine qb 3 20 (tb 15 15) (any_of HT_.out (by kernel_rfl)) ?_
    refine qb 4 21 (tb 15 31) (any_of HT_.out (by kernel_rfl)) ?_
    refine qb 5 22 (tb 15 63) (any_of HT_.out (by kernel_rfl)) ?_
    refine qb 6 23 (tb 15 127) (any_of HT_.out (by kernel_rfl)) ?_
    refine qb 7 24 (tb 15 255) (any_of HT_.out (by kernel_rfl)) ?_
    refine qb 8 25 (tb 15 511) (any_of HT_.out (by kernel_rfl)) ?_
    refine qb 9 26 (tb 15 1023) (any_of HT_.out (by kernel_rfl)) ?_
    refine qb 10 27 (tb 15 2047) (any_of HT_.out (by kernel_rfl)) ?_
    refine qb 11 28 (tb 15 4095) (any_of HT_.out (by kernel_rfl)) ?_
    refine qb 12 29 (tb 15 8191) (any_of HT_.out (by kernel_rfl)) ?_
    refine qb 13 30 (tb 15 16383) (any_of HT_.out (by kernel_rfl)) ?_
    refine qa 14 31 (tb 15 32767) (any_of HT_.out (by kernel_rfl)) ?_
    refine done_ (done_of HT_.out (by kernel_rfl)) ?_
    try go_wp2
    go_ret
    exact ⟨_, by first | rfl | (simp [errW_none, errW_some] <;> rfl) | (simp [*, errW_none, errW_some] <;> rfl), pR (Kd.R_mono HO_5.out (fun _ hk => trivial)), ua aG.out HB.out⟩

/-! ### stanchionref15_Drop: function 57 -/
set_option maxHeartbeats 8000000 in
set_option maxRecDepth 100000 in
theorem stanchionref15_Drop.calls (k : Nat) (A0 : Option Addr) (c0 : Nat) (l0 : List (S85)) (a1 : Int) (r : List (S85)) (w : World) (a4 : Kd.C k85 w A0 l0.length l0) (a5 : l0.length ≤ c0) (h : stanchionref15_Drop.f k l0 a1 = some r) :
  Calls Try.prog 57 #[.slice A0 l0.length c0, .int .i64 a1] w fun e w' => ∃ v0_ : Value, e = .returned (v0_) ∧ Kd.R k85 85 w' w.heap.size (fun _ => True) v0_ r ∧ Below w.heap.size w w' := by
 have a7 := Try.underlying85
 have aX := ak a4
 have bD := ak a5
 clear a4 a5
 have HB := ak (Below.refl w.heap.size w)
 have H : (stanchionref15_Drop.l0 k l0 a1 ([] : List (S85)) 0) = some r := h
 clear h
 have H' := ak H
 clear H
 go_enter Try.func57, Try.ntmps57
 go_wp2
 go_loopg [5, 6] k (fun kq v5 v6 w' => ∃ (aJ : List (S85)) (aA : Int), v6 = .int .i64 aA ∧ Aside0 (stanchionref15_Drop.l0 kq l0 a1 aJ aA = some r) ∧ Aside0 (kq ≤ k) ∧ Aside0 (Kd.R k85 85 w' w.heap.size (fun _ => True) v5 aJ) ∧ Aside0 (Below w.heap.size w w'))
 case atStart => exact ⟨(([] : List (S85))), (0), es, H', ⟨Nat.le_refl _⟩, ⟨by first | exact Kd.R_nil _ _ _ _ _ | exact Kd.N_nil _ _ _ _ _ | exact Kd.V_nil _ _ _ _ _ | exact Kd.Q_nil _ _ _ _ _ | exact Kd.S_nil _ _ _ _ _⟩, ⟨pB HB.out⟩⟩
 case round =>
  clear H'
  try clear p2
  obtain ⟨aJ, aA, rfl, HA, aW, HO_5, HB⟩ := hrel
  cases gk with
  | zero => exact absurd HA.out (by simp [stanchionref15_Drop.l0])
  | succ k1 =>
   have H := HA.out
   clear HA
   simp only [stanchionref15_Drop.l0] at H
   by_cases c3 : aA < (l0.length : Int)
   ·rw [if_pos c3] at H
    have aY : decide (aA < (l0.length : Int)) = true := decide_eq_true c3
    clear c3
    have c4 : 0 ≤ aA := Decidable.byContradiction fun q => by rw [if_neg q] at H; exact absurd H (by simp)
    rw [if_pos c4] at H
    have a8 : decide (0 ≤ aA) = true := decide_eq_true c4
    clear c4
    by_cases c5 : ((rd_T85 l0 aA).f1) = a1
    ·rw [if_pos c5] at H
     have aZ : (((rd_T85 l0 aA).f1) == a1) = true := beq_iff_eq.mpr c5
     have a0 : (((rd_T85 l0 aA).f1) != a1) = false := bne_eq_false_iff_eq.mpr c5
     clear c5
     have H' := ak H
     clear H
     have aH : 0 ≤ (aA : Int) := od
     have aI : aA < (l0.length : Int) := od
     obtain ⟨aK, aM, aC, aD⟩ := at_T85 aX.out aA aH aI
     cases aM
     replace aC := (HB.out.cell (World.block_lt_of_cell? w _ aC)).trans aC
     replace aD := (HB.out.cell (World.block_lt_of_cell? w _ aD)).trans aD
     replace aH := eq_true aH
     replace aI := eq_true aI
     go_wp2
     go_roundg k1
     case measure => have := aW.out; omega
     case rel => exact ⟨(aJ), (wrap64 (aA + 1)), es, H', ⟨by have := aW.out; omega⟩, ⟨pR HO_5.out⟩, ⟨pB HB.out⟩⟩
    ·rw [if_neg c5] at H
     have aZ : (((rd_T85 l0 aA).f1) == a1) = false := beq_eq_false_iff_ne.mpr c5
     have a0 : (((rd_T85 l0 aA).f1) != a1) = true := bne_iff_ne.mpr c5
     replace H := Option.bind_eq_some_iff.mp H
     obtain ⟨aN, a6, H⟩ := H
     try dsimp only at H
     have A6 := ak a6
     clear a6
     have H' := ak H
     clear H
     have aH : 0 ≤ (aA : Int) := od
     have aI : aA < (l0.length : Int) := od
     obtain ⟨aK, aM, aC, aD⟩ := at_T85 aX.out aA aH aI
     cases aM
     replace aC := (HB.out.cell (World.block_lt_of_cell? w _ aC)).trans aC
     replace aD := (HB.out.cell (World.block_lt_of_cell? w _ aD)).trans aD
     replace aH := eq_true aH
     replace aI := eq_true aI
     have aQ : 0 ≤ (aA : Int) := od
     have aT : aA < (l0.length : Int) := od
     obtain ⟨aU, a2, aE, aG⟩ := at_T85 aX.out aA aQ aT
     obtain rfl : aK = aU := (by injection a2)
     replace aE := (HB.out.cell (World.block_lt_of_cell? w _ aE)).trans aE
     replace aG := (HB.out.cell (World.block_lt_of_cell? w _ aG)).trans aG
     replace aQ := eq_true aQ
     replace aT := eq_true aT
     obtain ⟨a9, bA, bB⟩ := Kd.R_slice HO_5.out
     subst bB
     go_wp2_with (first | ((with_reducible refine gate_callee (f := 63) rfl ?_); refine goesL_ (some 25) rfl rfl Try.func63 (by kernel_rfl) rfl #[.slice a9 aJ.length bA, .agg #[.int .u64 ((rd_T85 l0 aA).f0), .int .i64 ((rd_T85 l0 aA).f1)]] rfl mp ?_; (with_reducible refine (stanchionref15_Put.calls k1 _ _ aJ ((rd_T85 l0 aA).f0) ((rd_T85 l0 aA).f1) aN _ ?side1 ?side2 A6.out).mono ?_); (case side1 => exact pc (Kd.R_reads' HO_5.out).2.2); (case side2 => exact (Kd.R_reads' HO_5.out).2.1); rintro e w8 ⟨bC, rfl, a3, hb⟩; refine ⟨_, rfl, ?_⟩; have aV := ak (Kd.R_lower (Kd.R_new' a3 (Kd.R_lt (pR HO_5.out))) (below_size (pB HB.out))); replace HO_5 := ak (Kd.R_elder' (pR HO_5.out) (Kd.R_base a3) hb); replace HB := ak (below_step (pB HB.out) hb); (try clear hb); (try clear hb2); (try clear hk); (try clear hi); (try clear a3)))
     go_roundg k1
     case measure => have := aW.out; omega
     case rel => exact ⟨(aN), (wrap64 (aA + 1)), es, H', ⟨by have := aW.out; omega⟩, ⟨pR (Kd.R_mono aV.out (fun _ hk => trivial))⟩, ⟨pB HB.out⟩⟩
   ·rw [if_neg c3] at H
    have aY : decide (aA < (l0.length : Int)) = false := decide_eq_false c3
    clear c3
    obtain rfl := Option.some.inj H
    go_wp2
    go_ret
    exact ⟨_, by first | rfl | (simp [errW_none, errW_some] <;> rfl) | (simp [*, errW_none, errW_some] <;> rfl), pR HO_5.out, pB HB.out⟩

/-! ### stanchionref17_renewed: function 44 -/
set_option maxHeartbeats 8000000 in
set_option maxRecDepth 100000 in
theorem stanchionref17_renewed.calls (k : Nat) (aK : Int) (bB : Nat → Prop) (aQ : Option Addr) (aT : Nat) (aH : List (S42)) (a7 : Option Addr) (a8 : Nat) (aV : List (S85)) (aN : Int) (aE : Int) (a1 : Int) (r1 : Int) (r2 : List (S42)) (r3 : List (S85)) (r4 : Int) (r5 : Int) (w : World) (bI : Kd.V k42 42 w w.heap.size (fun k_ => bB k_) (.slice aQ aH.length aT) aH) (bC : Kd.C k85 w a7 aV.length aV) (bD : aV.length ≤ a8) (h : stanchionref17_renewed.f k aK aH aV aN aE a1 = some (r1, r2, r3, r4, r5)) :
  Calls Try.prog 44 #[.agg #[.int .i64 aK, .slice aQ aH.length aT, .slice a7 aV.length a8, .int .i64 aN, .int .u64 aE], .int .i64 a1] w fun e w' => ∃ v1_ c7 : Value, e = .returned (.agg #[.int .i64 r1, v1_, c7, .int .i64 r4, .int .u64 r5]) ∧ Kd.V k42 42 w' w.heap.size (fun k_ => (bB k_ ∨ w.heap.size ≤ k_) ∧ some k_ ≠ (c7 : Value).ownBlock) v1_ r2 ∧ Kd.R k85 85 w' w.heap.size (fun k_ => (w.heap.size ≤ k_)) c7 r3 ∧ Below w.heap.size w w' := by
 have dW := Try.underlying26
 have dX := Try.underlying85
 have aG := ak (show Kd.V k42 42 w w.heap.size (fun k_ => (bB k_ ∨ w.heap.size ≤ k_)) (.slice aQ aH.length aT) aH from Kd.V_mono bI (fun k_ hk => .inl hk))
 have bE := ak bC
 have bF := ak bD
 clear bC bD
 have HB := ak (Below.refl w.heap.size w)
 have H : (if (IntKind.u64.wrap (aE + 20)) < aE then ((stanchionref15_Drop.f k aV a1).bind fun a9 => ((stanchionref15_Put.f k a9 18446744073709551615 a1).bind fun aW => (some (aK, aH, aW, aN, aE)))) else ((stanchionref15_Drop.f k aV a1).bind fun bA => ((stanchionref15_Put.f k bA (IntKind.u64.wrap (aE + 20)) a1).bind fun aX => (some (aK, aH, aX, aN, aE))))) = some (r1, r2, r3, r4, r5) := h
 clear h
 by_cases c3 : (IntKind.u64.wrap (aE + 20)) < aE
 ·rw [if_pos c3] at H
  have c8 : decide ((IntKind.u64.wrap (aE + 20)) < aE) = true := decide_eq_true c3
  clear c3
  replace H := Option.bind_eq_some_iff.mp H
  obtain ⟨a9, dS, H⟩ := H
  try dsimp only at H
  have A4 := ak dS
  clear dS
  replace H := Option.bind_eq_some_iff.mp H
  obtain ⟨aW, dT, H⟩ := H
  try dsimp only at H
  have A5 := ak dT
  clear dT
  simp only [Option.some.injEq, Prod.mk.injEq] at H
  obtain ⟨rfl, rfl, rfl, rfl, rfl⟩ := H
  go_enter Try.func44, Try.ntmps44
  go_wp2_with (first | ((with_reducible refine gate_dst (N := 2) rfl ?_); refine bv 2 26 #[.int .i64 aK, .slice aQ aH.length aT, .slice a7 aV.length a8, .int .i64 aN, .int .u64 aE] ?_; intro aU hg w6 hbox hb; obtain ⟨n_, aD⟩ := Cb.bx (pB HB.out) hg hb; have bJ := aD; have aC := ak (hbox); replace aG := vb aG aU hg hb; replace HB := n_; clear n_; clear hb hbox hg) | ((with_reducible refine gate_dst (N := 4) rfl ?_); refine bv 4 26 #[.int .i64 0, .slice none 0 0, .slice none 0 0, .int .i64 0, .int .u64 0] ?_; intro aA hg w7 hbox hb; obtain ⟨n_, aI⟩ := Cb.bx (ua aD.out HB.out) hg hb; have bK := aI; obtain ⟨aY, aM⟩ := Cb.nb hg aC.out; have aJ := ak (hbox); replace aG := vb aG aA hg hb; replace aC := bb aC hb; replace HB := n_; clear n_; clear hb hbox hg; have dY := aY.out; have dZ := aM.out; obtain ⟨dA, dB, dC, dD, dE⟩ := Cb.c5 aC.out; obtain ⟨dF, dG, dH, dI, dJ⟩ := Cb.f5 aC.out) | ((with_reducible refine gate_callee (f := 57) rfl ?_); refine goesL_ (some 16) rfl rfl Try.func57 (by kernel_rfl) rfl #[.slice a7 aV.length a8, .int .i64 a1] rfl mp ?_; (with_reducible refine (stanchionref15_Drop.calls k _ _ aV a1 a9 _ ?side1 ?side2 A4.out).mono ?_); (case side1 => exact pc (Kd.C_below bE.out HB.out)); (case side2 => exact bF.out); rintro e d6 ⟨d0, rfl, a2, hb⟩; refine ⟨_, rfl, ?_⟩; have aZ := ak (Kd.R_lower (Kd.R_newM (M := fun k_ => (w.heap.size ≤ k_)) a2 (below_size (ub aD.out aI.out HB.out)) (fun k_ h_ => h_)) (below_size (ub aD.out aI.out HB.out))); replace aG := ve aG a2 hb; replace aC := bb aC hb; replace aJ := bb aJ hb; replace HB := ak (below_step (ub aD.out aI.out HB.out) hb); (try clear hb); (try clear hb2); (try clear hk); (try clear hi); (try clear a2); obtain ⟨dK, dL, dM⟩ := Kd.R_slice aZ.out; subst dM) | ((with_reducible refine gate_callee (f := 63) rfl ?_); refine goesL_ (some 20) rfl rfl Try.func63 (by kernel_rfl) rfl #[.slice dK a9.length dL, .agg #[.int .u64 18446744073709551615, .int .i64 a1]] rfl mp ?_; (with_reducible refine (stanchionref15_Put.calls k _ _ a9 18446744073709551615 a1 aW _ ?side1 ?side2 A5.out).mono ?_); (case side1 => exact pc (Kd.R_reads' aZ.out).2.2); (case side2 => exact (Kd.R_reads' aZ.out).2.1); rintro e d7 ⟨d1, rfl, a2, hb⟩; refine ⟨_, rfl, ?_⟩; have bG := ak (Kd.R_lower (Kd.R_new' (Kd.R_newM (M := fun k_ => (w.heap.size ≤ k_)) a2 (below_size (ub aD.out aI.out HB.out)) (fun k_ h_ => h_)) (Kd.R_lt (pR aZ.out))) (below_size (ub aD.out aI.out HB.out))); replace aG := ve aG a2 hb; replace aZ := ak (Kd.R_elder' (pR aZ.out) (Kd.R_base a2) hb); replace aC := bb aC hb; replace aJ := bb aJ hb; replace HB := ak (below_step (ub aD.out aI.out HB.out) hb); (try clear hb); (try clear hb2); (try clear hk); (try clear hi); (try clear a2); obtain ⟨a3, a4, dN⟩ := Kd.R_slice bG.out; subst dN; obtain ⟨bN, bO, bP, bQ, bR⟩ := Cb.c5 aC.out; obtain ⟨bS, bT, bU, bV, bW⟩ := Cb.f5 aC.out; obtain ⟨bX, bY, bZ, b0, b1⟩ := Cb.c5 aJ.out; obtain ⟨b2, b3, b4, b5, b6⟩ := Cb.f5 aJ.out))
  refine bodyPost_ret (results_cell_row rfl _ _ aA 26 #[.int .i64 aK, .slice aQ aH.length aT, .slice a3 aW.length a4, .int .i64 aN, .int .u64 aE] (0, 0) _ rfl (by exact pq (blk_put (blk_put (blk_put (blk_put (blk_put (blk_far (pk aJ.out) aM.out _) 0 _ rfl) 1 _ rfl) 2 _ rfl) 3 _ rfl) 4 _ rfl)) Try.underlying26 rfl (by kernel_rfl)) rfl ?_
  exact ⟨_, _, by first | rfl | (simp [errW_none, errW_some] <;> rfl) | (simp [*, errW_none, errW_some] <;> rfl), qv (vm (vf5 (vf1 (Kd.V_mono (Kd.V_mono aG.out (fun k_ hk => (⟨hk, hk.1.1.1.2⟩ : _ ∧ k_ ≠ aU))) (fun k_ hk => (⟨hk, hk.1.1.1.2⟩ : _ ∧ k_ ≠ aA))) fun _ hk => hk.1.2) fun _ hk => hk.2)), qr (Kd.R_mono (rf5 (rf1 (Kd.R_types (Kd.R_types bG.out aC.out (by decide)) aJ.out (by decide)) fun _ hk => hk.1.2) fun _ hk => hk.2) (fun _ hk => hk.1.1.1.1)), ub aD.out aI.out HB.out⟩
 ·rw [if_neg c3] at H
  have c8 : decide ((IntKind.u64.wrap (aE + 20)) < aE) = false := decide_eq_false c3
  clear c3
  replace H := Option.bind_eq_some_iff.mp H
  obtain ⟨bA, bL, H⟩ := H
  try dsimp only at H
  have d2 := ak bL
  clear bL
  replace H := Option.bind_eq_some_iff.mp H
  obtain ⟨aX, bM, H⟩ := H
  try dsimp only at H
  have d3 := ak bM
  clear bM
  simp only [Option.some.injEq, Prod.mk.injEq] at H
  obtain ⟨rfl, rfl, rfl, rfl, rfl⟩ := H
  go_enter Try.func44, Try.ntmps44
  go_wp2_with (first | ((with_reducible refine gate_dst (N := 2) rfl ?_); refine bv 2 26 #[.int .i64 aK, .slice aQ aH.length aT, .slice a7 aV.length a8, .int .i64 aN, .int .u64 aE] ?_; intro aU hg d8 hbox hb; obtain ⟨n_, aD⟩ := Cb.bx (pB HB.out) hg hb; have bJ := aD; have aC := ak (hbox); replace aG := vb aG aU hg hb; replace HB := n_; clear n_; clear hb hbox hg) | ((with_reducible refine gate_dst (N := 4) rfl ?_); refine bv 4 26 #[.int .i64 0, .slice none 0 0, .slice none 0 0, .int .i64 0, .int .u64 0] ?_; intro aA hg d9 hbox hb; obtain ⟨n_, aI⟩ := Cb.bx (ua aD.out HB.out) hg hb; have bK := aI; obtain ⟨aY, aM⟩ := Cb.nb hg aC.out; have aJ := ak (hbox); replace aG := vb aG aA hg hb; replace aC := bb aC hb; replace HB := n_; clear n_; clear hb hbox hg; have dU := aY.out; have dV := aM.out; obtain ⟨b7, b8, b9, cA, cB⟩ := Cb.c5 aC.out; obtain ⟨cC, cD, cE, cF, cG⟩ := Cb.f5 aC.out) | ((with_reducible refine gate_callee (f := 57) rfl ?_); refine goesL_ (some 16) rfl rfl Try.func57 (by kernel_rfl) rfl #[.slice a7 aV.length a8, .int .i64 a1] rfl (by (try simp only [List.map_toArray, List.map_cons, List.map_nil]); first | done | rfl | (simp only [List.length_drop, List.length_take]; rfl) | (simp (disch := omega) only [IntWalk.u64_in]; first | done | rfl)) ?_; (with_reducible refine (stanchionref15_Drop.calls k _ _ aV a1 bA _ ?side1 ?side2 d2.out).mono ?_); (case side1 => exact pc (Kd.C_below bE.out HB.out)); (case side2 => exact bF.out); rintro e eA ⟨d4, rfl, a2, hb⟩; refine ⟨_, rfl, ?_⟩; have a0 := ak (Kd.R_lower (Kd.R_newM (M := fun k_ => (w.heap.size ≤ k_)) a2 (below_size (ub aD.out aI.out HB.out)) (fun k_ h_ => h_)) (below_size (ub aD.out aI.out HB.out))); replace aG := ve aG a2 hb; replace aC := bb aC hb; replace aJ := bb aJ hb; replace HB := ak (below_step (ub aD.out aI.out HB.out) hb); (try clear hb); (try clear hb2); (try clear hk); (try clear hi); (try clear a2); obtain ⟨dO, dP, dQ⟩ := Kd.R_slice a0.out; subst dQ) | ((with_reducible refine gate_callee (f := 63) rfl ?_); refine goesL_ (some 20) rfl rfl Try.func63 (by kernel_rfl) rfl #[.slice dO bA.length dP, .agg #[.int .u64 (IntKind.u64.wrap (aE + 20)), .int .i64 a1]] rfl (by (try simp only [List.map_toArray, List.map_cons, List.map_nil]); first | done | rfl | (simp only [List.length_drop, List.length_take]; rfl) | (simp (disch := omega) only [IntWalk.u64_in]; first | done | rfl)) ?_; (with_reducible refine (stanchionref15_Put.calls k _ _ bA (IntKind.u64.wrap (aE + 20)) a1 aX _ ?side1 ?side2 d3.out).mono ?_); (case side1 => exact pc (Kd.R_reads' a0.out).2.2); (case side2 => exact (Kd.R_reads' a0.out).2.1); rintro e eB ⟨d5, rfl, a2, hb⟩; refine ⟨_, rfl, ?_⟩; have bH := ak (Kd.R_lower (Kd.R_new' (Kd.R_newM (M := fun k_ => (w.heap.size ≤ k_)) a2 (below_size (ub aD.out aI.out HB.out)) (fun k_ h_ => h_)) (Kd.R_lt (pR a0.out))) (below_size (ub aD.out aI.out HB.out))); replace aG := ve aG a2 hb; replace a0 := ak (Kd.R_elder' (pR a0.out) (Kd.R_base a2) hb); replace aC := bb aC hb; replace aJ := bb aJ hb; replace HB := ak (below_step (ub aD.out aI.out HB.out) hb); (try clear hb); (try clear hb2); (try clear hk); (try clear hi); (try clear a2); obtain ⟨a5, a6, dR⟩ := Kd.R_slice bH.out; subst dR; obtain ⟨cH, cI, cJ, cK, cL⟩ := Cb.c5 aC.out; obtain ⟨cM, cN, cO, cP, cQ⟩ := Cb.f5 aC.out; obtain ⟨cR, cS, cT, cU, cV⟩ := Cb.c5 aJ.out; obtain ⟨cW, cX, cY, cZ, c1⟩ := Cb.f5 aJ.out))
  refine bodyPost_ret (results_cell_row rfl _ _ aA 26 #[.int .i64 aK, .slice aQ aH.length aT, .slice a5 aX.length a6, .int .i64 aN, .int .u64 aE] (0, 0) _ rfl (by exact pq (blk_put (blk_put (blk_put (blk_put (blk_put (blk_far (pk aJ.out) aM.out _) 0 _ rfl) 1 _ rfl) 2 _ rfl) 3 _ rfl) 4 _ rfl)) Try.underlying26 rfl (by kernel_rfl)) rfl ?_
  exact ⟨_, _, by first | rfl | (simp [errW_none, errW_some] <;> rfl) | (simp [*, errW_none, errW_some] <;> rfl), qv (vm (vf5 (vf1 (Kd.V_mono (Kd.V_mono aG.out (fun k_ hk => (⟨hk, hk.1.1.1.2⟩ : _ ∧ k_ ≠ aU))) (fun k_ hk => (⟨hk, hk.1.1.1.2⟩ : _ ∧ k_ ≠ aA))) fun _ hk => hk.1.2) fun _ hk => hk.2)), qr (Kd.R_mono (rf5 (rf1 (Kd.R_types (Kd.R_types bH.out aC.out (by decide)) aJ.out (by decide)) fun _ hk => hk.1.2) fun _ hk => hk.2) (fun _ hk => hk.1.1.1.1)), ub aD.out aI.out HB.out⟩

/-! ### stanchionref17_Open: function 28 -/
set_option maxHeartbeats 8000000 in
set_option maxRecDepth 100000 in
theorem stanchionref17_Open.calls (k : Nat) (aN : Int) (aZ : Nat → Prop) (aX : Option Addr) (aY : Nat) (aJ : List (S42)) (a0 : Nat → Prop) (aU : Option Addr) (aV : Nat) (aM : List (S85)) (aD : Int) (aW : Int) (a1 : Int) (r1 : Int) (r2 : List (S42)) (r3 : List (S85)) (r4 : Int) (r5 : Int) (r6 : Int) (r7 : Int) (w : World) (bQ : Kd.V k42 42 w w.heap.size (fun k_ => aZ k_) (.slice aX aJ.length aY) aJ) (bR : Kd.V k85 85 w w.heap.size (fun k_ => a0 k_) (.slice aU aM.length aV) aM) (h : stanchionref17_Open.f k aN aJ aM aD aW a1 = some (r1, r2, r3, r4, r5, r6, r7)) :
  Calls Try.prog 28 #[.agg #[.int .i64 aN, .slice aX aJ.length aY, .slice aU aM.length aV, .int .i64 aD, .int .u64 aW], .int .i64 a1] w fun e w' => ∃ v1_ v2_ : Value, e = .returned (.tuple #[.agg #[.int .i64 r1, v1_, v2_, .int .i64 r4, .int .u64 r5], .int .i64 r6, .int .i64 r7]) ∧ Kd.V k42 42 w' w.heap.size (fun k_ => ((aZ k_ ∨ a0 k_) ∨ w.heap.size ≤ k_)) v1_ r2 ∧ Kd.V k85 85 w' w.heap.size (fun k_ => ((aZ k_ ∨ a0 k_) ∨ w.heap.size ≤ k_)) v2_ r3 ∧ Below w.heap.size w w' := by
 have fD := Try.underlying26
 have fE := Try.underlying42
 have aI := ak (show Kd.V k42 42 w w.heap.size (fun k_ => ((aZ k_ ∨ a0 k_) ∨ w.heap.size ≤ k_)) (.slice aX aJ.length aY) aJ from Kd.V_mono bQ (fun k_ hk => .inl (.inl hk)))
 have aH := ak (show Kd.V k85 85 w w.heap.size (fun k_ => ((aZ k_ ∨ a0 k_) ∨ w.heap.size ≤ k_)) (.slice aU aM.length aV) aM from Kd.V_mono bR (fun k_ hk => .inl (.inr hk)))
 have HB := ak (Below.refl w.heap.size w)
 have H : (if (aJ.length : Int) ≥ 6 then (some (aN, aJ, aM, aD, aW, 0, 11)) else (if aD > 1073741824 then (some (aN, aJ, aM, aD, aW, 0, 4)) else ((some (([] : List (S42)) : List (S42))).bind fun y467 => (if y467.length + aJ.length < 2513169434916 then ((some (y467 ++ aJ : List (S42))).bind fun y470 => (if y470.length < 2513169434916 then ((stanchionref17_renewed.f k aN (y470 ++ [(⟨aD, 0, false, (⟨#[]⟩ : ByteArray), 0, a1⟩ : S42)]) aM (wrap64 (aD + 1)) aW aD).bind fun bt476 => (some (bt476.1, bt476.2.1, bt476.2.2.1, bt476.2.2.2.1, bt476.2.2.2.2, aD, 0))) else (none))) else (none))))) = some (r1, r2, r3, r4, r5, r6, r7) := h
 clear h
 by_cases c3 : (aJ.length : Int) ≥ 6
 ·rw [if_pos c3] at H
  have eF : decide (6 ≤ (aJ.length : Int)) = true := decide_eq_true c3
  have eG : decide (6 ≤ aJ.length) = true := decide_eq_true (by omega)
  clear c3
  simp only [Option.some.injEq, Prod.mk.injEq] at H
  obtain ⟨rfl, rfl, rfl, rfl, rfl, rfl, rfl⟩ := H
  go_enter Try.func28, Try.ntmps28
  go_wp2_with (first | ((with_reducible refine gate_dst (N := 2) rfl ?_); refine bv 2 26 #[.int .i64 aN, .slice aX aJ.length aY, .slice aU aM.length aV, .int .i64 aD, .int .u64 aW] ?_; intro aG hg w4 hbox hb; obtain ⟨n_, aK⟩ := Cb.bx (pB HB.out) hg hb; have bJ := aK; have aC := ak (hbox); replace aI := vb aI aG hg hb; replace aH := vb aH aG hg hb; replace HB := n_; clear n_; clear hb hbox hg) | ((with_reducible refine gate_dst (N := 4) rfl ?_); refine bv 4 26 #[.int .i64 0, .slice none 0 0, .slice none 0 0, .int .i64 0, .int .u64 0] ?_; intro aA hg w5 hbox hb; obtain ⟨n_, aQ⟩ := Cb.bx (ua aK.out HB.out) hg hb; have bK := aQ; obtain ⟨a2, aT⟩ := Cb.nb hg aC.out; have aE := ak (hbox); replace aI := vb aI aA hg hb; replace aH := vb aH aA hg hb; replace aC := bb aC hb; replace HB := n_; clear n_; clear hb hbox hg; have fF := a2.out; have fG := aT.out; obtain ⟨eH, eI, eJ, eK, eL⟩ := Cb.c5 aC.out; obtain ⟨eM, eN, eO, eP, eQ⟩ := Cb.f5 aC.out; obtain ⟨eR, eS, eT, eU, eV⟩ := Cb.c5 aE.out; obtain ⟨eW, eX, eY, eZ, e0⟩ := Cb.f5 aE.out))
  refine bodyPost_ret (results_ctt rfl _ _ aA 26 #[.int .i64 aN, .slice aX aJ.length aY, .slice aU aM.length aV, .int .i64 aD, .int .u64 aW] (0, 0) _ rfl (by exact pq (blk_put (blk_put (blk_put (blk_put (blk_put (pk aE.out) 0 _ rfl) 1 _ rfl) 2 _ rfl) 3 _ rfl) 4 _ rfl)) Try.underlying26 rfl (by kernel_rfl)) rfl ?_
  exact ⟨_, _, by first | rfl | (simp [errW_none, errW_some] <;> rfl) | (simp [*, errW_none, errW_some] <;> rfl), qv (Kd.V_mono (vf5 aI.out fun _ hk => hk.2) (fun _ hk => hk.1.1)), qv (Kd.V_mono (vf5 aH.out fun _ hk => hk.2) (fun _ hk => hk.1.1)), ub aK.out aQ.out HB.out⟩
 ·rw [if_neg c3] at H
  have eF : decide (6 ≤ (aJ.length : Int)) = false := decide_eq_false c3
  have eG : decide (6 ≤ aJ.length) = false := decide_eq_false (by omega)
  clear c3
  by_cases c9 : aD > 1073741824
  ·rw [if_pos c9] at H
   have e1 : decide (1073741824 < aD) = true := decide_eq_true c9
   clear c9
   simp only [Option.some.injEq, Prod.mk.injEq] at H
   obtain ⟨rfl, rfl, rfl, rfl, rfl, rfl, rfl⟩ := H
   go_enter Try.func28, Try.ntmps28
   go_wp2_with (first | ((with_reducible refine gate_dst (N := 2) rfl ?_); refine bv 2 26 #[.int .i64 aN, .slice aX aJ.length aY, .slice aU aM.length aV, .int .i64 aD, .int .u64 aW] ?_; intro aG hg fL hbox hb; obtain ⟨n_, aK⟩ := Cb.bx (pB HB.out) hg hb; have bJ := aK; have aC := ak (hbox); replace aI := vb aI aG hg hb; replace aH := vb aH aG hg hb; replace HB := n_; clear n_; clear hb hbox hg) | ((with_reducible refine gate_dst (N := 4) rfl ?_); refine bv 4 26 #[.int .i64 0, .slice none 0 0, .slice none 0 0, .int .i64 0, .int .u64 0] ?_; intro aA hg fM hbox hb; obtain ⟨n_, aQ⟩ := Cb.bx (ua aK.out HB.out) hg hb; have bK := aQ; obtain ⟨a2, aT⟩ := Cb.nb hg aC.out; have aE := ak (hbox); replace aI := vb aI aA hg hb; replace aH := vb aH aA hg hb; replace aC := bb aC hb; replace HB := n_; clear n_; clear hb hbox hg; have e8 := a2.out; have e9 := aT.out; obtain ⟨bX, bY, bZ, b0, b1⟩ := Cb.c5 aC.out; obtain ⟨b2, b3, b4, b5, b6⟩ := Cb.f5 aC.out; obtain ⟨b7, b8, b9, cA, cB⟩ := Cb.c5 aE.out; obtain ⟨cC, cD, cE, cF, cG⟩ := Cb.f5 aE.out))
   refine bodyPost_ret (results_ctt rfl _ _ aA 26 #[.int .i64 aN, .slice aX aJ.length aY, .slice aU aM.length aV, .int .i64 aD, .int .u64 aW] (0, 0) _ rfl (by exact pq (blk_put (blk_put (blk_put (blk_put (blk_put (pk aE.out) 0 _ rfl) 1 _ rfl) 2 _ rfl) 3 _ rfl) 4 _ rfl)) Try.underlying26 rfl (by kernel_rfl)) rfl ?_
   exact ⟨_, _, by first | rfl | (simp [errW_none, errW_some] <;> rfl) | (simp [*, errW_none, errW_some] <;> rfl), qv (Kd.V_mono (vf5 aI.out fun _ hk => hk.2) (fun _ hk => hk.1.1)), qv (Kd.V_mono (vf5 aH.out fun _ hk => hk.2) (fun _ hk => hk.1.1)), ub aK.out aQ.out HB.out⟩
  ·rw [if_neg c9] at H
   have e1 : decide (1073741824 < aD) = false := decide_eq_false c9
   clear c9
   obtain ⟨y467, hy467⟩ : ∃ y_ : List (S42), y_ = (([] : List (S42))) := ⟨_, rfl⟩
   replace H : (if y467.length + aJ.length < 2513169434916 then ((some (y467 ++ aJ : List (S42))).bind fun y470 => (if y470.length < 2513169434916 then ((stanchionref17_renewed.f k aN (y470 ++ [(⟨aD, 0, false, (⟨#[]⟩ : ByteArray), 0, a1⟩ : S42)]) aM (wrap64 (aD + 1)) aW aD).bind fun bt476 => (some (bt476.1, bt476.2.1, bt476.2.2.1, bt476.2.2.2.1, bt476.2.2.2.2, aD, 0))) else (none))) else (none)) = some (r1, r2, r3, r4, r5, r6, r7) := by first | (rw [hy467]; with_reducible exact H) | (have bF := (Option.bind_some _ _).symm.trans H; rw [hy467]; with_reducible exact bF) | (have bF := (Option.bind_some _ _).symm.trans H; with_reducible exact bF) | with_reducible exact H | (rw [hy467]; exact H) | exact H
   have bL := ak hy467
   clear hy467
   have cH : y467.length + aJ.length < 2513169434916 := Decidable.byContradiction fun q => by rw [if_neg q] at H; exact absurd H (by simp)
   rw [if_pos cH] at H
   have bS := ak cH
   clear cH
   obtain ⟨y470, hy470⟩ : ∃ y_ : List (S42), y_ = (y467 ++ aJ) := ⟨_, rfl⟩
   replace H : (if y470.length < 2513169434916 then ((stanchionref17_renewed.f k aN (y470 ++ [(⟨aD, 0, false, (⟨#[]⟩ : ByteArray), 0, a1⟩ : S42)]) aM (wrap64 (aD + 1)) aW aD).bind fun bt476 => (some (bt476.1, bt476.2.1, bt476.2.2.1, bt476.2.2.2.1, bt476.2.2.2.2, aD, 0))) else (none)) = some (r1, r2, r3, r4, r5, r6, r7) := by first | (rw [hy470]; with_reducible exact H) | (have bF := (Option.bind_some _ _).symm.trans H; rw [hy470]; with_reducible exact bF) | (have bF := (Option.bind_some _ _).symm.trans H; with_reducible exact bF) | with_reducible exact H | (rw [hy470]; exact H) | exact H
   have bT := ak hy470
   clear hy470
   have cI : y470.length < 2513169434916 := Decidable.byContradiction fun q => by rw [if_neg q] at H; exact absurd H (by simp)
   rw [if_pos cI] at H
   have bU := ak cI
   clear cI
   obtain ⟨y473, hy473⟩ : ∃ y_ : List (S42), y_ = (y470 ++ [(⟨aD, 0, false, (⟨#[]⟩ : ByteArray), 0, a1⟩ : S42)]) := ⟨_, rfl⟩
   replace H : ((stanchionref17_renewed.f k aN y473 aM (wrap64 (aD + 1)) aW aD).bind fun bt476 => (some (bt476.1, bt476.2.1, bt476.2.2.1, bt476.2.2.2.1, bt476.2.2.2.2, aD, 0))) = some (r1, r2, r3, r4, r5, r6, r7) := by first | (rw [hy473]; with_reducible exact H) | (have bF := (Option.bind_some _ _).symm.trans H; rw [hy473]; with_reducible exact bF) | (have bF := (Option.bind_some _ _).symm.trans H; with_reducible exact bF) | with_reducible exact H | (rw [hy473]; exact H) | exact H
   have bV := ak hy473
   clear hy473
   replace H := Option.bind_eq_some_iff.mp H
   obtain ⟨⟨a6, a7, a8, bC, bG⟩, bW, H⟩ := H
   try dsimp only at H
   have fH := ak bW
   clear bW
   simp only [Option.some.injEq, Prod.mk.injEq] at H
   obtain ⟨rfl, rfl, rfl, rfl, rfl, rfl, rfl⟩ := H
   go_enter Try.func28, Try.ntmps28
   go_wp2_with (first | ((with_reducible refine gate_dst (N := 2) rfl ?_); refine bv 2 26 #[.int .i64 aN, .slice aX aJ.length aY, .slice aU aM.length aV, .int .i64 aD, .int .u64 aW] ?_; intro aG hg fN hbox hb; obtain ⟨n_, aK⟩ := Cb.bx (pB HB.out) hg hb; have bJ := aK; have aC := ak (hbox); replace aI := vb aI aG hg hb; replace aH := vb aH aG hg hb; replace HB := n_; clear n_; clear hb hbox hg) | ((with_reducible refine gate_dst (N := 4) rfl ?_); refine bv 4 26 #[.int .i64 0, .slice none 0 0, .slice none 0 0, .int .i64 0, .int .u64 0] ?_; intro aA hg fO hbox hb; obtain ⟨n_, aQ⟩ := Cb.bx (ua aK.out HB.out) hg hb; have bK := aQ; obtain ⟨a2, aT⟩ := Cb.nb hg aC.out; have aE := ak (hbox); replace aI := vb aI aA hg hb; replace aH := vb aH aA hg hb; replace aC := bb aC hb; replace HB := n_; clear n_; clear hb hbox hg; have fA := a2.out; have fB := aT.out; obtain ⟨cJ, cK, cL, cM, cN⟩ := Cb.c5 aC.out; obtain ⟨cO, cP, cQ, cR, cS⟩ := Cb.f5 aC.out) | ((with_reducible refine gate_dst (N := 19) rfl ?_); refine Kd.R_lit k42 _ 42 ?hg (N := 19) ?hd (xs := ([] : List (S42))) (inner := []) (ok := fun _ => True) (okp := fun _ => True) ?hr ?hp (fun _ hk => hk) trivial (Below.refl _ _) (Nat.le_refl _) (by simp) ?_; (case hd => rfl); (case hg => rfl); (case hr => first | (go_simp; done) | (go_simp; rfl)); (case hp => exact (Reps.none _ _)); intro e2 fP a9 hb hg_ hnew_; clear hg_ hnew_; (first | rw [← bL.out] at a9 | (simp only [Int.reduceToNat] at a9; rw [← bL.out] at a9)); have bA := ak (Kd.R_lower (Kd.R_newM (M := fun k_ => (w.heap.size ≤ k_)) a9 (below_size (ub aK.out aQ.out HB.out)) (fun k_ h_ => h_)) (below_size (ub aK.out aQ.out HB.out))); replace aI := ve aI a9 hb; replace aH := ve aH a9 hb; replace aC := bb aC hb; replace aE := bb aE hb; replace HB := ak (below_step (ub aK.out aQ.out HB.out) hb); clear hb a9; obtain ⟨cT, cU, cV, cW, cX⟩ := Cb.c5 aC.out; obtain ⟨cY, cZ, c1, c7, c8⟩ := Cb.f5 aC.out) | ((with_reducible refine gate_builtin (b := .append) (xs := #[.tmp 19, .tmp 21]) rfl ?_); at_builtin; refine Kd.R_append_rows k42 (w0 := w) w.heap.size rfl (.tmp 19) (.tmp 21) 22 42 (.agg #[(.int .i64 0), (.int .i64 0), (.bool false), (.string ⟨#[]⟩), (.int .i64 0), (.int .i64 0)]) 56 rfl Try.underlying22 info42 rfl (by decide) (by omega) e2 y467 aJ _ _ _ (fun k_ => (w.heap.size ≤ k_)) (fun _ => False) rfl rfl ?aO ?aR (fun _ _ h => h) (fun _ h => h.elim) ?aF ?aB ?aS ?aL ?_; (case aR => exact pc (Kd.V_reads' aI.out).2.2); (case aB => exact (ub aK.out aQ.out HB.out)); (case aF => exact (fun k_ hk => (Nat.le_trans (below_size (ub aK.out aQ.out HB.out)) hk))); (case aO => exact (pR (Kd.R_mono bA.out (fun _ hk => hk.1)))); (case aS => exact (below_size (ub aK.out aQ.out HB.out))); (case aL => have := bS.out; omega); intro e3 fQ ho hb hg hat; rw [← bT.out] at ho; have n0_ := ak (Kd.V_afterv (ok := (fun k_ => ((aZ k_ ∨ a0 k_) ∨ w.heap.size ≤ k_) ∧ k_ ≠ aG ∧ k_ ≠ aA)) (pV (vm aI.out)) hg hat); have n1_ := ak (Kd.V_afterv (ok := (fun k_ => ((aZ k_ ∨ a0 k_) ∨ w.heap.size ≤ k_) ∧ k_ ≠ aG ∧ k_ ≠ aA)) (pV (vm aH.out)) hg hat); have n2_ := ak (blk_grown (pk aC.out) hg (Kd.R_ne bA.out aC.out (by decide))); have n3_ := ak (blk_grown (pk aE.out) hg (Kd.R_ne bA.out aE.out (by decide))); have n4_ := ak (hb); have n5_ := ak (ho); clear aI; clear aH; clear aC; clear aE; clear HB; clear bA; have aI := n0_; have aH := n1_; have aC := n2_; have aE := n3_; have HB := n4_; have bB := n5_; clear n0_ n1_ n2_ n3_ n4_ n5_; clear ho hb hg hat) | ((with_reducible refine gate_builtin (b := .append) (xs := #[.tmp 22, .tmp 26]) rfl ?_); at_builtin; refine Kd.R_append k42 (w0 := w) w.heap.size rfl (.tmp 22) (.tmp 26) 22 42 (.agg #[(.int .i64 0), (.int .i64 0), (.bool false), (.string ⟨#[]⟩), (.int .i64 0), (.int .i64 0)]) 56 rfl Try.underlying22 info42 rfl (by decide) (by omega) e3 y470 (⟨aD, 0, false, (⟨#[]⟩ : ByteArray), 0, a1⟩ : S42) [.int .i64 aD, .int .i64 0, .bool false, .string (⟨#[]⟩ : ByteArray), .int .i64 0, .int .i64 a1] (fun k_ => (w.heap.size ≤ k_)) (fun _ => False) rfl rfl ?aP (fun _ hk => hk.elim) ?aF ?aO ?aB ?aS ?aL ?_; (case aP => exact k42_mkM _ _ _ (⟨aD, 0, false, (⟨#[]⟩ : ByteArray), 0, a1⟩ : S42)); (case aB => exact (ub aK.out aQ.out HB.out)); (case aF => exact (fun k_ hk => (Nat.le_trans (below_size (ub aK.out aQ.out HB.out)) hk))); (case aO => exact (pR bB.out)); (case aS => exact (below_size (ub aK.out aQ.out HB.out))); (case aL => have := bU.out; omega); intro fI fJ ho hb hg hat; rw [← bV.out] at ho; have n0_ := ak (Kd.V_afterv (ok := (fun k_ => ((aZ k_ ∨ a0 k_) ∨ w.heap.size ≤ k_) ∧ k_ ≠ aG ∧ k_ ≠ aA)) (pV aI.out) hg hat); have n1_ := ak (Kd.V_afterv (ok := (fun k_ => ((aZ k_ ∨ a0 k_) ∨ w.heap.size ≤ k_) ∧ k_ ≠ aG ∧ k_ ≠ aA)) (pV aH.out) hg hat); have n2_ := ak (blk_grown (pk aC.out) hg (Kd.R_ne bB.out aC.out (by decide))); have n3_ := ak (blk_grown (pk aE.out) hg (Kd.R_ne bB.out aE.out (by decide))); have n4_ := ak (hb); have n5_ := ak (ho); clear aI; clear aH; clear aC; clear aE; clear HB; clear bB; have aI := n0_; have aH := n1_; have aC := n2_; have aE := n3_; have HB := n4_; have a3 := n5_; clear n0_ n1_ n2_ n3_ n4_ n5_; clear ho hb hg hat; obtain ⟨a4, a5, e4⟩ := Kd.R_slice a3.out; subst e4; obtain ⟨dA, dB, dC, dD, dE⟩ := Cb.c5 aC.out; obtain ⟨dF, dG, dH, dI, dJ⟩ := Cb.f5 aC.out) | ((with_reducible refine gate_store (t := 22) (p := 28) rfl ?_); refine store_event (t := 22) (p := 28) (v := ?vo_w29) (w1 := (fJ.setCell ⟨aG, 1, none⟩ (.slice a4 y473.length a5))) ?hg ?ho ?hn ?hr ?_; (case ho => rfl); (case hg => rfl); (case hn => rfl); (case hr => first | (go_simp; done) | (go_simp; rfl)); intro bO hw; have n0_ : Aside0 (Kd.V k42 42 bO w.heap.size (fun k_ => ((aZ k_ ∨ a0 k_) ∨ w.heap.size ≤ k_) ∧ some k_ ≠ (.slice a4 y473.length a5 : Value).ownBlock ∧ k_ ≠ aG ∧ k_ ≠ aA) (.slice aX aJ.length aY) aJ) := ⟨(by rw [hw]; exact (by exact vm (vf1 (Kd.V_mono aI.out (fun k_ hk => (⟨hk, hk.1.2.1⟩ : _ ∧ k_ ≠ aG))) fun _ hk => hk.2)))⟩; have n1_ : Aside0 (Kd.V k85 85 bO w.heap.size (fun k_ => ((aZ k_ ∨ a0 k_) ∨ w.heap.size ≤ k_) ∧ some k_ ≠ (.slice a4 y473.length a5 : Value).ownBlock ∧ k_ ≠ aG ∧ k_ ≠ aA) (.slice aU aM.length aV) aM) := ⟨(by rw [hw]; exact (by exact vm (vf1 (Kd.V_mono aH.out (fun k_ hk => (⟨hk, hk.1.2.1⟩ : _ ∧ k_ ≠ aG))) fun _ hk => hk.2)))⟩; have n2_ : Aside0 (Kd.R k42 42 bO w.heap.size (fun k_ => (w.heap.size ≤ k_)) (.slice a4 y473.length a5) y473) := ⟨(by rw [hw]; exact (by exact Kd.R_mono (rf1 (Kd.R_types a3.out aC.out (by decide)) fun _ hk => hk.2) (fun _ hk => hk.1)))⟩; have n3_ : Aside0 (bO.heap[aG]? = some (.cells #[.int .i64 aN, .slice a4 y473.length a5, .slice aU aM.length aV, .int .i64 aD, .int .u64 aW] 26 (0, 0))) := ⟨(by rw [hw]; exact (by exact blk_put aC.out 1 _ rfl))⟩; have n4_ : Aside0 (bO.heap[aA]? = some (.cells #[.int .i64 0, .slice none 0 0, .slice none 0 0, .int .i64 0, .int .u64 0] 26 (0, 0))) := ⟨(by rw [hw]; exact (by exact blk_far aE.out aT.out _))⟩; have n5_ : Aside0 (Below w.heap.size w bO) := ⟨(by rw [hw]; exact (by repeat (first | exact HB.out | refine bs ?_ aK.out)))⟩; clear hw; clear aI; clear aH; clear a3; clear aC; clear aE; clear HB; have aI := n0_; have aH := n1_; have a3 := n2_; have aC := n3_; have aE := n4_; have HB := n5_; clear n0_ n1_ n2_ n3_ n4_ n5_; obtain ⟨dK, dL, dM, dN, dO⟩ := Cb.c5 aC.out; obtain ⟨dP, dQ, dR, dS, dT⟩ := Cb.f5 aC.out) | ((with_reducible refine gate_store (t := 3) (p := 32) rfl ?_); refine store_event (t := 3) (p := 32) (v := ?vo_w31) (w1 := (bO.setCell ⟨aG, 3, none⟩ (.int .i64 (wrap64 (aD + 1))))) ?hg ?ho ?hn ?hr ?_; (case ho => rfl); (case hg => rfl); (case hn => rfl); (case hr => first | (go_simp; done) | (go_simp; rfl)); intro bP hw; have n0_ : Aside0 (Kd.V k42 42 bP w.heap.size (fun k_ => ((aZ k_ ∨ a0 k_) ∨ w.heap.size ≤ k_) ∧ some k_ ≠ (.slice a4 y473.length a5 : Value).ownBlock ∧ k_ ≠ aG ∧ k_ ≠ aA) (.slice aX aJ.length aY) aJ) := ⟨(by rw [hw]; exact (by exact vm (vf1 (Kd.V_mono aI.out (fun k_ hk => (⟨hk, hk.2.2.1⟩ : _ ∧ k_ ≠ aG))) fun _ hk => hk.2)))⟩; have n1_ : Aside0 (Kd.V k85 85 bP w.heap.size (fun k_ => ((aZ k_ ∨ a0 k_) ∨ w.heap.size ≤ k_) ∧ some k_ ≠ (.slice a4 y473.length a5 : Value).ownBlock ∧ k_ ≠ aG ∧ k_ ≠ aA) (.slice aU aM.length aV) aM) := ⟨(by rw [hw]; exact (by exact vm (vf1 (Kd.V_mono aH.out (fun k_ hk => (⟨hk, hk.2.2.1⟩ : _ ∧ k_ ≠ aG))) fun _ hk => hk.2)))⟩; have n2_ : Aside0 (Kd.R k42 42 bP w.heap.size (fun k_ => (w.heap.size ≤ k_)) (.slice a4 y473.length a5) y473) := ⟨(by rw [hw]; exact (by exact Kd.R_mono (rf1 (Kd.R_types a3.out aC.out (by decide)) fun _ hk => hk.2) (fun _ hk => hk.1)))⟩; have n3_ : Aside0 (bP.heap[aG]? = some (.cells #[.int .i64 aN, .slice a4 y473.length a5, .slice aU aM.length aV, .int .i64 (wrap64 (aD + 1)), .int .u64 aW] 26 (0, 0))) := ⟨(by rw [hw]; exact (by exact blk_put aC.out 3 _ rfl))⟩; have n4_ : Aside0 (bP.heap[aA]? = some (.cells #[.int .i64 0, .slice none 0 0, .slice none 0 0, .int .i64 0, .int .u64 0] 26 (0, 0))) := ⟨(by rw [hw]; exact (by exact blk_far aE.out aT.out _))⟩; have n5_ : Aside0 (Below w.heap.size w bP) := ⟨(by rw [hw]; exact (by repeat (first | exact HB.out | refine bs ?_ aK.out)))⟩; clear hw; clear aI; clear aH; clear a3; clear aC; clear aE; clear HB; have aI := n0_; have aH := n1_; have a3 := n2_; have aC := n3_; have aE := n4_; have HB := n5_; clear n0_ n1_ n2_ n3_ n4_ n5_; obtain ⟨dU, dV, dW, dX, dY⟩ := Cb.c5 aC.out; obtain ⟨dZ, d0, d1, d2, d3⟩ := Cb.f5 aC.out) | ((with_reducible refine gate_callee (f := 44) rfl ?_); refine goesL_ (some 35) rfl rfl Try.func44 (by kernel_rfl) rfl #[.agg #[.int .i64 aN, .slice a4 y473.length a5, .slice aU aM.length aV, .int .i64 (wrap64 (aD + 1)), .int .u64 aW], .int .i64 aD] rfl mp ?_; (with_reducible refine (stanchionref17_renewed.calls k aN (fun k_ => some k_ = (.slice a4 y473.length a5 : Value).ownBlock) _ _ y473 _ _ aM (wrap64 (aD + 1)) aW aD a6 a7 a8 bC bG _ ?side1 ?side2 ?side3 fH.out).mono ?_); (case side1 => exact Kd.R_V (Kd.R_tight rfl (Kd.R_types (Kd.R_types (a3.out) aC.out (by decide)) aE.out (by decide)))); (case side2 => exact pc (Kd.V_reads' aH.out).2.2); (case side3 => exact (Kd.V_reads' aH.out).2.1); rintro e fR ⟨fK, e5, rfl, fC, d4, hb⟩; refine ⟨_, rfl, ?_⟩; have bM := ak (Kd.V_lower (Kd.V_mono (ok' := fun k_ => ((aZ k_ ∨ a0 k_) ∨ w.heap.size ≤ k_) ∧ some k_ ≠ (e5 : Value).ownBlock ∧ k_ ≠ aG ∧ k_ ≠ aA) fC (fun k_ hk_ => ⟨Or.elim hk_.1 (fun hs_ => (.inr (((Kd.R_types (Kd.R_types (a3.out) aC.out (by decide)) aE.out (by decide)).1 k_ hs_.symm).1.1))) (fun hn_ => (.inr (Nat.le_trans (below_size (ub aK.out aQ.out HB.out)) hn_))), hk_.2, Or.elim hk_.1 (fun hs_ => ((Kd.R_types (Kd.R_types (a3.out) aC.out (by decide)) aE.out (by decide)).1 k_ hs_.symm).1.2) (fun hn_ => (Kd.freshB (pk aC.out) k_ hn_)), Or.elim hk_.1 (fun hs_ => ((Kd.R_types (Kd.R_types (a3.out) aC.out (by decide)) aE.out (by decide)).1 k_ hs_.symm).2) (fun hn_ => (Kd.freshB (pk aE.out) k_ hn_))⟩)) (below_size (ub aK.out aQ.out HB.out))); have bN := ak (Kd.R_lower (Kd.R_newM (M := fun k_ => (w.heap.size ≤ k_)) (Kd.R_mono (ok' := fun k_ => True) d4 (fun _ hk_ => trivial)) (below_size (ub aK.out aQ.out HB.out)) (fun k_ h_ => h_)) (below_size (ub aK.out aQ.out HB.out))); replace aI := ve aI d4 hb; replace aH := ve aH d4 hb; replace a3 := rb a3 hb; replace aC := bb aC hb; replace aE := bb aE hb; replace HB := ak (below_step (ub aK.out aQ.out HB.out) hb); (try clear hb); (try clear hb2); (try clear hk); (try clear hi); (try clear fC); (try clear d4); obtain ⟨d5, d6, d7, d8, d9⟩ := Cb.c5 aE.out; obtain ⟨eA, eB, eC, eD, eE⟩ := Cb.f5 aE.out; obtain ⟨bD, bE, e6⟩ := Kd.V_slice bM.out; subst e6; obtain ⟨bH, bI, e7⟩ := Kd.R_slice bN.out; subst e7))
   refine bodyPost_ret (results_ctt rfl _ _ aA 26 #[.int .i64 a6, .slice bD a7.length bE, .slice bH a8.length bI, .int .i64 bC, .int .u64 bG] (0, 0) _ rfl (by exact pq (blk_put (blk_put (blk_put (blk_put (blk_put (pk aE.out) 0 _ rfl) 1 _ rfl) 2 _ rfl) 3 _ rfl) 4 _ rfl)) Try.underlying26 rfl (by kernel_rfl)) rfl ?_
   exact ⟨_, _, by first | rfl | (simp [errW_none, errW_some] <;> rfl) | (simp [*, errW_none, errW_some] <;> rfl), qv (Kd.V_mono (vf5 bM.out fun _ hk => hk.2.2.2) (fun _ hk => hk.1)), Kd.V_mono (Kd.R_V (qr (Kd.R_mono (rf5 (Kd.R_types bN.out aE.out (by decide)) fun _ hk => hk.2) (fun _ hk => hk.1.1)))) (fun k_ hk => by first | exact ⟨(.inr (hk.1)), hk.2⟩ | exact (.inr (hk))), ub aK.out aQ.out HB.out⟩

end Go.Proofs.Ytnpmjboofmdflaa.PA
