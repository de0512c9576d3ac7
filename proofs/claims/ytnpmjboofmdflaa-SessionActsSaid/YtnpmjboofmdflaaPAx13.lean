-- Made by a program of this workplace out of the translation (wip/tools in the repo). Not trusted: Lean checks it.
import Derived.Test.YtnpmjboofmdflaaPAx0
import Derived.Test.YtnpmjboofmdflaaCb
import Derived.Test.YtnpmjboofmdflaaSq
import Derived.Test.YtnpmjboofmdflaaTq
import Derived.Test.YtnpmjboofmdflaaPAx3
import Derived.Test.YtnpmjboofmdflaaPAx4
import Derived.Test.YtnpmjboofmdflaaPAx6
import Derived.Test.YtnpmjboofmdflaaPAx11
import Derived.Test.YtnpmjboofmdflaaPAx12
namespace Go.Proofs.Ytnpmjboofmdflaa.PA
open Go.RowKit Go.Proofs.YtnpmjboofmdflaaW.PrintWords Go.Proofs.YtnpmjboofmdflaaW.PrintLast Go.Proofs.YtnpmjboofmdflaaW.PrintMore Go.Proofs.Ytnpmjboofmdflaa
attribute [local go_sem] max2_int min2_int max_two min_two max_three min_three max_four min_four   -- for this text's walks alone
set_option linter.unusedVariables false
set_option linter.unusedSimpArgs false

/-! ### alarm_Pop: function 66 -/
set_option maxHeartbeats 8000000 in
set_option maxRecDepth 100000 in
theorem alarm_Pop.calls (k : Nat) (bQ : Nat → Prop) (A0 : Option Addr) (c0 : Nat) (l0 : List (S85)) (r1 : List (S85)) (r2 : Int) (r3 : Int) (r4 : Bool) (w : World) (dH : Kd.V k85 85 w w.heap.size (fun k_ => bQ k_) (.slice A0 l0.length c0) l0) (h : alarm_Pop.f k l0 = some (r1, r2, r3, r4)) :
  Calls Try.prog 66 #[.slice A0 l0.length c0] w fun e w' => ∃ v0_ : Value, e = .returned (.tuple #[v0_, .agg #[.int .u64 r2, .int .i64 r3], .bool r4]) ∧ Kd.V k85 85 w' w.heap.size (fun k_ => (bQ k_ ∨ w.heap.size ≤ k_)) v0_ r1 ∧ Below w.heap.size w w' := by
 have dI := Try.underlying85
 have aU := ak (show Kd.V k85 85 w w.heap.size (fun k_ => (bQ k_ ∨ w.heap.size ≤ k_)) (.slice A0 l0.length c0) l0 from Kd.V_mono dH (fun k_ hk => .inl hk))
 have HB := ak (Below.refl w.heap.size w)
 have H : (if (l0.length : Int) = 0 then (some (l0, 0, 0, false)) else (if 0 < (l0.length : Int) then ((api_Alarm_68.f l0).bind fun aA => (if 0 ≤ (wrap64 ((l0.length : Int) - 1)) then (if (wrap64 ((l0.length : Int) - 1)) < (aA.length : Int) then (if 0 < (aA.length : Int) then (if (wrap64 ((l0.length : Int) - 1)) ≤ (aA.length : Int) then ((alarm_sink.f k ((aA.set (0 : Int).toNat (⟨(rd_T85 aA (wrap64 ((l0.length : Int) - 1))).f0, (rd_T85 aA (wrap64 ((l0.length : Int) - 1))).f1⟩ : S85)).take ((wrap64 ((l0.length : Int) - 1)) : Int).toNat)).bind fun aQ => (some (aQ, (rd_T85 l0 0).f0, (rd_T85 l0 0).f1, true))) else (none)) else (none)) else (none)) else (none))) else (none))) = some (r1, r2, r3, r4) := h
 clear h
 by_cases c2 : (l0.length : Int) = 0
 ·rw [if_pos c2] at H
  have cF : ((l0.length : Int) == 0) = true := beq_iff_eq.mpr c2
  have cG : ((l0.length : Int) != 0) = false := bne_eq_false_iff_eq.mpr c2
  clear c2
  simp only [Option.some.injEq, Prod.mk.injEq] at H
  obtain ⟨rfl, rfl, rfl, rfl⟩ := H
  go_enter Try.func66, Try.ntmps66
  go_wp2_with (first | ((with_reducible refine gate_dst (N := 3) rfl ?_); refine bv 3 85 #[.int .u64 0, .int .i64 0] ?_; intro aC hg w3 hbox hb; obtain ⟨n_, aM⟩ := Cb.bx (pB HB.out) hg hb; have bR := aM; have aD := ak (hbox); replace aU := vb aU aC hg hb; replace HB := n_; clear n_; clear hb hbox hg; obtain ⟨cH, cI⟩ := Cb.c2 aD.out; obtain ⟨cJ, cK⟩ := Cb.f2 aD.out))
  refine bodyPost_ret (results_list (rs := [.tmp 2, .cell 3 85, .tmp 4]) rfl (by simp) (.tmp (.cell aC 85 #[.int .u64 0, .int .i64 0] (0, 0) _ rfl (by exact pq (blk_put (blk_put (pk aD.out) 0 _ rfl) 1 _ rfl)) Try.underlying85 rfl (by kernel_rfl) (.tmp .nil)))) rfl ?_
  exact ⟨_, by first | rfl | (simp [errW_none, errW_some] <;> rfl) | (simp [*, errW_none, errW_some] <;> rfl), qv (Kd.V_mono (vf2 aU.out fun _ hk => hk.2) (fun _ hk => hk.1)), ua aM.out HB.out⟩
 ·rw [if_neg c2] at H
  have cF : ((l0.length : Int) == 0) = false := beq_eq_false_iff_ne.mpr c2
  have cG : ((l0.length : Int) != 0) = true := bne_iff_ne.mpr c2
  have dJ : ¬ (l0 = []) := fun h_ => c2 (by rw [h_]; rfl)
  have c5 : 0 < (l0.length : Int) := Decidable.byContradiction fun q => by rw [if_neg q] at H; exact absurd H (by simp)
  rw [if_pos c5] at H
  have dK : decide (0 < (l0.length : Int)) = true := decide_eq_true c5
  have dL : decide (0 < l0.length) = true := decide_eq_true (by omega)
  clear c5
  replace H := Option.bind_eq_some_iff.mp H
  obtain ⟨aA, cU, H⟩ := H
  try dsimp only at H
  have A6 := ak cU
  clear cU
  obtain ⟨ji7, hji7⟩ : ∃ j_ : Int, (wrap64 ((l0.length : Int) - 1)) = j_ := ⟨_, rfl⟩
  replace H : (if 0 ≤ (ji7) then (if (ji7) < (aA.length : Int) then (if 0 < (aA.length : Int) then (if (ji7) ≤ (aA.length : Int) then ((alarm_sink.f k ((aA.set (0 : Int).toNat (⟨(rd_T85 aA (ji7)).f0, (rd_T85 aA (ji7)).f1⟩ : S85)).take ((ji7) : Int).toNat)).bind fun aQ => (some (aQ, (rd_T85 l0 0).f0, (rd_T85 l0 0).f1, true))) else (none)) else (none)) else (none)) else (none)) = some (r1, r2, r3, r4) := by first | (rw [hji7] at H; exact H) | (simp only [hji7] at H ⊢; exact H)
  (try rw [hji7] at A6)
  have cV : (IntKind.i64.wrap ((l0.length : Int) - 1)) = ji7 := (i64_w _).trans hji7
  have c8 : 0 ≤ (ji7) := Decidable.byContradiction fun q => by rw [if_neg q] at H; exact absurd H (by simp)
  rw [if_pos c8] at H
  have dM : decide (0 ≤ (ji7)) = true := decide_eq_true c8
  clear c8
  have c9 : (ji7) < (aA.length : Int) := Decidable.byContradiction fun q => by rw [if_neg q] at H; exact absurd H (by simp)
  rw [if_pos c9] at H
  have dN : decide ((ji7) < (aA.length : Int)) = true := decide_eq_true c9
  clear c9
  have b6 : 0 < (aA.length : Int) := Decidable.byContradiction fun q => by rw [if_neg q] at H; exact absurd H (by simp)
  rw [if_pos b6] at H
  have cW : decide (0 < (aA.length : Int)) = true := decide_eq_true b6
  have cX : decide (0 < aA.length) = true := decide_eq_true (by omega)
  clear b6
  obtain ⟨y373, hy373⟩ : ∃ y_ : List (S85), y_ = (aA.set (0 : Int).toNat (⟨(rd_T85 aA (ji7)).f0, (rd_T85 aA (ji7)).f1⟩ : S85)) := ⟨_, rfl⟩
  replace H : (if (ji7) ≤ (aA.length : Int) then ((alarm_sink.f k (y373.take ((ji7) : Int).toNat)).bind fun aQ => (some (aQ, (rd_T85 l0 0).f0, (rd_T85 l0 0).f1, true))) else (none)) = some (r1, r2, r3, r4) := by first | (rw [hy373]; with_reducible exact H) | (have bI := (Option.bind_some _ _).symm.trans H; rw [hy373]; with_reducible exact bI) | (have bI := (Option.bind_some _ _).symm.trans H; with_reducible exact bI) | with_reducible exact H | (rw [hy373]; exact H) | exact H
  have bS := ak hy373
  clear hy373
  have bT : (ji7) ≤ (aA.length : Int) := Decidable.byContradiction fun q => by rw [if_neg q] at H; exact absurd H (by simp)
  rw [if_pos bT] at H
  have cY := eq_true bT
  have cZ : decide ((ji7) ≤ (aA.length : Int)) = true := decide_eq_true bT
  clear bT
  obtain ⟨y374, hy374⟩ : ∃ y_ : List (S85), y_ = (y373.take ((ji7) : Int).toNat) := ⟨_, rfl⟩
  replace H : ((alarm_sink.f k y374).bind fun aQ => (some (aQ, (rd_T85 l0 0).f0, (rd_T85 l0 0).f1, true))) = some (r1, r2, r3, r4) := by first | (rw [hy374]; with_reducible exact H) | (have bI := (Option.bind_some _ _).symm.trans H; rw [hy374]; with_reducible exact bI) | (have bI := (Option.bind_some _ _).symm.trans H; with_reducible exact bI) | with_reducible exact H | (rw [hy374]; exact H) | exact H
  have bF := ak hy374
  clear hy374
  replace H := Option.bind_eq_some_iff.mp H
  obtain ⟨aQ, bU, H⟩ := H
  try dsimp only at H
  have dO := ak bU
  clear bU
  simp only [Option.some.injEq, Prod.mk.injEq] at H
  obtain ⟨rfl, rfl, rfl, rfl⟩ := H
  go_enter Try.func66, Try.ntmps66
  try go_wp2_with (first | ((with_reducible refine gate_dst (N := 3) rfl ?_); refine bv 3 85 #[.int .u64 0, .int .i64 0] ?_; intro aC hg d0 hbox hb; obtain ⟨n_, aM⟩ := Cb.bx (pB HB.out) hg hb; have bR := aM; have aD := ak (hbox); replace aU := vb aU aC hg hb; replace HB := n_; clear n_; clear hb hbox hg; have bJ : 0 ≤ (0 : Int) := (by omega); have bK : 0 < (l0.length : Int) := od; obtain ⟨bV, cL, aV, aW⟩ := at_T85 (Kd.V_reads' aU.out).2.2 0 bJ bK; cases cL; have c1 : (0 < l0.length) = True := eq_true (by omega); (try rw [show ((0 : Int)).toNat = 0 from rfl] at aV); (try rw [show 0 * 2 = 0 from rfl] at aV); (try rw [Addr.add_zero'] at aV); (try rw [show ((0 : Int)).toNat = 0 from rfl] at aW); (try rw [show 0 * 2 = 0 from rfl] at aW); (try rw [Addr.add_zero'] at aW); replace bJ := eq_true bJ; replace bK := eq_true bK) | ((with_reducible refine gate_dst (N := 5) rfl ?_); refine bv 5 85 #[.int .u64 0, .int .i64 0] ?_; intro aE hg d1 hbox hb; obtain ⟨n_, aT⟩ := Cb.bx (ua aM.out HB.out) hg hb; have dA := aT; obtain ⟨aH, aI⟩ := Cb.nb hg aD.out; have aJ := ak (hbox); replace aU := vb aU aE hg hb; replace aD := bb aD hb; replace HB := n_; clear n_; clear hb hbox hg; have dB := aI.out; have dC := aH.out; obtain ⟨b7, b8⟩ := Cb.c2 aJ.out; obtain ⟨b9, cA⟩ := Cb.f2 aJ.out) | ((with_reducible refine gate_callee (f := 68) rfl ?_); refine goesL_ (some 19) rfl rfl Try.func68 (by kernel_rfl) rfl #[.slice (some bV) l0.length c0] rfl mp ?_; (with_reducible refine (api_Alarm_68.calls _ _ l0 aA _ ?side1 ?side2 A6.out).mono ?_); (case side1 => refine (Kd.V_reads' (e := 85) (base := w.heap.size) (ok := fun k_ => (((bQ k_ ∨ w.heap.size ≤ k_) ∧ k_ ≠ aC) ∧ k_ ≠ aE)) (n := l0.length) (c := c0) ?_).2.2; exact (qv ((vf2 aU.out fun _ hk => hk.2)))); (case side2 => exact (Kd.V_reads' aU.out).2.1); rintro e bL ⟨dP, rfl, cM, hb⟩; refine ⟨_, rfl, ?_⟩; have aG := ak (Kd.R_lower (Kd.R_newB (Kd.R_newB (Kd.R_newM (M := fun k_ => (w.heap.size ≤ k_)) cM (below_size (ub aM.out aT.out HB.out)) (fun k_ h_ => h_)) (g := aC) (o := .cells #[.int .u64 0, .int .i64 0] 85 (0, 0)) (by exact pq (blk_far (blk_far (pk aD.out) aH.out _) aH.out _))) (g := aE) (o := .cells #[.int .u64 ((rd_T85 l0 0).f0), .int .i64 ((rd_T85 l0 0).f1)] 85 (0, 0)) (by exact pq (blk_put (blk_put (pk aJ.out) 0 _ rfl) 1 _ rfl))) (below_size (ub aM.out aT.out HB.out))); replace aU := ak (Kd.V_elder' (qv ((vf2 aU.out fun _ hk => hk.2))) (Kd.R_base cM) hb); replace aD := fb aD aH hb; replace aJ := ak (blk_below (g := aE) (o := .cells #[.int .u64 ((rd_T85 l0 0).f0), .int .i64 ((rd_T85 l0 0).f1)] 85 (0, 0)) (by exact pq (blk_put (blk_put (pk aJ.out) 0 _ rfl) 1 _ rfl)) hb); replace HB := ak (below_step (ub aM.out aT.out HB.out) hb); (try clear hb); (try clear hb2); (try clear hk); (try clear hi); (try clear cM); obtain ⟨dQ, aX, cN⟩ := Kd.R_slice aG.out; subst cN; have bM : 0 ≤ ((ji7) : Int) := od; have bN : (ji7) < (aA.length : Int) := od; obtain ⟨dD, cO, bC, bD⟩ := at_T85 (Kd.R_reads' aG.out).2.2 (ji7) bM bN; cases cO; replace bM := eq_true bM; replace bN := eq_true bN; have cP : 0 ≤ (0 : Int) := (by omega); have cQ : (0 : Int) < ((aA.length : Int) : Int) := od; have dR : (0 < aA.length) = True := eq_true (by omega); obtain ⟨aK, dS, bW, bX, cR, dT, bY⟩ := Kd.R_form aG.out (by omega); (first | cases bW | (injection bW with ea_ en_ ec_; (first | subst ea_ | (injection ea_ with ea_; subst ea_)); subst ec_; clear en_)); have bZ := ak bX; have dU := ak bY; clear bX cR bY; (first | simp only [add_plain] at bC | skip); (first | simp only [add_plain] at bD | skip); obtain ⟨dV, b0, b1, a5, a6⟩ := Kd.R_elem aG.out z85 (0 : Int) cP cQ; obtain rfl := k85_openM b1; have a7 : bL.cell? ⟨aK, (0 : Int).toNat * 2, none⟩ = some (.int .u64 ((rd_T85 aA 0).f0)) := a5 0 _ rfl; have a8 : bL.cell? ⟨aK, (0 : Int).toNat * 2 + 1, none⟩ = some (.int .i64 ((rd_T85 aA 0).f1)) := a5 1 _ rfl; have a9 : bL.frozen? ⟨aK, (0 : Int).toNat * 2, none⟩ = false := a6 0; have bA : bL.frozen? ⟨aK, (0 : Int).toNat * 2 + 1, none⟩ = false := a6 1; clear b0 a5 a6 b1; (try rw [show ((0 : Int)).toNat = 0 from rfl] at a7); (try simp only [Nat.reduceMul, Nat.zero_mul, Nat.zero_add, Nat.reduceAdd] at a7); (try rw [show ((0 : Int)).toNat = 0 from rfl] at a9); (try simp only [Nat.reduceMul, Nat.zero_mul, Nat.zero_add, Nat.reduceAdd] at a9); (try rw [show ((0 : Int)).toNat = 0 from rfl] at a8); (try simp only [Nat.reduceMul, Nat.zero_mul, Nat.zero_add, Nat.reduceAdd] at a8); (try rw [show ((0 : Int)).toNat = 0 from rfl] at bA); (try simp only [Nat.reduceMul, Nat.zero_mul, Nat.zero_add, Nat.reduceAdd] at bA); replace cP := eq_true cP; replace cQ := eq_true cQ; have n_ := ak (rm (ok' := (fun k_ => (w.heap.size ≤ k_) ∧ k_ ≠ aC ∧ k_ ≠ aE)) aG.out); clear aG; have aG := n_; clear n_; have b2 := ak (show Kd.R k85 85 bL w.heap.size (fun k_ => (w.heap.size ≤ k_) ∧ k_ ≠ aC ∧ k_ ≠ aE) (.slice (some ⟨aK, 0, none⟩) aA.length aX) aA from (pR aG.out)); obtain ⟨dW, bG, b3, a4, bB⟩ := Kd.R_elem b2.out z85 (0 : Int) (by omega) (by have h_ : (0 : Int) < ((aA.length : Int) : Int) := od; first | exact h_ | (have e_ := (Kd.R_reads' aG.out).1; omega) | simpa using h_); obtain rfl := k85_openM b3; have bO := Kd.R_seg b2.out (0 : Int) (by omega) (by have h_ : (0 : Int) < ((aA.length : Int) : Int) := od; first | exact h_ | (have e_ := (Kd.R_reads' aG.out).1; omega) | simpa using h_) (seg := [.int .u64 ((rd_T85 aA (ji7)).f0), .int .i64 ((rd_T85 aA (ji7)).f1)]) (j := 0) bG a4 (show 2 ≤ 2 from by decide) (x' := (⟨(rd_T85 aA (ji7)).f0, (rd_T85 aA (ji7)).f1⟩ : S85)) (k85_mkM _ _ _ (⟨(rd_T85 aA (ji7)).f0, (rd_T85 aA (ji7)).f1⟩ : S85) ) (fun _ hk => hk); have aY := a4 0 _ rfl; (try simp only [show (k85).sz = 2 from rfl, Nat.mul_one, Nat.add_zero] at aY); (try rw [show ((0 : Int)).toNat = 0 from rfl] at aY); (try simp only [Nat.reduceMul, Nat.zero_mul, Nat.zero_add, Nat.reduceAdd] at aY); have aZ := bB 0; (try simp only [show (k85).sz = 2 from rfl, Nat.mul_one, Nat.add_zero] at aZ); (try rw [show ((0 : Int)).toNat = 0 from rfl] at aZ); (try simp only [Nat.reduceMul, Nat.zero_mul, Nat.zero_add, Nat.reduceAdd] at aZ); have a0 := a4 1 _ rfl; (try simp only [show (k85).sz = 2 from rfl, Nat.mul_one, Nat.add_zero] at a0); (try rw [show ((0 : Int)).toNat = 0 from rfl] at a0); (try simp only [Nat.reduceMul, Nat.zero_mul, Nat.zero_add, Nat.reduceAdd] at a0); have a3 := bB 1; (try simp only [show (k85).sz = 2 from rfl, Nat.mul_one, Nat.add_zero] at a3); (try rw [show ((0 : Int)).toNat = 0 from rfl] at a3); (try simp only [Nat.reduceMul, Nat.zero_mul, Nat.zero_add, Nat.reduceAdd] at a3); clear bG a4 bB b3) | ((with_reducible refine gate_store (t := 85) (p := 25) rfl ?_); refine store_event (t := 85) (p := 25) (v := ?vo_w21) (w1 := ((bL.setCell ⟨aK, 0, none⟩ (.int .u64 ((rd_T85 aA (ji7)).f0))).setCell ⟨aK, 1, none⟩ (.int .i64 ((rd_T85 aA (ji7)).f1)))) ?hg ?ho ?hn ?hr ?_; (case ho => rfl); (case hg => rfl); (case hn => rfl); (case hr => first | (go_simp; done) | (go_simp; rfl)); intro cS hw; have hg : bL.grownBy cS (some aK) := (by rw [hw]; exact bO.2); have hp_ : Kd.R k85 85 cS w.heap.size (fun k_ => (w.heap.size ≤ k_) ∧ k_ ≠ aC ∧ k_ ≠ aE) (.slice (some ⟨aK, 0, none⟩) aA.length aX) y373 := (by rw [hw, bS.out]; exact bO.1); clear bO; replace aU := ak (Kd.V_afterv (v := (.slice (some ⟨aK, 0, none⟩) aA.length aX)) (v1 := (.slice (some ⟨aK, 0, none⟩) aA.length aX)) (ok := (fun k_ => (bQ k_ ∨ w.heap.size ≤ k_) ∧ k_ ≠ aC ∧ k_ ≠ aE)) (by exact vm aU.out) hg (.inl rfl)); replace aD := ak (blk_grown (g := aC) (o := .cells #[.int .u64 0, .int .i64 0] 85 (0, 0)) (by exact aD.out) hg (Kd.R_away aG.out (fun _ hk => hk.2.1))); replace aJ := ak (blk_grown (g := aE) (o := .cells #[.int .u64 ((rd_T85 l0 0).f0), .int .i64 ((rd_T85 l0 0).f1)] 85 (0, 0)) (by exact aJ.out) hg (Kd.R_away aG.out (fun _ hk => hk.2.2))); replace aG := ak (hp_); replace HB := ak ((by rw [hw]; exact below_set (below_set (HB.out) bZ.out) bZ.out : Below w.heap.size w cS)); clear hg hw hp_; have cT : ((ji7) : Int) ≤ ((aA.length : Int) : Int) := od; obtain ⟨i022, bH, _, b4, _⟩ := info_parts info85; have bP := cut_to (P := Try.prog) 23 85 .i64 Try.underlying23 bH (some ⟨aK, 0, none⟩) aA.length aX (ji7) (od) cT (Kd.R_reads' aG.out).2.1; have bE := Kd.R_take (m := ((ji7) : Int).toNat) aG.out (by have e_ := (Kd.R_reads' aG.out).1; omega); have b5 : y374.length = ((ji7) : Int).toNat := (by have e_ := (Kd.R_reads' aG.out).1; rw [bF.out, List.length_take]; omega); rw [← bF.out] at bE; rw [← b5] at bE bP; clear b5 bH b4 aG; have aN := ak bE; clear bE; replace cT := eq_true cT) | ((with_reducible refine gate_callee (f := 71) rfl ?_); refine goesL_ (some 30) rfl rfl Try.func71 (by kernel_rfl) rfl #[.slice (some ⟨aK, 0, none⟩) y374.length aX] rfl mp ?_; (with_reducible refine (alarm_sink.calls k (fun k_ => some k_ = (.slice (some ⟨aK, 0, none⟩) y374.length aX : Value).ownBlock) (.slice (some ⟨aK, 0, none⟩) y374.length aX) y374 aQ w _ ?side1 ?side2 dO.out).mono ?_); (case side1 => exact ub aM.out aT.out HB.out); (case side2 => exact Kd.R_tight rfl aN.out); rintro e dX ⟨rfl, dE, hb, hkp⟩; refine ⟨_, rfl, ?_⟩; replace aU := ak (Kd.V_mono (ok' := fun k_ => (bQ k_ ∨ w.heap.size ≤ k_) ∧ some k_ ≠ (.slice (some ⟨aK, 0, none⟩) y374.length aX : Value).ownBlock ∧ k_ ≠ aC ∧ k_ ≠ aE) (Kd.V_keptB (aU.out) hkp (fun k_ hk_ hs_ => (hk_.2) hs_)) (fun k_ hk_ => ⟨hk_.1.1.1, hk_.1.2, hk_.1.1.2.1, hk_.1.1.2.2⟩)); replace aD := ak (blk_kept (pk aD.out) hkp (fun hs_ => (fun e_ => (Kd.R_away aN.out (fun _ hk => hk.2.1)) e_) hs_)); replace aJ := ak (blk_kept (pk aJ.out) hkp (fun hs_ => (fun e_ => (Kd.R_away aN.out (fun _ hk => hk.2.2)) e_) hs_)); replace aN := ak (Kd.R_reok rfl dE (fun k_ e_ => aN.out.1 k_ e_)); replace HB := ak (hb); (try clear hb); (try clear hkp); (try clear dE)))
  replace aU := ak (Kd.V_drew aU.out)
  replace aN := ak (Kd.R_drew aN.out)
  replace aD := ak (blk_drew aD.out)
  replace aJ := ak (blk_drew aJ.out)
  replace HB := ak (below_drew1 HB.out)
  refine start_ (n := 5) (S := fun w' => w'.cell? ⟨aE, 0, none⟩ = some (.int .u64 ((rd_T85 l0 0).f0)) ∧ w'.cell? ⟨aE, 1, none⟩ = some (.int .i64 ((rd_T85 l0 0).f1))) (ds := []) #[false, false, false, false, false] (by kernel_rfl) rfl rfl ⟨(blk_cell aJ.out 0).trans rfl, (blk_cell aJ.out 1).trans rfl⟩ (fun hHeld => ?_)
  generalize dX.drew = w24 at aU aN aD aJ HB hHeld ⊢
  refine qa 0 31 (tb 5 1) (by kernel_rfl) ?_
  refine qa 2 2 (tb 5 5) (by kernel_rfl) ?_
  refine kb 1 32 (tb 5 7) (by kernel_rfl) hHeld ?_
  refine one_ (i := 3) (N := none) (tb 5 15) rfl rfl (by kernel_rfl) (by decide) (fun K hK => ?_)
  have dY : w24.cell? ⟨aC, 0, none⟩ = some (.int .u64 0) := (blk_cell aD.out 0).trans rfl
  have dF := blk_frozen aD.out 0
  have cB := aI.out
  have cC := aH.out
  have dZ : w24.cell? ⟨aC, 1, none⟩ = some (.int .i64 0) := (blk_cell aD.out 1).trans rfl
  have dG := blk_frozen aD.out 1
  have cD := aI.out
  have cE := aH.out
  refine skip_ (w1 := ?_) (by rfl) rfl ?_ ?_
  rotate_left
  ·go_simp
   rfl
  refine hK.out _ _ ⟨((cell_far (p := ⟨aC, _, none⟩) aI.out _).trans (((cell_far (p := ⟨aC, _, none⟩) aI.out _).trans (hHeld.1)))), ((cell_far (p := ⟨aC, _, none⟩) aI.out _).trans (((cell_far (p := ⟨aC, _, none⟩) aI.out _).trans (hHeld.2))))⟩ (fun hHeld => ?_)
  clear hK K
  refine qa 4 4 (tb 5 31) (by kernel_rfl) ?_
  refine done_ (by kernel_rfl) ?_
  try go_wp2
  refine bodyPost_ret (results_list (rs := [.tmp 2, .cell 3 85, .tmp 4]) rfl (by simp) (.tmp (.cell aC 85 #[.int .u64 ((rd_T85 l0 0).f0), .int .i64 ((rd_T85 l0 0).f1)] (0, 0) _ rfl (by exact pq (blk_put (blk_put (pk aD.out) 0 _ rfl) 1 _ rfl)) Try.underlying85 rfl (by kernel_rfl) (.tmp .nil)))) rfl ?_
  exact ⟨_, by first | rfl | (simp [errW_none, errW_some] <;> rfl) | (simp only [← hji7]; first | rfl | (simp [errW_none, errW_some] <;> rfl)) | (simp [*, errW_none, errW_some] <;> rfl), Kd.V_mono (Kd.R_V (qr (Kd.R_mono (rf2 (Kd.R_mono aN.out (fun k_ hk => (⟨hk, hk.2.1⟩ : _ ∧ k_ ≠ aC))) fun _ hk => hk.2) (fun _ hk => hk.1.1)))) (fun k_ hk => by first | exact ⟨(.inr (hk.1)), hk.2⟩ | exact (.inr (hk))), ub aM.out aT.out HB.out⟩

/-! ### alarm_Due: function 54 -/
set_option maxHeartbeats 8000000 in
set_option maxRecDepth 100000 in
theorem alarm_Due.calls (k : Nat) (aU : Nat → Prop) (A0 : Option Addr) (c0 : Nat) (l0 : List (S85)) (a1 : Int) (r1 : List (S85)) (r2 : List Int) (w : World) (bJ : Kd.V k85 85 w w.heap.size (fun k_ => aU k_) (.slice A0 l0.length c0) l0) (h : alarm_Due.f k l0 a1 = some (r1, r2)) :
  Calls Try.prog 54 #[.slice A0 l0.length c0, .int .u64 a1] w fun e w' => ∃ v0_ a6 : Value, e = .returned (.tuple #[v0_, a6]) ∧ Kd.V k85 85 w' w.heap.size (fun k_ => (aU k_ ∨ w.heap.size ≤ k_) ∧ some k_ ≠ (a6 : Value).ownBlock) v0_ r1 ∧ Kd.R (Kd.int .i64) 3 w' w.heap.size (fun k_ => (w.heap.size ≤ k_)) a6 r2 ∧ Below w.heap.size w w' := by
 have bK := Try.underlying85
 have bL := ak (show Kd.V k85 85 w w.heap.size (fun k_ => (aU k_ ∨ w.heap.size ≤ k_)) (.slice A0 l0.length c0) l0 from Kd.V_mono bJ (fun k_ hk => .inl hk))
 have HB := ak (Below.refl w.heap.size w)
 have H : (alarm_Due.l0 k l0 a1 ([] : List Int)) = some (r1, r2) := h
 clear h
 have H' := ak H
 clear H
 go_enter Try.func54, Try.ntmps54
 go_wp2
 go_loopg [0, 6] k (fun kq v0 v6 w' => ∃ (aA : List (S85)) (aJ : List Int), Aside0 (alarm_Due.l0 kq aA a1 aJ = some (r1, r2)) ∧ Aside0 (kq ≤ k) ∧ Aside0 (Kd.V k85 85 w' w.heap.size (fun k_ => (aU k_ ∨ w.heap.size ≤ k_) ∧ some k_ ≠ (v6 : Value).ownBlock) v0 aA) ∧ Aside0 (Kd.R (Kd.int .i64) 3 w' w.heap.size (fun k_ => (w.heap.size ≤ k_)) v6 aJ) ∧ Aside0 (Below w.heap.size w w'))
 case atStart => exact ⟨(l0), (([] : List Int)), H', ⟨Nat.le_refl _⟩, ⟨pV (Kd.V_mono bL.out (fun _ hk => ⟨hk, (by simp [Value.ownBlock])⟩))⟩, ⟨by first | exact Kd.R_nil _ _ _ _ _ | exact Kd.N_nil _ _ _ _ _ | exact Kd.V_nil _ _ _ _ _ | exact Kd.Q_nil _ _ _ _ _ | exact Kd.S_nil _ _ _ _ _⟩, ⟨pB HB.out⟩⟩
 case round =>
  clear H'
  try clear p2
  obtain ⟨aA, aJ, HA, bF, HO_0, HO_6, HB⟩ := hrel
  cases gk with
  | zero => exact absurd HA.out (by simp [alarm_Due.l0])
  | succ k1 =>
   have H := HA.out
   clear HA
   simp only [alarm_Due.l0] at H
   by_cases c3 : (aA.length : Int) > 0
   ·rw [if_pos c3] at H
    have a7 : decide (0 < (aA.length : Int)) = true := decide_eq_true c3
    have a8 : decide (0 < aA.length) = true := decide_eq_true (by omega)
    clear c3
    have c4 : 0 < (aA.length : Int) := Decidable.byContradiction fun q => by rw [if_neg q] at H; exact absurd H (by simp)
    rw [if_pos c4] at H
    have bM : decide (0 < (aA.length : Int)) = true := decide_eq_true c4
    have bN : decide (0 < aA.length) = true := decide_eq_true (by omega)
    clear c4
    by_cases c5 : ((rd_T85 aA 0).f0) ≤ a1
    ·rw [if_pos c5] at H
     have a9 : decide (((rd_T85 aA 0).f0) ≤ a1) = true := decide_eq_true c5
     clear c5
     replace H := Option.bind_eq_some_iff.mp H
     obtain ⟨⟨aT, aQ, aI, bA⟩, bG, H⟩ := H
     try dsimp only at H
     have A6 := ak bG
     clear bG
     have c7 : aJ.length < 17592186044416 := Decidable.byContradiction fun q => by rw [if_neg q] at H; exact absurd H (by simp)
     rw [if_pos c7] at H
     have bB := ak c7
     clear c7
     obtain ⟨y386, hy386⟩ : ∃ y_ : List Int, y_ = (aJ ++ [aI]) := ⟨_, rfl⟩
     replace H : (alarm_Due.l0 k1 aT a1 y386) = some (r1, r2) := by first | (rw [hy386]; with_reducible exact H) | (have bC := (Option.bind_some _ _).symm.trans H; rw [hy386]; with_reducible exact bC) | (have bC := (Option.bind_some _ _).symm.trans H; with_reducible exact bC) | with_reducible exact H | (rw [hy386]; exact H) | exact H
     have aX := ak hy386
     clear hy386
     have H' := ak H
     clear H
     obtain ⟨bW, bO, bP⟩ := Kd.V_slice HO_0.out
     subst bP
     have aM : 0 ≤ (0 : Int) := (by omega)
     have aN : 0 < (aA.length : Int) := od
     obtain ⟨aV, aW, aD, aE⟩ := at_T85 (Kd.V_reads' HO_0.out).2.2 0 aM aN
     cases aW
     have aY : (0 < aA.length) = True := eq_true (by omega)
     (try rw [show ((0 : Int)).toNat = 0 from rfl] at aD)
     (try rw [show 0 * 2 = 0 from rfl] at aD)
     (try rw [Addr.add_zero'] at aD)
     (try rw [show ((0 : Int)).toNat = 0 from rfl] at aE)
     (try rw [show 0 * 2 = 0 from rfl] at aE)
     (try rw [Addr.add_zero'] at aE)
     replace aM := eq_true aM
     replace aN := eq_true aN
     go_wp2_with (first | ((with_reducible refine gate_callee (f := 66) rfl ?_); refine goesL_ (some 23) rfl rfl Try.func66 (by kernel_rfl) rfl #[.slice (some aV) aA.length bO] rfl mp ?_; (with_reducible refine (alarm_Pop.calls k1 (fun k_ => ((aU k_ ∨ w.heap.size ≤ k_) ∧ some k_ ≠ (u6 : Value).ownBlock)) _ _ aA aT aQ aI bA _ ?side1 A6.out).mono ?_); (case side1 => exact HO_0.out); rintro e w9 ⟨bQ, rfl, bH, hb⟩; refine ⟨_, rfl, ?_⟩; have aH := ak (Kd.V_lower (Kd.V_mono (ok' := fun k_ => (aU k_ ∨ w.heap.size ≤ k_) ∧ some k_ ≠ (u6 : Value).ownBlock) bH (fun k_ hk_ => ⟨Or.elim hk_ (fun hs_ => hs_.1) (fun hn_ => (.inr (Nat.le_trans (below_size (pB HB.out)) hn_))), Or.elim hk_ (fun hs_ => hs_.2) (fun hn_ => (Kd.fresh' (Kd.R_lt (pR HO_6.out)) k_ hn_))⟩)) (below_size (pB HB.out))); replace HO_0 := vw HO_0 hb; replace HO_6 := rb HO_6 hb; replace HB := ak (below_step (pB HB.out) hb); (try clear hb); (try clear hb2); (try clear hk); (try clear hi); (try clear bH)) | ((with_reducible refine gate_dst (N := 8) rfl ?_); refine bv 8 85 #[.int .u64 0, .int .i64 0] ?_; intro aC hg bX hbox hb; obtain ⟨n_, aK⟩ := Cb.bx (pB HB.out) hg hb; have bI := aK; have aG := ak (hbox); replace HO_0 := vb HO_0 aC hg hb; replace HO_6 := rb HO_6 hb; replace aH := vb aH aC hg hb; replace HB := n_; clear n_; clear hb hbox hg; obtain ⟨a0, a3⟩ := Cb.c2 aG.out; obtain ⟨a4, a5⟩ := Cb.f2 aG.out) | ((with_reducible refine gate_builtin (b := .append) (xs := #[.tmp 28, .tmp 31]) rfl ?_); at_builtin; refine Kd.R_append (Kd.int .i64) (w0 := w) w.heap.size rfl (.tmp 28) (.tmp 31) 88 3 (.int .i64 0) 8 rfl Try.underlying88 info3 rfl (by decide) (by omega) u6 aJ aI [.int .i64 aI] (fun k_ => (w.heap.size ≤ k_)) (fun _ => False) rfl (by first | (go_simp; done) | (go_simp; rfl)) ?aP (fun _ hk => hk.elim) ?aF ?aO ?aB ?aS ?aL ?_; (case aP => exact rfl); (case aB => exact (ua aK.out HB.out)); (case aF => exact (fun k_ hk => (Nat.le_trans (below_size (ua aK.out HB.out)) hk))); (case aO => exact (qr (Kd.R_mono (rf2 (Kd.R_types HO_6.out aG.out (by decide)) fun _ hk => hk.2) (fun _ hk => hk.1)))); (case aS => exact (below_size (ua aK.out HB.out))); (case aL => have := bB.out; omega); intro bR bY ho hb hg hat; rw [← aX.out] at ho; have n0_ := ak (Kd.V_afterv (ok := (fun k_ => (aU k_ ∨ w.heap.size ≤ k_) ∧ k_ ≠ aC)) (qv (vm (vf2 HO_0.out fun _ hk => hk.2))) hg hat); have n1_ := ak (Kd.V_afterv (ok := (fun k_ => (aU k_ ∨ w.heap.size ≤ k_) ∧ k_ ≠ aC)) (qv (vm (vf2 aH.out fun _ hk => hk.2))) hg hat); have n2_ := ak (blk_grown (g := aC) (o := .cells #[.int .u64 aQ, .int .i64 aI] 85 (0, 0)) (by exact pq (blk_put (blk_put (pk aG.out) 0 _ rfl) 1 _ rfl)) hg (Kd.R_ne HO_6.out aG.out (by decide))); have n3_ := ak (hb); have n4_ := ak (ho); clear HO_0; clear aH; clear aG; clear HB; clear HO_6; have HO_0 := n0_; have aH := n1_; have aG := n2_; have HB := n3_; have aZ := n4_; clear n0_ n1_ n2_ n3_ n4_; clear ho hb hg hat))
     go_roundg k1
     case measure => have := bF.out; omega
     case rel => exact ⟨(aT), (y386), H', ⟨by have := bF.out; omega⟩, ⟨pV (Kd.V_mono aH.out (fun _ hk => ⟨hk.1.1, hk.2⟩))⟩, ⟨pR aZ.out⟩, ⟨ua aK.out HB.out⟩⟩
    ·rw [if_neg c5] at H
     have a9 : decide (((rd_T85 aA 0).f0) ≤ a1) = false := decide_eq_false c5
     clear c5
     simp only [Option.some.injEq, Prod.mk.injEq] at H
     obtain ⟨rfl, rfl⟩ := H
     obtain ⟨bS, bT, bD⟩ := Kd.V_slice HO_0.out
     subst bD
     have aM : 0 ≤ (0 : Int) := (by omega)
     have aN : 0 < (aA.length : Int) := od
     obtain ⟨aV, aW, aD, aE⟩ := at_T85 (Kd.V_reads' HO_0.out).2.2 0 aM aN
     cases aW
     have aY : (0 < aA.length) = True := eq_true (by omega)
     (try rw [show ((0 : Int)).toNat = 0 from rfl] at aD)
     (try rw [show 0 * 2 = 0 from rfl] at aD)
     (try rw [Addr.add_zero'] at aD)
     (try rw [show ((0 : Int)).toNat = 0 from rfl] at aE)
     (try rw [show 0 * 2 = 0 from rfl] at aE)
     (try rw [Addr.add_zero'] at aE)
     replace aM := eq_true aM
     replace aN := eq_true aN
     go_wp2
     go_ret2
     exact ⟨_, _, by first | rfl | (simp [errW_none, errW_some] <;> rfl) | (simp [*, errW_none, errW_some] <;> rfl), pV HO_0.out, pR HO_6.out, pB HB.out⟩
   ·rw [if_neg c3] at H
    have a7 : decide (0 < (aA.length : Int)) = false := decide_eq_false c3
    have a8 : decide (0 < aA.length) = false := decide_eq_false (by omega)
    clear c3
    simp only [Option.some.injEq, Prod.mk.injEq] at H
    obtain ⟨rfl, rfl⟩ := H
    obtain ⟨bU, bV, bE⟩ := Kd.V_slice HO_0.out
    subst bE
    go_wp2
    go_ret2
    exact ⟨_, _, by first | rfl | (simp [errW_none, errW_some] <;> rfl) | (simp [*, errW_none, errW_some] <;> rfl), pV HO_0.out, pR HO_6.out, pB HB.out⟩

/-! ### session_Tick: function 27 -/
set_option maxHeartbeats 8000000 in
set_option maxRecDepth 100000 in
theorem session_Tick.calls (k : Nat) (bI : Int) (a4 : Nat → Prop) (bM : Option Addr) (bN : Nat) (bA : List (S42)) (a5 : Nat → Prop) (bO : Option Addr) (bP : Nat) (bB : List (S85)) (bJ : Int) (bR : Int) (a1 : Int) (r1 : Int) (r2 : List (S42)) (r3 : List (S85)) (r4 : Int) (r5 : Int) (r6 : List (S42)) (w : World) (dR : Kd.V k42 42 w w.heap.size (fun k_ => a4 k_) (.slice bM bA.length bN) bA) (dS : Kd.V k85 85 w w.heap.size (fun k_ => a5 k_) (.slice bO bB.length bP) bB) (h : session_Tick.f k bI bA bB bJ bR a1 = some (r1, r2, r3, r4, r5, r6)) :
  Calls Try.prog 27 #[.agg #[.int .i64 bI, .slice bM bA.length bN, .slice bO bB.length bP, .int .i64 bJ, .int .u64 bR], .int .u64 a1] w fun e w' => ∃ v1_ v2_ d5 : Value, e = .returned (.tuple #[.agg #[.int .i64 r1, v1_, v2_, .int .i64 r4, .int .u64 r5], d5]) ∧ Kd.V k42 42 w' w.heap.size (fun k_ => ((a4 k_ ∨ a5 k_) ∨ w.heap.size ≤ k_) ∧ some k_ ≠ (d5 : Value).ownBlock) v1_ r2 ∧ Kd.V k85 85 w' w.heap.size (fun k_ => ((a4 k_ ∨ a5 k_) ∨ w.heap.size ≤ k_) ∧ some k_ ≠ (d5 : Value).ownBlock) v2_ r3 ∧ Kd.R k42 42 w' w.heap.size (fun k_ => (w.heap.size ≤ k_)) d5 r6 ∧ Below w.heap.size w w' := by
 have hR := Try.underlying26
 have hS := Try.underlying42
 have bD := ak (show Kd.V k42 42 w w.heap.size (fun k_ => ((a4 k_ ∨ a5 k_) ∨ w.heap.size ≤ k_)) (.slice bM bA.length bN) bA from Kd.V_mono dR (fun k_ hk => .inl (.inl hk)))
 have bE := ak (show Kd.V k85 85 w w.heap.size (fun k_ => ((a4 k_ ∨ a5 k_) ∨ w.heap.size ≤ k_)) (.slice bO bB.length bP) bB from Kd.V_mono dS (fun k_ hk => .inl (.inr hk)))
 have HB := ak (Below.refl w.heap.size w)
 have H : ((alarm_Due.f k bB (mx bR a1)).bind fun bt391 => (session_Tick.l0 k ([] : List (S42)) bt391.2 (bt391.2.length : Int) 0 bI bA bt391.1 bJ (mx bR a1))) = some (r1, r2, r3, r4, r5, r6) := h
 clear h
 obtain ⟨ji3, hji3⟩ : ∃ j_ : Int, (mx bR a1) = j_ := ⟨_, rfl⟩
 replace H : ((alarm_Due.f k bB (ji3)).bind fun bt391 => (session_Tick.l0 k ([] : List (S42)) bt391.2 (bt391.2.length : Int) 0 bI bA bt391.1 bJ ji3)) = some (r1, r2, r3, r4, r5, r6) := by first | (rw [hji3] at H; exact H) | (simp only [hji3] at H ⊢; exact H)
 have g5 : (if bR < a1 then a1 else bR) = ji3 := hji3
 replace H := Option.bind_eq_some_iff.mp H
 obtain ⟨⟨bX, aU⟩, g6, H⟩ := H
 try dsimp only at H
 have A4 := ak g6
 clear g6
 have H' := ak H
 clear H
 go_enter Try.func27, Try.ntmps27
 go_wp2_with (first | ((with_reducible refine gate_dst (N := 2) rfl ?_); refine bv 2 26 #[.int .i64 bI, .slice bM bA.length bN, .slice bO bB.length bP, .int .i64 bJ, .int .u64 bR] ?_; intro aJ hg w5 hbox hb; obtain ⟨n_, aW⟩ := Cb.bx (pB HB.out) hg hb; have g7 := aW; have aI := ak (hbox); replace bD := vb bD aJ hg hb; replace bE := vb bE aJ hg hb; replace HB := n_; clear n_; clear hb hbox hg) | ((with_reducible refine gate_dst (N := 4) rfl ?_); refine bv 4 26 #[.int .i64 0, .slice none 0 0, .slice none 0 0, .int .i64 0, .int .u64 0] ?_; intro aN hg w6 hbox hb; obtain ⟨n_, aX⟩ := Cb.bx (ua aW.out HB.out) hg hb; have g8 := aX; obtain ⟨bC, aV⟩ := Cb.nb hg aI.out; have aT := ak (hbox); replace bD := vb bD aN hg hb; replace bE := vb bE aN hg hb; replace aI := bb aI hb; replace HB := n_; clear n_; clear hb hbox hg; have hT := bC.out; have hU := aV.out; obtain ⟨dD, dE, dF, dG, dH⟩ := Cb.c5 aI.out; obtain ⟨dI, dJ, dK, dL, dM⟩ := Cb.f5 aI.out) | ((with_reducible refine gate_store (t := 24) (p := 17) rfl ?_); refine store_event (t := 24) (p := 17) (v := ?vo_w9) (w1 := (w6.setCell ⟨aJ, 4, none⟩ (.int .u64 ji3))) ?hg ?ho ?hn ?hr ?_; (case ho => rfl); (case hg => rfl); (case hn => rfl); (case hr => first | (go_simp; done) | (go_simp; rfl)); intro w9 hw; have n0_ : Aside0 (Kd.V k42 42 w9 w.heap.size (fun k_ => ((a4 k_ ∨ a5 k_) ∨ w.heap.size ≤ k_) ∧ k_ ≠ aJ ∧ k_ ≠ aN) (.slice bM bA.length bN) bA) := ⟨(by rw [hw]; exact (by exact vm (vf1 (Kd.V_mono bD.out (fun k_ hk => (⟨hk, hk.1.2⟩ : _ ∧ k_ ≠ aJ))) fun _ hk => hk.2)))⟩; have n1_ : Aside0 (Kd.V k85 85 w9 w.heap.size (fun k_ => ((a4 k_ ∨ a5 k_) ∨ w.heap.size ≤ k_) ∧ k_ ≠ aJ ∧ k_ ≠ aN) (.slice bO bB.length bP) bB) := ⟨(by rw [hw]; exact (by exact vm (vf1 (Kd.V_mono bE.out (fun k_ hk => (⟨hk, hk.1.2⟩ : _ ∧ k_ ≠ aJ))) fun _ hk => hk.2)))⟩; have n2_ : Aside0 (w9.heap[aJ]? = some (.cells #[.int .i64 bI, .slice bM bA.length bN, .slice bO bB.length bP, .int .i64 bJ, .int .u64 ji3] 26 (0, 0))) := ⟨(by rw [hw]; exact (by exact blk_put aI.out 4 _ rfl))⟩; have n3_ : Aside0 (w9.heap[aN]? = some (.cells #[.int .i64 0, .slice none 0 0, .slice none 0 0, .int .i64 0, .int .u64 0] 26 (0, 0))) := ⟨(by rw [hw]; exact (by exact blk_far aT.out aV.out _))⟩; have n4_ : Aside0 (Below w.heap.size w w9) := ⟨(by rw [hw]; exact (by repeat (first | exact HB.out | refine bs ?_ aW.out)))⟩; clear hw; clear bD; clear bE; clear aI; clear aT; clear HB; have bD := n0_; have bE := n1_; have aI := n2_; have aT := n3_; have HB := n4_; clear n0_ n1_ n2_ n3_ n4_; obtain ⟨cC, cD, cE, cF, cG⟩ := Cb.c5 aI.out; obtain ⟨cH, cI, cJ, cK, cL⟩ := Cb.f5 aI.out) | ((with_reducible refine gate_callee (f := 54) rfl ?_); refine goesL_ (some 23) rfl rfl Try.func54 (by kernel_rfl) rfl #[.slice bO bB.length bP, .int .u64 ji3] rfl (by (try simp only [List.map_toArray, List.map_cons, List.map_nil]); first | done | (simp only [hji3]; rfl) | rfl | (simp only [List.length_drop, List.length_take]; rfl)) ?_; (with_reducible refine (alarm_Due.calls k (fun k_ => (((a4 k_ ∨ a5 k_) ∨ w.heap.size ≤ k_) ∧ (k_ ≠ aJ ∧ k_ ≠ aN))) _ _ bB ji3 bX aU _ ?side1 A4.out).mono ?_); (case side1 => exact bE.out); rintro e hY ⟨hV, gS, rfl, cZ, dN, hb⟩; refine ⟨_, rfl, ?_⟩; have c1 := ak (Kd.V_lower (Kd.V_mono (ok' := fun k_ => ((a4 k_ ∨ a5 k_) ∨ w.heap.size ≤ k_) ∧ some k_ ≠ (gS : Value).ownBlock ∧ k_ ≠ aJ ∧ k_ ≠ aN) cZ (fun k_ hk_ => ⟨Or.elim hk_.1 (fun hs_ => hs_.1) (fun hn_ => (.inr (Nat.le_trans (below_size (ub aW.out aX.out HB.out)) hn_))), hk_.2, Or.elim hk_.1 (fun hs_ => hs_.2.1) (fun hn_ => (Kd.freshB (pk aI.out) k_ hn_)), Or.elim hk_.1 (fun hs_ => hs_.2.2) (fun hn_ => (Kd.freshB (pk aT.out) k_ hn_))⟩)) (below_size (ub aW.out aX.out HB.out))); have dA := ak (Kd.R_lower (Kd.R_newM (M := fun k_ => (w.heap.size ≤ k_)) (Kd.R_mono (ok' := fun k_ => True) dN (fun _ hk_ => trivial)) (below_size (ub aW.out aX.out HB.out)) (fun k_ h_ => h_)) (below_size (ub aW.out aX.out HB.out))); replace bD := ve bD dN hb; replace bE := ve bE dN hb; replace aI := bb aI hb; replace aT := bb aT hb; replace HB := ak (below_step (ub aW.out aX.out HB.out) hb); (try clear hb); (try clear hb2); (try clear hk); (try clear hi); (try clear cZ); (try clear dN); obtain ⟨cM, cN, gT⟩ := Kd.V_slice c1.out; subst gT; obtain ⟨cO, cP, cQ, cR, cS⟩ := Cb.c5 aI.out; obtain ⟨cT, cU, cV, cW, cX⟩ := Cb.f5 aI.out; obtain ⟨dO, bY, gU⟩ := Kd.R_slice dA.out; subst gU))
 go_loopg [8, 30] k (fun kq v8 v30 w' => ∃ (bF : List (S42)) (aQ : Int) (aE : Int) (aC : List (S42)) (aD : List (S85)) (aG : Int) (aH : Int) (u390001 : Value) (u390002 : Value), v30 = .int .i64 aQ ∧ Aside0 (session_Tick.l0 kq bF aU (aU.length : Int) aQ aE aC aD aG aH = some (r1, r2, r3, r4, r5, r6)) ∧ Aside0 (kq ≤ k) ∧ Aside0 (Kd.R k42 42 w' w.heap.size (fun k_ => (w.heap.size ≤ k_)) v8 bF) ∧ Aside0 (Kd.R (Kd.int .i64) 3 w' w.heap.size (fun k_ => (w.heap.size ≤ k_)) (.slice dO aU.length bY) aU) ∧ Aside0 (Kd.V k42 42 w' w.heap.size (fun k_ => ((a4 k_ ∨ a5 k_) ∨ w.heap.size ≤ k_) ∧ some k_ ≠ (v8 : Value).ownBlock ∧ some k_ ≠ ((.slice dO aU.length bY) : Value).ownBlock ∧ k_ ≠ aJ ∧ k_ ≠ aN) u390001 aC) ∧ Aside0 (Kd.V k85 85 w' w.heap.size (fun k_ => ((a4 k_ ∨ a5 k_) ∨ w.heap.size ≤ k_) ∧ some k_ ≠ (v8 : Value).ownBlock ∧ some k_ ≠ ((.slice dO aU.length bY) : Value).ownBlock ∧ k_ ≠ aJ ∧ k_ ≠ aN) u390002 aD) ∧ Aside0 (w'.heap[aJ]? = some (.cells #[.int .i64 aE, u390001, u390002, .int .i64 aG, .int .u64 aH] 26 (0, 0))) ∧ Aside0 (w'.heap[aN]? = some (.cells #[.int .i64 0, (.slice none 0 0), (.slice none 0 0), .int .i64 0, .int .u64 0] 26 (0, 0))) ∧ Aside0 (Below w.heap.size w w'))
 case atStart => exact ⟨(([] : List (S42))), (0), (bI), (bA), (bX), (bJ), (ji3), (.slice bM bA.length bN), (.slice cM bX.length cN), es, H', ⟨Nat.le_refl _⟩, ⟨by first | exact Kd.R_nil _ _ _ _ _ | exact Kd.N_nil _ _ _ _ _ | exact Kd.V_nil _ _ _ _ _ | exact Kd.Q_nil _ _ _ _ _ | exact Kd.S_nil _ _ _ _ _⟩, ⟨qr (Kd.R_mono (rf1 (Kd.R_types dA.out aI.out (by decide)) fun _ hk => hk.2) (fun _ hk => hk.1.1))⟩, ⟨qv (Kd.V_mono (vf1 bD.out fun _ hk => hk.1.2.1) (fun _ hk => ⟨hk.1.1, ⟨(by simp [Value.ownBlock]), ⟨hk.2, ⟨hk.1.2.1, hk.1.2.2⟩⟩⟩⟩))⟩, ⟨qv (Kd.V_mono (vf1 c1.out fun _ hk => hk.2.2.1) (fun _ hk => ⟨hk.1, ⟨(by simp [Value.ownBlock]), ⟨hk.2.1, ⟨hk.2.2.1, hk.2.2.2⟩⟩⟩⟩))⟩, ⟨by exact pq (blk_put (pk aI.out) 2 _ rfl)⟩, ⟨by exact pq (blk_far (pk aT.out) aV.out _)⟩, ⟨ub aW.out aX.out HB.out⟩⟩
 case round =>
  clear H'
  try clear c2 p2 c5 c7 cC cD cE cF cG cO cP cQ cR cS dD dE dF dG dH cH cI cJ cK cL cT cU cV cW cX dI dJ dK dL dM
  obtain ⟨bF, aQ, aE, aC, aD, aG, aH, u390001, u390002, rfl, HA, d6, HO_8, HO_28, HO_390001, HO_390002, aI, aT, HB⟩ := hrel
  cases gk with
  | zero => exact absurd HA.out (by simp [session_Tick.l0])
  | succ k1 =>
   have H := HA.out
   clear HA
   simp only [session_Tick.l0] at H
   by_cases dQ : aQ < (aU.length : Int)
   ·rw [if_pos dQ] at H
    have dT : decide (aQ < (aU.length : Int)) = true := decide_eq_true dQ
    clear dQ
    have d7 : 0 ≤ aQ := Decidable.byContradiction fun q => by rw [if_neg q] at H; exact absurd H (by simp)
    rw [if_pos d7] at H
    have g9 : decide (0 ≤ aQ) = true := decide_eq_true d7
    clear d7
    have d8 : aQ < (aU.length : Int) := Decidable.byContradiction fun q => by rw [if_neg q] at H; exact absurd H (by simp)
    rw [if_pos d8] at H
    have hA : decide (aQ < (aU.length : Int)) = true := decide_eq_true d8
    clear d8
    replace H := Option.bind_eq_some_iff.mp H
    obtain ⟨⟨aY, aZ, a0, a3, a6, a8, dU⟩, dV, H⟩ := H
    try dsimp only at H
    have hB := ak dV
    clear dV
    by_cases d9 : dU = true
    ·subst d9
     have H1 : (if bF.length < 2513169434916 then ((session_without.f aE aC aD aG aH (rd aU aQ)).bind fun bt409 => (session_Tick.l0 k1 (bF ++ [(⟨aY, aZ, a0, a3, a6, a8⟩ : S42)]) aU (aU.length : Int) (wrap64 (aQ + 1)) bt409.1 bt409.2.1 bt409.2.2.1 bt409.2.2.2.1 bt409.2.2.2.2)) else (none)) = some (r1, r2, r3, r4, r5, r6) := by rw [if_pos rfl] at H; exact H
     clear H
     have H := H1
     clear H1
     have eA : bF.length < 2513169434916 := Decidable.byContradiction fun q => by rw [if_neg q] at H; exact absurd H (by simp)
     rw [if_pos eA] at H
     have dW := ak eA
     clear eA
     obtain ⟨y406, hy406⟩ : ∃ y_ : List (S42), y_ = (bF ++ [(⟨aY, aZ, a0, a3, a6, a8⟩ : S42)]) := ⟨_, rfl⟩
     replace H : ((session_without.f aE aC aD aG aH (rd aU aQ)).bind fun bt409 => (session_Tick.l0 k1 y406 aU (aU.length : Int) (wrap64 (aQ + 1)) bt409.1 bt409.2.1 bt409.2.2.1 bt409.2.2.2.1 bt409.2.2.2.2)) = some (r1, r2, r3, r4, r5, r6) := by first | (rw [hy406]; with_reducible exact H) | (have gV := (Option.bind_some _ _).symm.trans H; rw [hy406]; with_reducible exact gV) | (have gV := (Option.bind_some _ _).symm.trans H; with_reducible exact gV) | with_reducible exact H | (rw [hy406]; exact H) | exact H
     have dX := ak hy406
     clear hy406
     replace H := Option.bind_eq_some_iff.mp H
     obtain ⟨⟨bK, bL, bQ, bS, bZ⟩, dY, H⟩ := H
     try dsimp only at H
     have hW := ak dY
     clear dY
     have H' := ak H
     clear H
     have b0 : 0 ≤ (aQ : Int) := od
     have b1 : aQ < (aU.length : Int) := od
     obtain ⟨bT, dP, cY⟩ := Kd.at_int (Kd.R_reads' HO_28.out).2.2 aQ b0 b1
     cases dP
     replace b0 := eq_true b0
     replace b1 := eq_true b1
     have hC := bC.out
     have hD := aV.out
     obtain ⟨eB, eC, eD, eE, eF⟩ := Cb.c5 aI.out
     obtain ⟨eG, eH, eI, eJ, eK⟩ := Cb.f5 aI.out
     obtain ⟨b8, b9, gW⟩ := Kd.V_slice HO_390001.out
     subst gW
     obtain ⟨b2, b3, gX⟩ := Kd.V_slice HO_390002.out
     subst gX
     go_wp2_with (first | ((with_reducible refine gate_callee (f := 14) rfl ?_); refine goesL_ (some 37) rfl rfl Try.func14 (by kernel_rfl) rfl #[.agg #[.int .i64 aE, .slice b8 aC.length b9, .slice b2 aD.length b3, .int .i64 aG, .int .u64 aH], .int .i64 (rd aU aQ)] rfl mp ?_; (with_reducible refine (session_Find.calls aE _ _ aC _ _ aD aG aH (rd aU aQ) aY aZ a0 a3 a6 a8 true _ ?side1 ?side2 ?side3 ?side4 hB.out).mono ?_); (case side1 => exact pc (Kd.V_reads' HO_390001.out).2.2); (case side2 => exact (Kd.V_reads' HO_390001.out).2.1); (case side3 => exact pc (Kd.V_reads' HO_390002.out).2.2); (case side4 => exact (Kd.V_reads' HO_390002.out).2.1); rintro e hZ ⟨rfl, hb⟩; refine ⟨_, rfl, ?_⟩; replace HO_8 := rb HO_8 hb; replace HO_28 := rb HO_28 hb; replace HO_390001 := vw HO_390001 hb; replace HO_390002 := vw HO_390002 hb; replace aI := bb aI hb; replace aT := bb aT hb; replace HB := ak (below_step (ub aW.out aX.out HB.out) hb); (try clear hb); (try clear hb2); (try clear hk); (try clear hi)) | ((with_reducible refine gate_dst (N := 11) rfl ?_); refine bv 11 42 #[.int .i64 0, .int .i64 0, .bool false, .string (⟨#[]⟩ : ByteArray), .int .i64 0, .int .i64 0] ?_; intro aA hg h0 hbox hb; obtain ⟨n_, a9⟩ := Cb.bx (ub aW.out aX.out HB.out) hg hb; have dZ := a9; obtain ⟨aK, bG⟩ := Cb.nb hg aI.out; obtain ⟨aM, bH⟩ := Cb.nb hg aT.out; have a7 := ak (hbox); replace HO_8 := ak (Kd.R_below (Kd.R_elderB (pR HO_8.out) aA (Nat.le_of_eq hg.symm)) hb); replace HO_28 := rb HO_28 hb; replace HO_390001 := vb HO_390001 aA hg hb; replace HO_390002 := vb HO_390002 aA hg hb; replace aI := bb aI hb; replace aT := bb aT hb; replace HB := n_; clear n_; clear hb hbox hg; have hE := bG.out; have hF := aK.out; have hG := bH.out; have hH := aM.out; obtain ⟨eL, eM, eN, eO, eP, eQ⟩ := Cb.c6 a7.out; obtain ⟨eR, eS, eT, eU, eV, eW⟩ := Cb.f6 a7.out) | ((with_reducible refine gate_builtin (b := .append) (xs := #[.tmp 41, .tmp 43]) rfl ?_); at_builtin; refine Kd.R_append k42 (w0 := w) w.heap.size rfl (.tmp 41) (.tmp 43) 22 42 (.agg #[(.int .i64 0), (.int .i64 0), (.bool false), (.string ⟨#[]⟩), (.int .i64 0), (.int .i64 0)]) 56 rfl Try.underlying22 info42 rfl (by decide) (by omega) u8 bF (⟨aY, aZ, a0, a3, a6, a8⟩ : S42) [.int .i64 aY, .int .i64 aZ, .bool a0, .string a3, .int .i64 a6, .int .i64 a8] (fun k_ => (w.heap.size ≤ k_) ∧ k_ ≠ aA) (fun _ => False) rfl (by first | (go_simp; done) | (go_simp; rfl)) ?aP (fun _ hk => hk.elim) ?aF ?aO ?aB ?aS ?aL ?_; (case aP => exact k42_mkM _ _ _ (⟨aY, aZ, a0, a3, a6, a8⟩ : S42)); (case aB => exact (uc aW.out aX.out a9.out HB.out)); (case aF => exact (fun k_ hk => ⟨(Nat.le_trans (below_size (uc aW.out aX.out a9.out HB.out)) hk), Kd.freshB (g := aA) (o := .cells #[.int .i64 aY, .int .i64 aZ, .bool a0, .string a3, .int .i64 a6, .int .i64 a8] 42 (0, 0)) (by exact pq (blk_put (blk_put (blk_put (blk_put (blk_put (blk_put (pk a7.out) 0 _ rfl) 1 _ rfl) 2 _ rfl) 3 _ rfl) 4 _ rfl) 5 _ rfl)) k_ hk⟩)); (case aO => exact (qr (rm (rf6 (Kd.R_mono HO_8.out (fun k_ hk => (⟨hk, hk.2⟩ : _ ∧ k_ ≠ aA))) fun _ hk => hk.2)))); (case aS => exact (below_size (uc aW.out aX.out a9.out HB.out))); (case aL => have := dW.out; omega); intro d0 h1 ho hb hg hat; rw [← dX.out] at ho; have n0_ := ak (Kd.R_over' (qr ((Kd.R_mono (rf6 (Kd.R_types HO_28.out a7.out (by decide)) fun _ hk => hk.2) (fun _ h_ => h_.1)))) (Kd.R_typed (qr ((Kd.R_mono (rf6 (Kd.R_mono HO_8.out (fun k_ hk => (⟨hk, hk.2⟩ : _ ∧ k_ ≠ aA))) fun _ hk => hk.2) (fun _ h_ => h_.1))))) (by decide) hg); have n1_ := ak (Kd.V_afterv (ok := (fun k_ => ((a4 k_ ∨ a5 k_) ∨ w.heap.size ≤ k_) ∧ some k_ ≠ (.slice (some bT) aU.length bY : Value).ownBlock ∧ k_ ≠ aJ ∧ k_ ≠ aN ∧ k_ ≠ aA)) (qv (vm (vf6 HO_390001.out fun _ hk => hk.2))) hg hat); have n2_ := ak (Kd.V_afterv (ok := (fun k_ => ((a4 k_ ∨ a5 k_) ∨ w.heap.size ≤ k_) ∧ some k_ ≠ (.slice (some bT) aU.length bY : Value).ownBlock ∧ k_ ≠ aJ ∧ k_ ≠ aN ∧ k_ ≠ aA)) (qv (vm (vf6 HO_390002.out fun _ hk => hk.2))) hg hat); have n3_ := ak (blk_grown (g := aJ) (o := .cells #[.int .i64 aE, .slice b8 aC.length b9, .slice b2 aD.length b3, .int .i64 aG, .int .u64 aH] 26 (0, 0)) (by exact pq (blk_far (blk_far (blk_far (blk_far (blk_far (blk_far (pk aI.out) aK.out _) aK.out _) aK.out _) aK.out _) aK.out _) aK.out _)) hg (Kd.R_ne HO_8.out aI.out (by decide))); have n4_ := ak (blk_grown (g := aN) (o := .cells #[.int .i64 0, .slice none 0 0, .slice none 0 0, .int .i64 0, .int .u64 0] 26 (0, 0)) (by exact pq (blk_far (blk_far (blk_far (blk_far (blk_far (blk_far (pk aT.out) aM.out _) aM.out _) aM.out _) aM.out _) aM.out _) aM.out _)) hg (Kd.R_ne HO_8.out aT.out (by decide))); have n5_ := ak (blk_grown (g := aA) (o := .cells #[.int .i64 aY, .int .i64 aZ, .bool a0, .string a3, .int .i64 a6, .int .i64 a8] 42 (0, 0)) (by exact pq (blk_put (blk_put (blk_put (blk_put (blk_put (blk_put (pk a7.out) 0 _ rfl) 1 _ rfl) 2 _ rfl) 3 _ rfl) 4 _ rfl) 5 _ rfl)) hg (Kd.R_away HO_8.out (fun _ hk => hk.2))); have n6_ := ak (hb); have n7_ := ak (ho); clear HO_28; clear HO_390001; clear HO_390002; clear aI; clear aT; clear a7; clear HB; clear HO_8; have HO_28 := n0_; have HO_390001 := n1_; have HO_390002 := n2_; have aI := n3_; have aT := n4_; have a7 := n5_; have HB := n6_; have bU := n7_; clear n0_ n1_ n2_ n3_ n4_ n5_ n6_ n7_; clear ho hb hg hat; obtain ⟨eX, eY, eZ, e0, e1⟩ := Cb.c5 aI.out; obtain ⟨e2, e3, e4, e5, e6⟩ := Cb.f5 aI.out) | ((with_reducible refine gate_callee (f := 51) rfl ?_); refine goesL_ (some 47) rfl rfl Try.func51 (by kernel_rfl) rfl #[.agg #[.int .i64 aE, .slice b8 aC.length b9, .slice b2 aD.length b3, .int .i64 aG, .int .u64 aH], .int .i64 (rd aU aQ)] rfl mp ?_; (with_reducible refine (session_without.calls aE _ _ aC (fun k_ => ((((a4 k_ ∨ a5 k_) ∨ w.heap.size ≤ k_) ∧ (some k_ ≠ (.slice (some bT) aU.length bY : Value).ownBlock ∧ (k_ ≠ aJ ∧ (k_ ≠ aN ∧ k_ ≠ aA)))) ∧ some k_ ≠ (d0 : Value).ownBlock)) _ _ aD aG aH (rd aU aQ) bK bL bQ bS bZ _ ?side1 ?side2 ?side3 hW.out).mono ?_); (case side1 => exact pc (Kd.V_reads' HO_390001.out).2.2); (case side2 => exact (Kd.V_reads' HO_390001.out).2.1); (case side3 => exact HO_390002.out); rintro e h2 ⟨gY, hX, rfl, cZ, dN, hb⟩; refine ⟨_, rfl, ?_⟩; have dB := ak (Kd.R_lower (Kd.R_newB (Kd.R_new' (Kd.R_newM (M := fun k_ => (w.heap.size ≤ k_)) (Kd.R_mono (ok' := fun k_ => True) cZ (fun _ hk_ => trivial)) (below_size (uc aW.out aX.out a9.out HB.out)) (fun k_ h_ => h_)) (Kd.R_lt (pR bU.out))) (pk a7.out)) (below_size (uc aW.out aX.out a9.out HB.out))); have dC := ak (Kd.V_lower (Kd.V_mono (ok' := fun k_ => ((a4 k_ ∨ a5 k_) ∨ w.heap.size ≤ k_) ∧ some k_ ≠ (gY : Value).ownBlock ∧ some k_ ≠ (.slice (some bT) aU.length bY : Value).ownBlock ∧ some k_ ≠ (d0 : Value).ownBlock ∧ k_ ≠ aJ ∧ k_ ≠ aN ∧ k_ ≠ aA) dN (fun k_ hk_ => ⟨Or.elim hk_.1 (fun hs_ => hs_.1.1) (fun hn_ => (.inr (Nat.le_trans (below_size (uc aW.out aX.out a9.out HB.out)) hn_))), hk_.2, Or.elim hk_.1 (fun hs_ => hs_.1.2.1) (fun hn_ => (Kd.fresh' (Kd.R_lt (pR HO_28.out)) k_ hn_)), Or.elim hk_.1 (fun hs_ => hs_.2) (fun hn_ => (Kd.fresh' (Kd.R_lt (pR bU.out)) k_ hn_)), Or.elim hk_.1 (fun hs_ => hs_.1.2.2.1) (fun hn_ => (Kd.freshB (pk aI.out) k_ hn_)), Or.elim hk_.1 (fun hs_ => hs_.1.2.2.2.1) (fun hn_ => (Kd.freshB (pk aT.out) k_ hn_)), Or.elim hk_.1 (fun hs_ => hs_.1.2.2.2.2) (fun hn_ => (Kd.freshB (pk a7.out) k_ hn_))⟩)) (below_size (uc aW.out aX.out a9.out HB.out))); replace HO_28 := rb HO_28 hb; replace HO_390001 := ve HO_390001 cZ hb; replace HO_390002 := ve HO_390002 cZ hb; replace bU := ak (Kd.R_elder' (pR bU.out) (Kd.R_base cZ) hb); replace aI := bb aI hb; replace aT := bb aT hb; replace a7 := bb a7 hb; replace HB := ak (below_step (uc aW.out aX.out a9.out HB.out) hb); (try clear hb); (try clear hb2); (try clear hk); (try clear hi); (try clear cZ); (try clear dN); obtain ⟨e7, e8, e9, fA, fB⟩ := Cb.c5 aI.out; obtain ⟨fC, fD, fE, fF, fG⟩ := Cb.f5 aI.out; obtain ⟨bV, bW, gZ⟩ := Kd.R_slice dB.out; subst gZ; obtain ⟨b4, b5, g0⟩ := Kd.V_slice dC.out; subst g0))
     go_roundg k1
     case measure => have := d6.out; omega
     case rel => exact ⟨(y406), (wrap64 (aQ + 1)), (bK), (bL), (bQ), (bS), (bZ), (.slice bV bL.length bW), (.slice b4 bQ.length b5), es, H', ⟨by have := d6.out; omega⟩, ⟨qr (Kd.R_mono (rf5 (Kd.R_types bU.out aI.out (by decide)) fun _ hk => hk.2) (fun _ hk => hk.1.1.1))⟩, ⟨qr (Kd.R_mono (rf5 (Kd.R_types HO_28.out aI.out (by decide)) fun _ hk => hk.2) (fun _ hk => hk.1))⟩, ⟨Kd.V_mono (Kd.R_V (qr (Kd.R_mono (rf5 (Kd.R_types (Kd.R_types (Kd.R_types (Kd.R_apart' dB.out (Kd.R_typed HO_28.out) (by decide)) aI.out (by decide)) aT.out (by decide)) aI.out (by decide)) fun _ hk => hk.2) (fun _ hk => And.intro (hk.1.1.1.1.1.1.1) (And.intro (hk.1.1.1.1.1.2) (And.intro (hk.1.1.1.2) (And.intro (hk.1.1.2) (hk.1.2)))))))) (fun k_ hk => by first | exact ⟨(.inr (hk.1)), hk.2⟩ | exact (.inr (hk)))⟩, ⟨qv (vm (vf5 dC.out fun _ hk => hk.2.2.2.2.1))⟩, ⟨by exact pq (blk_put (blk_put (blk_put (blk_put (blk_put (pk aI.out) 0 _ rfl) 1 _ rfl) 2 _ rfl) 3 _ rfl) 4 _ rfl)⟩, ⟨by exact pq (blk_far (blk_far (blk_far (blk_far (blk_far (pk aT.out) aV.out _) aV.out _) aV.out _) aV.out _) aV.out _)⟩, ⟨uc aW.out aX.out a9.out HB.out⟩⟩
    ·replace d9 := Bool.eq_false_iff.mpr d9
     subst d9
     have H1 : (session_Tick.l0 k1 bF aU (aU.length : Int) (wrap64 (aQ + 1)) aE aC aD aG aH) = some (r1, r2, r3, r4, r5, r6) := by rw [if_neg (show ¬ (false = true) by decide)] at H; exact H
     clear H
     have H := H1
     clear H1
     have H' := ak H
     clear H
     have b0 : 0 ≤ (aQ : Int) := od
     have b1 : aQ < (aU.length : Int) := od
     obtain ⟨bT, dP, cY⟩ := Kd.at_int (Kd.R_reads' HO_28.out).2.2 aQ b0 b1
     cases dP
     replace b0 := eq_true b0
     replace b1 := eq_true b1
     have hI := bC.out
     have hJ := aV.out
     obtain ⟨fH, fI, fJ, fK, fL⟩ := Cb.c5 aI.out
     obtain ⟨fM, fN, fO, fP, fQ⟩ := Cb.f5 aI.out
     obtain ⟨d1, d2, g1⟩ := Kd.V_slice HO_390001.out
     subst g1
     obtain ⟨d3, d4, g2⟩ := Kd.V_slice HO_390002.out
     subst g2
     go_wp2_with (first | ((with_reducible refine gate_callee (f := 14) rfl ?_); refine goesL_ (some 37) rfl rfl Try.func14 (by kernel_rfl) rfl #[.agg #[.int .i64 aE, .slice d1 aC.length d2, .slice d3 aD.length d4, .int .i64 aG, .int .u64 aH], .int .i64 (rd aU aQ)] rfl mp ?_; (with_reducible refine (session_Find.calls aE _ _ aC _ _ aD aG aH (rd aU aQ) aY aZ a0 a3 a6 a8 false _ ?side1 ?side2 ?side3 ?side4 hB.out).mono ?_); (case side1 => exact pc (Kd.V_reads' HO_390001.out).2.2); (case side2 => exact (Kd.V_reads' HO_390001.out).2.1); (case side3 => exact pc (Kd.V_reads' HO_390002.out).2.2); (case side4 => exact (Kd.V_reads' HO_390002.out).2.1); rintro e h3 ⟨rfl, hb⟩; refine ⟨_, rfl, ?_⟩; replace HO_8 := rb HO_8 hb; replace HO_28 := rb HO_28 hb; replace HO_390001 := vw HO_390001 hb; replace HO_390002 := vw HO_390002 hb; replace aI := bb aI hb; replace aT := bb aT hb; replace HB := ak (below_step (ub aW.out aX.out HB.out) hb); (try clear hb); (try clear hb2); (try clear hk); (try clear hi)) | ((with_reducible refine gate_dst (N := 11) rfl ?_); refine bv 11 42 #[.int .i64 0, .int .i64 0, .bool false, .string (⟨#[]⟩ : ByteArray), .int .i64 0, .int .i64 0] ?_; intro aA hg h4 hbox hb; obtain ⟨n_, a9⟩ := Cb.bx (ub aW.out aX.out HB.out) hg hb; have dZ := a9; obtain ⟨aK, bG⟩ := Cb.nb hg aI.out; obtain ⟨aM, bH⟩ := Cb.nb hg aT.out; have a7 := ak (hbox); replace HO_8 := ak (Kd.R_below (Kd.R_elderB (pR HO_8.out) aA (Nat.le_of_eq hg.symm)) hb); replace HO_28 := rb HO_28 hb; replace HO_390001 := vb HO_390001 aA hg hb; replace HO_390002 := vb HO_390002 aA hg hb; replace aI := bb aI hb; replace aT := bb aT hb; replace HB := n_; clear n_; clear hb hbox hg; have hL := bG.out; have hM := aK.out; have hN := bH.out; have hO := aM.out; obtain ⟨fR, fS, fT, fU, fV, fW⟩ := Cb.c6 a7.out; obtain ⟨fX, fY, fZ, f3, f4, f7⟩ := Cb.f6 a7.out))
     go_roundg k1
     case measure => have := d6.out; omega
     case rel => exact ⟨(bF), (wrap64 (aQ + 1)), (aE), (aC), (aD), (aG), (aH), (.slice d1 aC.length d2), (.slice d3 aD.length d4), es, H', ⟨by have := d6.out; omega⟩, ⟨qr (Kd.R_mono (rf6 (Kd.R_mono HO_8.out (fun k_ hk => (⟨hk, hk.2⟩ : _ ∧ k_ ≠ aA))) fun _ hk => hk.2) (fun _ hk => hk.1.1))⟩, ⟨qr (Kd.R_mono (rf6 (Kd.R_types HO_28.out a7.out (by decide)) fun _ hk => hk.2) (fun _ hk => hk.1))⟩, ⟨qv (vm (vf6 HO_390001.out fun _ hk => hk.2))⟩, ⟨qv (vm (vf6 HO_390002.out fun _ hk => hk.2))⟩, ⟨by exact pq (blk_far (blk_far (blk_far (blk_far (blk_far (blk_far (pk aI.out) aK.out _) aK.out _) aK.out _) aK.out _) aK.out _) aK.out _)⟩, ⟨by exact pq (blk_far (blk_far (blk_far (blk_far (blk_far (blk_far (pk aT.out) aM.out _) aM.out _) aM.out _) aM.out _) aM.out _) aM.out _)⟩, ⟨uc aW.out aX.out a9.out HB.out⟩⟩
   ·rw [if_neg dQ] at H
    have dT : decide (aQ < (aU.length : Int)) = false := decide_eq_false dQ
    clear dQ
    simp only [Option.some.injEq, Prod.mk.injEq] at H
    obtain ⟨rfl, rfl, rfl, rfl, rfl, rfl⟩ := H
    have hP := bC.out
    have hQ := aV.out
    obtain ⟨f8, f9, gA, gB, gC⟩ := Cb.c5 aI.out
    obtain ⟨gD, gE, gF, gG, gH⟩ := Cb.f5 aI.out
    obtain ⟨gI, gJ, gK, gL, gM⟩ := Cb.c5 aT.out
    obtain ⟨gN, gO, gP, gQ, gR⟩ := Cb.f5 aT.out
    obtain ⟨b6, b7, g3⟩ := Kd.V_slice HO_390001.out
    subst g3
    obtain ⟨cA, cB, g4⟩ := Kd.V_slice HO_390002.out
    subst g4
    go_wp2
    refine bodyPost_ret (results_ct rfl _ _ aN 26 #[.int .i64 aE, .slice b6 aC.length b7, .slice cA aD.length cB, .int .i64 aG, .int .u64 aH] (0, 0) _ rfl (by exact pq (blk_put (blk_put (blk_put (blk_put (blk_put (pk aT.out) 0 _ rfl) 1 _ rfl) 2 _ rfl) 3 _ rfl) 4 _ rfl)) Try.underlying26 rfl (by kernel_rfl)) rfl ?_
    exact ⟨_, _, _, by first | rfl | (simp [errW_none, errW_some] <;> rfl) | (simp only [← hji3]; first | rfl | (simp [errW_none, errW_some] <;> rfl)) | (simp [*, errW_none, errW_some] <;> rfl), qv (Kd.V_mono (vf5 HO_390001.out fun _ hk => hk.2.2.2.2) (fun _ hk => ⟨hk.1, hk.2.1⟩)), qv (Kd.V_mono (vf5 HO_390002.out fun _ hk => hk.2.2.2.2) (fun _ hk => ⟨hk.1, hk.2.1⟩)), qr (Kd.R_mono (rf5 (Kd.R_types HO_8.out aT.out (by decide)) fun _ hk => hk.2) (fun _ hk => hk.1)), ub aW.out aX.out HB.out⟩

/-! ### stanchionref15_Less: function 53 -/
set_option maxHeartbeats 8000000 in
set_option maxRecDepth 100000 in
theorem stanchionref15_Less.calls (aE : Int) (aK : Int) (aG : Int) (aM : Int) (r : Bool) (w : World) (h : stanchionref15_Less.f aE aK aG aM = some r) :
  Calls Try.prog 53 #[.agg #[.int .u64 aE, .int .i64 aK], .agg #[.int .u64 aG, .int .i64 aM]] w fun e w' => e = .returned (.bool r) ∧ Below w.heap.size w w' := by
 have bH := Try.underlying85
 have HB := ak (Below.refl w.heap.size w)
 have H : (if aE = aG then (some (decide (aK < aM))) else (some (decide (aE < aG)))) = some r := h
 clear h
 by_cases c3 : aE = aG
 ·rw [if_pos c3] at H
  have a5 : (aE == aG) = true := beq_iff_eq.mpr c3
  have a6 : (aE != aG) = false := bne_eq_false_iff_eq.mpr c3
  clear c3
  obtain rfl := Option.some.inj H
  go_enter Try.func53, Try.ntmps53
  go_wp2_with (first | ((with_reducible refine gate_dst (N := 2) rfl ?_); refine bv 2 85 #[.int .u64 aE, .int .i64 aK] ?_; intro aN hg w4 hbox hb; obtain ⟨n_, aH⟩ := Cb.bx (pB HB.out) hg hb; have aQ := aH; have aA := ak (hbox); replace HB := n_; clear n_; clear hb hbox hg) | ((with_reducible refine gate_dst (N := 3) rfl ?_); refine bv 3 85 #[.int .u64 aG, .int .i64 aM] ?_; intro aT hg w5 hbox hb; obtain ⟨n_, aI⟩ := Cb.bx (ua aH.out HB.out) hg hb; have aU := aI; obtain ⟨aC, aD⟩ := Cb.nb hg aA.out; have aJ := ak (hbox); replace aA := bb aA hb; replace HB := n_; clear n_; clear hb hbox hg; have bI := aC.out; have bJ := aD.out; obtain ⟨a7, a8⟩ := Cb.c2 aA.out; obtain ⟨a9, bA⟩ := Cb.f2 aA.out; obtain ⟨bB, bC⟩ := Cb.c2 aJ.out; obtain ⟨bD, bE⟩ := Cb.f2 aJ.out))
  go_ret
  exact ⟨by first | rfl | (simp [errW_none, errW_some] <;> rfl) | (simp [*, errW_none, errW_some] <;> rfl), ub aH.out aI.out HB.out⟩
 ·rw [if_neg c3] at H
  have a5 : (aE == aG) = false := beq_eq_false_iff_ne.mpr c3
  have a6 : (aE != aG) = true := bne_iff_ne.mpr c3
  obtain rfl := Option.some.inj H
  go_enter Try.func53, Try.ntmps53
  go_wp2_with (first | ((with_reducible refine gate_dst (N := 2) rfl ?_); refine bv 2 85 #[.int .u64 aE, .int .i64 aK] ?_; intro aN hg w9 hbox hb; obtain ⟨n_, aH⟩ := Cb.bx (pB HB.out) hg hb; have aQ := aH; have aA := ak (hbox); replace HB := n_; clear n_; clear hb hbox hg) | ((with_reducible refine gate_dst (N := 3) rfl ?_); refine bv 3 85 #[.int .u64 aG, .int .i64 aM] ?_; intro aT hg bK hbox hb; obtain ⟨n_, aI⟩ := Cb.bx (ua aH.out HB.out) hg hb; have aU := aI; obtain ⟨aC, aD⟩ := Cb.nb hg aA.out; have aJ := ak (hbox); replace aA := bb aA hb; replace HB := n_; clear n_; clear hb hbox hg; have bF := aC.out; have bG := aD.out; obtain ⟨aV, aW⟩ := Cb.c2 aA.out; obtain ⟨aX, aY⟩ := Cb.f2 aA.out; obtain ⟨aZ, a0⟩ := Cb.c2 aJ.out; obtain ⟨a3, a4⟩ := Cb.f2 aJ.out))
  go_ret
  exact ⟨by first | rfl | (simp [errW_none, errW_some] <;> rfl) | (simp [*, errW_none, errW_some] <;> rfl), ub aH.out aI.out HB.out⟩

/-! ### stanchionref15_swap: function 70 -/
set_option maxHeartbeats 8000000 in
set_option maxRecDepth 100000 in
theorem stanchionref15_swap.calls (A0 : Option Addr) (c0 : Nat) (l0 : List (S85)) (a1 : Int) (a2 : Int) (r : List (S85)) (w : World) (cB : Kd.C k85 w A0 l0.length l0) (cC : l0.length ≤ c0) (h : stanchionref15_swap.f l0 a1 a2 = some r) :
  Calls Try.prog 70 #[.slice A0 l0.length c0, .int .i64 a1, .int .i64 a2] w fun e w' => ∃ v0_ : Value, e = .returned (v0_) ∧ Kd.R k85 85 w' w.heap.size (fun _ => True) v0_ r ∧ Below w.heap.size w w' := by
 have cN := Try.underlying85
 have bY := ak cB
 have cX := ak cC
 clear cB cC
 have HB := ak (Below.refl w.heap.size w)
 have H : ((some (([] : List (S85)) : List (S85))).bind fun y420 => (if y420.length + l0.length < 8796093022208 then ((some (y420 ++ l0 : List (S85))).bind fun y423 => (if 0 ≤ a2 then (if a2 < (l0.length : Int) then (if 0 ≤ a1 then (if a1 < (y423.length : Int) then (if a1 < (l0.length : Int) then (if a2 < (y423.length : Int) then (some ((y423.set (a1 : Int).toNat (⟨(rd_T85 l0 a2).f0, (rd_T85 l0 a2).f1⟩ : S85)).set (a2 : Int).toNat (⟨(rd_T85 l0 a1).f0, (rd_T85 l0 a1).f1⟩ : S85))) else (none)) else (none)) else (none)) else (none)) else (none)) else (none))) else (none))) = some r := h
 clear h
 obtain ⟨y420, hy420⟩ : ∃ y_ : List (S85), y_ = (([] : List (S85))) := ⟨_, rfl⟩
 replace H : (if y420.length + l0.length < 8796093022208 then ((some (y420 ++ l0 : List (S85))).bind fun y423 => (if 0 ≤ a2 then (if a2 < (l0.length : Int) then (if 0 ≤ a1 then (if a1 < (y423.length : Int) then (if a1 < (l0.length : Int) then (if a2 < (y423.length : Int) then (some ((y423.set (a1 : Int).toNat (⟨(rd_T85 l0 a2).f0, (rd_T85 l0 a2).f1⟩ : S85)).set (a2 : Int).toNat (⟨(rd_T85 l0 a1).f0, (rd_T85 l0 a1).f1⟩ : S85))) else (none)) else (none)) else (none)) else (none)) else (none)) else (none))) else (none)) = some r := by first | (rw [hy420]; with_reducible exact H) | (have aI := (Option.bind_some _ _).symm.trans H; rw [hy420]; with_reducible exact aI) | (have aI := (Option.bind_some _ _).symm.trans H; with_reducible exact aI) | with_reducible exact H | (rw [hy420]; exact H) | exact H
 have aW := ak hy420
 clear hy420
 have c4 : y420.length + l0.length < 8796093022208 := Decidable.byContradiction fun q => by rw [if_neg q] at H; exact absurd H (by simp)
 rw [if_pos c4] at H
 have bZ := ak c4
 clear c4
 obtain ⟨y423, hy423⟩ : ∃ y_ : List (S85), y_ = (y420 ++ l0) := ⟨_, rfl⟩
 replace H : (if 0 ≤ a2 then (if a2 < (l0.length : Int) then (if 0 ≤ a1 then (if a1 < (y423.length : Int) then (if a1 < (l0.length : Int) then (if a2 < (y423.length : Int) then (some ((y423.set (a1 : Int).toNat (⟨(rd_T85 l0 a2).f0, (rd_T85 l0 a2).f1⟩ : S85)).set (a2 : Int).toNat (⟨(rd_T85 l0 a1).f0, (rd_T85 l0 a1).f1⟩ : S85))) else (none)) else (none)) else (none)) else (none)) else (none)) else (none)) = some r := by first | (rw [hy423]; with_reducible exact H) | (have aI := (Option.bind_some _ _).symm.trans H; rw [hy423]; with_reducible exact aI) | (have aI := (Option.bind_some _ _).symm.trans H; with_reducible exact aI) | with_reducible exact H | (rw [hy423]; exact H) | exact H
 have bJ := ak hy423
 clear hy423
 have c5 : 0 ≤ a2 := Decidable.byContradiction fun q => by rw [if_neg q] at H; exact absurd H (by simp)
 rw [if_pos c5] at H
 have cO : decide (0 ≤ a2) = true := decide_eq_true c5
 clear c5
 have c6 : a2 < (l0.length : Int) := Decidable.byContradiction fun q => by rw [if_neg q] at H; exact absurd H (by simp)
 rw [if_pos c6] at H
 have cP : decide (a2 < (l0.length : Int)) = true := decide_eq_true c6
 clear c6
 have c7 : 0 ≤ a1 := Decidable.byContradiction fun q => by rw [if_neg q] at H; exact absurd H (by simp)
 rw [if_pos c7] at H
 have cQ : decide (0 ≤ a1) = true := decide_eq_true c7
 clear c7
 have c8 : a1 < (y423.length : Int) := Decidable.byContradiction fun q => by rw [if_neg q] at H; exact absurd H (by simp)
 rw [if_pos c8] at H
 have cR : decide (a1 < (y423.length : Int)) = true := decide_eq_true c8
 clear c8
 obtain ⟨y427, hy427⟩ : ∃ y_ : List (S85), y_ = (y423.set (a1 : Int).toNat (⟨(rd_T85 l0 a2).f0, (rd_T85 l0 a2).f1⟩ : S85)) := ⟨_, rfl⟩
 replace H : (if a1 < (l0.length : Int) then (if a2 < (y423.length : Int) then (some (y427.set (a2 : Int).toNat (⟨(rd_T85 l0 a1).f0, (rd_T85 l0 a1).f1⟩ : S85))) else (none)) else (none)) = some r := by first | (rw [hy427]; with_reducible exact H) | (have aI := (Option.bind_some _ _).symm.trans H; rw [hy427]; with_reducible exact aI) | (have aI := (Option.bind_some _ _).symm.trans H; with_reducible exact aI) | with_reducible exact H | (rw [hy427]; exact H) | exact H
 have bK := ak hy427
 clear hy427
 have bU : a1 < (l0.length : Int) := Decidable.byContradiction fun q => by rw [if_neg q] at H; exact absurd H (by simp)
 rw [if_pos bU] at H
 have cD : decide (a1 < (l0.length : Int)) = true := decide_eq_true bU
 clear bU
 have bV : a2 < (y423.length : Int) := Decidable.byContradiction fun q => by rw [if_neg q] at H; exact absurd H (by simp)
 rw [if_pos bV] at H
 have cE : decide (a2 < (y423.length : Int)) = true := decide_eq_true bV
 clear bV
 obtain ⟨y429, hy429⟩ : ∃ y_ : List (S85), y_ = (y427.set (a2 : Int).toNat (⟨(rd_T85 l0 a1).f0, (rd_T85 l0 a1).f1⟩ : S85)) := ⟨_, rfl⟩
 replace H : (some y429) = some r := by first | (rw [hy429]; with_reducible exact H) | (have aI := (Option.bind_some _ _).symm.trans H; rw [hy429]; with_reducible exact aI) | (have aI := (Option.bind_some _ _).symm.trans H; with_reducible exact aI) | with_reducible exact H | (rw [hy429]; exact H) | exact H
 have bL := ak hy429
 clear hy429
 obtain rfl := Option.some.inj H
 go_enter Try.func70, Try.ntmps70
 go_wp2_with (first | ((with_reducible refine gate_dst (N := 8) rfl ?_); refine Kd.R_lit k85 _ 85 ?hg (N := 8) ?hd (xs := ([] : List (S85))) (inner := []) (ok := fun _ => True) (okp := fun _ => True) ?hr ?hp (fun _ hk => hk) trivial (Below.refl _ _) (Nat.le_refl _) (by simp) ?_; (case hd => rfl); (case hg => rfl); (case hr => first | (go_simp; done) | (go_simp; rfl)); (case hp => exact (Reps.none _ _)); intro b0 cY aM hb hg_ hnew_; clear hg_ hnew_; (first | rw [← aW.out] at aM | (simp only [Int.reduceToNat] at aM; rw [← aW.out] at aM)); have aX := ak (Kd.R_lower aM (below_size (pB HB.out))); replace HB := ak (below_step (pB HB.out) hb); clear hb aM) | ((with_reducible refine gate_builtin (b := .append) (xs := #[.tmp 8, .tmp 9]) rfl ?_); at_builtin; refine Kd.R_append_rows k85 (w0 := w) w.heap.size rfl (.tmp 8) (.tmp 9) 23 85 (.agg #[(.int .u64 0), (.int .i64 0)]) 16 rfl Try.underlying23 info85 rfl (by decide) (by omega) b0 y420 l0 _ _ _ (fun _ => True) (fun _ => False) rfl rfl ?aO ?aR (fun _ _ h => h) (fun _ h => h.elim) ?aF ?aB ?aS ?aL ?_; (case aR => exact pc (Kd.C_below bY.out HB.out)); (case aB => exact (pB HB.out)); (case aF => exact (fun _ _ => trivial)); (case aO => exact (pR aX.out)); (case aS => exact (below_size (pB HB.out))); (case aL => have := bZ.out; omega); intro cS a0 ho hb hg hat; rw [← bJ.out] at ho; have n0_ := ak (hb); have n1_ := ak (ho); clear HB; clear aX; have HB := n0_; have aA := n1_; clear n0_ n1_; clear ho hb hg hat; have a3 : 0 ≤ (a2 : Int) := od; have a4 : a2 < (l0.length : Int) := od; obtain ⟨bM, b1, aC, aD⟩ := at_T85 bY.out a2 a3 a4; cases b1; replace aC := (HB.out.cell (World.block_lt_of_cell? w _ aC)).trans aC; replace aD := (HB.out.cell (World.block_lt_of_cell? w _ aD)).trans aD; replace a3 := eq_true a3; replace a4 := eq_true a4; have p9 : 0 ≤ (a1 : Int) := od; have q9 : (a1 : Int) < ((y423.length : Int) : Int) := od; obtain ⟨aH, bW, cF, cG, cT, cZ, cH⟩ := Kd.R_form aA.out (by omega); (first | cases cF | (injection cF with ea_ en_ ec_; (first | subst ea_ | (injection ea_ with ea_; subst ea_)); subst ec_; clear en_)); have bX := ak cG; have c1 := ak cH; clear cG cT cH; obtain ⟨dA, b2, cI, a5, a6⟩ := Kd.R_elem aA.out z85 (a1 : Int) p9 q9; obtain rfl := k85_openM cI; have cJ : a0.cell? ⟨aH, (a1 : Int).toNat * 2, none⟩ = some (.int .u64 ((rd_T85 y423 a1).f0)) := a5 0 _ rfl; have cK : a0.cell? ⟨aH, (a1 : Int).toNat * 2 + 1, none⟩ = some (.int .i64 ((rd_T85 y423 a1).f1)) := a5 1 _ rfl; have cL : a0.frozen? ⟨aH, (a1 : Int).toNat * 2, none⟩ = false := a6 0; have cM : a0.frozen? ⟨aH, (a1 : Int).toNat * 2 + 1, none⟩ = false := a6 1; clear b2 a5 a6 cI; replace p9 := eq_true p9; replace q9 := eq_true q9; have bN := ak (show Kd.R k85 85 a0 w.heap.size (fun _ => True) (.slice (some ⟨aH, 0, none⟩) y423.length bW) y423 from (pR aA.out)); obtain ⟨cU, aY, bO, aJ, aN⟩ := Kd.R_elem bN.out z85 (a1 : Int) (od) (by have h_ : (a1 : Int) < ((y423.length : Int) : Int) := od; first | exact h_ | (have e_ := (Kd.R_reads' aA.out).1; omega) | simpa using h_); obtain rfl := k85_openM bO; have a7 := Kd.R_seg bN.out (a1 : Int) (od) (by have h_ : (a1 : Int) < ((y423.length : Int) : Int) := od; first | exact h_ | (have e_ := (Kd.R_reads' aA.out).1; omega) | simpa using h_) (seg := [.int .u64 ((rd_T85 l0 a2).f0), .int .i64 ((rd_T85 l0 a2).f1)]) (j := 0) aY aJ (show 2 ≤ 2 from by decide) (x' := (⟨(rd_T85 l0 a2).f0, (rd_T85 l0 a2).f1⟩ : S85)) (k85_mkM _ _ _ (⟨(rd_T85 l0 a2).f0, (rd_T85 l0 a2).f1⟩ : S85) ) (fun _ hk => hk); have a8 := aJ 0 _ rfl; (try simp only [show (k85).sz = 2 from rfl, Nat.mul_one, Nat.add_zero] at a8); have a9 := aN 0; (try simp only [show (k85).sz = 2 from rfl, Nat.mul_one, Nat.add_zero] at a9); have bA := aJ 1 _ rfl; (try simp only [show (k85).sz = 2 from rfl, Nat.mul_one, Nat.add_zero] at bA); have bB := aN 1; (try simp only [show (k85).sz = 2 from rfl, Nat.mul_one, Nat.add_zero] at bB); clear aY aJ aN bO) | ((with_reducible refine gate_store (t := 85) (p := 17) rfl ?_); refine store_event (t := 85) (p := 17) (v := ?vo_w17) (w1 := ((a0.setCell ⟨aH, (a1 : Int).toNat * 2, none⟩ (.int .u64 ((rd_T85 l0 a2).f0))).setCell ⟨aH, (a1 : Int).toNat * 2 + 1, none⟩ (.int .i64 ((rd_T85 l0 a2).f1)))) ?hg ?ho ?hn ?hr ?_; (case ho => rfl); (case hg => rfl); (case hn => rfl); (case hr => first | (go_simp; done) | (go_simp; rfl)); intro aV hw; have hg : a0.grownBy aV (some aH) := (by rw [hw]; exact a7.2); have hp_ : Kd.R k85 85 aV w.heap.size (fun _ => True) (.slice (some ⟨aH, 0, none⟩) y423.length bW) y427 := (by rw [hw, bK.out]; exact a7.1); clear a7; replace aA := ak (hp_); replace HB := ak ((by rw [hw]; exact below_set (below_set (HB.out) bX.out) bX.out : Below w.heap.size w aV)); clear hg hw hp_; have bC : 0 ≤ (a1 : Int) := od; have bD : a1 < (l0.length : Int) := od; obtain ⟨bP, b3, aE, aG⟩ := at_T85 bY.out a1 bC bD; obtain rfl : bM = bP := (by injection b3); replace aE := (HB.out.cell (World.block_lt_of_cell? w _ aE)).trans aE; replace aG := (HB.out.cell (World.block_lt_of_cell? w _ aG)).trans aG; replace bC := eq_true bC; replace bD := eq_true bD; have b4 : 0 ≤ (a2 : Int) := od; have b5 : (a2 : Int) < ((y423.length : Int) : Int) := od; obtain ⟨cV, bQ, bR, aQ, aT⟩ := Kd.R_elem aA.out z85 (a2 : Int) b4 b5; obtain rfl := k85_openM bR; have b6 : aV.cell? ⟨aH, (a2 : Int).toNat * 2, none⟩ = some (.int .u64 ((rd_T85 y427 a2).f0)) := aQ 0 _ rfl; have b7 : aV.cell? ⟨aH, (a2 : Int).toNat * 2 + 1, none⟩ = some (.int .i64 ((rd_T85 y427 a2).f1)) := aQ 1 _ rfl; have b8 : aV.frozen? ⟨aH, (a2 : Int).toNat * 2, none⟩ = false := aT 0; have b9 : aV.frozen? ⟨aH, (a2 : Int).toNat * 2 + 1, none⟩ = false := aT 1; clear bQ aQ aT bR; replace b4 := eq_true b4; replace b5 := eq_true b5; have bS := ak (show Kd.R k85 85 aV w.heap.size (fun _ => True) (.slice (some ⟨aH, 0, none⟩) y423.length bW) y427 from (by exact aA.out)); obtain ⟨cW, aZ, bT, aK, aU⟩ := Kd.R_elem bS.out z85 (a2 : Int) (od) (by have h_ : (a2 : Int) < ((y423.length : Int) : Int) := od; first | exact h_ | (have e_ := (Kd.R_reads' aA.out).1; omega) | simpa using h_); obtain rfl := k85_openM bT; have bE := Kd.R_seg bS.out (a2 : Int) (od) (by have h_ : (a2 : Int) < ((y423.length : Int) : Int) := od; first | exact h_ | (have e_ := (Kd.R_reads' aA.out).1; omega) | simpa using h_) (seg := [.int .u64 ((rd_T85 l0 a1).f0), .int .i64 ((rd_T85 l0 a1).f1)]) (j := 0) aZ aK (show 2 ≤ 2 from by decide) (x' := (⟨(rd_T85 l0 a1).f0, (rd_T85 l0 a1).f1⟩ : S85)) (k85_mkM _ _ _ (⟨(rd_T85 l0 a1).f0, (rd_T85 l0 a1).f1⟩ : S85) ) (fun _ hk => hk); have bF := aK 0 _ rfl; (try simp only [show (k85).sz = 2 from rfl, Nat.mul_one, Nat.add_zero] at bF); have bG := aU 0; (try simp only [show (k85).sz = 2 from rfl, Nat.mul_one, Nat.add_zero] at bG); have bH := aK 1 _ rfl; (try simp only [show (k85).sz = 2 from rfl, Nat.mul_one, Nat.add_zero] at bH); have bI := aU 1; (try simp only [show (k85).sz = 2 from rfl, Nat.mul_one, Nat.add_zero] at bI); clear aZ aK aU bT) | ((with_reducible refine gate_store (t := 85) (p := 24) rfl ?_); refine store_event (t := 85) (p := 24) (v := ?vo_w19) (w1 := ((aV.setCell ⟨aH, (a2 : Int).toNat * 2, none⟩ (.int .u64 ((rd_T85 l0 a1).f0))).setCell ⟨aH, (a2 : Int).toNat * 2 + 1, none⟩ (.int .i64 ((rd_T85 l0 a1).f1)))) ?hg ?ho ?hn ?hr ?_; (case ho => rfl); (case hg => rfl); (case hn => rfl); (case hr => first | (go_simp; done) | (go_simp; rfl)); intro cA hw; have hg : aV.grownBy cA (some aH) := (by rw [hw]; exact bE.2); have hp_ : Kd.R k85 85 cA w.heap.size (fun _ => True) (.slice (some ⟨aH, 0, none⟩) y423.length bW) y429 := (by rw [hw, bL.out]; exact bE.1); clear bE; replace aA := ak (hp_); replace HB := ak ((by rw [hw]; exact below_set (below_set (HB.out) bX.out) bX.out : Below w.heap.size w cA)); clear hg hw hp_))
 go_ret
 exact ⟨_, by first | rfl | (simp [errW_none, errW_some] <;> rfl) | (simp [*, errW_none, errW_some] <;> rfl), pR aA.out, pB HB.out⟩

end Go.Proofs.Ytnpmjboofmdflaa.PA
