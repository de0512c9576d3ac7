-- Made by a program of this workplace out of the translation (wip/tools in the repo). Not trusted: Lean checks it.
import Derived.Test.YtnpmjboofmdflaaPAx0
import Derived.Test.YtnpmjboofmdflaaCb
import Derived.Test.YtnpmjboofmdflaaSq
import Derived.Test.YtnpmjboofmdflaaTq
import Derived.Test.YtnpmjboofmdflaaPAx4
import Derived.Test.YtnpmjboofmdflaaPAx16
namespace Go.Proofs.Ytnpmjboofmdflaa.PA
open Go.RowKit Go.Proofs.YtnpmjboofmdflaaW.PrintWords Go.Proofs.YtnpmjboofmdflaaW.PrintLast Go.Proofs.YtnpmjboofmdflaaW.PrintMore Go.Proofs.Ytnpmjboofmdflaa
attribute [local go_sem] max2_int min2_int max_two min_two max_three min_three max_four min_four   -- for this text's walks alone
set_option linter.unusedVariables false
set_option linter.unusedSimpArgs false

/-! ### stanchionref15_Due: function 58 -/
set_option maxHeartbeats 8000000 in
set_option maxRecDepth 100000 in
theorem stanchionref15_Due.calls (k : Nat) (aT : Nat → Prop) (A0 : Option Addr) (c0 : Nat) (l0 : List (S85)) (a1 : Int) (r1 : List (S85)) (r2 : List Int) (w : World) (bH : Kd.V k85 85 w w.heap.size (fun k_ => aT k_) (.slice A0 l0.length c0) l0) (h : stanchionref15_Due.f k l0 a1 = some (r1, r2)) :
  Calls Try.prog 58 #[.slice A0 l0.length c0, .int .u64 a1] w fun e w' => ∃ v0_ a4 : Value, e = .returned (.tuple #[v0_, a4]) ∧ Kd.V k85 85 w' w.heap.size (fun k_ => (aT k_ ∨ w.heap.size ≤ k_) ∧ some k_ ≠ (a4 : Value).ownBlock) v0_ r1 ∧ Kd.R (Kd.int .i64) 3 w' w.heap.size (fun k_ => (w.heap.size ≤ k_)) a4 r2 ∧ Below w.heap.size w w' := by
 have bI := Try.underlying85
 have bJ := ak (show Kd.V k85 85 w w.heap.size (fun k_ => (aT k_ ∨ w.heap.size ≤ k_)) (.slice A0 l0.length c0) l0 from Kd.V_mono bH (fun k_ hk => .inl hk))
 have HB := ak (Below.refl w.heap.size w)
 have H : (stanchionref15_Due.l0 k l0 a1 ([] : List Int)) = some (r1, r2) := h
 clear h
 have H' := ak H
 clear H
 go_enter Try.func58, Try.ntmps58
 go_wp2
 go_loopg [0, 6] k (fun kq v0 v6 w' => ∃ (aA : List (S85)) (aJ : List Int), Aside0 (stanchionref15_Due.l0 kq aA a1 aJ = some (r1, r2)) ∧ Aside0 (kq ≤ k) ∧ Aside0 (Kd.V k85 85 w' w.heap.size (fun k_ => (aT k_ ∨ w.heap.size ≤ k_) ∧ some k_ ≠ (v6 : Value).ownBlock) v0 aA) ∧ Aside0 (Kd.R (Kd.int .i64) 3 w' w.heap.size (fun k_ => (w.heap.size ≤ k_)) v6 aJ) ∧ Aside0 (Below w.heap.size w w'))
 case atStart => exact ⟨(l0), (([] : List Int)), H', ⟨Nat.le_refl _⟩, ⟨pV (Kd.V_mono bJ.out (fun _ hk => ⟨hk, (by simp [Value.ownBlock])⟩))⟩, ⟨by first | exact Kd.R_nil _ _ _ _ _ | exact Kd.N_nil _ _ _ _ _ | exact Kd.V_nil _ _ _ _ _ | exact Kd.Q_nil _ _ _ _ _ | exact Kd.S_nil _ _ _ _ _⟩, ⟨pB HB.out⟩⟩
 case round =>
  clear H'
  try clear p2
  obtain ⟨aA, aJ, HA, bD, HO_0, HO_6, HB⟩ := hrel
  cases gk with
  | zero => exact absurd HA.out (by simp [stanchionref15_Due.l0])
  | succ k1 =>
   have H := HA.out
   clear HA
   simp only [stanchionref15_Due.l0] at H
   by_cases c3 : (aA.length : Int) > 0
   ·rw [if_pos c3] at H
    have a5 : decide (0 < (aA.length : Int)) = true := decide_eq_true c3
    have a6 : decide (0 < aA.length) = true := decide_eq_true (by omega)
    clear c3
    have c4 : 0 < (aA.length : Int) := Decidable.byContradiction fun q => by rw [if_neg q] at H; exact absurd H (by simp)
    rw [if_pos c4] at H
    have bK : decide (0 < (aA.length : Int)) = true := decide_eq_true c4
    have bL : decide (0 < aA.length) = true := decide_eq_true (by omega)
    clear c4
    by_cases c5 : ((rd_T85 aA 0).f0) ≤ a1
    ·rw [if_pos c5] at H
     have a7 : decide (((rd_T85 aA 0).f0) ≤ a1) = true := decide_eq_true c5
     clear c5
     replace H := Option.bind_eq_some_iff.mp H
     obtain ⟨⟨aR, aQ, aI, a8⟩, bE, H⟩ := H
     try dsimp only at H
     have A6 := ak bE
     clear bE
     have c7 : aJ.length < 17592186044416 := Decidable.byContradiction fun q => by rw [if_neg q] at H; exact absurd H (by simp)
     rw [if_pos c7] at H
     have a9 := ak c7
     clear c7
     obtain ⟨y561, hy561⟩ : ∃ y_ : List Int, y_ = (aJ ++ [aI]) := ⟨_, rfl⟩
     replace H : (stanchionref15_Due.l0 k1 aR a1 y561) = some (r1, r2) := by first | (rw [hy561]; with_reducible exact H) | (have bA := (Option.bind_some _ _).symm.trans H; rw [hy561]; with_reducible exact bA) | (have bA := (Option.bind_some _ _).symm.trans H; with_reducible exact bA) | with_reducible exact H | (rw [hy561]; exact H) | exact H
     have aW := ak hy561
     clear hy561
     have H' := ak H
     clear H
     obtain ⟨bU, bM, bN⟩ := Kd.V_slice HO_0.out
     subst bN
     have aM : 0 ≤ (0 : Int) := (by omega)
     have aN : 0 < (aA.length : Int) := od
     obtain ⟨aU, aV, aD, aE⟩ := at_T85 (Kd.V_reads' HO_0.out).2.2 0 aM aN
     cases aV
     have aX : (0 < aA.length) = True := eq_true (by omega)
     (try rw [show ((0 : Int)).toNat = 0 from rfl] at aD)
     (try rw [show 0 * 2 = 0 from rfl] at aD)
     (try rw [Addr.add_zero'] at aD)
     (try rw [show ((0 : Int)).toNat = 0 from rfl] at aE)
     (try rw [show 0 * 2 = 0 from rfl] at aE)
     (try rw [Addr.add_zero'] at aE)
     replace aM := eq_true aM
     replace aN := eq_true aN
     go_wp2_with (first | ((with_reducible refine gate_callee (f := 67) rfl ?_); refine goesL_ (some 23) rfl rfl Try.func67 (by kernel_rfl) rfl #[.slice (some aU) aA.length bM] rfl mp ?_; (with_reducible refine (stanchionref15_Pop.calls k1 (fun k_ => ((aT k_ ∨ w.heap.size ≤ k_) ∧ some k_ ≠ (u6 : Value).ownBlock)) _ _ aA aR aQ aI a8 _ ?side1 A6.out).mono ?_); (case side1 => exact HO_0.out); rintro e w9 ⟨bO, rfl, bF, hb⟩; refine ⟨_, rfl, ?_⟩; have aH := ak (Kd.V_lower (Kd.V_mono (ok' := fun k_ => (aT k_ ∨ w.heap.size ≤ k_) ∧ some k_ ≠ (u6 : Value).ownBlock) bF (fun k_ hk_ => ⟨Or.elim hk_ (fun hs_ => hs_.1) (fun hn_ => (.inr (Nat.le_trans (below_size (pB HB.out)) hn_))), Or.elim hk_ (fun hs_ => hs_.2) (fun hn_ => (Kd.fresh' (Kd.R_lt (pR HO_6.out)) k_ hn_))⟩)) (below_size (pB HB.out))); replace HO_0 := vw HO_0 hb; replace HO_6 := rb HO_6 hb; replace HB := ak (below_step (pB HB.out) hb); (try clear hb); (try clear hb2); (try clear hk); (try clear hi); (try clear bF)) | ((with_reducible refine gate_dst (N := 8) rfl ?_); refine bv 8 85 #[.int .u64 0, .int .i64 0] ?_; intro aC hg bV hbox hb; obtain ⟨n_, aK⟩ := Cb.bx (pB HB.out) hg hb; have bG := aK; have aG := ak (hbox); replace HO_0 := vb HO_0 aC hg hb; replace HO_6 := rb HO_6 hb; replace aH := vb aH aC hg hb; replace HB := n_; clear n_; clear hb hbox hg; obtain ⟨aZ, a0⟩ := Cb.c2 aG.out; obtain ⟨a2, a3⟩ := Cb.f2 aG.out) | ((with_reducible refine gate_builtin (b := .append) (xs := #[.tmp 28, .tmp 31]) rfl ?_); at_builtin; refine Kd.R_append (Kd.int .i64) (w0 := w) w.heap.size rfl (.tmp 28) (.tmp 31) 88 3 (.int .i64 0) 8 rfl Try.underlying88 info3 rfl (by decide) (by omega) u6 aJ aI [.int .i64 aI] (fun k_ => (w.heap.size ≤ k_)) (fun _ => False) rfl (by first | (go_simp; done) | (go_simp; rfl)) ?aP (fun _ hk => hk.elim) ?aF ?aO ?aB ?aS ?aL ?_; (case aP => exact rfl); (case aB => exact (ua aK.out HB.out)); (case aF => exact (fun k_ hk => (Nat.le_trans (below_size (ua aK.out HB.out)) hk))); (case aO => exact (qr (Kd.R_mono (rf2 (Kd.R_types HO_6.out aG.out (by decide)) fun _ hk => hk.2) (fun _ hk => hk.1)))); (case aS => exact (below_size (ua aK.out HB.out))); (case aL => have := a9.out; omega); intro bP bW ho hb hg hat; rw [← aW.out] at ho; have n0_ := ak (Kd.V_afterv (ok := (fun k_ => (aT k_ ∨ w.heap.size ≤ k_) ∧ k_ ≠ aC)) (qv (vm (vf2 HO_0.out fun _ hk => hk.2))) hg hat); have n1_ := ak (Kd.V_afterv (ok := (fun k_ => (aT k_ ∨ w.heap.size ≤ k_) ∧ k_ ≠ aC)) (qv (vm (vf2 aH.out fun _ hk => hk.2))) hg hat); have n2_ := ak (blk_grown (g := aC) (o := .cells #[.int .u64 aQ, .int .i64 aI] 85 (0, 0)) (by exact pq (blk_put (blk_put (pk aG.out) 0 _ rfl) 1 _ rfl)) hg (Kd.R_ne HO_6.out aG.out (by decide))); have n3_ := ak (hb); have n4_ := ak (ho); clear HO_0; clear aH; clear aG; clear HB; clear HO_6; have HO_0 := n0_; have aH := n1_; have aG := n2_; have HB := n3_; have aY := n4_; clear n0_ n1_ n2_ n3_ n4_; clear ho hb hg hat))
     go_roundg k1
     case measure => have := bD.out; omega
     case rel => exact ⟨(aR), (y561), H', ⟨by have := bD.out; omega⟩, ⟨pV (Kd.V_mono aH.out (fun _ hk => ⟨hk.1.1, hk.2⟩))⟩, ⟨pR aY.out⟩, ⟨ua aK.out HB.out⟩⟩
    ·rw [if_neg c5] at H
     have a7 : decide (((rd_T85 aA 0).f0) ≤ a1) = false := decide_eq_false c5
     clear c5
     simp only [Option.some.injEq, Prod.mk.injEq] at H
     obtain ⟨rfl, rfl⟩ := H
     obtain ⟨bQ, bR, bB⟩ := Kd.V_slice HO_0.out
     subst bB
     have aM : 0 ≤ (0 : Int) := (by omega)
     have aN : 0 < (aA.length : Int) := od
     obtain ⟨aU, aV, aD, aE⟩ := at_T85 (Kd.V_reads' HO_0.out).2.2 0 aM aN
     cases aV
     have aX : (0 < aA.length) = True := eq_true (by omega)
     (try rw [show ((0 : Int)).toNat = 0 from rfl] at aD)
     (try rw [show 0 * 2 = 0 from rfl] at aD)
     (try rw [Addr.add_zero'] at aD)
     (try rw [show ((0 : Int)).toNat = 0 from rfl] at aE)
     (try rw [show 0 * 2 = 0 from rfl] at aE)
     (try rw [Addr.add_zero'] at aE)
     replace aM := eq_true aM
     replace aN := eq_true aN
     go_wp2
     go_ret2
     exact ⟨_, _, by first | rfl | (simp [errW_none, errW_some] <;> rfl) | (simp [*, errW_none, errW_some] <;> rfl), pV HO_0.out, pR HO_6.out, pB HB.out⟩
   ·rw [if_neg c3] at H
    have a5 : decide (0 < (aA.length : Int)) = false := decide_eq_false c3
    have a6 : decide (0 < aA.length) = false := decide_eq_false (by omega)
    clear c3
    simp only [Option.some.injEq, Prod.mk.injEq] at H
    obtain ⟨rfl, rfl⟩ := H
    obtain ⟨bS, bT, bC⟩ := Kd.V_slice HO_0.out
    subst bC
    go_wp2
    go_ret2
    exact ⟨_, _, by first | rfl | (simp [errW_none, errW_some] <;> rfl) | (simp [*, errW_none, errW_some] <;> rfl), pV HO_0.out, pR HO_6.out, pB HB.out⟩

end Go.Proofs.Ytnpmjboofmdflaa.PA
