-- Made by a program of this workplace out of the translation (wip/tools in the repo). Not trusted: Lean checks it.
import Derived.Test.YtnpmjboofmdflaaPAx0
import Derived.Test.YtnpmjboofmdflaaCb
import Derived.Test.YtnpmjboofmdflaaSq
import Derived.Test.YtnpmjboofmdflaaTq
import Derived.Test.YtnpmjboofmdflaaPAx3
import Derived.Test.YtnpmjboofmdflaaPAx6
namespace Go.Proofs.Ytnpmjboofmdflaa.PA
open Go.RowKit Go.Proofs.YtnpmjboofmdflaaW.PrintWords Go.Proofs.YtnpmjboofmdflaaW.PrintLast Go.Proofs.YtnpmjboofmdflaaW.PrintMore Go.Proofs.Ytnpmjboofmdflaa
attribute [local go_sem] max2_int min2_int max_two min_two max_three min_three max_four min_four   -- for this text's walks alone
set_option linter.unusedVariables false
set_option linter.unusedSimpArgs false

/-! ### alarm_Put: function 61 -/
def alarm_Put.T5 : Bool × List (List Nat × List Nat) := (true, [([], []), ([], []), ([0, 1], [0, 1]), ([2], [2]), ([], []), ([], []), ([4, 5], [4, 5]), ([6], [6]), ([3, 7], [3, 7]), ([8], [8])])
def alarm_Put.B5 : List Nat := [0, 0, 3, 7, 0, 0, 48, 112, 255, 511]
theorem alarm_Put.tab5 : rtab .any (opsOf Try.f61 5) = alarm_Put.T5 := by kernel_rfl
theorem alarm_Put.bits5 : waitsOk alarm_Put.T5.2 alarm_Put.B5 = true := by kernel_rfl
def alarm_Put.T6 : Bool × List (List Nat × List Nat) := (true, [([], []), ([], []), ([], []), ([], []), ([], []), ([], []), ([4, 5], [4, 5]), ([6], [6]), ([], []), ([], []), ([8, 9], [8, 9]), ([10], [10]), ([0, 1, 0, 1, 4, 5, 6, 7, 11], [0, 1]), ([12, 7, 0, 1, 4, 5, 6, 7, 11], [7, 12]), ([2, 3, 0, 1, 2, 3, 4, 5, 6, 7, 8, 9, 10, 11, 12, 13], [2, 3]), ([14, 11, 13, 0, 1, 2, 3, 4, 5, 6, 7, 8, 9, 10, 11, 12, 13], [11, 14])])
def alarm_Put.B6 : List Nat := [0, 0, 0, 0, 0, 0, 48, 112, 0, 0, 768, 1792, 4083, 8179, 16383, 32767]
theorem alarm_Put.tab6 : rtab .any (opsOf Try.f61 6) = alarm_Put.T6 := by kernel_rfl
theorem alarm_Put.bits6 : waitsOk alarm_Put.T6.2 alarm_Put.B6 = true := by kernel_rfl
set_option maxHeartbeats 8000000 in
set_option maxRecDepth 100000 in
theorem alarm_Put.calls (k : Nat) (A0 : Option Addr) (c0 : Nat) (l0 : List (S85)) (aH : Int) (aI : Int) (r : List (S85)) (w : World) (dT : Kd.C k85 w A0 l0.length l0) (dU : l0.length ≤ c0) (h : alarm_Put.f k l0 aH aI = some r) :
  Calls Try.prog 61 #[.slice A0 l0.length c0, .agg #[.int .u64 aH, .int .i64 aI]] w fun e w' => ∃ v0_ : Value, e = .returned (v0_) ∧ Kd.R k85 85 w' w.heap.size (fun _ => True) v0_ r ∧ Below w.heap.size w w' := by
 have d8 := Try.underlying85
 have dV := ak dT
 have dW := ak dU
 clear dT dU
 have HB := ak (Below.refl w.heap.size w)
 have H : ((api_Alarm_68.f l0).bind fun aU => ((some (([(⟨aH, aI⟩ : S85)] : List (S85)) : List (S85))).bind fun y169 => (if aU.length + y169.length < 8796093022208 then ((some (aU ++ y169 : List (S85))).bind fun y172 => (alarm_Put.l0 k y172 (wrap64 ((y172.length : Int) - 1)))) else (none)))) = some r := h
 clear h
 replace H := Option.bind_eq_some_iff.mp H
 obtain ⟨aU, dX, H⟩ := H
 try dsimp only at H
 have A3 := ak dX
 clear dX
 obtain ⟨y169, hy169⟩ : ∃ y_ : List (S85), y_ = (([(⟨aH, aI⟩ : S85)] : List (S85))) := ⟨_, rfl⟩
 replace H : (if aU.length + y169.length < 8796093022208 then ((some (aU ++ y169 : List (S85))).bind fun y172 => (alarm_Put.l0 k y172 (wrap64 ((y172.length : Int) - 1)))) else (none)) = some r := by first | (rw [hy169]; with_reducible exact H) | (have a4 := (Option.bind_some _ _).symm.trans H; rw [hy169]; with_reducible exact a4) | (have a4 := (Option.bind_some _ _).symm.trans H; with_reducible exact a4) | with_reducible exact H | (rw [hy169]; exact H) | exact H
 have bA := ak hy169
 clear hy169
 have c4 : aU.length + y169.length < 8796093022208 := Decidable.byContradiction fun q => by rw [if_neg q] at H; exact absurd H (by simp)
 rw [if_pos c4] at H
 have dE := ak c4
 clear c4
 obtain ⟨y172, hy172⟩ : ∃ y_ : List (S85), y_ = (aU ++ y169) := ⟨_, rfl⟩
 replace H : (alarm_Put.l0 k y172 (wrap64 ((y172.length : Int) - 1))) = some r := by first | (rw [hy172]; with_reducible exact H) | (have a4 := (Option.bind_some _ _).symm.trans H; rw [hy172]; with_reducible exact a4) | (have a4 := (Option.bind_some _ _).symm.trans H; with_reducible exact a4) | with_reducible exact H | (rw [hy172]; exact H) | exact H
 have cH := ak hy172
 clear hy172
 have H' := ak H
 clear H
 go_enter Try.func61, Try.ntmps61
 try go_wp2_with (first | ((with_reducible refine gate_dst (N := 3) rfl ?_); refine bv 3 85 #[.int .u64 aH, .int .i64 aI] ?_; intro aE hg w5 hbox hb; obtain ⟨n_, aG⟩ := Cb.bx (pB HB.out) hg hb; have dY := aG; have aC := ak (hbox); replace HB := n_; clear n_; clear hb hbox hg))
 replace aC := ak (blk_drew aC.out)
 replace HB := ak (below_drew1 HB.out)
 refine start_ (n := 6) (S := fun w' => w'.cell? ⟨aE, 0, none⟩ = some (.int .u64 aH) ∧ w'.cell? ⟨aE, 1, none⟩ = some (.int .i64 aI)) (ds := []) #[false, false, false, false, false, false] (by kernel_rfl) rfl rfl ⟨(blk_cell aC.out 0).trans rfl, (blk_cell aC.out 1).trans rfl⟩ (fun hHeld => ?_)
 generalize w5.drew = w6 at aC HB hHeld ⊢
 refine qa 0 7 (tb 6 1) (by kernel_rfl) ?_
 refine kb 2 9 (tb 6 5) (by kernel_rfl) hHeld ?_
 refine join_ (σ := Value × Value) 2 (tb 6 15) (fun s_ => [(8, s_.1), (10, s_.2)]) (fun s_ w' => (w'.cell? ⟨aE, 0, none⟩ = some (.int .u64 aH) ∧ w'.cell? ⟨aE, 1, none⟩ = some (.int .i64 aI)) ∧ (Kd.R k85 85 w' w.heap.size (fun k_ => some k_ ≠ (s_.2 : Value).ownBlock ∧ k_ ≠ aE) s_.1 aU) ∧ (Kd.R k85 85 w' w.heap.size (fun k_ => some k_ ≠ (s_.1 : Value).ownBlock ∧ k_ ≠ aE) s_.2 y169) ∧ (w'.heap[aE]? = some (.cells #[.int .u64 aH, .int .i64 aI] 85 (0, 0))) ∧ (Below w.heap.size w w')) ?_ ?_
 rotate_left
 ·intro hCont
  refine two_ (i := 1) (j := 3) (Ni := some 8) (Nj := some 10) (tb 6 7) (tb 6 13) rfl rfl rfl rfl (by kernel_rfl) (by decide) (by decide) (fun K hK => ?_) (fun K hK => ?_)
  ·skip
   refine goes_ Try.func68 (by kernel_rfl) rfl #[.slice A0 l0.length c0] (by rfl) rfl rfl mp ?_
   with_reducible refine (api_Alarm_68.calls _ _ l0 aU _ ?side1 ?side2 A3.out).mono ?_
   (case side1 => exact pc (Kd.C_below dV.out HB.out))
   (case side2 => exact dW.out)
   rintro e w7 ⟨a5, rfl, cD, hb⟩
   refine ⟨_, rfl, ?_⟩
   have aT := ak (Kd.R_lower (Kd.R_newB cD (pk aC.out)) (below_size (ua aG.out HB.out)))
   replace aC := bb aC hb
   replace HB := ak (below_step (ua aG.out HB.out) hb)
   (try clear hb)
   (try clear hb2)
   (try clear hk)
   (try clear hi)
   (try clear cD)
   refine hK.out _ _ ⟨(blk_cell aC.out 0).trans rfl, (blk_cell aC.out 1).trans rfl⟩ (fun hHeld => ?_)
   clear hK K
   refine norm_ (a' := ?_) ?_ ?_
   rotate_left
   ·show Act.put _ (some 8) _ = _
    simp only [Act.put, List.setIfInBounds_toArray, List.set_cons_zero, List.set_cons_succ, i64_w, i32_w]
    rfl
   refine one_ (i := 3) (N := some 10) (tb 6 15) rfl rfl (by kernel_rfl) (by decide) (fun K hK => ?_)
   refine Kd.R_lit_step k85 _ 85 ?hg (N := 10) ?hd (xs := ([(⟨aH, aI⟩ : S85)] : List (S85))) (inner := [.int .u64 aH, .int .i64 aI]) (ok := fun _ => True) (okp := fun _ => True) ?hr ?hp (fun _ hk => hk) trivial (Below.refl _ _) (Nat.le_refl _) (by simp) ?_; (case hd => rfl); (case hg => rfl); (case hr => first | (go_simp; done) | (go_simp; rfl)); (case hp => exact (Reps.c2 (show Kd.M k85 _ _ _ (⟨aH, aI⟩ : S85) [.int .u64 aH, .int .i64 aI] from (k85_mkM _ _ _ (⟨aH, aI⟩ : S85) )) (Reps.none _ _)))
   intro bD w8 cE hb hg_ hnew_
   clear hg_ hnew_
   (first | rw [← bA.out] at cE | (simp only [Int.reduceToNat] at cE; rw [← bA.out] at cE))
   have aK := ak (Kd.R_lower (Kd.R_newB (Kd.R_new' cE (Kd.R_lt (pR aT.out))) (pk aC.out)) (below_size (ua aG.out HB.out)))
   replace aT := ak (Kd.R_elder' (pR aT.out) (Kd.R_base cE) hb)
   replace aC := bb aC hb
   replace HB := ak (below_step (ua aG.out HB.out) hb)
   clear hb cE
   refine hK.out _ _ ⟨(blk_cell aC.out 0).trans rfl, (blk_cell aC.out 1).trans rfl⟩ (fun hHeld => ?_)
   clear hK K
   refine norm_ (a' := ?_) ?_ ?_
   rotate_left
   ·show Act.put _ (some 10) _ = _
    simp only [Act.put, List.setIfInBounds_toArray, List.set_cons_zero, List.set_cons_succ, i64_w, i32_w]
    rfl
   exact norm_ (by simp only [putAll, Act.put, List.setIfInBounds_toArray, List.set_cons_zero, List.set_cons_succ]) (hCont (a5, bD) _ ⟨hHeld, (pR (Kd.R_mono aT.out (fun _ hk => ⟨hk.2, hk.1.2⟩))), (pR (Kd.R_mono aK.out (fun _ hk => ⟨hk.1.2, hk.2⟩))), (pk aC.out), (ua aG.out HB.out)⟩)
  ·skip
   refine Kd.R_lit_step k85 _ 85 ?hg (N := 10) ?hd (xs := ([(⟨aH, aI⟩ : S85)] : List (S85))) (inner := [.int .u64 aH, .int .i64 aI]) (ok := fun _ => True) (okp := fun _ => True) ?hr ?hp (fun _ hk => hk) trivial (Below.refl _ _) (Nat.le_refl _) (by simp) ?_; (case hd => rfl); (case hg => rfl); (case hr => first | (go_simp; done) | (go_simp; rfl)); (case hp => exact (Reps.c2 (show Kd.M k85 _ _ _ (⟨aH, aI⟩ : S85) [.int .u64 aH, .int .i64 aI] from (k85_mkM _ _ _ (⟨aH, aI⟩ : S85) )) (Reps.none _ _)))
   intro bD w7 cI hb hg_ hnew_
   clear hg_ hnew_
   (first | rw [← bA.out] at cI | (simp only [Int.reduceToNat] at cI; rw [← bA.out] at cI))
   have aK := ak (Kd.R_lower (Kd.R_newB cI (pk aC.out)) (below_size (ua aG.out HB.out)))
   replace aC := bb aC hb
   replace HB := ak (below_step (ua aG.out HB.out) hb)
   clear hb cI
   refine hK.out _ _ ⟨(blk_cell aC.out 0).trans rfl, (blk_cell aC.out 1).trans rfl⟩ (fun hHeld => ?_)
   clear hK K
   refine norm_ (a' := ?_) ?_ ?_
   rotate_left
   ·show Act.put _ (some 10) _ = _
    simp only [Act.put, List.setIfInBounds_toArray, List.set_cons_zero, List.set_cons_succ, i64_w, i32_w]
    rfl
   refine one_ (i := 1) (N := some 8) (tb 6 15) rfl rfl (by kernel_rfl) (by decide) (fun K hK => ?_)
   refine goes_ Try.func68 (by kernel_rfl) rfl #[.slice A0 l0.length c0] (by rfl) rfl rfl mp ?_
   with_reducible refine (api_Alarm_68.calls _ _ l0 aU _ ?side1 ?side2 A3.out).mono ?_
   (case side1 => exact pc (Kd.C_below dV.out HB.out))
   (case side2 => exact dW.out)
   rintro e w9 ⟨a5, rfl, cD, hb⟩
   refine ⟨_, rfl, ?_⟩
   have aT := ak (Kd.R_lower (Kd.R_newB (Kd.R_new' cD (Kd.R_lt (pR aK.out))) (pk aC.out)) (below_size (ua aG.out HB.out)))
   replace aK := ak (Kd.R_elder' (pR aK.out) (Kd.R_base cD) hb)
   replace aC := bb aC hb
   replace HB := ak (below_step (ua aG.out HB.out) hb)
   (try clear hb)
   (try clear hb2)
   (try clear hk)
   (try clear hi)
   (try clear cD)
   refine hK.out _ _ ⟨(blk_cell aC.out 0).trans rfl, (blk_cell aC.out 1).trans rfl⟩ (fun hHeld => ?_)
   clear hK K
   refine norm_ (a' := ?_) ?_ ?_
   rotate_left
   ·show Act.put _ (some 8) _ = _
    simp only [Act.put, List.setIfInBounds_toArray, List.set_cons_zero, List.set_cons_succ, i64_w, i32_w]
    rfl
   exact norm_ (by simp only [putAll, Act.put, List.setIfInBounds_toArray, List.set_cons_zero, List.set_cons_succ]) (hCont (a5, bD) _ ⟨hHeld, (pR (Kd.R_mono aT.out (fun _ hk => ⟨hk.1.2, hk.2⟩))), (pR (Kd.R_mono aK.out (fun _ hk => ⟨hk.2, hk.1.2⟩))), (pk aC.out), (ua aG.out HB.out)⟩)
 rintro ⟨a5, bD⟩ cF ⟨hS_, dZ, d0, c8, d1⟩
 have n0_ : Aside0 (Kd.R k85 85 cF w.heap.size (fun k_ => some k_ ≠ (bD : Value).ownBlock ∧ k_ ≠ aE) a5 aU) := ⟨dZ⟩
 have n1_ : Aside0 (Kd.R k85 85 cF w.heap.size (fun k_ => some k_ ≠ (a5 : Value).ownBlock ∧ k_ ≠ aE) bD y169) := ⟨d0⟩
 have n2_ : Aside0 (cF.heap[aE]? = some (.cells #[.int .u64 aH, .int .i64 aI] 85 (0, 0))) := ⟨c8⟩
 have n3_ : Aside0 (Below w.heap.size w cF) := ⟨d1⟩
 clear aC
 clear HB
 clear dZ d0 c8 d1
 have aT := n0_
 have aK := n1_
 have aC := n2_
 have HB := n3_
 clear n0_ n1_ n2_ n3_
 have hHeld : cF.cell? ⟨aE, 0, none⟩ = some (.int .u64 aH) ∧ cF.cell? ⟨aE, 1, none⟩ = some (.int .i64 aI) := hS_
 obtain ⟨dF, dG, cJ⟩ := Kd.R_slice aK.out
 (first | subst cJ | (injection cJ with f1_ f2_ f3_; have d9 := f1_.symm; have eA := f3_.symm; clear f1_ f2_ f3_; subst d9; subst eA))
 refine norm_ (a' := ?_) ?_ ?_
 rotate_left
 ·simp only [putAll, Act.put, List.setIfInBounds_toArray, List.set_cons_zero, List.set_cons_succ]
  rfl
 refine one_ (i := 4) (N := some 11) (tb 6 31) rfl rfl (by kernel_rfl) (by decide) (fun K hK => ?_)
 refine Kd.R_append_rows_step k85 (w0 := w) w.heap.size (by rfl) (.tmp 8) (.tmp 10) 23 85 (.agg #[(.int .u64 0), (.int .i64 0)]) 16 rfl Try.underlying23 info85 rfl (by decide) (by omega) a5 aU y169 _ _ _ (fun k_ => some k_ ≠ (.slice dF y169.length dG : Value).ownBlock ∧ k_ ≠ aE) (fun _ => False) rfl rfl ?aO ?aR (fun _ _ h => h) (fun _ h => h.elim) ?aF ?aB ?aS ?aL ?_
 (case aR => exact pc (Kd.R_reads' aK.out).2.2)
 (case aB => exact (ua aG.out HB.out))
 (case aF => exact (fun k_ hk => ⟨Kd.fresh' (Kd.R_lt (pR aK.out)) k_ hk, Kd.freshB (pk aC.out) k_ hk⟩))
 (case aO => exact (pR aT.out))
 (case aS => exact (below_size (ua aG.out HB.out)))
 (case aL => have := dE.out; omega)
 intro eB eJ ho hb hg hat
 rw [← cH.out] at ho
 have n0_ := ak (blk_grown (pk aC.out) hg (Kd.R_away aT.out (fun _ hk => hk.2)))
 have n1_ := ak (Kd.R_after (ok := (fun k_ => k_ ≠ aE)) (pR (Kd.R_mono aK.out (fun _ hk => ⟨hk.2, hk.1⟩))) hg hat)
 have n2_ := ak (hb)
 have n3_ := ak (ho)
 clear aC
 clear aK
 clear HB
 clear aT
 have aC := n0_
 have aK := n1_
 have HB := n2_
 have bS := n3_
 clear n0_ n1_ n2_ n3_
 clear ho hb hg hat
 refine hK.out _ _ ⟨(blk_cell aC.out 0).trans rfl, (blk_cell aC.out 1).trans rfl⟩ (fun hHeld => ?_)
 clear hK K
 refine norm_ (a' := ?_) ?_ ?_
 rotate_left
 ·show Act.put _ (some 11) _ = _
  simp only [Act.put, List.setIfInBounds_toArray, List.set_cons_zero, List.set_cons_succ, i64_w, i32_w]
  rfl
 refine qa 5 0 (tb 6 63) (by kernel_rfl) ?_
 refine done_ (by kernel_rfl) ?_
 obtain ⟨dH, dI, dJ⟩ := Kd.R_slice bS.out
 subst dJ
 try go_wp2
 go_loopg [5] k (fun kq v5 w' => ∃ (aA : List (S85)) (aD : Int) (aV : Int) (aW : Int), v5 = .int .i64 aD ∧ Aside0 (alarm_Put.l0 kq aA aD = some r) ∧ Aside0 (kq ≤ k) ∧ Aside0 (Kd.R k85 85 w' w.heap.size (fun k_ => k_ ≠ aE) (.slice dH y172.length dI) aA) ∧ Aside0 (w'.heap[aE]? = some (.cells #[.int .u64 aV, .int .i64 aW] 85 (0, 0))) ∧ Aside0 (Below w.heap.size w w'))
 case atStart => exact ⟨(y172), (wrap64 ((y172.length : Int) - 1)), (aH), (aI), es, H', ⟨Nat.le_refl _⟩, ⟨pR (Kd.R_mono bS.out (fun _ hk => hk.2))⟩, ⟨pk aC.out⟩, ⟨ua aG.out HB.out⟩⟩
 case round =>
  clear H'
  try clear c2 p2 c4 c6 p6
  obtain ⟨aA, aD, aV, aW, rfl, HA, d2, HO_0, aC, HB⟩ := hrel
  have aY := (Kd.R_reads' HO_0.out).1
  rw [aY] at HO_0
  (try simp only [aY])
  (try simp only [aY] at aC)
  cases gk with
  | zero => exact absurd HA.out (by simp [alarm_Put.l0])
  | succ k1 =>
   have H := HA.out
   clear HA
   simp only [alarm_Put.l0] at H
   by_cases cG : aD > 0
   ·rw [if_pos cG] at H
    have cK : decide (0 < aD) = true := decide_eq_true cG
    clear cG
    have c9 : 0 ≤ aD := Decidable.byContradiction fun q => by rw [if_neg q] at H; exact absurd H (by simp)
    rw [if_pos c9] at H
    have d3 : decide (0 ≤ aD) = true := decide_eq_true c9
    clear c9
    have dA : aD < (aA.length : Int) := Decidable.byContradiction fun q => by rw [if_neg q] at H; exact absurd H (by simp)
    rw [if_pos dA] at H
    have d4 : decide (aD < (aA.length : Int)) = true := decide_eq_true dA
    clear dA
    obtain ⟨ji17, hji17⟩ : ∃ j_ : Int, (wrap64 (Int.tdiv (wrap64 (aD - 1)) 2)) = j_ := ⟨_, rfl⟩
    replace H : (if 0 ≤ (ji17) then (if (ji17) < (aA.length : Int) then ((alarm_Less.f ((rd_T85 aA aD).f0) ((rd_T85 aA aD).f1) ((rd_T85 aA (ji17)).f0) ((rd_T85 aA (ji17)).f1)).bind fun bN => (if bN = true then (alarm_Put.l0 k1 ((aA.set (aD : Int).toNat (⟨(rd_T85 aA (ji17)).f0, (rd_T85 aA (ji17)).f1⟩ : S85)).set ((ji17) : Int).toNat (⟨(rd_T85 aA aD).f0, (rd_T85 aA aD).f1⟩ : S85)) ji17) else (some aA))) else (none)) else (none)) = some r := by first | (rw [hji17] at H; exact H) | (simp only [hji17] at H ⊢; exact H)
    have dK : (IntKind.i64.wrap (Int.tdiv (wrap64 (aD - 1)) 2)) = ji17 := (i64_w _).trans hji17
    have dB : 0 ≤ (ji17) := Decidable.byContradiction fun q => by rw [if_neg q] at H; exact absurd H (by simp)
    rw [if_pos dB] at H
    have d5 : decide (0 ≤ (ji17)) = true := decide_eq_true dB
    clear dB
    have dC : (ji17) < (aA.length : Int) := Decidable.byContradiction fun q => by rw [if_neg q] at H; exact absurd H (by simp)
    rw [if_pos dC] at H
    have d6 : decide ((ji17) < (aA.length : Int)) = true := decide_eq_true dC
    clear dC
    replace H := Option.bind_eq_some_iff.mp H
    obtain ⟨bN, cL, H⟩ := H
    try dsimp only at H
    have d7 := ak cL
    clear cL
    by_cases dD : bN = true
    ·subst dD
     rw [if_pos rfl] at H
     obtain ⟨y180, hy180⟩ : ∃ y_ : List (S85), y_ = (aA.set (aD : Int).toNat (⟨(rd_T85 aA (ji17)).f0, (rd_T85 aA (ji17)).f1⟩ : S85)) := ⟨_, rfl⟩
     replace H : (alarm_Put.l0 k1 (y180.set ((ji17) : Int).toNat (⟨(rd_T85 aA aD).f0, (rd_T85 aA aD).f1⟩ : S85)) ji17) = some r := by first | (rw [hy180]; with_reducible exact H) | (have a4 := (Option.bind_some _ _).symm.trans H; rw [hy180]; with_reducible exact a4) | (have a4 := (Option.bind_some _ _).symm.trans H; with_reducible exact a4) | with_reducible exact H | (rw [hy180]; exact H) | exact H
     have cM := ak hy180
     clear hy180
     obtain ⟨y181, hy181⟩ : ∃ y_ : List (S85), y_ = (y180.set ((ji17) : Int).toNat (⟨(rd_T85 aA aD).f0, (rd_T85 aA aD).f1⟩ : S85)) := ⟨_, rfl⟩
     replace H : (alarm_Put.l0 k1 y181 ji17) = some r := by first | (rw [hy181]; with_reducible exact H) | (have a4 := (Option.bind_some _ _).symm.trans H; rw [hy181]; with_reducible exact a4) | (have a4 := (Option.bind_some _ _).symm.trans H; with_reducible exact a4) | with_reducible exact H | (rw [hy181]; exact H) | exact H
     have cN := ak hy181
     clear hy181
     have H' := ak H
     clear H
     try go_wp2
     replace HO_0 := ak (Kd.R_drew HO_0.out)
     replace aC := ak (blk_drew aC.out)
     replace HB := ak (below_drew1 HB.out)
     have a6 : 0 ≤ (aD : Int) := od
     have a7 : aD < (aA.length : Int) := od
     obtain ⟨aJ, bX, aM, aN⟩ := at_T85 (Kd.R_reads' HO_0.out).2.2 aD a6 a7
     cases bX
     replace a6 := eq_true a6
     replace a7 := eq_true a7
     have a8 : 0 ≤ ((ji17) : Int) := od
     have a9 : (ji17) < (aA.length : Int) := od
     obtain ⟨bE, bY, aP, aQ⟩ := at_T85 (Kd.R_reads' HO_0.out).2.2 (ji17) a8 a9
     obtain rfl : aJ = bE := (by injection bY)
     replace a8 := eq_true a8
     replace a9 := eq_true a9
     refine start_ (n := 10) (S := fun w' => w'.cell? (aJ.add ((aD).toNat * 2)) = some (.int .u64 ((rd_T85 aA aD).f0)) ∧ w'.cell? ⟨(aJ.add ((aD).toNat * 2)).block, (aJ.add ((aD).toNat * 2)).off + 1, none⟩ = some (.int .i64 ((rd_T85 aA aD).f1)) ∧ w'.cell? (aJ.add (((ji17)).toNat * 2)) = some (.int .u64 ((rd_T85 aA (ji17)).f0)) ∧ w'.cell? ⟨(aJ.add (((ji17)).toNat * 2)).block, (aJ.add (((ji17)).toNat * 2)).off + 1, none⟩ = some (.int .i64 ((rd_T85 aA (ji17)).f1))) (ds := []) #[false, false, false, false, false, false, false, false, false, false] (by kernel_rfl) rfl rfl ⟨aM, aN, aP, aQ⟩ (fun hHeld => ?_); refine with_tabW alarm_Put.tab5 alarm_Put.bits5 (fun HT_ HW_ => ?_)
     generalize wr.drew = w24 at HO_0 aC HB aM aN aP aQ hHeld ⊢
     refine qa 0 20 (tb 10 1) (any_of HT_.out (by kernel_rfl)) ?_
     refine qa 1 21 (tb 10 3) (any_of HT_.out (by kernel_rfl)) ?_
     refine qa 2 22 (tb 10 7) (any_of HT_.out (by kernel_rfl)) ?_
     refine qa 4 24 (tb 10 23) (any_of HT_.out (by kernel_rfl)) ?_
     refine qa 5 25 (tb 10 55) (any_of HT_.out (by kernel_rfl)) ?_
     refine qa 6 26 (tb 10 119) (any_of HT_.out (by kernel_rfl)) ?_
     refine kd 3 23 (tb 10 127) (take_ofW HT_.out HW_.out (by kernel_rfl)) hHeld ?_
     refine kd 7 27 (tb 10 255) (take_ofW HT_.out HW_.out (by kernel_rfl)) hHeld ?_
     refine one_ (i := 8) (N := some 28) (tb 10 511) rfl rfl (one_of HT_.out (by kernel_rfl)) (by decide) (fun K hK => ?_)
     refine goes_ Try.func69 (by kernel_rfl) rfl #[.agg #[.int .u64 ((rd_T85 aA aD).f0), .int .i64 ((rd_T85 aA aD).f1)], .agg #[.int .u64 ((rd_T85 aA (ji17)).f0), .int .i64 ((rd_T85 aA (ji17)).f1)]] (by rfl) rfl rfl (by (try simp only [List.map_toArray, List.map_cons, List.map_nil]); first | done | (simp only [hji17]; rfl) | rfl | (simp only [List.length_drop, List.length_take]; rfl)) ?_
     with_reducible refine (alarm_Less.calls ((rd_T85 aA aD).f0) ((rd_T85 aA aD).f1) ((rd_T85 aA (ji17)).f0) ((rd_T85 aA (ji17)).f1) true _ d7.out).mono ?_
     rintro e eC ⟨rfl, hb⟩
     have bZ := (hb.cell (World.block_lt_of_cell? _ _ (hHeld.1))).trans (hHeld.1)
     have b0 := (hb.cell (World.block_lt_of_cell? _ _ (hHeld.2.1))).trans (hHeld.2.1)
     have b1 := (hb.cell (World.block_lt_of_cell? _ _ (hHeld.2.2.1))).trans (hHeld.2.2.1)
     have b2 := (hb.cell (World.block_lt_of_cell? _ _ (hHeld.2.2.2))).trans (hHeld.2.2.2)
     refine ⟨_, rfl, ?_⟩
     replace HO_0 := rb HO_0 hb
     replace aC := bb aC hb
     replace HB := ak (below_step (ua aG.out HB.out) hb)
     (try clear hb)
     (try clear hb2)
     (try clear hk)
     (try clear hi)
     refine hK.out _ _ ⟨bZ, b0, b1, b2⟩ (fun hHeld => ?_)
     clear hK K
     refine norm_ (a' := ?_) ?_ ?_
     rotate_left
     ·show Act.put _ (some 28) _ = _
      simp only [Act.put, List.setIfInBounds_toArray, List.set_cons_zero, List.set_cons_succ, i64_w, i32_w]
      rfl
     refine qa 9 29 (tb 10 1023) (any_of HT_.out (by kernel_rfl)) ?_
     refine done_ (done_of HT_.out (by kernel_rfl)) ?_
     try go_wp2
     replace HO_0 := ak (Kd.R_drew HO_0.out)
     replace aC := ak (blk_drew aC.out)
     replace HB := ak (below_drew1 HB.out)
     have b3 : 0 ≤ ((ji17) : Int) := od
     have b4 : (ji17) < (aA.length : Int) := od
     obtain ⟨cO, dL, aZ, a0⟩ := at_T85 (Kd.R_reads' HO_0.out).2.2 (ji17) b3 b4
     obtain rfl : aJ = cO := (by injection dL)
     replace b3 := eq_true b3
     replace b4 := eq_true b4
     have b5 : 0 ≤ (aD : Int) := od
     have b6 : aD < (aA.length : Int) := od
     obtain ⟨cP, dM, a2, a3⟩ := at_T85 (Kd.R_reads' HO_0.out).2.2 aD b5 b6
     obtain rfl : aJ = cP := (by injection dM)
     replace b5 := eq_true b5
     replace b6 := eq_true b6
     have dN : 0 ≤ (aD : Int) := od
     have dO : (aD : Int) < ((aA.length : Int) : Int) := od
     obtain ⟨aX, eD, cQ, cR, dP, eE, cS⟩ := Kd.R_form HO_0.out (by omega)
     (first | cases cQ | (injection cQ with ea_ en_ ec_; (first | subst ea_ | (injection ea_ with ea_; subst ea_)); subst ec_; clear en_))
     have bO := ak cR
     have dQ := ak cS
     clear cR dP cS
     (first | simp only [add_plain] at aM | skip)
     (first | simp only [add_plain] at aN | skip)
     (first | simp only [add_plain] at aP | skip)
     (first | simp only [add_plain] at aQ | skip)
     (first | simp only [add_plain] at aZ | skip)
     (first | simp only [add_plain] at a0 | skip)
     (first | simp only [add_plain] at a2 | skip)
     (first | simp only [add_plain] at a3 | skip)
     obtain ⟨eF, cT, cU, bF, bG⟩ := Kd.R_elem HO_0.out z85 (aD : Int) dN dO
     obtain rfl := k85_openM cU
     have b7 : World.cell? _ ⟨aX, (aD : Int).toNat * 2, none⟩ = some (.int .u64 ((rd_T85 aA aD).f0)) := bF 0 _ rfl
     have b8 : World.cell? _ ⟨aX, (aD : Int).toNat * 2 + 1, none⟩ = some (.int .i64 ((rd_T85 aA aD).f1)) := bF 1 _ rfl
     have b9 : World.frozen? _ ⟨aX, (aD : Int).toNat * 2, none⟩ = false := bG 0
     have cA : World.frozen? _ ⟨aX, (aD : Int).toNat * 2 + 1, none⟩ = false := bG 1
     clear cT bF bG cU
     replace dN := eq_true dN
     replace dO := eq_true dO
     obtain ⟨eG, bT, cV, bU, cW⟩ := Kd.R_elem HO_0.out z85 (aD : Int) (od) (by have h_ : (aD : Int) < ((aA.length : Int) : Int) := od; first | exact h_ | (have e_ := (Kd.R_reads' HO_0.out).1; omega) | simpa using h_)
     obtain rfl := k85_openM cV
     have cB := (Kd.R_seg HO_0.out (aD : Int) (od) (by have h_ : (aD : Int) < ((aA.length : Int) : Int) := od; first | exact h_ | (have e_ := (Kd.R_reads' HO_0.out).1; omega) | simpa using h_) (seg := [.int .u64 ((rd_T85 aA (ji17)).f0), .int .i64 ((rd_T85 aA (ji17)).f1)]) (j := 0) bT bU (show 2 ≤ 2 from by decide) (x' := (⟨(rd_T85 aA (ji17)).f0, (rd_T85 aA (ji17)).f1⟩ : S85)) (k85_mkM _ _ _ (⟨(rd_T85 aA (ji17)).f0, (rd_T85 aA (ji17)).f1⟩ : S85) ) (fun _ hk => hk)).1
     rw [← cM.out] at cB
     have bP := ak cB
     clear bT bU cW cV cB
     have dR : 0 ≤ ((ji17) : Int) := od
     have dS : ((ji17) : Int) < ((aA.length : Int) : Int) := od
     obtain ⟨eH, cX, cY, bH, bI⟩ := Kd.R_elem bP.out z85 ((ji17) : Int) dR dS
     obtain rfl := k85_openM cY
     have bJ : World.cell? _ ⟨aX, ((ji17) : Int).toNat * 2, none⟩ = some (.int .u64 ((rd_T85 y180 (ji17)).f0)) := bH 0 _ rfl
     have bK : World.cell? _ ⟨aX, ((ji17) : Int).toNat * 2 + 1, none⟩ = some (.int .i64 ((rd_T85 y180 (ji17)).f1)) := bH 1 _ rfl
     have bL : World.frozen? _ ⟨aX, ((ji17) : Int).toNat * 2, none⟩ = false := bI 0
     have bM : World.frozen? _ ⟨aX, ((ji17) : Int).toNat * 2 + 1, none⟩ = false := bI 1
     clear cX bH bI cY
     replace dR := eq_true dR
     replace dS := eq_true dS
     obtain ⟨eI, bV, cZ, bW, c1⟩ := Kd.R_elem bP.out z85 ((ji17) : Int) (od) (by have h_ : ((ji17) : Int) < ((aA.length : Int) : Int) := od; first | exact h_ | (have e_ := (Kd.R_reads' HO_0.out).1; omega) | simpa using h_)
     obtain rfl := k85_openM cZ
     have cC := (Kd.R_seg bP.out ((ji17) : Int) (od) (by have h_ : ((ji17) : Int) < ((aA.length : Int) : Int) := od; first | exact h_ | (have e_ := (Kd.R_reads' HO_0.out).1; omega) | simpa using h_) (seg := [.int .u64 ((rd_T85 aA aD).f0), .int .i64 ((rd_T85 aA aD).f1)]) (j := 0) bV bW (show 2 ≤ 2 from by decide) (x' := (⟨(rd_T85 aA aD).f0, (rd_T85 aA aD).f1⟩ : S85)) (k85_mkM _ _ _ (⟨(rd_T85 aA aD).f0, (rd_T85 aA aD).f1⟩ : S85) ) (fun _ hk => hk)).1
     rw [← cN.out] at cC
     have c7 := ak cC
     clear bV bW c1 cZ cC
     refine start_ (n := 16) (S := fun w' => w'.cell? ⟨aX, (((ji17)).toNat * 2), none⟩ = some (.int .u64 ((rd_T85 aA (ji17)).f0)) ∧ w'.cell? ⟨aX, (((ji17)).toNat * 2) + 1, none⟩ = some (.int .i64 ((rd_T85 aA (ji17)).f1)) ∧ w'.cell? ⟨aX, ((aD).toNat * 2), none⟩ = some (.int .u64 ((rd_T85 aA aD).f0)) ∧ w'.cell? ⟨aX, ((aD).toNat * 2) + 1, none⟩ = some (.int .i64 ((rd_T85 aA aD).f1))) (ds := [13, 15]) #[false, false, false, false, false, false, false, false, false, false, false, false, false, false, false, false] (by kernel_rfl) rfl rfl ⟨aZ, a0, a2, a3⟩ (fun hHeld => ?_); refine with_tabW alarm_Put.tab6 alarm_Put.bits6 (fun HT_ HW_ => ?_)
     generalize eC.drew = w26 at HO_0 aC HB dQ bP c7 b9 cA bL bM aM aN aP aQ aZ a0 a2 a3 b7 b8 bJ bK hHeld ⊢
     have bQ := bL; (try simp only [World.setCells, show k85.sz = 2 from rfl, Nat.add_zero, World.frozen?_setCell] at bQ)
     have bR := bM; (try simp only [World.setCells, show k85.sz = 2 from rfl, Nat.add_zero, World.frozen?_setCell] at bR)
     have bB := bJ; (try simp only [World.setCells, show k85.sz = 2 from rfl, Nat.add_zero] at bB); (repeat rw [World.cell?_setCell_other (by intro h_; injection h_ with _ c8 _; omega)] at bB)
     have bC := bK; (try simp only [World.setCells, show k85.sz = 2 from rfl, Nat.add_zero] at bC); (repeat rw [World.cell?_setCell_other (by intro h_; injection h_ with _ c8 _; omega)] at bC)
     refine qa 0 30 (tb 16 1) (any_of HT_.out (by kernel_rfl)) ?_
     refine qa 1 31 (tb 16 3) (any_of HT_.out (by kernel_rfl)) ?_
     refine qa 2 32 (tb 16 7) (any_of HT_.out (by kernel_rfl)) ?_
     refine qa 3 33 (tb 16 15) (any_of HT_.out (by kernel_rfl)) ?_
     refine qa 4 34 (tb 16 31) (any_of HT_.out (by kernel_rfl)) ?_
     refine qa 5 35 (tb 16 63) (any_of HT_.out (by kernel_rfl)) ?_
     refine qa 6 36 (tb 16 127) (any_of HT_.out (by kernel_rfl)) ?_
     refine qa 8 38 (tb 16 383) (any_of HT_.out (by kernel_rfl)) ?_
     refine qa 9 39 (tb 16 895) (any_of HT_.out (by kernel_rfl)) ?_
     refine qa 10 40 (tb 16 1919) (any_of HT_.out (by kernel_rfl)) ?_
     refine kd 7 37 (tb 16 2047) (take_ofW HT_.out HW_.out (by kernel_rfl)) hHeld ?_
     refine kd 11 41 (tb 16 4095) (take_ofW HT_.out HW_.out (by kernel_rfl)) hHeld ?_
     refine qa 12 42 (tb 16 8191) (any_of HT_.out (by kernel_rfl)) ?_
     refine last_ (i := 13) (N := none) (tb 16 16383) rfl rfl (one_of HT_.out (by kernel_rfl)) (by decide) (fun K hK => ?_)
     refine skip_ (w1 := ?_) (by rfl) rfl ?_ ?_
     rotate_left
     ·go_simp
      rfl
     refine hK.out _ _ ?_
     clear hK K
     refine qa 14 43 (tb 16 32767) (any_of HT_.out (by kernel_rfl)) ?_
     refine last_ (i := 15) (N := none) (tb 16 65535) rfl rfl (one_of HT_.out (by kernel_rfl)) (by decide) (fun K hK => ?_)
     refine skip_ (w1 := ?_) (by rfl) rfl ?_ ?_
     rotate_left
     ·go_simp
      rfl
     refine hK.out _ _ ?_
     clear hK K
     refine done_ (done_of HT_.out (by kernel_rfl)) ?_
     try go_wp2
     (try simp only [← aY])
     go_roundg k1
     case measure => have := d2.out; omega
     case rel => exact ⟨(y181), (ji17), (aV), (aW), (by first | rfl | (simp; done) | (simp only [← hji17] <;> (first | rfl | simp)) | (simp [*]; done)), H', ⟨by have := d2.out; omega⟩, ⟨by (try simp only [aY]); exact c7.out⟩, ⟨by (try simp only [aY]); refine blk_far ?_ (by have h_ := Kd.R_away HO_0.out (fun _ hk => hk); intro e_; exact h_ (by rw [e_]; rfl)) _; refine blk_far ?_ (by have h_ := Kd.R_away HO_0.out (fun _ hk => hk); intro e_; exact h_ (by rw [e_]; rfl)) _; refine blk_far ?_ (by have h_ := Kd.R_away HO_0.out (fun _ hk => hk); intro e_; exact h_ (by rw [e_]; rfl)) _; refine blk_far ?_ (by have h_ := Kd.R_away HO_0.out (fun _ hk => hk); intro e_; exact h_ (by rw [e_]; rfl)) _; exact pk aC.out⟩, ⟨ub bO.out aG.out HB.out⟩⟩
    ·replace dD := Bool.eq_false_iff.mpr dD
     subst dD
     rw [if_neg (show ¬ (false = true) by decide)] at H
     obtain rfl := Option.some.inj H
     try go_wp2
     replace HO_0 := ak (Kd.R_drew HO_0.out)
     replace aC := ak (blk_drew aC.out)
     replace HB := ak (below_drew1 HB.out)
     have a6 : 0 ≤ (aD : Int) := od
     have a7 : aD < (aA.length : Int) := od
     obtain ⟨aJ, bX, aM, aN⟩ := at_T85 (Kd.R_reads' HO_0.out).2.2 aD a6 a7
     cases bX
     replace a6 := eq_true a6
     replace a7 := eq_true a7
     have a8 : 0 ≤ ((ji17) : Int) := od
     have a9 : (ji17) < (aA.length : Int) := od
     obtain ⟨bE, bY, aP, aQ⟩ := at_T85 (Kd.R_reads' HO_0.out).2.2 (ji17) a8 a9
     obtain rfl : aJ = bE := (by injection bY)
     replace a8 := eq_true a8
     replace a9 := eq_true a9
     refine start_ (n := 10) (S := fun w' => w'.cell? (aJ.add ((aD).toNat * 2)) = some (.int .u64 ((rd_T85 aA aD).f0)) ∧ w'.cell? ⟨(aJ.add ((aD).toNat * 2)).block, (aJ.add ((aD).toNat * 2)).off + 1, none⟩ = some (.int .i64 ((rd_T85 aA aD).f1)) ∧ w'.cell? (aJ.add (((ji17)).toNat * 2)) = some (.int .u64 ((rd_T85 aA (ji17)).f0)) ∧ w'.cell? ⟨(aJ.add (((ji17)).toNat * 2)).block, (aJ.add (((ji17)).toNat * 2)).off + 1, none⟩ = some (.int .i64 ((rd_T85 aA (ji17)).f1))) (ds := []) #[false, false, false, false, false, false, false, false, false, false] (by kernel_rfl) rfl rfl ⟨aM, aN, aP, aQ⟩ (fun hHeld => ?_); refine with_tabW alarm_Put.tab5 alarm_Put.bits5 (fun HT_ HW_ => ?_)
     generalize wr.drew = w29 at HO_0 aC HB aM aN aP aQ hHeld ⊢
     refine qa 0 20 (tb 10 1) (any_of HT_.out (by kernel_rfl)) ?_
     refine qa 1 21 (tb 10 3) (any_of HT_.out (by kernel_rfl)) ?_
     refine qa 2 22 (tb 10 7) (any_of HT_.out (by kernel_rfl)) ?_
     refine qa 4 24 (tb 10 23) (any_of HT_.out (by kernel_rfl)) ?_
     refine qa 5 25 (tb 10 55) (any_of HT_.out (by kernel_rfl)) ?_
     refine qa 6 26 (tb 10 119) (any_of HT_.out (by kernel_rfl)) ?_
     refine kd 3 23 (tb 10 127) (take_ofW HT_.out HW_.out (by kernel_rfl)) hHeld ?_
     refine kd 7 27 (tb 10 255) (take_ofW HT_.out HW_.out (by kernel_rfl)) hHeld ?_
     refine one_ (i := 8) (N := some 28) (tb 10 511) rfl rfl (one_of HT_.out (by kernel_rfl)) (by decide) (fun K hK => ?_)
     refine goes_ Try.func69 (by kernel_rfl) rfl #[.agg #[.int .u64 ((rd_T85 aA aD).f0), .int .i64 ((rd_T85 aA aD).f1)], .agg #[.int .u64 ((rd_T85 aA (ji17)).f0), .int .i64 ((rd_T85 aA (ji17)).f1)]] (by rfl) rfl rfl (by (try simp only [List.map_toArray, List.map_cons, List.map_nil]); first | done | (simp only [hji17]; rfl) | rfl | (simp only [List.length_drop, List.length_take]; rfl)) ?_
     with_reducible refine (alarm_Less.calls ((rd_T85 aA aD).f0) ((rd_T85 aA aD).f1) ((rd_T85 aA (ji17)).f0) ((rd_T85 aA (ji17)).f1) false _ d7.out).mono ?_
     rintro e eK ⟨rfl, hb⟩
     have bZ := (hb.cell (World.block_lt_of_cell? _ _ (hHeld.1))).trans (hHeld.1)
     have b0 := (hb.cell (World.block_lt_of_cell? _ _ (hHeld.2.1))).trans (hHeld.2.1)
     have b1 := (hb.cell (World.block_lt_of_cell? _ _ (hHeld.2.2.1))).trans (hHeld.2.2.1)
     have b2 := (hb.cell (World.block_lt_of_cell? _ _ (hHeld.2.2.2))).trans (hHeld.2.2.2)
     refine ⟨_, rfl, ?_⟩
     replace HO_0 := rb HO_0 hb
     replace aC := bb aC hb
     replace HB := ak (below_step (ua aG.out HB.out) hb)
     (try clear hb)
     (try clear hb2)
     (try clear hk)
     (try clear hi)
     refine hK.out _ _ ⟨bZ, b0, b1, b2⟩ (fun hHeld => ?_)
     clear hK K
     refine norm_ (a' := ?_) ?_ ?_
     rotate_left
     ·show Act.put _ (some 28) _ = _
      simp only [Act.put, List.setIfInBounds_toArray, List.set_cons_zero, List.set_cons_succ, i64_w, i32_w]
      rfl
     refine qa 9 29 (tb 10 1023) (any_of HT_.out (by kernel_rfl)) ?_
     refine done_ (done_of HT_.out (by kernel_rfl)) ?_
     try go_wp2
     go_ret
     exact ⟨_, by first | rfl | (simp [errW_none, errW_some] <;> rfl) | (simp only [← hji17]; first | rfl | (simp [errW_none, errW_some] <;> rfl)) | (simp [*, errW_none, errW_some] <;> rfl), pR (Kd.R_mono HO_0.out (fun _ hk => trivial)), ua aG.out HB.out⟩
   ·rw [if_neg cG] at H
    have cK : decide (0 < aD) = false := decide_eq_false cG
    clear cG
    obtain rfl := Option.some.inj H
    go_wp2
    go_ret
    exact ⟨_, by first | rfl | (simp [errW_none, errW_some] <;> rfl) | (simp [*, errW_none, errW_some] <;> rfl), pR (Kd.R_mono HO_0.out (fun _ hk => trivial)), ua aG.out HB.out⟩

/-! ### alarm_Drop: function 52 -/
set_option maxHeartbeats 8000000 in
set_option maxRecDepth 100000 in
theorem alarm_Drop.calls (k : Nat) (A0 : Option Addr) (c0 : Nat) (l0 : List (S85)) (a1 : Int) (r : List (S85)) (w : World) (bB : Kd.C k85 w A0 l0.length l0) (bC : l0.length ≤ c0) (h : alarm_Drop.f k l0 a1 = some r) :
  Calls Try.prog 52 #[.slice A0 l0.length c0, .int .i64 a1] w fun e w' => ∃ v0_ : Value, e = .returned (v0_) ∧ Kd.R k85 85 w' w.heap.size (fun _ => True) v0_ r ∧ Below w.heap.size w w' := by
 have bF := Try.underlying85
 have bD := ak bB
 have bJ := ak bC
 clear bB bC
 have HB := ak (Below.refl w.heap.size w)
 have H : (alarm_Drop.l0 k a1 ([] : List (S85)) l0 (l0.length : Int) 0) = some r := h
 clear h
 have H' := ak H
 clear H
 go_enter Try.func52, Try.ntmps52
 go_wp2
 go_loopg [5, 10] k (fun kq v5 v10 w' => ∃ (aI : List (S85)) (aA : Int), v10 = .int .i64 aA ∧ Aside0 (alarm_Drop.l0 kq a1 aI l0 (l0.length : Int) aA = some r) ∧ Aside0 (kq ≤ k) ∧ Aside0 (Kd.R k85 85 w' w.heap.size (fun _ => True) v5 aI) ∧ Aside0 (Below w.heap.size w w'))
 case atStart => exact ⟨(([] : List (S85))), (0), es, H', ⟨Nat.le_refl _⟩, ⟨by first | exact Kd.R_nil _ _ _ _ _ | exact Kd.N_nil _ _ _ _ _ | exact Kd.V_nil _ _ _ _ _ | exact Kd.Q_nil _ _ _ _ _ | exact Kd.S_nil _ _ _ _ _⟩, ⟨pB HB.out⟩⟩
 case round =>
  clear H'
  try clear p2
  obtain ⟨aI, aA, rfl, HA, aV, HO_5, HB⟩ := hrel
  cases gk with
  | zero => exact absurd HA.out (by simp [alarm_Drop.l0])
  | succ k1 =>
   have H := HA.out
   clear HA
   simp only [alarm_Drop.l0] at H
   by_cases c3 : aA < (l0.length : Int)
   ·rw [if_pos c3] at H
    have a0 : decide (aA < (l0.length : Int)) = true := decide_eq_true c3
    clear c3
    have c4 : 0 ≤ aA := Decidable.byContradiction fun q => by rw [if_neg q] at H; exact absurd H (by simp)
    rw [if_pos c4] at H
    have bG : decide (0 ≤ aA) = true := decide_eq_true c4
    clear c4
    have c5 : aA < (l0.length : Int) := Decidable.byContradiction fun q => by rw [if_neg q] at H; exact absurd H (by simp)
    rw [if_pos c5] at H
    have bH : decide (aA < (l0.length : Int)) = true := decide_eq_true c5
    clear c5
    by_cases c6 : ((rd_T85 l0 aA).f1) = a1
    ·rw [if_pos c6] at H
     have a2 : (((rd_T85 l0 aA).f1) == a1) = true := beq_iff_eq.mpr c6
     have a3 : (((rd_T85 l0 aA).f1) != a1) = false := bne_eq_false_iff_eq.mpr c6
     clear c6
     have H' := ak H
     clear H
     have aJ : 0 ≤ (aA : Int) := od
     have aK : aA < (l0.length : Int) := od
     obtain ⟨aP, aM, aD, aE⟩ := at_T85 bD.out aA aJ aK
     cases aM
     replace aD := (HB.out.cell (World.block_lt_of_cell? w _ aD)).trans aD
     replace aE := (HB.out.cell (World.block_lt_of_cell? w _ aE)).trans aE
     replace aJ := eq_true aJ
     replace aK := eq_true aK
     go_wp2_with (first | ((with_reducible refine gate_dst (N := 7) rfl ?_); refine bv 7 85 #[.int .u64 0, .int .i64 0] ?_; intro aC hg w7 hbox hb; obtain ⟨n_, aH⟩ := Cb.bx (pB HB.out) hg hb; have aQ := aH; have aG := ak (hbox); replace HO_5 := ak (Kd.R_below (Kd.R_elderB (pR HO_5.out) aC (Nat.le_of_eq hg.symm)) hb); replace HB := n_; clear n_; clear hb hbox hg; obtain ⟨a4, a5⟩ := Cb.c2 aG.out; obtain ⟨a6, a7⟩ := Cb.f2 aG.out))
     go_roundg k1
     case measure => have := aV.out; omega
     case rel => exact ⟨(aI), (wrap64 (aA + 1)), es, H', ⟨by have := aV.out; omega⟩, ⟨qr (Kd.R_mono (rf2 (Kd.R_mono HO_5.out (fun k_ hk => (⟨hk, hk.2⟩ : _ ∧ k_ ≠ aC))) fun _ hk => hk.2) (fun _ hk => trivial))⟩, ⟨ua aH.out HB.out⟩⟩
    ·rw [if_neg c6] at H
     have a2 : (((rd_T85 l0 aA).f1) == a1) = false := beq_eq_false_iff_ne.mpr c6
     have a3 : (((rd_T85 l0 aA).f1) != a1) = true := bne_iff_ne.mpr c6
     replace H := Option.bind_eq_some_iff.mp H
     obtain ⟨aN, bE, H⟩ := H
     try dsimp only at H
     have A9 := ak bE
     clear bE
     have H' := ak H
     clear H
     have aJ : 0 ≤ (aA : Int) := od
     have aK : aA < (l0.length : Int) := od
     obtain ⟨aP, aM, aD, aE⟩ := at_T85 bD.out aA aJ aK
     cases aM
     replace aD := (HB.out.cell (World.block_lt_of_cell? w _ aD)).trans aD
     replace aE := (HB.out.cell (World.block_lt_of_cell? w _ aE)).trans aE
     replace aJ := eq_true aJ
     replace aK := eq_true aK
     go_wp2_with (first | ((with_reducible refine gate_dst (N := 7) rfl ?_); refine bv 7 85 #[.int .u64 0, .int .i64 0] ?_; intro aC hg bK hbox hb; obtain ⟨n_, aH⟩ := Cb.bx (pB HB.out) hg hb; have aQ := aH; have aG := ak (hbox); replace HO_5 := ak (Kd.R_below (Kd.R_elderB (pR HO_5.out) aC (Nat.le_of_eq hg.symm)) hb); replace HB := n_; clear n_; clear hb hbox hg; obtain ⟨aW, aX⟩ := Cb.c2 aG.out; obtain ⟨aY, aZ⟩ := Cb.f2 aG.out; obtain ⟨a8, aT, a9⟩ := Kd.R_slice HO_5.out; subst a9) | ((with_reducible refine gate_callee (f := 61) rfl ?_); refine goesL_ (some 20) rfl rfl Try.func61 (by kernel_rfl) rfl #[.slice a8 aI.length aT, .agg #[.int .u64 ((rd_T85 l0 aA).f0), .int .i64 ((rd_T85 l0 aA).f1)]] rfl mp ?_; (with_reducible refine (alarm_Put.calls k1 _ _ aI ((rd_T85 l0 aA).f0) ((rd_T85 l0 aA).f1) aN _ ?side1 ?side2 A9.out).mono ?_); (case side1 => refine (Kd.R_reads' (e := 85) (base := w.heap.size) (ok := fun k_ => (True ∧ k_ ≠ aC)) (n := aI.length) (c := aT) ?_).2.2; exact (qr ((Kd.R_mono (rf2 (Kd.R_mono HO_5.out (fun k_ hk => (⟨hk, hk.2⟩ : _ ∧ k_ ≠ aC))) fun _ hk => hk.2) (fun _ h_ => h_.1))))); (case side2 => exact (Kd.R_reads' HO_5.out).2.1); rintro e bL ⟨bI, rfl, bA, hb⟩; refine ⟨_, rfl, ?_⟩; have aU := ak (Kd.R_lower (Kd.R_newB (Kd.R_new' bA (Kd.R_lt (qr ((Kd.R_mono (rf2 (Kd.R_mono HO_5.out (fun k_ hk => (⟨hk, hk.2⟩ : _ ∧ k_ ≠ aC))) fun _ hk => hk.2) (fun _ h_ => h_.1)))))) (g := aC) (o := .cells #[.int .u64 ((rd_T85 l0 aA).f0), .int .i64 ((rd_T85 l0 aA).f1)] 85 (0, 0)) (by exact pq (blk_put (blk_put (pk aG.out) 0 _ rfl) 1 _ rfl))) (below_size (ua aH.out HB.out))); replace HO_5 := ak (Kd.R_elder' (qr ((Kd.R_mono (rf2 (Kd.R_mono HO_5.out (fun k_ hk => (⟨hk, hk.2⟩ : _ ∧ k_ ≠ aC))) fun _ hk => hk.2) (fun _ h_ => h_.1)))) (Kd.R_base bA) hb); replace aG := ak (blk_below (g := aC) (o := .cells #[.int .u64 ((rd_T85 l0 aA).f0), .int .i64 ((rd_T85 l0 aA).f1)] 85 (0, 0)) (by exact pq (blk_put (blk_put (pk aG.out) 0 _ rfl) 1 _ rfl)) hb); replace HB := ak (below_step (ua aH.out HB.out) hb); (try clear hb); (try clear hb2); (try clear hk); (try clear hi); (try clear bA)))
     go_roundg k1
     case measure => have := aV.out; omega
     case rel => exact ⟨(aN), (wrap64 (aA + 1)), es, H', ⟨by have := aV.out; omega⟩, ⟨pR (Kd.R_mono aU.out (fun _ hk => trivial))⟩, ⟨ua aH.out HB.out⟩⟩
   ·rw [if_neg c3] at H
    have a0 : decide (aA < (l0.length : Int)) = false := decide_eq_false c3
    clear c3
    obtain rfl := Option.some.inj H
    go_wp2
    go_ret
    exact ⟨_, by first | rfl | (simp [errW_none, errW_some] <;> rfl) | (simp [*, errW_none, errW_some] <;> rfl), pR HO_5.out, pB HB.out⟩

end Go.Proofs.Ytnpmjboofmdflaa.PA
