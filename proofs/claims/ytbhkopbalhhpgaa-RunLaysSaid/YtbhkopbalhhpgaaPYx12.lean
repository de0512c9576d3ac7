-- Made by a program of this workplace out of the translation (wip/tools in the repo). Not trusted: Lean checks it.
import Derived.Test.YtbhkopbalhhpgaaPYx0
import Derived.Test.YtbhkopbalhhpgaaCb
import Derived.Test.YtbhkopbalhhpgaaSq
import Derived.Test.YtbhkopbalhhpgaaSt
import Derived.Test.YtbhkopbalhhpgaaPYx3
import Derived.Test.YtbhkopbalhhpgaaPYx8
import Derived.Test.YtbhkopbalhhpgaaPYx9
import Derived.Test.YtbhkopbalhhpgaaPYx10
import Derived.Test.YtbhkopbalhhpgaaPYx11
namespace Go.Proofs.Ytbhkopbalhhpgaa.PY
open Go.RowKit Go.Proofs.YtbhkopbalhhpgaaW.PrintWords Go.Proofs.YtbhkopbalhhpgaaW.PrintLast Go.Proofs.YtbhkopbalhhpgaaW.PrintMore Go.Proofs.Ytbhkopbalhhpgaa
attribute [local go_sem] max2_int min2_int max_two min_two max_three min_three max_four min_four   -- for this text's walks alone
set_option linter.unusedVariables false
set_option linter.unusedSimpArgs false

/-! ### run_Lay: function 17 -/
set_option maxHeartbeats 8000000 in
set_option maxRecDepth 100000 in
theorem run_Lay.calls (k : Nat) (aY : Nat → Prop) (b0 : Option Addr) (b1 : Nat) (bA : List (S38)) (bG : Int) (bH : Int) (bI : Bool) (a1 : ByteArray) (a2 : ByteArray) (r1 : List (S38)) (r2 : Int) (r3 : Int) (r4 : Bool) (r5 : Int) (w : World) (fB : Kd.V k38 38 w w.heap.size (fun k_ => aY k_) (.slice b0 bA.length b1) bA) (h : run_Lay.f k bA bG bH bI a1 a2 = some (r1, r2, r3, r4, r5)) :
  Calls Try.prog 17 #[.agg #[.slice b0 bA.length b1, .int .i64 bG, .int .i64 bH, .bool bI], .string a1, .string a2] w fun e w' => ∃ v0_ : Value, e = .returned (.tuple #[.agg #[v0_, .int .i64 r2, .int .i64 r3, .bool r4], .int .i64 r5]) ∧ Kd.V k38 38 w' w.heap.size (fun k_ => (aY k_ ∨ w.heap.size ≤ k_)) v0_ r1 ∧ Below w.heap.size w w' := by
 have lK := Try.underlying33
 have lL := Try.underlying38
 have aN := ak (show Kd.V k38 38 w w.heap.size (fun k_ => (aY k_ ∨ w.heap.size ≤ k_)) (.slice b0 bA.length b1) bA from Kd.V_mono fB (fun k_ hk => .inl hk))
 have HB := ak (Below.refl w.heap.size w)
 have H : (if 2 + a1.size ≤ 9223372036854775807 then ((disk_Find.f bA bG bH bI ((⟨#[110, 46]⟩ : ByteArray) ++ a1)).bind fun bt267 => (if bt267.2.2.2 = true then ((disk_Delete.f bA bG bH bI ((⟨#[110, 46]⟩ : ByteArray) ++ a1)).bind fun bt272 => (if bt272.2.2.2.2 = 0 then (run_Lay.j0 k a1 a2 ((⟨#[110, 46]⟩ : ByteArray) ++ a1) bt272.1 bt272.2.1 bt272.2.2.1 bt272.2.2.2.1) else (some (bt272.1, bt272.2.1, bt272.2.2.1, bt272.2.2.2.1, bt272.2.2.2.2)))) else (run_Lay.j0 k a1 a2 ((⟨#[110, 46]⟩ : ByteArray) ++ a1) bA bG bH bI))) else (none)) = some (r1, r2, r3, r4, r5) := h
 clear h
 have c4 : 2 + a1.size ≤ 9223372036854775807 := Decidable.byContradiction fun q => by rw [if_neg q] at H; exact absurd H (by simp)
 rw [if_pos c4] at H
 have jM := eq_true c4
 have jN : decide (2 + a1.size ≤ 9223372036854775807) = true := decide_eq_true c4
 try have jO : (9223372036854775807 < 2 + a1.size) = False := eq_false (Nat.not_lt.2 c4)
 replace H := Option.bind_eq_some_iff.mp H
 obtain ⟨⟨bQ, bR, bS, eU⟩, j5, H⟩ := H
 replace H : (if eU = true then ((disk_Delete.f bA bG bH bI ((⟨#[110, 46]⟩ : ByteArray) ++ a1)).bind fun bt272 => (if bt272.2.2.2.2 = 0 then (run_Lay.j0 k a1 a2 ((⟨#[110, 46]⟩ : ByteArray) ++ a1) bt272.1 bt272.2.1 bt272.2.2.1 bt272.2.2.2.1) else (some (bt272.1, bt272.2.1, bt272.2.2.1, bt272.2.2.2.1, bt272.2.2.2.2)))) else (run_Lay.j0 k a1 a2 ((⟨#[110, 46]⟩ : ByteArray) ++ a1) bA bG bH bI)) = some (r1, r2, r3, r4, r5) := H
 have A5 := ak j5
 clear j5
 have jP := ak H
 clear H
 go_enter Try.func17, Try.ntmps17
 go_upto_if 22 with (first | ((with_reducible refine gate_dst (N := 3) rfl ?_); refine box_event ?hg (N := 3) ?hd (cs := #[.slice b0 bA.length b1, .int .i64 bG, .int .i64 bH, .bool bI]) (t := 33) ?hr ?_; (case hd => rfl); (case hg => rfl); (case hr => first | (go_simp; done) | (go_simp; rfl)); intro aG hg w7 hbox hb; obtain ⟨n_, aI⟩ := Cb.bx (pB HB.out) hg hb; have j6 := aI; have aA := ak (hbox); replace aN := ak (Kd.V_below (Kd.V_elderB (pV aN.out) aG (Nat.le_of_eq hg.symm)) hb); replace HB := n_; clear n_; clear hb hbox hg) | ((with_reducible refine gate_dst (N := 6) rfl ?_); refine box_event ?hg (N := 6) ?hd (cs := #[.slice none 0 0, .int .i64 0, .int .i64 0, .bool false]) (t := 33) ?hr ?_; (case hd => rfl); (case hg => rfl); (case hr => first | (go_simp; done) | (go_simp; rfl)); intro aH hg w8 hbox hb; obtain ⟨n_, aJ⟩ := Cb.bx (by repeat (first | (with_reducible first | exact HB.out | apply ba | apply bn | apply bd | refine bs ?_ aI.out) | exact HB.out)) hg hb; have j7 := aJ; obtain ⟨aZ, aQ⟩ := Cb.nb hg aA.out; have aD := ak (hbox); replace aN := ak (Kd.V_below (Kd.V_elderB (pV aN.out) aH (Nat.le_of_eq hg.symm)) hb); replace aA := ak (blk_below aA.out hb); replace HB := n_; clear n_; clear hb hbox hg; have lM := aZ.out; have lN := aQ.out; obtain ⟨cA, cB, cC, cD⟩ := Cb.c4 aA.out; obtain ⟨cE, cF, cG, cH⟩ := Cb.f4 aA.out) | ((with_reducible refine gate_callee (f := 38) rfl ?_); refine goesL_ (some 19) rfl rfl Try.func38 (by kernel_rfl) rfl #[.agg #[.slice b0 bA.length b1, .int .i64 bG, .int .i64 bH, .bool bI], .string ((⟨#[110, 46]⟩ : ByteArray) ++ a1)] rfl (by (try simp only [List.map_toArray, List.map_cons, List.map_nil]); first | done | rfl | (simp only [List.length_drop, List.length_take]; rfl)) ?_; (with_reducible refine (disk_Find.calls _ _ bA bG bH bI ((⟨#[110, 46]⟩ : ByteArray) ++ a1) bQ bR bS eU _ ?side1 ?side2 A5.out).mono ?_); (case side1 => repeat (first | exact (Kd.V_reads' aN.out).2.2 | (with_reducible refine Kd.C_alloc ?_ _) | (with_reducible refine Kd.C_drewN ?_ _) | (with_reducible refine Kd.C_drew ?_))); (case side2 => exact (Kd.V_reads' aN.out).2.1); rintro e l5 ⟨rfl, hb⟩; refine ⟨_, rfl, ?_⟩; replace aN := ak (Kd.V_below (pV aN.out) hb); replace aA := ak (blk_below aA.out hb); replace aD := ak (blk_below aD.out hb); replace HB := ak (below_step (by repeat (first | (with_reducible first | exact HB.out | apply ba | apply bn | apply bd | refine bs ?_ aI.out | refine bs ?_ aJ.out) | exact HB.out)) hb); (try clear hb); (try clear hb2); (try clear hk); (try clear hi)) | ((with_reducible refine gate_dst (N := 9) rfl ?_); refine box_event ?hg (N := 9) ?hd (cs := #[.string (⟨#[]⟩ : ByteArray), .string (⟨#[]⟩ : ByteArray), .string (⟨#[]⟩ : ByteArray)]) (t := 38) ?hr ?_; (case hd => rfl); (case hg => rfl); (case hr => first | (go_simp; done) | (go_simp; rfl)); intro aK hg lO hbox hb; obtain ⟨n_, aM⟩ := Cb.bx (by repeat (first | (with_reducible first | exact HB.out | apply ba | apply bn | apply bd | refine bs ?_ aI.out | refine bs ?_ aJ.out) | exact HB.out)) hg hb; have j8 := aM; obtain ⟨a6, aT⟩ := Cb.nb hg aA.out; obtain ⟨bB, a0⟩ := Cb.nb hg aD.out; have aE := ak (hbox); replace aN := ak (Kd.V_below (Kd.V_elderB (pV aN.out) aK (Nat.le_of_eq hg.symm)) hb); replace aA := ak (blk_below aA.out hb); replace aD := ak (blk_below aD.out hb); replace HB := n_; clear n_; clear hb hbox hg; have j9 := aT.out; have kA := a6.out; have kB := a0.out; have kC := bB.out; obtain ⟨cI, cJ, cK⟩ := Cb.c3 aE.out; obtain ⟨cL, cM, cN⟩ := Cb.f3 aE.out) | ((with_reducible refine gate_store (t := 38) (p := 9) rfl ?_); refine store_event (t := 38) (p := 9) (v := ?vo_w16) (w1 := (((lO.setCell ⟨aK, 0, none⟩ (.string bQ)).setCell ⟨aK, 1, none⟩ (.string bR)).setCell ⟨aK, 2, none⟩ (.string bS))) ?hg ?ho ?hn ?hr ?_; (case ho => rfl); (case hg => rfl); (case hn => rfl); (case hr => first | (go_simp; done) | (go_simp; rfl)); intro l6 hw; replace aN := vg3 (ok' := fun k_ => (aY k_ ∨ w.heap.size ≤ k_) ∧ k_ ≠ aG ∧ k_ ≠ aH ∧ k_ ≠ aK) hw aN.out (fun _ hk => hk.2) fun _ hk => ⟨hk.1.1.1, ⟨hk.1.1.2, ⟨hk.1.2, hk.2⟩⟩⟩; replace aA := bf3 hw a6.out aA.out; replace aD := bf3 hw bB.out aD.out; replace aE := bp3 hw aE.out; replace HB := bw3 hw HB.out aM.out; clear hw))
 (try simp only [Act.put, List.setIfInBounds_toArray, List.set_cons_zero, List.set_cons_succ])
 go_cut [] (fun wc => ∃ (kq : Nat) (aU : List (S38)) (aV : Int) (aW : Int) (aX : Bool) (a3 : Int) (a4 : Int) (a5 : Bool) (u266000 : Value), Aside0 (run_Lay.j0 kq a1 a2 ((⟨#[110, 46]⟩ : ByteArray) ++ a1) aU aV aW aX = some (r1, r2, r3, r4, r5)) ∧ Aside0 (kq ≤ k) ∧ Aside0 (Kd.V k38 38 wc w.heap.size (fun k_ => (aY k_ ∨ w.heap.size ≤ k_) ∧ k_ ≠ aG ∧ k_ ≠ aH ∧ k_ ≠ aK) u266000 aU) ∧ Aside0 (wc.heap[aG]? = some (.cells #[u266000, .int .i64 aV, .int .i64 aW, .bool aX] 33 (0, 0))) ∧ Aside0 (wc.heap[aH]? = some (.cells #[(.slice none 0 0), .int .i64 a3, .int .i64 a4, .bool a5] 33 (0, 0))) ∧ Aside0 (wc.heap[aK]? = some (.cells #[.string bQ, .string bR, .string bS] 38 (0, 0))) ∧ Aside0 (Below w.heap.size w wc))
 case first =>
  have H := jP.out
  clear jP
  by_cases fC : eU = true
  ·subst fC
   have H1 : ((disk_Delete.f bA bG bH bI ((⟨#[110, 46]⟩ : ByteArray) ++ a1)).bind fun bt272 => (if bt272.2.2.2.2 = 0 then (run_Lay.j0 k a1 a2 ((⟨#[110, 46]⟩ : ByteArray) ++ a1) bt272.1 bt272.2.1 bt272.2.2.1 bt272.2.2.2.1) else (some (bt272.1, bt272.2.1, bt272.2.2.1, bt272.2.2.2.1, bt272.2.2.2.2)))) = some (r1, r2, r3, r4, r5) := by rw [if_pos rfl] at H; exact H
   clear H
   have H := H1
   clear H1
   replace H := Option.bind_eq_some_iff.mp H
   obtain ⟨⟨bT, b2, b3, b4, b7⟩, fD, H⟩ := H
   replace H : (if b7 = 0 then (run_Lay.j0 k a1 a2 ((⟨#[110, 46]⟩ : ByteArray) ++ a1) bT b2 b3 b4) else (some (bT, b2, b3, b4, b7))) = some (r1, r2, r3, r4, r5) := H
   have kD := ak fD
   clear fD
   by_cases eS : b7 = 0
   ·rw [if_pos eS] at H
    have b6 : (b7 == 0) = true := beq_iff_eq.mpr eS
    have eT : (b7 != 0) = false := bne_eq_false_iff_eq.mpr eS
    clear eS
    (first | rw [b6] | (simp only [i64_w, i32_w]; rw [b6]) | skip)
    have H' := ak H
    clear H
    have kE := aZ.out
    have kF := aQ.out
    have kG := a6.out
    have kH := aT.out
    obtain ⟨cO, cP, cQ, cR⟩ := Cb.c4 aA.out
    obtain ⟨cS, cT, cU, cV⟩ := Cb.f4 aA.out
    go_wp2_with (first | ((with_reducible refine gate_callee (f := 39) rfl ?_); refine goesL_ (some 26) rfl rfl Try.func39 (by kernel_rfl) rfl #[.agg #[.slice b0 bA.length b1, .int .i64 bG, .int .i64 bH, .bool bI], .string ((⟨#[110, 46]⟩ : ByteArray) ++ a1)] rfl (by (try simp only [List.map_toArray, List.map_cons, List.map_nil]); first | done | rfl | (simp only [List.length_drop, List.length_take]; rfl)) ?_; (with_reducible refine (disk_Delete.calls (fun k_ => ((aY k_ ∨ w.heap.size ≤ k_) ∧ (k_ ≠ aG ∧ (k_ ≠ aH ∧ k_ ≠ aK)))) _ _ bA bG bH bI ((⟨#[110, 46]⟩ : ByteArray) ++ a1) bT b2 b3 b4 b7 _ ?side1 kD.out).mono ?_); (case side1 => exact aN.out); rintro e l7 ⟨jQ, rfl, bU, hb⟩; refine ⟨_, rfl, ?_⟩; have a7 := ak (Kd.V_lower (Kd.V_mono (ok' := fun k_ => (aY k_ ∨ w.heap.size ≤ k_) ∧ k_ ≠ aG ∧ k_ ≠ aH ∧ k_ ≠ aK) bU (fun k_ hk_ => ⟨Or.elim hk_ (fun hs_ => hs_.1) (fun hn_ => (.inr (Nat.le_trans (below_size (by repeat (first | (with_reducible first | exact HB.out | apply ba | apply bn | apply bd | refine bs ?_ aI.out | refine bs ?_ aJ.out | refine bs ?_ aM.out) | exact HB.out))) hn_))), Or.elim hk_ (fun hs_ => hs_.2.1) (fun hn_ => (Kd.freshB (g := aG) (o := .cells #[.slice b0 bA.length b1, .int .i64 bG, .int .i64 bH, .bool bI] 33 (0, 0)) (pk aA.out) k_ hn_)), Or.elim hk_ (fun hs_ => hs_.2.2.1) (fun hn_ => (Kd.freshB (g := aH) (o := .cells #[.slice none 0 0, .int .i64 0, .int .i64 0, .bool false] 33 (0, 0)) (pk aD.out) k_ hn_)), Or.elim hk_ (fun hs_ => hs_.2.2.2) (fun hn_ => (Kd.freshB (g := aK) (o := .cells #[.string bQ, .string bR, .string bS] 38 (0, 0)) (pk aE.out) k_ hn_))⟩)) (below_size (by repeat (first | (with_reducible first | exact HB.out | apply ba | apply bn | apply bd | refine bs ?_ aI.out | refine bs ?_ aJ.out | refine bs ?_ aM.out) | exact HB.out)))); replace aN := ak (Kd.V_below (pV aN.out) hb); replace aA := ak (blk_below aA.out hb); replace aD := ak (blk_below aD.out hb); replace aE := ak (blk_below aE.out hb); replace HB := ak (below_step (by repeat (first | (with_reducible first | exact HB.out | apply ba | apply bn | apply bd | refine bs ?_ aI.out | refine bs ?_ aJ.out | refine bs ?_ aM.out) | exact HB.out)) hb); (try clear hb); (try clear hb2); (try clear hk); (try clear hi); (try clear bU)) | ((with_reducible refine gate_dst (N := 11) rfl ?_); refine box_event ?hg (N := 11) ?hd (cs := #[.slice none 0 0, .int .i64 0, .int .i64 0, .bool false]) (t := 33) ?hr ?_; (case hd => rfl); (case hg => rfl); (case hr => first | (go_simp; done) | (go_simp; rfl)); intro a8 hg lP hbox hb; obtain ⟨n_, bV⟩ := Cb.bx (by repeat (first | (with_reducible first | exact HB.out | apply ba | apply bn | apply bd | refine bs ?_ aI.out | refine bs ?_ aJ.out | refine bs ?_ aM.out) | exact HB.out)) hg hb; have fE := bV; obtain ⟨bD, bJ⟩ := Cb.nb hg aA.out; obtain ⟨bE, bK⟩ := Cb.nb hg aD.out; obtain ⟨bF, bP⟩ := Cb.nb hg aE.out; have a9 := ak (hbox); replace aN := ak (Kd.V_below (Kd.V_elderB (pV aN.out) a8 (Nat.le_of_eq hg.symm)) hb); replace a7 := ak (Kd.V_below (Kd.V_elderB (pV a7.out) a8 (Nat.le_of_eq hg.symm)) hb); replace aA := ak (blk_below aA.out hb); replace aD := ak (blk_below aD.out hb); replace aE := ak (blk_below aE.out hb); replace HB := n_; clear n_; clear hb hbox hg; obtain ⟨eV, eW, jR⟩ := Kd.V_slice a7.out; subst jR; have kI := bJ.out; have kJ := bD.out; have kK := bK.out; have kL := bE.out; have kM := bP.out; have kN := bF.out; obtain ⟨cW, cX, cY, cZ⟩ := Cb.c4 a9.out; obtain ⟨c0, c8, dA, dB⟩ := Cb.f4 a9.out) | ((with_reducible refine gate_store (t := 33) (p := 11) rfl ?_); refine store_event (t := 33) (p := 11) (v := ?vo_w30) (w1 := ((((lP.setCell ⟨a8, 0, none⟩ (.slice eV bT.length eW)).setCell ⟨a8, 1, none⟩ (.int .i64 b2)).setCell ⟨a8, 2, none⟩ (.int .i64 b3)).setCell ⟨a8, 3, none⟩ (.bool b4))) ?hg ?ho ?hn ?hr ?_; (case ho => rfl); (case hg => rfl); (case hn => rfl); (case hr => first | (go_simp; done) | (go_simp; rfl)); intro lQ hw; replace aN := vg4 (ok' := fun k_ => (aY k_ ∨ w.heap.size ≤ k_) ∧ k_ ≠ aG ∧ k_ ≠ aH ∧ k_ ≠ aK ∧ k_ ≠ a8) hw aN.out (fun _ hk => hk.2) fun _ hk => ⟨hk.1.1, ⟨hk.1.2.1, ⟨hk.1.2.2.1, ⟨hk.1.2.2.2, hk.2⟩⟩⟩⟩; replace a7 := vg4 (ok' := fun k_ => (aY k_ ∨ w.heap.size ≤ k_) ∧ k_ ≠ aG ∧ k_ ≠ aH ∧ k_ ≠ aK ∧ k_ ≠ a8) hw a7.out (fun _ hk => hk.2) fun _ hk => ⟨hk.1.1, ⟨hk.1.2.1, ⟨hk.1.2.2.1, ⟨hk.1.2.2.2, hk.2⟩⟩⟩⟩; replace aA := bf4 hw bD.out aA.out; replace aD := bf4 hw bE.out aD.out; replace aE := bf4 hw bF.out aE.out; replace a9 := bp4 hw a9.out; replace HB := bw4 hw HB.out bV.out; clear hw; obtain ⟨dC, dD, dE, dF⟩ := Cb.c4 a9.out; obtain ⟨dG, dH, dI, dJ⟩ := Cb.f4 a9.out; obtain ⟨dK, dL, dM, dN⟩ := Cb.c4 aA.out; obtain ⟨dO, dP, dQ, dR⟩ := Cb.f4 aA.out) | ((with_reducible refine gate_store (t := 33) (p := 3) rfl ?_); refine store_event (t := 33) (p := 3) (v := ?vo_w33) (w1 := ((((lQ.setCell ⟨aG, 0, none⟩ (.slice eV bT.length eW)).setCell ⟨aG, 1, none⟩ (.int .i64 b2)).setCell ⟨aG, 2, none⟩ (.int .i64 b3)).setCell ⟨aG, 3, none⟩ (.bool b4))) ?hg ?ho ?hn ?hr ?_; (case ho => rfl); (case hg => rfl); (case hn => rfl); (case hr => first | (go_simp; done) | (go_simp; rfl)); intro l8 hw; replace aN := vf4 hw aN.out fun _ hk => hk.2.1; replace a7 := vf4 hw a7.out fun _ hk => hk.2.1; replace aA := bp4 hw aA.out; replace aD := bf4 hw aQ.out aD.out; replace aE := bf4 hw aT.out aE.out; replace a9 := bf4 hw bJ.out a9.out; replace HB := bw4 hw HB.out aI.out; clear hw))
    go_meet
    case rel => exact ⟨_, (bT), (b2), (b3), (b4), (0), (0), (false), (.slice eV bT.length eW), H', ⟨by first | omega | exact Nat.le_refl _⟩, ⟨pV (Kd.V_mono a7.out (fun _ hk => ⟨hk.1, ⟨hk.2.1, ⟨hk.2.2.1, hk.2.2.2.1⟩⟩⟩))⟩, ⟨pk aA.out⟩, ⟨pk aD.out⟩, ⟨pk aE.out⟩, ⟨by repeat (first | (with_reducible first | exact HB.out | apply ba | apply bn | apply bd | refine bs ?_ aI.out | refine bs ?_ aJ.out | refine bs ?_ aM.out | refine bs ?_ bV.out) | exact HB.out)⟩⟩
   ·rw [if_neg eS] at H
    have b6 : (b7 == 0) = false := beq_eq_false_iff_ne.mpr eS
    have eT : (b7 != 0) = true := bne_iff_ne.mpr eS
    (first | rw [b6] | (simp only [i64_w, i32_w]; rw [b6]) | skip)
    simp only [Option.some.injEq, Prod.mk.injEq] at H
    obtain ⟨rfl, rfl, rfl, rfl, rfl⟩ := H
    have kO := aZ.out
    have kP := aQ.out
    have kQ := a6.out
    have kR := aT.out
    obtain ⟨dS, dT, dU, dV⟩ := Cb.c4 aA.out
    obtain ⟨dW, dX, dY, dZ⟩ := Cb.f4 aA.out
    go_wp2_with (first | ((with_reducible refine gate_callee (f := 39) rfl ?_); refine goesL_ (some 26) rfl rfl Try.func39 (by kernel_rfl) rfl #[.agg #[.slice b0 bA.length b1, .int .i64 bG, .int .i64 bH, .bool bI], .string ((⟨#[110, 46]⟩ : ByteArray) ++ a1)] rfl (by (try simp only [List.map_toArray, List.map_cons, List.map_nil]); first | done | rfl | (simp only [List.length_drop, List.length_take]; rfl)) ?_; (with_reducible refine (disk_Delete.calls (fun k_ => ((aY k_ ∨ w.heap.size ≤ k_) ∧ (k_ ≠ aG ∧ (k_ ≠ aH ∧ k_ ≠ aK)))) _ _ bA bG bH bI ((⟨#[110, 46]⟩ : ByteArray) ++ a1) bT b2 b3 b4 b7 _ ?side1 kD.out).mono ?_); (case side1 => exact aN.out); rintro e l9 ⟨jQ, rfl, bU, hb⟩; refine ⟨_, rfl, ?_⟩; have a7 := ak (Kd.V_lower (Kd.V_mono (ok' := fun k_ => (aY k_ ∨ w.heap.size ≤ k_) ∧ k_ ≠ aG ∧ k_ ≠ aH ∧ k_ ≠ aK) bU (fun k_ hk_ => ⟨Or.elim hk_ (fun hs_ => hs_.1) (fun hn_ => (.inr (Nat.le_trans (below_size (by repeat (first | (with_reducible first | exact HB.out | apply ba | apply bn | apply bd | refine bs ?_ aI.out | refine bs ?_ aJ.out | refine bs ?_ aM.out) | exact HB.out))) hn_))), Or.elim hk_ (fun hs_ => hs_.2.1) (fun hn_ => (Kd.freshB (g := aG) (o := .cells #[.slice b0 bA.length b1, .int .i64 bG, .int .i64 bH, .bool bI] 33 (0, 0)) (pk aA.out) k_ hn_)), Or.elim hk_ (fun hs_ => hs_.2.2.1) (fun hn_ => (Kd.freshB (g := aH) (o := .cells #[.slice none 0 0, .int .i64 0, .int .i64 0, .bool false] 33 (0, 0)) (pk aD.out) k_ hn_)), Or.elim hk_ (fun hs_ => hs_.2.2.2) (fun hn_ => (Kd.freshB (g := aK) (o := .cells #[.string bQ, .string bR, .string bS] 38 (0, 0)) (pk aE.out) k_ hn_))⟩)) (below_size (by repeat (first | (with_reducible first | exact HB.out | apply ba | apply bn | apply bd | refine bs ?_ aI.out | refine bs ?_ aJ.out | refine bs ?_ aM.out) | exact HB.out)))); replace aN := ak (Kd.V_below (pV aN.out) hb); replace aA := ak (blk_below aA.out hb); replace aD := ak (blk_below aD.out hb); replace aE := ak (blk_below aE.out hb); replace HB := ak (below_step (by repeat (first | (with_reducible first | exact HB.out | apply ba | apply bn | apply bd | refine bs ?_ aI.out | refine bs ?_ aJ.out | refine bs ?_ aM.out) | exact HB.out)) hb); (try clear hb); (try clear hb2); (try clear hk); (try clear hi); (try clear bU)) | ((with_reducible refine gate_dst (N := 11) rfl ?_); refine box_event ?hg (N := 11) ?hd (cs := #[.slice none 0 0, .int .i64 0, .int .i64 0, .bool false]) (t := 33) ?hr ?_; (case hd => rfl); (case hg => rfl); (case hr => first | (go_simp; done) | (go_simp; rfl)); intro a8 hg lR hbox hb; obtain ⟨n_, bV⟩ := Cb.bx (by repeat (first | (with_reducible first | exact HB.out | apply ba | apply bn | apply bd | refine bs ?_ aI.out | refine bs ?_ aJ.out | refine bs ?_ aM.out) | exact HB.out)) hg hb; have fE := bV; obtain ⟨bD, bJ⟩ := Cb.nb hg aA.out; obtain ⟨bE, bK⟩ := Cb.nb hg aD.out; obtain ⟨bF, bP⟩ := Cb.nb hg aE.out; have a9 := ak (hbox); replace aN := ak (Kd.V_below (Kd.V_elderB (pV aN.out) a8 (Nat.le_of_eq hg.symm)) hb); replace a7 := ak (Kd.V_below (Kd.V_elderB (pV a7.out) a8 (Nat.le_of_eq hg.symm)) hb); replace aA := ak (blk_below aA.out hb); replace aD := ak (blk_below aD.out hb); replace aE := ak (blk_below aE.out hb); replace HB := n_; clear n_; clear hb hbox hg; obtain ⟨eX, eY, jS⟩ := Kd.V_slice a7.out; subst jS; have kS := bJ.out; have kT := bD.out; have kU := bK.out; have kV := bE.out; have kW := bP.out; have kX := bF.out; obtain ⟨d0, d1, d2, d3⟩ := Cb.c4 a9.out; obtain ⟨d4, d5, d6, d7⟩ := Cb.f4 a9.out) | ((with_reducible refine gate_store (t := 33) (p := 11) rfl ?_); refine store_event (t := 33) (p := 11) (v := ?vo_w44) (w1 := ((((lR.setCell ⟨a8, 0, none⟩ (.slice eX bT.length eY)).setCell ⟨a8, 1, none⟩ (.int .i64 b2)).setCell ⟨a8, 2, none⟩ (.int .i64 b3)).setCell ⟨a8, 3, none⟩ (.bool b4))) ?hg ?ho ?hn ?hr ?_; (case ho => rfl); (case hg => rfl); (case hn => rfl); (case hr => first | (go_simp; done) | (go_simp; rfl)); intro lS hw; replace aN := vg4 (ok' := fun k_ => (aY k_ ∨ w.heap.size ≤ k_) ∧ k_ ≠ aG ∧ k_ ≠ aH ∧ k_ ≠ aK ∧ k_ ≠ a8) hw aN.out (fun _ hk => hk.2) fun _ hk => ⟨hk.1.1, ⟨hk.1.2.1, ⟨hk.1.2.2.1, ⟨hk.1.2.2.2, hk.2⟩⟩⟩⟩; replace a7 := vg4 (ok' := fun k_ => (aY k_ ∨ w.heap.size ≤ k_) ∧ k_ ≠ aG ∧ k_ ≠ aH ∧ k_ ≠ aK ∧ k_ ≠ a8) hw a7.out (fun _ hk => hk.2) fun _ hk => ⟨hk.1.1, ⟨hk.1.2.1, ⟨hk.1.2.2.1, ⟨hk.1.2.2.2, hk.2⟩⟩⟩⟩; replace aA := bf4 hw bD.out aA.out; replace aD := bf4 hw bE.out aD.out; replace aE := bf4 hw bF.out aE.out; replace a9 := bp4 hw a9.out; replace HB := bw4 hw HB.out bV.out; clear hw; obtain ⟨d8, d9, eA, eB⟩ := Cb.c4 a9.out; obtain ⟨eC, eD, eE, eF⟩ := Cb.f4 a9.out; have kY := bB.out; have kZ := a0.out; obtain ⟨eG, eH, eI, eJ⟩ := Cb.c4 aD.out; obtain ⟨eK, eL, eM, eN⟩ := Cb.f4 aD.out) | ((with_reducible refine gate_store (t := 33) (p := 6) rfl ?_); refine store_event (t := 33) (p := 6) (v := ?vo_w48) (w1 := ((((lS.setCell ⟨aH, 0, none⟩ (.slice eX bT.length eY)).setCell ⟨aH, 1, none⟩ (.int .i64 b2)).setCell ⟨aH, 2, none⟩ (.int .i64 b3)).setCell ⟨aH, 3, none⟩ (.bool b4))) ?hg ?ho ?hn ?hr ?_; (case ho => rfl); (case hg => rfl); (case hn => rfl); (case hr => first | (go_simp; done) | (go_simp; rfl)); intro mA hw; replace aN := vf4 hw aN.out fun _ hk => hk.2.2.1; replace a7 := vf4 hw a7.out fun _ hk => hk.2.2.1; replace aA := bf4 hw aZ.out aA.out; replace aD := bp4 hw aD.out; replace aE := bf4 hw a0.out aE.out; replace a9 := bf4 hw bK.out a9.out; replace HB := bw4 hw HB.out aJ.out; clear hw))
    refine bodyPost_ret (results_ct rfl _ _ aH 33 #[.slice eX bT.length eY, .int .i64 b2, .int .i64 b3, .bool b4] (0, 0) _ rfl (pk aD.out) Try.underlying33 rfl (by kernel_rfl)) rfl ?_
    exact ⟨_, by first | rfl | (simp [errW_none, errW_some] <;> rfl) | (simp [*, errW_none, errW_some] <;> rfl), pV (Kd.V_mono a7.out (fun _ hk => hk.1)), by repeat (first | (with_reducible first | exact HB.out | apply ba | apply bn | apply bd | refine bs ?_ aI.out | refine bs ?_ aJ.out | refine bs ?_ aM.out | refine bs ?_ bV.out) | exact HB.out)⟩
  ·replace fC := Bool.eq_false_iff.mpr fC
   subst fC
   have H1 : (run_Lay.j0 k a1 a2 ((⟨#[110, 46]⟩ : ByteArray) ++ a1) bA bG bH bI) = some (r1, r2, r3, r4, r5) := by rw [if_neg (show ¬ (false = true) by decide)] at H; exact H
   clear H
   have H := H1
   clear H1
   have H' := ak H
   clear H
   go_wp2
   go_meet
   case rel => exact ⟨_, (bA), (bG), (bH), (bI), (0), (0), (false), (.slice b0 bA.length b1), H', ⟨by first | omega | exact Nat.le_refl _⟩, ⟨pV aN.out⟩, ⟨pk aA.out⟩, ⟨pk aD.out⟩, ⟨pk aE.out⟩, ⟨by repeat (first | (with_reducible first | exact HB.out | apply ba | apply bn | apply bd | refine bs ?_ aI.out | refine bs ?_ aJ.out | refine bs ?_ aM.out) | exact HB.out)⟩⟩
 case rest =>
  clear jP
  try clear c1 c2 p2 c3 c4 jM jN jO c9 c13 c14 fC eS b6 eT c20 c21 c26 c27 c28 c34 c35 c38 c39 c40 c41 c42 c46 cA cB cC cD cI cJ cK cO cP cQ cR cW cX cY cZ dC dD dE dF dK dL dM dN dS dT dU dV d0 d1 d2 d3 d8 d9 eA eB eG eH eI eJ cE cF cG cH cL cM cN cS cT cU cV c0 c8 dA dB dG dH dI dJ dO dP dQ dR dW dX dY dZ d4 d5 d6 d7 eC eD eE eF eK eL eM eN
  obtain ⟨kq, aU, aV, aW, aX, a3, a4, a5, u266000, HA, mB, aC, aA, aD, aE, HB⟩ := hcut
  cases kq with
  | zero => exact absurd HA.out (by simp [run_Lay.j0])
  | succ kj5 =>
   have H := HA.out
   clear HA
   simp only [run_Lay.j0] at H
   replace H := Option.bind_eq_some_iff.mp H
   obtain ⟨⟨bL, bM, bN, bO, b5⟩, fF, H⟩ := H
   replace H : (if b5 = 0 then ((disk_Sync.f bL bM bN bO ((⟨#[110, 46]⟩ : ByteArray) ++ a1)).bind fun bt287 => (if bt287.2.2.2.2 = 0 then ((disk_Rename.f bt287.1 bt287.2.1 bt287.2.2.1 bt287.2.2.2.1 ((⟨#[110, 46]⟩ : ByteArray) ++ a1) a1).bind fun bt294 => (some (bt294.1, bt294.2.1, bt294.2.2.1, bt294.2.2.2.1, bt294.2.2.2.2))) else (some (bt287.1, bt287.2.1, bt287.2.2.1, bt287.2.2.2.1, bt287.2.2.2.2)))) else (some (bL, bM, bN, bO, b5))) = some (r1, r2, r3, r4, r5) := H
   have jT := ak fF
   clear fF
   by_cases eZ : b5 = 0
   ·rw [if_pos eZ] at H
    have fG : (b5 == 0) = true := beq_iff_eq.mpr eZ
    have fH : (b5 != 0) = false := bne_eq_false_iff_eq.mpr eZ
    clear eZ
    replace H := Option.bind_eq_some_iff.mp H
    obtain ⟨⟨bW, bX, bY, bZ, b8⟩, fI, H⟩ := H
    replace H : (if b8 = 0 then ((disk_Rename.f bW bX bY bZ ((⟨#[110, 46]⟩ : ByteArray) ++ a1) a1).bind fun bt294 => (some (bt294.1, bt294.2.1, bt294.2.2.1, bt294.2.2.2.1, bt294.2.2.2.2))) else (some (bW, bX, bY, bZ, b8))) = some (r1, r2, r3, r4, r5) := H
    have k0 := ak fI
    clear fI
    by_cases e0 : b8 = 0
    ·rw [if_pos e0] at H
     have fJ : (b8 == 0) = true := beq_iff_eq.mpr e0
     have fK : (b8 != 0) = false := bne_eq_false_iff_eq.mpr e0
     clear e0
     replace H := Option.bind_eq_some_iff.mp H
     obtain ⟨⟨eO, eP, eQ, eR, fL⟩, fM, H⟩ := H
     replace H : (some (eO, eP, eQ, eR, fL)) = some (r1, r2, r3, r4, r5) := H
     have lT := ak fM
     clear fM
     simp only [Option.some.injEq, Prod.mk.injEq] at H
     obtain ⟨rfl, rfl, rfl, rfl, rfl⟩ := H
     have k2 := aZ.out
     have k3 := aQ.out
     have k4 := a6.out
     have k5 := aT.out
     obtain ⟨f9, gA, gB, gC⟩ := Cb.c4 aA.out
     obtain ⟨gD, gE, gF, gG⟩ := Cb.f4 aA.out
     obtain ⟨fN, fO, jU⟩ := Kd.V_slice aC.out
     subst jU
     go_wp2_with (first | ((with_reducible refine gate_callee (f := 40) rfl ?_); refine goesL_ (some 38) rfl rfl Try.func40 (by kernel_rfl) rfl #[.agg #[.slice fN aU.length fO, .int .i64 aV, .int .i64 aW, .bool aX], .string ((⟨#[110, 46]⟩ : ByteArray) ++ a1), .string a2] rfl (by (try simp only [List.map_toArray, List.map_cons, List.map_nil]); first | done | rfl | (simp only [List.length_drop, List.length_take]; rfl)) ?_; (with_reducible refine (disk_Append.calls kj5 (fun k_ => ((aY k_ ∨ w.heap.size ≤ k_) ∧ (k_ ≠ aG ∧ (k_ ≠ aH ∧ k_ ≠ aK)))) _ _ aU aV aW aX ((⟨#[110, 46]⟩ : ByteArray) ++ a1) a2 bL bM bN bO b5 _ ?side1 jT.out).mono ?_); (case side1 => exact aC.out); rintro e lU ⟨fP, rfl, bU, hb⟩; refine ⟨_, rfl, ?_⟩; have aP := ak (Kd.V_lower (Kd.V_mono (ok' := fun k_ => (aY k_ ∨ w.heap.size ≤ k_) ∧ k_ ≠ aG ∧ k_ ≠ aH ∧ k_ ≠ aK) bU (fun k_ hk_ => ⟨Or.elim hk_ (fun hs_ => hs_.1) (fun hn_ => (.inr (Nat.le_trans (below_size (by repeat (first | (with_reducible first | exact HB.out | apply ba | apply bn | apply bd | refine bs ?_ aI.out | refine bs ?_ aJ.out | refine bs ?_ aM.out) | exact HB.out))) hn_))), Or.elim hk_ (fun hs_ => hs_.2.1) (fun hn_ => (Kd.freshB (g := aG) (o := .cells #[.slice fN aU.length fO, .int .i64 aV, .int .i64 aW, .bool aX] 33 (0, 0)) (pk aA.out) k_ hn_)), Or.elim hk_ (fun hs_ => hs_.2.2.1) (fun hn_ => (Kd.freshB (g := aH) (o := .cells #[.slice none 0 0, .int .i64 a3, .int .i64 a4, .bool a5] 33 (0, 0)) (pk aD.out) k_ hn_)), Or.elim hk_ (fun hs_ => hs_.2.2.2) (fun hn_ => (Kd.freshB (g := aK) (o := .cells #[.string bQ, .string bR, .string bS] 38 (0, 0)) (pk aE.out) k_ hn_))⟩)) (below_size (by repeat (first | (with_reducible first | exact HB.out | apply ba | apply bn | apply bd | refine bs ?_ aI.out | refine bs ?_ aJ.out | refine bs ?_ aM.out) | exact HB.out)))); replace aC := ak (Kd.V_below (pV aC.out) hb); replace aA := ak (blk_below aA.out hb); replace aD := ak (blk_below aD.out hb); replace aE := ak (blk_below aE.out hb); replace HB := ak (below_step (by repeat (first | (with_reducible first | exact HB.out | apply ba | apply bn | apply bd | refine bs ?_ aI.out | refine bs ?_ aJ.out | refine bs ?_ aM.out) | exact HB.out)) hb); (try clear hb); (try clear hb2); (try clear hk); (try clear hi); (try clear bU); obtain ⟨e1, e2, jV⟩ := Kd.V_slice aP.out; subst jV; obtain ⟨gH, gI, gJ, gK⟩ := Cb.c4 aA.out; obtain ⟨gL, gM, gN, gO⟩ := Cb.f4 aA.out) | ((with_reducible refine gate_store (t := 33) (p := 3) rfl ?_); refine store_event (t := 33) (p := 3) (v := ?vo_w61) (w1 := ((((lU.setCell ⟨aG, 0, none⟩ (.slice e1 bL.length e2)).setCell ⟨aG, 1, none⟩ (.int .i64 bM)).setCell ⟨aG, 2, none⟩ (.int .i64 bN)).setCell ⟨aG, 3, none⟩ (.bool bO))) ?hg ?ho ?hn ?hr ?_; (case ho => rfl); (case hg => rfl); (case hn => rfl); (case hr => first | (go_simp; done) | (go_simp; rfl)); intro mC hw; replace aC := vf4 hw aC.out fun _ hk => hk.2.1; replace aP := vf4 hw aP.out fun _ hk => hk.2.1; replace aA := bp4 hw aA.out; replace aD := bf4 hw aQ.out aD.out; replace aE := bf4 hw aT.out aE.out; replace HB := bw4 hw HB.out aI.out; clear hw; obtain ⟨gP, gQ, gR, gS⟩ := Cb.c4 aA.out; obtain ⟨gT, gU, gV, gW⟩ := Cb.f4 aA.out) | ((with_reducible refine gate_callee (f := 41) rfl ?_); refine goesL_ (some 48) rfl rfl Try.func41 (by kernel_rfl) rfl #[.agg #[.slice e1 bL.length e2, .int .i64 bM, .int .i64 bN, .bool bO], .string ((⟨#[110, 46]⟩ : ByteArray) ++ a1)] rfl (by (try simp only [List.map_toArray, List.map_cons, List.map_nil]); first | done | rfl | (simp only [List.length_drop, List.length_take]; rfl)) ?_; (with_reducible refine (disk_Sync.calls (fun k_ => ((aY k_ ∨ w.heap.size ≤ k_) ∧ (k_ ≠ aG ∧ (k_ ≠ aH ∧ k_ ≠ aK)))) _ _ bL bM bN bO ((⟨#[110, 46]⟩ : ByteArray) ++ a1) bW bX bY bZ b8 _ ?side1 k0.out).mono ?_); (case side1 => exact aP.out); rintro e lV ⟨jW, rfl, bU, hb⟩; refine ⟨_, rfl, ?_⟩; have bC := ak (Kd.V_lower (Kd.V_mono (ok' := fun k_ => (aY k_ ∨ w.heap.size ≤ k_) ∧ k_ ≠ aG ∧ k_ ≠ aH ∧ k_ ≠ aK) bU (fun k_ hk_ => ⟨Or.elim hk_ (fun hs_ => hs_.1) (fun hn_ => (.inr (Nat.le_trans (below_size (by repeat (first | (with_reducible first | exact HB.out | apply ba | apply bn | apply bd | refine bs ?_ aI.out | refine bs ?_ aJ.out | refine bs ?_ aM.out) | exact HB.out))) hn_))), Or.elim hk_ (fun hs_ => hs_.2.1) (fun hn_ => (Kd.freshB (g := aG) (o := .cells #[.slice e1 bL.length e2, .int .i64 bM, .int .i64 bN, .bool bO] 33 (0, 0)) (pk aA.out) k_ hn_)), Or.elim hk_ (fun hs_ => hs_.2.2.1) (fun hn_ => (Kd.freshB (g := aH) (o := .cells #[.slice none 0 0, .int .i64 a3, .int .i64 a4, .bool a5] 33 (0, 0)) (pk aD.out) k_ hn_)), Or.elim hk_ (fun hs_ => hs_.2.2.2) (fun hn_ => (Kd.freshB (g := aK) (o := .cells #[.string bQ, .string bR, .string bS] 38 (0, 0)) (pk aE.out) k_ hn_))⟩)) (below_size (by repeat (first | (with_reducible first | exact HB.out | apply ba | apply bn | apply bd | refine bs ?_ aI.out | refine bs ?_ aJ.out | refine bs ?_ aM.out) | exact HB.out)))); replace aC := ak (Kd.V_below (pV aC.out) hb); replace aP := ak (Kd.V_below (pV aP.out) hb); replace aA := ak (blk_below aA.out hb); replace aD := ak (blk_below aD.out hb); replace aE := ak (blk_below aE.out hb); replace HB := ak (below_step (by repeat (first | (with_reducible first | exact HB.out | apply ba | apply bn | apply bd | refine bs ?_ aI.out | refine bs ?_ aJ.out | refine bs ?_ aM.out) | exact HB.out)) hb); (try clear hb); (try clear hb2); (try clear hk); (try clear hi); (try clear bU); obtain ⟨e3, e4, jX⟩ := Kd.V_slice bC.out; subst jX; obtain ⟨gX, gY, gZ, g0⟩ := Cb.c4 aA.out; obtain ⟨g1, g2, g3, g4⟩ := Cb.f4 aA.out) | ((with_reducible refine gate_store (t := 33) (p := 3) rfl ?_); refine store_event (t := 33) (p := 3) (v := ?vo_w66) (w1 := ((((lV.setCell ⟨aG, 0, none⟩ (.slice e3 bW.length e4)).setCell ⟨aG, 1, none⟩ (.int .i64 bX)).setCell ⟨aG, 2, none⟩ (.int .i64 bY)).setCell ⟨aG, 3, none⟩ (.bool bZ))) ?hg ?ho ?hn ?hr ?_; (case ho => rfl); (case hg => rfl); (case hn => rfl); (case hr => first | (go_simp; done) | (go_simp; rfl)); intro mD hw; replace aC := vf4 hw aC.out fun _ hk => hk.2.1; replace aP := vf4 hw aP.out fun _ hk => hk.2.1; replace bC := vf4 hw bC.out fun _ hk => hk.2.1; replace aA := bp4 hw aA.out; replace aD := bf4 hw aQ.out aD.out; replace aE := bf4 hw aT.out aE.out; replace HB := bw4 hw HB.out aI.out; clear hw; obtain ⟨g5, g6, g7, g8⟩ := Cb.c4 aA.out; obtain ⟨g9, hA, hB, hC⟩ := Cb.f4 aA.out) | ((with_reducible refine gate_callee (f := 42) rfl ?_); refine goesL_ (some 58) rfl rfl Try.func42 (by kernel_rfl) rfl #[.agg #[.slice e3 bW.length e4, .int .i64 bX, .int .i64 bY, .bool bZ], .string ((⟨#[110, 46]⟩ : ByteArray) ++ a1), .string a1] rfl (by (try simp only [List.map_toArray, List.map_cons, List.map_nil]); first | done | rfl | (simp only [List.length_drop, List.length_take]; rfl)) ?_; (with_reducible refine (disk_Rename.calls (fun k_ => ((aY k_ ∨ w.heap.size ≤ k_) ∧ (k_ ≠ aG ∧ (k_ ≠ aH ∧ k_ ≠ aK)))) _ _ bW bX bY bZ ((⟨#[110, 46]⟩ : ByteArray) ++ a1) a1 eO eP eQ eR fL _ ?side1 lT.out).mono ?_); (case side1 => exact bC.out); rintro e lW ⟨lX, rfl, bU, hb⟩; refine ⟨_, rfl, ?_⟩; have b9 := ak (Kd.V_lower (Kd.V_mono (ok' := fun k_ => (aY k_ ∨ w.heap.size ≤ k_) ∧ k_ ≠ aG ∧ k_ ≠ aH ∧ k_ ≠ aK) bU (fun k_ hk_ => ⟨Or.elim hk_ (fun hs_ => hs_.1) (fun hn_ => (.inr (Nat.le_trans (below_size (by repeat (first | (with_reducible first | exact HB.out | apply ba | apply bn | apply bd | refine bs ?_ aI.out | refine bs ?_ aJ.out | refine bs ?_ aM.out) | exact HB.out))) hn_))), Or.elim hk_ (fun hs_ => hs_.2.1) (fun hn_ => (Kd.freshB (g := aG) (o := .cells #[.slice e3 bW.length e4, .int .i64 bX, .int .i64 bY, .bool bZ] 33 (0, 0)) (pk aA.out) k_ hn_)), Or.elim hk_ (fun hs_ => hs_.2.2.1) (fun hn_ => (Kd.freshB (g := aH) (o := .cells #[.slice none 0 0, .int .i64 a3, .int .i64 a4, .bool a5] 33 (0, 0)) (pk aD.out) k_ hn_)), Or.elim hk_ (fun hs_ => hs_.2.2.2) (fun hn_ => (Kd.freshB (g := aK) (o := .cells #[.string bQ, .string bR, .string bS] 38 (0, 0)) (pk aE.out) k_ hn_))⟩)) (below_size (by repeat (first | (with_reducible first | exact HB.out | apply ba | apply bn | apply bd | refine bs ?_ aI.out | refine bs ?_ aJ.out | refine bs ?_ aM.out) | exact HB.out)))); replace aC := ak (Kd.V_below (pV aC.out) hb); replace aP := ak (Kd.V_below (pV aP.out) hb); replace bC := ak (Kd.V_below (pV bC.out) hb); replace aA := ak (blk_below aA.out hb); replace aD := ak (blk_below aD.out hb); replace aE := ak (blk_below aE.out hb); replace HB := ak (below_step (by repeat (first | (with_reducible first | exact HB.out | apply ba | apply bn | apply bd | refine bs ?_ aI.out | refine bs ?_ aJ.out | refine bs ?_ aM.out) | exact HB.out)) hb); (try clear hb); (try clear hb2); (try clear hk); (try clear hi); (try clear bU); obtain ⟨fQ, fR, jY⟩ := Kd.V_slice b9.out; subst jY; have k6 := bB.out; have k7 := a0.out; obtain ⟨hD, hE, hF, hG⟩ := Cb.c4 aD.out; obtain ⟨hH, hI, hJ, hL⟩ := Cb.f4 aD.out) | ((with_reducible refine gate_store (t := 33) (p := 6) rfl ?_); refine store_event (t := 33) (p := 6) (v := ?vo_w72) (w1 := ((((lW.setCell ⟨aH, 0, none⟩ (.slice fQ eO.length fR)).setCell ⟨aH, 1, none⟩ (.int .i64 eP)).setCell ⟨aH, 2, none⟩ (.int .i64 eQ)).setCell ⟨aH, 3, none⟩ (.bool eR))) ?hg ?ho ?hn ?hr ?_; (case ho => rfl); (case hg => rfl); (case hn => rfl); (case hr => first | (go_simp; done) | (go_simp; rfl)); intro mE hw; replace aC := vf4 hw aC.out fun _ hk => hk.2.2.1; replace aP := vf4 hw aP.out fun _ hk => hk.2.2.1; replace bC := vf4 hw bC.out fun _ hk => hk.2.2.1; replace b9 := vf4 hw b9.out fun _ hk => hk.2.2.1; replace aA := bf4 hw aZ.out aA.out; replace aD := bp4 hw aD.out; replace aE := bf4 hw a0.out aE.out; replace HB := bw4 hw HB.out aJ.out; clear hw))
     refine bodyPost_ret (results_ct rfl _ _ aH 33 #[.slice fQ eO.length fR, .int .i64 eP, .int .i64 eQ, .bool eR] (0, 0) _ rfl (pk aD.out) Try.underlying33 rfl (by kernel_rfl)) rfl ?_
     exact ⟨_, by first | rfl | (simp [errW_none, errW_some] <;> rfl) | (simp [*, errW_none, errW_some] <;> rfl), pV (Kd.V_mono b9.out (fun _ hk => hk.1)), by repeat (first | (with_reducible first | exact HB.out | apply ba | apply bn | apply bd | refine bs ?_ aI.out | refine bs ?_ aJ.out | refine bs ?_ aM.out) | exact HB.out)⟩
    ·rw [if_neg e0] at H
     have fJ : (b8 == 0) = false := beq_eq_false_iff_ne.mpr e0
     have fK : (b8 != 0) = true := bne_iff_ne.mpr e0
     simp only [Option.some.injEq, Prod.mk.injEq] at H
     obtain ⟨rfl, rfl, rfl, rfl, rfl⟩ := H
     have k8 := aZ.out
     have k9 := aQ.out
     have lA := a6.out
     have lB := aT.out
     obtain ⟨hM, hN, hO, hP⟩ := Cb.c4 aA.out
     obtain ⟨hQ, hR, hS, hT⟩ := Cb.f4 aA.out
     obtain ⟨fS, fT, jZ⟩ := Kd.V_slice aC.out
     subst jZ
     go_wp2_with (first | ((with_reducible refine gate_callee (f := 40) rfl ?_); refine goesL_ (some 38) rfl rfl Try.func40 (by kernel_rfl) rfl #[.agg #[.slice fS aU.length fT, .int .i64 aV, .int .i64 aW, .bool aX], .string ((⟨#[110, 46]⟩ : ByteArray) ++ a1), .string a2] rfl (by (try simp only [List.map_toArray, List.map_cons, List.map_nil]); first | done | rfl | (simp only [List.length_drop, List.length_take]; rfl)) ?_; (with_reducible refine (disk_Append.calls kj5 (fun k_ => ((aY k_ ∨ w.heap.size ≤ k_) ∧ (k_ ≠ aG ∧ (k_ ≠ aH ∧ k_ ≠ aK)))) _ _ aU aV aW aX ((⟨#[110, 46]⟩ : ByteArray) ++ a1) a2 bL bM bN bO b5 _ ?side1 jT.out).mono ?_); (case side1 => exact aC.out); rintro e lY ⟨fP, rfl, bU, hb⟩; refine ⟨_, rfl, ?_⟩; have aP := ak (Kd.V_lower (Kd.V_mono (ok' := fun k_ => (aY k_ ∨ w.heap.size ≤ k_) ∧ k_ ≠ aG ∧ k_ ≠ aH ∧ k_ ≠ aK) bU (fun k_ hk_ => ⟨Or.elim hk_ (fun hs_ => hs_.1) (fun hn_ => (.inr (Nat.le_trans (below_size (by repeat (first | (with_reducible first | exact HB.out | apply ba | apply bn | apply bd | refine bs ?_ aI.out | refine bs ?_ aJ.out | refine bs ?_ aM.out) | exact HB.out))) hn_))), Or.elim hk_ (fun hs_ => hs_.2.1) (fun hn_ => (Kd.freshB (g := aG) (o := .cells #[.slice fS aU.length fT, .int .i64 aV, .int .i64 aW, .bool aX] 33 (0, 0)) (pk aA.out) k_ hn_)), Or.elim hk_ (fun hs_ => hs_.2.2.1) (fun hn_ => (Kd.freshB (g := aH) (o := .cells #[.slice none 0 0, .int .i64 a3, .int .i64 a4, .bool a5] 33 (0, 0)) (pk aD.out) k_ hn_)), Or.elim hk_ (fun hs_ => hs_.2.2.2) (fun hn_ => (Kd.freshB (g := aK) (o := .cells #[.string bQ, .string bR, .string bS] 38 (0, 0)) (pk aE.out) k_ hn_))⟩)) (below_size (by repeat (first | (with_reducible first | exact HB.out | apply ba | apply bn | apply bd | refine bs ?_ aI.out | refine bs ?_ aJ.out | refine bs ?_ aM.out) | exact HB.out)))); replace aC := ak (Kd.V_below (pV aC.out) hb); replace aA := ak (blk_below aA.out hb); replace aD := ak (blk_below aD.out hb); replace aE := ak (blk_below aE.out hb); replace HB := ak (below_step (by repeat (first | (with_reducible first | exact HB.out | apply ba | apply bn | apply bd | refine bs ?_ aI.out | refine bs ?_ aJ.out | refine bs ?_ aM.out) | exact HB.out)) hb); (try clear hb); (try clear hb2); (try clear hk); (try clear hi); (try clear bU); obtain ⟨e5, e6, j1⟩ := Kd.V_slice aP.out; subst j1; obtain ⟨hU, hV, hW, hX⟩ := Cb.c4 aA.out; obtain ⟨hY, hZ, h0, h1⟩ := Cb.f4 aA.out) | ((with_reducible refine gate_store (t := 33) (p := 3) rfl ?_); refine store_event (t := 33) (p := 3) (v := ?vo_w80) (w1 := ((((lY.setCell ⟨aG, 0, none⟩ (.slice e5 bL.length e6)).setCell ⟨aG, 1, none⟩ (.int .i64 bM)).setCell ⟨aG, 2, none⟩ (.int .i64 bN)).setCell ⟨aG, 3, none⟩ (.bool bO))) ?hg ?ho ?hn ?hr ?_; (case ho => rfl); (case hg => rfl); (case hn => rfl); (case hr => first | (go_simp; done) | (go_simp; rfl)); intro mF hw; replace aC := vf4 hw aC.out fun _ hk => hk.2.1; replace aP := vf4 hw aP.out fun _ hk => hk.2.1; replace aA := bp4 hw aA.out; replace aD := bf4 hw aQ.out aD.out; replace aE := bf4 hw aT.out aE.out; replace HB := bw4 hw HB.out aI.out; clear hw; obtain ⟨h2, h3, h4, h5⟩ := Cb.c4 aA.out; obtain ⟨h6, h7, h8, h9⟩ := Cb.f4 aA.out) | ((with_reducible refine gate_callee (f := 41) rfl ?_); refine goesL_ (some 48) rfl rfl Try.func41 (by kernel_rfl) rfl #[.agg #[.slice e5 bL.length e6, .int .i64 bM, .int .i64 bN, .bool bO], .string ((⟨#[110, 46]⟩ : ByteArray) ++ a1)] rfl (by (try simp only [List.map_toArray, List.map_cons, List.map_nil]); first | done | rfl | (simp only [List.length_drop, List.length_take]; rfl)) ?_; (with_reducible refine (disk_Sync.calls (fun k_ => ((aY k_ ∨ w.heap.size ≤ k_) ∧ (k_ ≠ aG ∧ (k_ ≠ aH ∧ k_ ≠ aK)))) _ _ bL bM bN bO ((⟨#[110, 46]⟩ : ByteArray) ++ a1) bW bX bY bZ b8 _ ?side1 k0.out).mono ?_); (case side1 => exact aP.out); rintro e lZ ⟨jW, rfl, bU, hb⟩; refine ⟨_, rfl, ?_⟩; have bC := ak (Kd.V_lower (Kd.V_mono (ok' := fun k_ => (aY k_ ∨ w.heap.size ≤ k_) ∧ k_ ≠ aG ∧ k_ ≠ aH ∧ k_ ≠ aK) bU (fun k_ hk_ => ⟨Or.elim hk_ (fun hs_ => hs_.1) (fun hn_ => (.inr (Nat.le_trans (below_size (by repeat (first | (with_reducible first | exact HB.out | apply ba | apply bn | apply bd | refine bs ?_ aI.out | refine bs ?_ aJ.out | refine bs ?_ aM.out) | exact HB.out))) hn_))), Or.elim hk_ (fun hs_ => hs_.2.1) (fun hn_ => (Kd.freshB (g := aG) (o := .cells #[.slice e5 bL.length e6, .int .i64 bM, .int .i64 bN, .bool bO] 33 (0, 0)) (pk aA.out) k_ hn_)), Or.elim hk_ (fun hs_ => hs_.2.2.1) (fun hn_ => (Kd.freshB (g := aH) (o := .cells #[.slice none 0 0, .int .i64 a3, .int .i64 a4, .bool a5] 33 (0, 0)) (pk aD.out) k_ hn_)), Or.elim hk_ (fun hs_ => hs_.2.2.2) (fun hn_ => (Kd.freshB (g := aK) (o := .cells #[.string bQ, .string bR, .string bS] 38 (0, 0)) (pk aE.out) k_ hn_))⟩)) (below_size (by repeat (first | (with_reducible first | exact HB.out | apply ba | apply bn | apply bd | refine bs ?_ aI.out | refine bs ?_ aJ.out | refine bs ?_ aM.out) | exact HB.out)))); replace aC := ak (Kd.V_below (pV aC.out) hb); replace aP := ak (Kd.V_below (pV aP.out) hb); replace aA := ak (blk_below aA.out hb); replace aD := ak (blk_below aD.out hb); replace aE := ak (blk_below aE.out hb); replace HB := ak (below_step (by repeat (first | (with_reducible first | exact HB.out | apply ba | apply bn | apply bd | refine bs ?_ aI.out | refine bs ?_ aJ.out | refine bs ?_ aM.out) | exact HB.out)) hb); (try clear hb); (try clear hb2); (try clear hk); (try clear hi); (try clear bU); obtain ⟨e7, e8, j2⟩ := Kd.V_slice bC.out; subst j2; obtain ⟨iA, iB, iC, iD⟩ := Cb.c4 aA.out; obtain ⟨iE, iF, iG, iH⟩ := Cb.f4 aA.out) | ((with_reducible refine gate_store (t := 33) (p := 3) rfl ?_); refine store_event (t := 33) (p := 3) (v := ?vo_w85) (w1 := ((((lZ.setCell ⟨aG, 0, none⟩ (.slice e7 bW.length e8)).setCell ⟨aG, 1, none⟩ (.int .i64 bX)).setCell ⟨aG, 2, none⟩ (.int .i64 bY)).setCell ⟨aG, 3, none⟩ (.bool bZ))) ?hg ?ho ?hn ?hr ?_; (case ho => rfl); (case hg => rfl); (case hn => rfl); (case hr => first | (go_simp; done) | (go_simp; rfl)); intro l1 hw; replace aC := vf4 hw aC.out fun _ hk => hk.2.1; replace aP := vf4 hw aP.out fun _ hk => hk.2.1; replace bC := vf4 hw bC.out fun _ hk => hk.2.1; replace aA := bp4 hw aA.out; replace aD := bf4 hw aQ.out aD.out; replace aE := bf4 hw aT.out aE.out; replace HB := bw4 hw HB.out aI.out; clear hw; obtain ⟨iI, iJ, iK, iL⟩ := Cb.c4 aA.out; obtain ⟨iM, iN, iO, iP⟩ := Cb.f4 aA.out; have lC := bB.out; have lD := a0.out; obtain ⟨iQ, iR, iS, iT⟩ := Cb.c4 aD.out; obtain ⟨iU, iV, iW, iX⟩ := Cb.f4 aD.out) | ((with_reducible refine gate_store (t := 33) (p := 6) rfl ?_); refine store_event (t := 33) (p := 6) (v := ?vo_w89) (w1 := ((((l1.setCell ⟨aH, 0, none⟩ (.slice e7 bW.length e8)).setCell ⟨aH, 1, none⟩ (.int .i64 bX)).setCell ⟨aH, 2, none⟩ (.int .i64 bY)).setCell ⟨aH, 3, none⟩ (.bool bZ))) ?hg ?ho ?hn ?hr ?_; (case ho => rfl); (case hg => rfl); (case hn => rfl); (case hr => first | (go_simp; done) | (go_simp; rfl)); intro mG hw; replace aC := vf4 hw aC.out fun _ hk => hk.2.2.1; replace aP := vf4 hw aP.out fun _ hk => hk.2.2.1; replace bC := vf4 hw bC.out fun _ hk => hk.2.2.1; replace aA := bf4 hw aZ.out aA.out; replace aD := bp4 hw aD.out; replace aE := bf4 hw a0.out aE.out; replace HB := bw4 hw HB.out aJ.out; clear hw))
     refine bodyPost_ret (results_ct rfl _ _ aH 33 #[.slice e7 bW.length e8, .int .i64 bX, .int .i64 bY, .bool bZ] (0, 0) _ rfl (pk aD.out) Try.underlying33 rfl (by kernel_rfl)) rfl ?_
     exact ⟨_, by first | rfl | (simp [errW_none, errW_some] <;> rfl) | (simp [*, errW_none, errW_some] <;> rfl), pV (Kd.V_mono bC.out (fun _ hk => hk.1)), by repeat (first | (with_reducible first | exact HB.out | apply ba | apply bn | apply bd | refine bs ?_ aI.out | refine bs ?_ aJ.out | refine bs ?_ aM.out) | exact HB.out)⟩
   ·rw [if_neg eZ] at H
    have fG : (b5 == 0) = false := beq_eq_false_iff_ne.mpr eZ
    have fH : (b5 != 0) = true := bne_iff_ne.mpr eZ
    simp only [Option.some.injEq, Prod.mk.injEq] at H
    obtain ⟨rfl, rfl, rfl, rfl, rfl⟩ := H
    have lE := aZ.out
    have lF := aQ.out
    have lG := a6.out
    have lH := aT.out
    obtain ⟨iY, iZ, i0, i1⟩ := Cb.c4 aA.out
    obtain ⟨i2, i3, i4, i5⟩ := Cb.f4 aA.out
    obtain ⟨fU, fV, j3⟩ := Kd.V_slice aC.out
    subst j3
    go_wp2_with (first | ((with_reducible refine gate_callee (f := 40) rfl ?_); refine goesL_ (some 38) rfl rfl Try.func40 (by kernel_rfl) rfl #[.agg #[.slice fU aU.length fV, .int .i64 aV, .int .i64 aW, .bool aX], .string ((⟨#[110, 46]⟩ : ByteArray) ++ a1), .string a2] rfl (by (try simp only [List.map_toArray, List.map_cons, List.map_nil]); first | done | rfl | (simp only [List.length_drop, List.length_take]; rfl)) ?_; (with_reducible refine (disk_Append.calls kj5 (fun k_ => ((aY k_ ∨ w.heap.size ≤ k_) ∧ (k_ ≠ aG ∧ (k_ ≠ aH ∧ k_ ≠ aK)))) _ _ aU aV aW aX ((⟨#[110, 46]⟩ : ByteArray) ++ a1) a2 bL bM bN bO b5 _ ?side1 jT.out).mono ?_); (case side1 => exact aC.out); rintro e l2 ⟨fP, rfl, bU, hb⟩; refine ⟨_, rfl, ?_⟩; have aP := ak (Kd.V_lower (Kd.V_mono (ok' := fun k_ => (aY k_ ∨ w.heap.size ≤ k_) ∧ k_ ≠ aG ∧ k_ ≠ aH ∧ k_ ≠ aK) bU (fun k_ hk_ => ⟨Or.elim hk_ (fun hs_ => hs_.1) (fun hn_ => (.inr (Nat.le_trans (below_size (by repeat (first | (with_reducible first | exact HB.out | apply ba | apply bn | apply bd | refine bs ?_ aI.out | refine bs ?_ aJ.out | refine bs ?_ aM.out) | exact HB.out))) hn_))), Or.elim hk_ (fun hs_ => hs_.2.1) (fun hn_ => (Kd.freshB (g := aG) (o := .cells #[.slice fU aU.length fV, .int .i64 aV, .int .i64 aW, .bool aX] 33 (0, 0)) (pk aA.out) k_ hn_)), Or.elim hk_ (fun hs_ => hs_.2.2.1) (fun hn_ => (Kd.freshB (g := aH) (o := .cells #[.slice none 0 0, .int .i64 a3, .int .i64 a4, .bool a5] 33 (0, 0)) (pk aD.out) k_ hn_)), Or.elim hk_ (fun hs_ => hs_.2.2.2) (fun hn_ => (Kd.freshB (g := aK) (o := .cells #[.string bQ, .string bR, .string bS] 38 (0, 0)) (pk aE.out) k_ hn_))⟩)) (below_size (by repeat (first | (with_reducible first | exact HB.out | apply ba | apply bn | apply bd | refine bs ?_ aI.out | refine bs ?_ aJ.out | refine bs ?_ aM.out) | exact HB.out)))); replace aC := ak (Kd.V_below (pV aC.out) hb); replace aA := ak (blk_below aA.out hb); replace aD := ak (blk_below aD.out hb); replace aE := ak (blk_below aE.out hb); replace HB := ak (below_step (by repeat (first | (with_reducible first | exact HB.out | apply ba | apply bn | apply bd | refine bs ?_ aI.out | refine bs ?_ aJ.out | refine bs ?_ aM.out) | exact HB.out)) hb); (try clear hb); (try clear hb2); (try clear hk); (try clear hi); (try clear bU); obtain ⟨e9, fA, j4⟩ := Kd.V_slice aP.out; subst j4; obtain ⟨i6, i7, i8, i9⟩ := Cb.c4 aA.out; obtain ⟨jA, jB, jC, jD⟩ := Cb.f4 aA.out) | ((with_reducible refine gate_store (t := 33) (p := 3) rfl ?_); refine store_event (t := 33) (p := 3) (v := ?vo_w97) (w1 := ((((l2.setCell ⟨aG, 0, none⟩ (.slice e9 bL.length fA)).setCell ⟨aG, 1, none⟩ (.int .i64 bM)).setCell ⟨aG, 2, none⟩ (.int .i64 bN)).setCell ⟨aG, 3, none⟩ (.bool bO))) ?hg ?ho ?hn ?hr ?_; (case ho => rfl); (case hg => rfl); (case hn => rfl); (case hr => first | (go_simp; done) | (go_simp; rfl)); intro l3 hw; replace aC := vf4 hw aC.out fun _ hk => hk.2.1; replace aP := vf4 hw aP.out fun _ hk => hk.2.1; replace aA := bp4 hw aA.out; replace aD := bf4 hw aQ.out aD.out; replace aE := bf4 hw aT.out aE.out; replace HB := bw4 hw HB.out aI.out; clear hw; obtain ⟨jE, jF, jG, jH⟩ := Cb.c4 aA.out; obtain ⟨jI, jJ, jK, jL⟩ := Cb.f4 aA.out; have lI := bB.out; have lJ := a0.out; obtain ⟨fW, fX, fY, fZ⟩ := Cb.c4 aD.out; obtain ⟨f5, f6, f7, f8⟩ := Cb.f4 aD.out) | ((with_reducible refine gate_store (t := 33) (p := 6) rfl ?_); refine store_event (t := 33) (p := 6) (v := ?vo_w101) (w1 := ((((l3.setCell ⟨aH, 0, none⟩ (.slice e9 bL.length fA)).setCell ⟨aH, 1, none⟩ (.int .i64 bM)).setCell ⟨aH, 2, none⟩ (.int .i64 bN)).setCell ⟨aH, 3, none⟩ (.bool bO))) ?hg ?ho ?hn ?hr ?_; (case ho => rfl); (case hg => rfl); (case hn => rfl); (case hr => first | (go_simp; done) | (go_simp; rfl)); intro l4 hw; replace aC := vf4 hw aC.out fun _ hk => hk.2.2.1; replace aP := vf4 hw aP.out fun _ hk => hk.2.2.1; replace aA := bf4 hw aZ.out aA.out; replace aD := bp4 hw aD.out; replace aE := bf4 hw a0.out aE.out; replace HB := bw4 hw HB.out aJ.out; clear hw))
    refine bodyPost_ret (results_ct rfl _ _ aH 33 #[.slice e9 bL.length fA, .int .i64 bM, .int .i64 bN, .bool bO] (0, 0) _ rfl (pk aD.out) Try.underlying33 rfl (by kernel_rfl)) rfl ?_
    exact ⟨_, by first | rfl | (simp [errW_none, errW_some] <;> rfl) | (simp [*, errW_none, errW_some] <;> rfl), pV (Kd.V_mono aP.out (fun _ hk => hk.1)), by repeat (first | (with_reducible first | exact HB.out | apply ba | apply bn | apply bd | refine bs ?_ aI.out | refine bs ?_ aJ.out | refine bs ?_ aM.out) | exact HB.out)⟩

/-! ### stanchionref03_at: function 37 -/
set_option maxHeartbeats 8000000 in
set_option maxRecDepth 100000 in
theorem stanchionref03_at.calls (k : Nat) (aQ : Option Addr) (aT : Nat) (aC : List (S38)) (aM : Int) (aN : Int) (aP : Bool) (a1 : ByteArray) (r : Int) (w : World) (aU : Kd.C k38 w aQ aC.length aC) (aV : aC.length ≤ aT) (h : stanchionref03_at.f k aC aM aN aP a1 = some r) :
  Calls Try.prog 37 #[.agg #[.slice aQ aC.length aT, .int .i64 aM, .int .i64 aN, .bool aP], .string a1] w fun e w' => e = .returned (.int .i64 r) ∧ Below w.heap.size w w' := by
 have bW := Try.underlying33
 have aW := ak aU
 have bT := ak aV
 clear aU aV
 have HB := ak (Below.refl w.heap.size w)
 have H : (stanchionref03_at.l0 k a1 0 aC aM aN aP) = some r := h
 clear h
 have H' := ak H
 clear H
 go_enter Try.func37, Try.ntmps37
 go_wp2_with (first | ((with_reducible refine gate_dst (N := 2) rfl ?_); refine box_event ?hg (N := 2) ?hd (cs := #[.slice aQ aC.length aT, .int .i64 aM, .int .i64 aN, .bool aP]) (t := 33) ?hr ?_; (case hd => rfl); (case hg => rfl); (case hr => first | (go_simp; done) | (go_simp; rfl)); intro aY hg w3 hbox hb; obtain ⟨n_, aI⟩ := Cb.bx (pB HB.out) hg hb; have bU := aI; have aH := ak (hbox); replace HB := n_; clear n_; clear hb hbox hg))
 go_loopg [5] k (fun kq v5 w' => ∃ (aA : Int), v5 = .int .i64 aA ∧ Aside0 (stanchionref03_at.l0 kq a1 aA aC aM aN aP = some r) ∧ Aside0 (kq ≤ k) ∧ Aside0 (w'.heap[aY]? = some (.cells #[(.slice aQ aC.length aT), .int .i64 aM, .int .i64 aN, .bool aP] 33 (0, 0))) ∧ Aside0 (Below w.heap.size w w'))
 case atStart => exact ⟨(0), (by first | rfl | (simp; done) | (simp [*]; done)), H', ⟨Nat.le_refl _⟩, ⟨pk aH.out⟩, ⟨by repeat (first | (with_reducible first | exact HB.out | apply ba | apply bn | apply bd | refine bs ?_ aI.out) | exact HB.out)⟩⟩
 case round =>
  clear H'
  try clear p2 c3
  obtain ⟨aA, rfl, HA, bV, aH, HB⟩ := hrel
  cases gk with
  | zero => exact absurd HA.out (by simp [stanchionref03_at.l0])
  | succ k1 =>
   have H := HA.out
   clear HA
   simp only [stanchionref03_at.l0] at H
   by_cases c4 : aA < (aC.length : Int)
   ·rw [if_pos c4] at H
    have a0 : decide (aA < (aC.length : Int)) = true := decide_eq_true c4
    clear c4
    have c5 : 0 ≤ aA := Decidable.byContradiction fun q => by rw [if_neg q] at H; exact absurd H (by simp)
    rw [if_pos c5] at H
    have bX : decide (0 ≤ aA) = true := decide_eq_true c5
    clear c5
    by_cases c6 : ((rd_T38 aC aA).f0).toList = a1.toList
    ·rw [if_pos c6] at H
     have a3 : (((rd_T38 aC aA).f0).toList == a1.toList) = true := beq_iff_eq.mpr c6
     have a4 : (((rd_T38 aC aA).f0).toList != a1.toList) = false := bne_eq_false_iff_eq.mpr c6
     clear c6
     obtain rfl := Option.some.inj H
     obtain ⟨a5, a6, a7, a8⟩ := Cb.c4 aH.out
     obtain ⟨a9, bA, bB, bC⟩ := Cb.f4 aH.out
     have aJ : 0 ≤ (aA : Int) := of_decide_eq_true (by first | (with_reducible assumption) | assumption)
     have aK : aA < (aC.length : Int) := of_decide_eq_true (by first | (with_reducible assumption) | assumption)
     obtain ⟨aZ, aX, aD, aE, aG⟩ := at_T38 aW.out aA aJ aK
     cases aX
     replace aD := (HB.out.cell (World.block_lt_of_cell? w _ aD)).trans aD
     replace aE := (HB.out.cell (World.block_lt_of_cell? w _ aE)).trans aE
     replace aG := (HB.out.cell (World.block_lt_of_cell? w _ aG)).trans aG
     replace aJ := eq_true aJ
     replace aK := eq_true aK
     go_wp2
     go_ret
     exact ⟨by first | rfl | (simp [errW_none, errW_some] <;> rfl) | (simp [*, errW_none, errW_some] <;> rfl), by repeat (first | (with_reducible first | exact HB.out | apply ba | apply bn | apply bd | refine bs ?_ aI.out) | exact HB.out)⟩
    ·rw [if_neg c6] at H
     have a3 : (((rd_T38 aC aA).f0).toList == a1.toList) = false := beq_eq_false_iff_ne.mpr c6
     have a4 : (((rd_T38 aC aA).f0).toList != a1.toList) = true := bne_iff_ne.mpr c6
     have H' := ak H
     clear H
     obtain ⟨bD, bE, bF, bG⟩ := Cb.c4 aH.out
     obtain ⟨bH, bI, bJ, bK⟩ := Cb.f4 aH.out
     have aJ : 0 ≤ (aA : Int) := of_decide_eq_true (by first | (with_reducible assumption) | assumption)
     have aK : aA < (aC.length : Int) := of_decide_eq_true (by first | (with_reducible assumption) | assumption)
     obtain ⟨aZ, aX, aD, aE, aG⟩ := at_T38 aW.out aA aJ aK
     cases aX
     replace aD := (HB.out.cell (World.block_lt_of_cell? w _ aD)).trans aD
     replace aE := (HB.out.cell (World.block_lt_of_cell? w _ aE)).trans aE
     replace aG := (HB.out.cell (World.block_lt_of_cell? w _ aG)).trans aG
     replace aJ := eq_true aJ
     replace aK := eq_true aK
     go_wp2
     go_roundg k1
     case measure => have := bV.out; omega
     case rel => exact ⟨(wrap64 (aA + 1)), (by first | rfl | (simp; done) | (simp [*]; done)), H', ⟨by have := bV.out; omega⟩, ⟨pk aH.out⟩, ⟨by repeat (first | (with_reducible first | exact HB.out | apply ba | apply bn | apply bd | refine bs ?_ aI.out) | exact HB.out)⟩⟩
   ·rw [if_neg c4] at H
    have a0 : decide (aA < (aC.length : Int)) = false := decide_eq_false c4
    clear c4
    obtain rfl := Option.some.inj H
    obtain ⟨bL, bM, bN, bO⟩ := Cb.c4 aH.out
    obtain ⟨bP, bQ, bR, bS⟩ := Cb.f4 aH.out
    go_wp2
    go_ret
    exact ⟨by first | rfl | (simp [errW_none, errW_some] <;> rfl) | (simp [*, errW_none, errW_some] <;> rfl), by repeat (first | (with_reducible first | exact HB.out | apply ba | apply bn | apply bd | refine bs ?_ aI.out) | exact HB.out)⟩

/-! ### stanchionref03_Find: function 16 -/
set_option maxHeartbeats 8000000 in
set_option maxRecDepth 100000 in
theorem stanchionref03_Find.calls (k : Nat) (aV : Option Addr) (aW : Nat) (aD : List (S38)) (aM : Int) (aN : Int) (aP : Bool) (a1 : ByteArray) (r1 : ByteArray) (r2 : ByteArray) (r3 : ByteArray) (r4 : Bool) (w : World) (aY : Kd.C k38 w aV aD.length aD) (aZ : aD.length ≤ aW) (h : stanchionref03_Find.f k aD aM aN aP a1 = some (r1, r2, r3, r4)) :
  Calls Try.prog 16 #[.agg #[.slice aV aD.length aW, .int .i64 aM, .int .i64 aN, .bool aP], .string a1] w fun e w' => e = .returned (.tuple #[.agg #[.string r1, .string r2, .string r3], .bool r4]) ∧ Below w.heap.size w w' := by
 have cI := Try.underlying33
 have cJ := Try.underlying38
 have aX := ak aY
 have a0 := ak aZ
 clear aY aZ
 have HB := ak (Below.refl w.heap.size w)
 have H : ((stanchionref03_at.f k aD aM aN aP a1).bind fun aC => (if aC < 0 then (some ((⟨#[]⟩ : ByteArray), (⟨#[]⟩ : ByteArray), (⟨#[]⟩ : ByteArray), false)) else (if 0 ≤ aC then (if aC < (aD.length : Int) then (some ((rd_T38 aD aC).f0, (rd_T38 aD aC).f1, (rd_T38 aD aC).f2, true)) else (none)) else (none)))) = some (r1, r2, r3, r4) := h
 clear h
 replace H := Option.bind_eq_some_iff.mp H
 obtain ⟨aC, cC, H⟩ := H
 replace H : (if aC < 0 then (some ((⟨#[]⟩ : ByteArray), (⟨#[]⟩ : ByteArray), (⟨#[]⟩ : ByteArray), false)) else (if 0 ≤ aC then (if aC < (aD.length : Int) then (some ((rd_T38 aD aC).f0, (rd_T38 aD aC).f1, (rd_T38 aD aC).f2, true)) else (none)) else (none))) = some (r1, r2, r3, r4) := H
 have A3 := ak cC
 clear cC
 by_cases c4 : aC < 0
 ·rw [if_pos c4] at H
  have b2 : decide (aC < 0) = true := decide_eq_true c4
  clear c4
  simp only [Option.some.injEq, Prod.mk.injEq] at H
  obtain ⟨rfl, rfl, rfl, rfl⟩ := H
  go_enter Try.func16, Try.ntmps16
  go_wp2_with (first | ((with_reducible refine gate_dst (N := 2) rfl ?_); refine box_event ?hg (N := 2) ?hd (cs := #[.slice aV aD.length aW, .int .i64 aM, .int .i64 aN, .bool aP]) (t := 33) ?hr ?_; (case hd => rfl); (case hg => rfl); (case hr => first | (go_simp; done) | (go_simp; rfl)); intro a5 hg w5 hbox hb; obtain ⟨n_, aH⟩ := Cb.bx (pB HB.out) hg hb; have a6 := aH; have aA := ak (hbox); replace HB := n_; clear n_; clear hb hbox hg) | ((with_reducible refine gate_dst (N := 4) rfl ?_); refine box_event ?hg (N := 4) ?hd (cs := #[.string (⟨#[]⟩ : ByteArray), .string (⟨#[]⟩ : ByteArray), .string (⟨#[]⟩ : ByteArray)]) (t := 38) ?hr ?_; (case hd => rfl); (case hg => rfl); (case hr => first | (go_simp; done) | (go_simp; rfl)); intro aI hg w6 hbox hb; obtain ⟨n_, aJ⟩ := Cb.bx (by repeat (first | (with_reducible first | exact HB.out | apply ba | apply bn | apply bd | refine bs ?_ aH.out) | exact HB.out)) hg hb; have a7 := aJ; obtain ⟨aG, aK⟩ := Cb.nb hg aA.out; have aE := ak (hbox); replace aA := ak (blk_below aA.out hb); replace HB := n_; clear n_; clear hb hbox hg; have cK := aG.out; have cL := aK.out; obtain ⟨b3, b4, b5, b6⟩ := Cb.c4 aA.out; obtain ⟨b7, b8, b9, cA⟩ := Cb.f4 aA.out) | ((with_reducible refine gate_callee (f := 37) rfl ?_); refine goesL_ (some 9) rfl rfl Try.func37 (by kernel_rfl) rfl #[.agg #[.slice aV aD.length aW, .int .i64 aM, .int .i64 aN, .bool aP], .string a1] rfl (by (try simp only [List.map_toArray, List.map_cons, List.map_nil]); first | done | rfl | (simp only [List.length_drop, List.length_take]; rfl)) ?_; (with_reducible refine (stanchionref03_at.calls k _ _ aD aM aN aP a1 aC _ ?side1 ?side2 A3.out).mono ?_); (case side1 => repeat (first | exact (Kd.C_below aX.out HB.out) | (with_reducible refine Kd.C_alloc ?_ _) | (with_reducible refine Kd.C_drewN ?_ _) | (with_reducible refine Kd.C_drew ?_))); (case side2 => exact a0.out); rintro e w9 ⟨rfl, hb⟩; refine ⟨_, rfl, ?_⟩; replace aA := ak (blk_below aA.out hb); replace aE := ak (blk_below aE.out hb); replace HB := ak (below_step (by repeat (first | (with_reducible first | exact HB.out | apply ba | apply bn | apply bd | refine bs ?_ aH.out | refine bs ?_ aJ.out) | exact HB.out)) hb); (try clear hb); (try clear hb2); (try clear hk); (try clear hi); obtain ⟨a8, a9, bA⟩ := Cb.c3 aE.out; obtain ⟨bB, bC, bD⟩ := Cb.f3 aE.out) | ((with_reducible refine gate_store (t := 38) (p := 4) rfl ?_); refine store_event (t := 38) (p := 4) (v := ?vo_w11) (w1 := (((w9.setCell ⟨aI, 0, none⟩ (.string (⟨#[]⟩ : ByteArray))).setCell ⟨aI, 1, none⟩ (.string (⟨#[]⟩ : ByteArray))).setCell ⟨aI, 2, none⟩ (.string (⟨#[]⟩ : ByteArray)))) ?hg ?ho ?hn ?hr ?_; (case ho => rfl); (case hg => rfl); (case hn => rfl); (case hr => first | (go_simp; done) | (go_simp; rfl)); intro cN hw; replace aA := bf3 hw aG.out aA.out; replace aE := bp3 hw aE.out; replace HB := bw3 hw HB.out aJ.out; clear hw))
  refine bodyPost_ret (results_ct rfl _ _ aI 38 #[.string (⟨#[]⟩ : ByteArray), .string (⟨#[]⟩ : ByteArray), .string (⟨#[]⟩ : ByteArray)] (0, 0) _ rfl (pk aE.out) Try.underlying38 rfl (by kernel_rfl)) rfl ?_
  exact ⟨by first | rfl | (simp [errW_none, errW_some] <;> rfl) | (simp [*, errW_none, errW_some] <;> rfl), by repeat (first | (with_reducible first | exact HB.out | apply ba | apply bn | apply bd | refine bs ?_ aH.out | refine bs ?_ aJ.out) | exact HB.out)⟩
 ·rw [if_neg c4] at H
  have b2 : decide (aC < 0) = false := decide_eq_false c4
  clear c4
  have bE : 0 ≤ aC := Decidable.byContradiction fun q => by rw [if_neg q] at H; exact absurd H (by simp)
  rw [if_pos bE] at H
  have cD : decide (0 ≤ aC) = true := decide_eq_true bE
  clear bE
  have bF : aC < (aD.length : Int) := Decidable.byContradiction fun q => by rw [if_neg q] at H; exact absurd H (by simp)
  rw [if_pos bF] at H
  have cE : decide (aC < (aD.length : Int)) = true := decide_eq_true bF
  clear bF
  simp only [Option.some.injEq, Prod.mk.injEq] at H
  obtain ⟨rfl, rfl, rfl, rfl⟩ := H
  go_enter Try.func16, Try.ntmps16
  go_wp2_with (first | ((with_reducible refine gate_dst (N := 2) rfl ?_); refine box_event ?hg (N := 2) ?hd (cs := #[.slice aV aD.length aW, .int .i64 aM, .int .i64 aN, .bool aP]) (t := 33) ?hr ?_; (case hd => rfl); (case hg => rfl); (case hr => first | (go_simp; done) | (go_simp; rfl)); intro a5 hg cO hbox hb; obtain ⟨n_, aH⟩ := Cb.bx (pB HB.out) hg hb; have a6 := aH; have aA := ak (hbox); replace HB := n_; clear n_; clear hb hbox hg) | ((with_reducible refine gate_dst (N := 4) rfl ?_); refine box_event ?hg (N := 4) ?hd (cs := #[.string (⟨#[]⟩ : ByteArray), .string (⟨#[]⟩ : ByteArray), .string (⟨#[]⟩ : ByteArray)]) (t := 38) ?hr ?_; (case hd => rfl); (case hg => rfl); (case hr => first | (go_simp; done) | (go_simp; rfl)); intro aI hg cP hbox hb; obtain ⟨n_, aJ⟩ := Cb.bx (by repeat (first | (with_reducible first | exact HB.out | apply ba | apply bn | apply bd | refine bs ?_ aH.out) | exact HB.out)) hg hb; have a7 := aJ; obtain ⟨aG, aK⟩ := Cb.nb hg aA.out; have aE := ak (hbox); replace aA := ak (blk_below aA.out hb); replace HB := n_; clear n_; clear hb hbox hg; have cF := aG.out; have cG := aK.out; obtain ⟨bG, bH, bI, bJ⟩ := Cb.c4 aA.out; obtain ⟨bK, bL, bM, bN⟩ := Cb.f4 aA.out) | ((with_reducible refine gate_callee (f := 37) rfl ?_); refine goesL_ (some 9) rfl rfl Try.func37 (by kernel_rfl) rfl #[.agg #[.slice aV aD.length aW, .int .i64 aM, .int .i64 aN, .bool aP], .string a1] rfl (by (try simp only [List.map_toArray, List.map_cons, List.map_nil]); first | done | rfl | (simp only [List.length_drop, List.length_take]; rfl)) ?_; (with_reducible refine (stanchionref03_at.calls k _ _ aD aM aN aP a1 aC _ ?side1 ?side2 A3.out).mono ?_); (case side1 => repeat (first | exact (Kd.C_below aX.out HB.out) | (with_reducible refine Kd.C_alloc ?_ _) | (with_reducible refine Kd.C_drewN ?_ _) | (with_reducible refine Kd.C_drew ?_))); (case side2 => exact a0.out); rintro e cM ⟨rfl, hb⟩; refine ⟨_, rfl, ?_⟩; replace aA := ak (blk_below aA.out hb); replace aE := ak (blk_below aE.out hb); replace HB := ak (below_step (by repeat (first | (with_reducible first | exact HB.out | apply ba | apply bn | apply bd | refine bs ?_ aH.out | refine bs ?_ aJ.out) | exact HB.out)) hb); (try clear hb); (try clear hb2); (try clear hk); (try clear hi); obtain ⟨bO, bP, bQ, bR⟩ := Cb.c4 aA.out; obtain ⟨bS, bT, bU, bV⟩ := Cb.f4 aA.out; have a3 : 0 ≤ (aC : Int) := of_decide_eq_true (by first | (with_reducible assumption) | assumption); have a4 : aC < (aD.length : Int) := of_decide_eq_true (by first | (with_reducible assumption) | assumption); obtain ⟨cH, cB, aQ, aT, aU⟩ := at_T38 aX.out aC a3 a4; cases cB; replace aQ := (HB.out.cell (World.block_lt_of_cell? w _ aQ)).trans aQ; replace aT := (HB.out.cell (World.block_lt_of_cell? w _ aT)).trans aT; replace aU := (HB.out.cell (World.block_lt_of_cell? w _ aU)).trans aU; replace a3 := eq_true a3; replace a4 := eq_true a4; obtain ⟨bW, bX, bY⟩ := Cb.c3 aE.out; obtain ⟨bZ, b0, b1⟩ := Cb.f3 aE.out) | ((with_reducible refine gate_store (t := 38) (p := 4) rfl ?_); refine store_event (t := 38) (p := 4) (v := ?vo_w21) (w1 := (((cM.setCell ⟨aI, 0, none⟩ (.string ((rd_T38 aD aC).f0))).setCell ⟨aI, 1, none⟩ (.string ((rd_T38 aD aC).f1))).setCell ⟨aI, 2, none⟩ (.string ((rd_T38 aD aC).f2)))) ?hg ?ho ?hn ?hr ?_; (case ho => rfl); (case hg => rfl); (case hn => rfl); (case hr => first | (go_simp; done) | (go_simp; rfl)); intro cQ hw; replace aA := bf3 hw aG.out aA.out; replace aE := bp3 hw aE.out; replace HB := bw3 hw HB.out aJ.out; clear hw))
  refine bodyPost_ret (results_ct rfl _ _ aI 38 #[.string ((rd_T38 aD aC).f0), .string ((rd_T38 aD aC).f1), .string ((rd_T38 aD aC).f2)] (0, 0) _ rfl (pk aE.out) Try.underlying38 rfl (by kernel_rfl)) rfl ?_
  exact ⟨by first | rfl | (simp [errW_none, errW_some] <;> rfl) | (simp [*, errW_none, errW_some] <;> rfl), by repeat (first | (with_reducible first | exact HB.out | apply ba | apply bn | apply bd | refine bs ?_ aH.out | refine bs ?_ aJ.out) | exact HB.out)⟩

/-! ### stanchionref03_power: function 71 -/
set_option maxHeartbeats 8000000 in
set_option maxRecDepth 100000 in
theorem stanchionref03_power.calls (aV : Nat → Prop) (aQ : Option Addr) (aT : Nat) (aJ : List (S38)) (aP : Int) (aG : Int) (aU : Bool) (r1 : List (S38)) (r2 : Int) (r3 : Int) (r4 : Bool) (r5 : Bool) (w : World) (aY : Kd.V k38 38 w w.heap.size (fun k_ => aV k_) (.slice aQ aJ.length aT) aJ) (h : stanchionref03_power.f aJ aP aG aU = some (r1, r2, r3, r4, r5)) :
  Calls Try.prog 71 #[.agg #[.slice aQ aJ.length aT, .int .i64 aP, .int .i64 aG, .bool aU]] w fun e w' => ∃ v0_ : Value, e = .returned (.tuple #[.agg #[v0_, .int .i64 r2, .int .i64 r3, .bool r4], .bool r5]) ∧ Kd.V k38 38 w' w.heap.size (fun k_ => (aV k_ ∨ w.heap.size ≤ k_)) v0_ r1 ∧ Below w.heap.size w w' := by
 have cK := Try.underlying33
 have aD := ak (show Kd.V k38 38 w w.heap.size (fun k_ => (aV k_ ∨ w.heap.size ≤ k_)) (.slice aQ aJ.length aT) aJ from Kd.V_mono aY (fun k_ hk => .inl hk))
 have HB := ak (Below.refl w.heap.size w)
 have H : (if aG = 0 then (some (aJ, aP, aG, true, false)) else (if aG > 0 then (some (aJ, aP, wrap64 (aG - 1), aU, true)) else (some (aJ, aP, aG, aU, true)))) = some (r1, r2, r3, r4, r5) := h
 clear h
 by_cases c2 : aG = 0
 ·rw [if_pos c2] at H
  have bX : (aG == 0) = true := beq_iff_eq.mpr c2
  have bY : (aG != 0) = false := bne_eq_false_iff_eq.mpr c2
  clear c2
  simp only [Option.some.injEq, Prod.mk.injEq] at H
  obtain ⟨rfl, rfl, rfl, rfl, rfl⟩ := H
  go_enter Try.func71, Try.ntmps71
  go_wp2_with (first | ((with_reducible refine gate_dst (N := 1) rfl ?_); refine box_event ?hg (N := 1) ?hd (cs := #[.slice aQ aJ.length aT, .int .i64 aP, .int .i64 aG, .bool aU]) (t := 33) ?hr ?_; (case hd => rfl); (case hg => rfl); (case hr => first | (go_simp; done) | (go_simp; rfl)); intro aM hg w3 hbox hb; obtain ⟨n_, aK⟩ := Cb.bx (pB HB.out) hg hb; have aW := aK; have aA := ak (hbox); replace aD := ak (Kd.V_below (Kd.V_elderB (pV aD.out) aM (Nat.le_of_eq hg.symm)) hb); replace HB := n_; clear n_; clear hb hbox hg) | ((with_reducible refine gate_dst (N := 2) rfl ?_); refine box_event ?hg (N := 2) ?hd (cs := #[.slice none 0 0, .int .i64 0, .int .i64 0, .bool false]) (t := 33) ?hr ?_; (case hd => rfl); (case hg => rfl); (case hr => first | (go_simp; done) | (go_simp; rfl)); intro aC hg w4 hbox hb; obtain ⟨n_, aN⟩ := Cb.bx (by repeat (first | (with_reducible first | exact HB.out | apply ba | apply bn | apply bd | refine bs ?_ aK.out) | exact HB.out)) hg hb; have aX := aN; obtain ⟨aE, aH⟩ := Cb.nb hg aA.out; have aI := ak (hbox); replace aD := ak (Kd.V_below (Kd.V_elderB (pV aD.out) aC (Nat.le_of_eq hg.symm)) hb); replace aA := ak (blk_below aA.out hb); replace HB := n_; clear n_; clear hb hbox hg; have cL := aE.out; have cM := aH.out; obtain ⟨bZ, b0, b1, b2⟩ := Cb.c4 aA.out; obtain ⟨b3, b4, b5, b6⟩ := Cb.f4 aA.out; obtain ⟨b7, b8, b9, cA⟩ := Cb.c4 aI.out; obtain ⟨cB, cC, cD, cE⟩ := Cb.f4 aI.out) | ((with_reducible refine gate_store (t := 33) (p := 2) rfl ?_); refine store_event (t := 33) (p := 2) (v := ?vo_w8) (w1 := (((((w4.setCell ⟨aM, 3, none⟩ (.bool true)).setCell ⟨aC, 0, none⟩ (.slice aQ aJ.length aT)).setCell ⟨aC, 1, none⟩ (.int .i64 aP)).setCell ⟨aC, 2, none⟩ (.int .i64 aG)).setCell ⟨aC, 3, none⟩ (.bool true))) ?hg ?ho ?hn ?hr ?_; (case ho => rfl); (case hg => rfl); (case hn => rfl); (case hr => first | (go_simp; done) | (go_simp; rfl)); intro w8 hw; replace aD := vg4 (ok' := fun k_ => (aV k_ ∨ w.heap.size ≤ k_) ∧ k_ ≠ aM ∧ k_ ≠ aC) hw (vf1 rfl aD.out fun _ hk => hk.1.2).out (fun _ hk => hk.2) fun _ hk => ⟨hk.1.1, ⟨hk.1.2, hk.2⟩⟩; replace aA : Aside0 (w8.heap[aM]? = some (.cells #[.slice aQ aJ.length aT, .int .i64 aP, .int .i64 aG, .bool true] 33 (0, 0))) := bf4 hw aE.out (blk_put aA.out 3 _ rfl); replace aI := bp4 hw (bf1 rfl aH.out aI.out).out; replace HB := bw4 hw (bw1 rfl HB.out aK.out).out aN.out; clear hw))
  refine bodyPost_ret (results_ct rfl _ _ aC 33 #[.slice aQ aJ.length aT, .int .i64 aP, .int .i64 aG, .bool true] (0, 0) _ rfl (pk aI.out) Try.underlying33 rfl (by kernel_rfl)) rfl ?_
  exact ⟨_, by first | rfl | (simp [errW_none, errW_some] <;> rfl) | (simp [*, errW_none, errW_some] <;> rfl), pV (Kd.V_mono aD.out (fun _ hk => hk.1)), by repeat (first | (with_reducible first | exact HB.out | apply ba | apply bn | apply bd | refine bs ?_ aK.out | refine bs ?_ aN.out) | exact HB.out)⟩
 ·rw [if_neg c2] at H
  have bX : (aG == 0) = false := beq_eq_false_iff_ne.mpr c2
  have bY : (aG != 0) = true := bne_iff_ne.mpr c2
  by_cases c9 : aG > 0
  ·rw [if_pos c9] at H
   have cF : decide (0 < aG) = true := decide_eq_true c9
   clear c9
   simp only [Option.some.injEq, Prod.mk.injEq] at H
   obtain ⟨rfl, rfl, rfl, rfl, rfl⟩ := H
   go_enter Try.func71, Try.ntmps71
   go_wp2_with (first | ((with_reducible refine gate_dst (N := 1) rfl ?_); refine box_event ?hg (N := 1) ?hd (cs := #[.slice aQ aJ.length aT, .int .i64 aP, .int .i64 aG, .bool aU]) (t := 33) ?hr ?_; (case hd => rfl); (case hg => rfl); (case hr => first | (go_simp; done) | (go_simp; rfl)); intro aM hg cQ hbox hb; obtain ⟨n_, aK⟩ := Cb.bx (pB HB.out) hg hb; have aW := aK; have aA := ak (hbox); replace aD := ak (Kd.V_below (Kd.V_elderB (pV aD.out) aM (Nat.le_of_eq hg.symm)) hb); replace HB := n_; clear n_; clear hb hbox hg) | ((with_reducible refine gate_dst (N := 2) rfl ?_); refine box_event ?hg (N := 2) ?hd (cs := #[.slice none 0 0, .int .i64 0, .int .i64 0, .bool false]) (t := 33) ?hr ?_; (case hd => rfl); (case hg => rfl); (case hr => first | (go_simp; done) | (go_simp; rfl)); intro aC hg cN hbox hb; obtain ⟨n_, aN⟩ := Cb.bx (by repeat (first | (with_reducible first | exact HB.out | apply ba | apply bn | apply bd | refine bs ?_ aK.out) | exact HB.out)) hg hb; have aX := aN; obtain ⟨aE, aH⟩ := Cb.nb hg aA.out; have aI := ak (hbox); replace aD := ak (Kd.V_below (Kd.V_elderB (pV aD.out) aC (Nat.le_of_eq hg.symm)) hb); replace aA := ak (blk_below aA.out hb); replace HB := n_; clear n_; clear hb hbox hg; have cG := aE.out; have cH := aH.out; obtain ⟨aZ, a0, a3, a4⟩ := Cb.c4 aA.out; obtain ⟨a5, a6, a7, a8⟩ := Cb.f4 aA.out; obtain ⟨a9, bA, bB, bC⟩ := Cb.c4 aI.out; obtain ⟨bD, bE, bF, bG⟩ := Cb.f4 aI.out) | ((with_reducible refine gate_store (t := 33) (p := 2) rfl ?_); refine store_event (t := 33) (p := 2) (v := ?vo_w15) (w1 := (((((cN.setCell ⟨aM, 2, none⟩ (.int .i64 (wrap64 (aG - 1)))).setCell ⟨aC, 0, none⟩ (.slice aQ aJ.length aT)).setCell ⟨aC, 1, none⟩ (.int .i64 aP)).setCell ⟨aC, 2, none⟩ (.int .i64 (wrap64 (aG - 1)))).setCell ⟨aC, 3, none⟩ (.bool aU))) ?hg ?ho ?hn ?hr ?_; (case ho => rfl); (case hg => rfl); (case hn => rfl); (case hr => first | (go_simp; done) | (go_simp; rfl)); intro cO hw; replace aD := vg4 (ok' := fun k_ => (aV k_ ∨ w.heap.size ≤ k_) ∧ k_ ≠ aM ∧ k_ ≠ aC) hw (vf1 rfl aD.out fun _ hk => hk.1.2).out (fun _ hk => hk.2) fun _ hk => ⟨hk.1.1, ⟨hk.1.2, hk.2⟩⟩; replace aA : Aside0 (cO.heap[aM]? = some (.cells #[.slice aQ aJ.length aT, .int .i64 aP, .int .i64 (wrap64 (aG - 1)), .bool aU] 33 (0, 0))) := bf4 hw aE.out (blk_put aA.out 2 _ rfl); replace aI := bp4 hw (bf1 rfl aH.out aI.out).out; replace HB := bw4 hw (bw1 rfl HB.out aK.out).out aN.out; clear hw))
   refine bodyPost_ret (results_ct rfl _ _ aC 33 #[.slice aQ aJ.length aT, .int .i64 aP, .int .i64 (wrap64 (aG - 1)), .bool aU] (0, 0) _ rfl (pk aI.out) Try.underlying33 rfl (by kernel_rfl)) rfl ?_
   exact ⟨_, by first | rfl | (simp [errW_none, errW_some] <;> rfl) | (simp [*, errW_none, errW_some] <;> rfl), pV (Kd.V_mono aD.out (fun _ hk => hk.1)), by repeat (first | (with_reducible first | exact HB.out | apply ba | apply bn | apply bd | refine bs ?_ aK.out | refine bs ?_ aN.out) | exact HB.out)⟩
  ·rw [if_neg c9] at H
   have cF : decide (0 < aG) = false := decide_eq_false c9
   clear c9
   simp only [Option.some.injEq, Prod.mk.injEq] at H
   obtain ⟨rfl, rfl, rfl, rfl, rfl⟩ := H
   go_enter Try.func71, Try.ntmps71
   go_wp2_with (first | ((with_reducible refine gate_dst (N := 1) rfl ?_); refine box_event ?hg (N := 1) ?hd (cs := #[.slice aQ aJ.length aT, .int .i64 aP, .int .i64 aG, .bool aU]) (t := 33) ?hr ?_; (case hd => rfl); (case hg => rfl); (case hr => first | (go_simp; done) | (go_simp; rfl)); intro aM hg cR hbox hb; obtain ⟨n_, aK⟩ := Cb.bx (pB HB.out) hg hb; have aW := aK; have aA := ak (hbox); replace aD := ak (Kd.V_below (Kd.V_elderB (pV aD.out) aM (Nat.le_of_eq hg.symm)) hb); replace HB := n_; clear n_; clear hb hbox hg) | ((with_reducible refine gate_dst (N := 2) rfl ?_); refine box_event ?hg (N := 2) ?hd (cs := #[.slice none 0 0, .int .i64 0, .int .i64 0, .bool false]) (t := 33) ?hr ?_; (case hd => rfl); (case hg => rfl); (case hr => first | (go_simp; done) | (go_simp; rfl)); intro aC hg cP hbox hb; obtain ⟨n_, aN⟩ := Cb.bx (by repeat (first | (with_reducible first | exact HB.out | apply ba | apply bn | apply bd | refine bs ?_ aK.out) | exact HB.out)) hg hb; have aX := aN; obtain ⟨aE, aH⟩ := Cb.nb hg aA.out; have aI := ak (hbox); replace aD := ak (Kd.V_below (Kd.V_elderB (pV aD.out) aC (Nat.le_of_eq hg.symm)) hb); replace aA := ak (blk_below aA.out hb); replace HB := n_; clear n_; clear hb hbox hg; have cI := aE.out; have cJ := aH.out; obtain ⟨bH, bI, bJ, bK⟩ := Cb.c4 aA.out; obtain ⟨bL, bM, bN, bO⟩ := Cb.f4 aA.out; obtain ⟨bP, bQ, bR, bS⟩ := Cb.c4 aI.out; obtain ⟨bT, bU, bV, bW⟩ := Cb.f4 aI.out) | ((with_reducible refine gate_store (t := 33) (p := 2) rfl ?_); refine store_event (t := 33) (p := 2) (v := ?vo_w21) (w1 := ((((cP.setCell ⟨aC, 0, none⟩ (.slice aQ aJ.length aT)).setCell ⟨aC, 1, none⟩ (.int .i64 aP)).setCell ⟨aC, 2, none⟩ (.int .i64 aG)).setCell ⟨aC, 3, none⟩ (.bool aU))) ?hg ?ho ?hn ?hr ?_; (case ho => rfl); (case hg => rfl); (case hn => rfl); (case hr => first | (go_simp; done) | (go_simp; rfl)); intro cS hw; replace aD := vg4 (ok' := fun k_ => (aV k_ ∨ w.heap.size ≤ k_) ∧ k_ ≠ aM ∧ k_ ≠ aC) hw aD.out (fun _ hk => hk.2) fun _ hk => ⟨hk.1.1, ⟨hk.1.2, hk.2⟩⟩; replace aA := bf4 hw aE.out aA.out; replace aI := bp4 hw aI.out; replace HB := bw4 hw HB.out aN.out; clear hw))
   refine bodyPost_ret (results_ct rfl _ _ aC 33 #[.slice aQ aJ.length aT, .int .i64 aP, .int .i64 aG, .bool aU] (0, 0) _ rfl (pk aI.out) Try.underlying33 rfl (by kernel_rfl)) rfl ?_
   exact ⟨_, by first | rfl | (simp [errW_none, errW_some] <;> rfl) | (simp [*, errW_none, errW_some] <;> rfl), pV (Kd.V_mono aD.out (fun _ hk => hk.1)), by repeat (first | (with_reducible first | exact HB.out | apply ba | apply bn | apply bd | refine bs ?_ aK.out | refine bs ?_ aN.out) | exact HB.out)⟩

/-! ### stanchionref03_less: function 72 -/
def stanchionref03_less.T1 : Bool × List (List Nat × List Nat) := (true, [([], []), ([0], [0]), ([], []), ([2], [2]), ([], []), ([3, 4], [3, 4]), ([5], [5]), ([6], [6]), ([7], [7]), ([1, 8], [1, 8]), ([], []), ([10], [10]), ([], []), ([11, 12], [11, 12]), ([13], [13]), ([14], [14]), ([15], [15]), ([9, 16], [9, 16]), ([0, 1, 2, 3, 4, 5, 6, 7, 8, 9, 10, 11, 12, 13, 14, 15, 16, 17], []), ([18, 17, 0, 1, 2, 3, 4, 5, 6, 7, 8, 9, 10, 11, 12, 13, 14, 15, 16, 17], [17, 18])])
def stanchionref03_less.B1 : List Nat := [0, 1, 0, 4, 0, 28, 60, 124, 252, 511, 0, 1024, 0, 7168, 15360, 31744, 64512, 131071, 262143, 524287]
theorem stanchionref03_less.tab1 : rtab .any (opsOf Try.f72 1) = stanchionref03_less.T1 := by kernel_rfl
theorem stanchionref03_less.bits1 : waitsOk stanchionref03_less.T1.2 stanchionref03_less.B1 = true := by kernel_rfl
set_option maxHeartbeats 8000000 in
set_option maxRecDepth 100000 in
theorem stanchionref03_less.calls (bX : Option Addr) (aN : Nat) (aA : List (S38)) (aH : Int) (aI : Int) (aJ : Bool) (a1 : Int) (r1 : List (S38)) (r2 : Int) (r3 : Int) (r4 : Bool) (w : World) (bO : Kd.C k38 w bX aA.length aA) (bP : aA.length ≤ aN) (h : stanchionref03_less.f aA aH aI aJ a1 = some (r1, r2, r3, r4)) :
  Calls Try.prog 72 #[.agg #[.slice bX aA.length aN, .int .i64 aH, .int .i64 aI, .bool aJ], .int .i64 a1] w fun e w' => ∃ v0_ : Value, e = .returned (.agg #[v0_, .int .i64 r2, .int .i64 r3, .bool r4]) ∧ Kd.R k38 38 w' w.heap.size (fun _ => True) v0_ r1 ∧ Below w.heap.size w w' := by
 have d7 := Try.underlying33
 have a7 := ak bO
 have bQ := ak bP
 clear bO bP
 have HB := ak (Below.refl w.heap.size w)
 have H : (if 0 ≤ a1 then (if a1 < (aA.length : Int) then ((some (([] : List (S38)) : List (S38))).bind fun y313 => (if a1 ≤ (aA.length : Int) then ((some (aA.take (a1 : Int).toNat : List (S38))).bind fun y316 => (if y313.length + y316.length < 2932031007402 then ((some (y313 ++ y316 : List (S38))).bind fun aK => (if 0 ≤ (wrap64 (a1 + 1)) then (if (wrap64 (a1 + 1)) ≤ (aA.length : Int) then ((some (aA.drop ((wrap64 (a1 + 1)) : Int).toNat : List (S38))).bind fun aG => (if aK.length + aG.length < 2932031007402 then (some ((aK ++ aG), wrap64 ((wrap64 (aH + (((rd_T38 aA a1).f1).size : Int))) + (((rd_T38 aA a1).f2).size : Int)), aI, aJ)) else (none))) else (none)) else (none))) else (none))) else (none))) else (none)) else (none)) = some (r1, r2, r3, r4) := h
 clear h
 have c3 : 0 ≤ a1 := Decidable.byContradiction fun q => by rw [if_neg q] at H; exact absurd H (by simp)
 rw [if_pos c3] at H
 have d8 : decide (0 ≤ a1) = true := decide_eq_true c3
 clear c3
 have c4 : a1 < (aA.length : Int) := Decidable.byContradiction fun q => by rw [if_neg q] at H; exact absurd H (by simp)
 rw [if_pos c4] at H
 have d9 : decide (a1 < (aA.length : Int)) = true := decide_eq_true c4
 clear c4
 obtain ⟨y313, hy313⟩ : ∃ y_ : List (S38), y_ = (([] : List (S38))) := ⟨_, rfl⟩
 replace H : (if a1 ≤ (aA.length : Int) then ((some (aA.take (a1 : Int).toNat : List (S38))).bind fun y316 => (if y313.length + y316.length < 2932031007402 then ((some (y313 ++ y316 : List (S38))).bind fun aK => (if 0 ≤ (wrap64 (a1 + 1)) then (if (wrap64 (a1 + 1)) ≤ (aA.length : Int) then ((some (aA.drop ((wrap64 (a1 + 1)) : Int).toNat : List (S38))).bind fun aG => (if aK.length + aG.length < 2932031007402 then (some ((aK ++ aG), wrap64 ((wrap64 (aH + (((rd_T38 aA a1).f1).size : Int))) + (((rd_T38 aA a1).f2).size : Int)), aI, aJ)) else (none))) else (none)) else (none))) else (none))) else (none)) = some (r1, r2, r3, r4) := by first | (rw [hy313]; with_reducible exact H) | (have a4 := (Option.bind_some _ _).symm.trans H; rw [hy313]; with_reducible exact a4) | (have a4 := (Option.bind_some _ _).symm.trans H; with_reducible exact a4) | with_reducible exact H | (rw [hy313]; exact H) | exact H
 have bR := ak hy313
 clear hy313
 have eA := eq_true (of_decide_eq_true (by first | (with_reducible assumption) | assumption) : 0 ≤ a1)
 have c6 : a1 ≤ (aA.length : Int) := Decidable.byContradiction fun q => by rw [if_neg q] at H; exact absurd H (by simp)
 rw [if_pos c6] at H
 have eB := eq_true c6
 have eC : decide (a1 ≤ (aA.length : Int)) = true := decide_eq_true c6
 clear c6
 obtain ⟨y316, hy316⟩ : ∃ y_ : List (S38), y_ = (aA.take (a1 : Int).toNat) := ⟨_, rfl⟩
 replace H : (if y313.length + y316.length < 2932031007402 then ((some (y313 ++ y316 : List (S38))).bind fun aK => (if 0 ≤ (wrap64 (a1 + 1)) then (if (wrap64 (a1 + 1)) ≤ (aA.length : Int) then ((some (aA.drop ((wrap64 (a1 + 1)) : Int).toNat : List (S38))).bind fun aG => (if aK.length + aG.length < 2932031007402 then (some ((aK ++ aG), wrap64 ((wrap64 (aH + (((rd_T38 aA a1).f1).size : Int))) + (((rd_T38 aA a1).f2).size : Int)), aI, aJ)) else (none))) else (none)) else (none))) else (none)) = some (r1, r2, r3, r4) := by first | (rw [hy316]; with_reducible exact H) | (have a4 := (Option.bind_some _ _).symm.trans H; rw [hy316]; with_reducible exact a4) | (have a4 := (Option.bind_some _ _).symm.trans H; with_reducible exact a4) | with_reducible exact H | (rw [hy316]; exact H) | exact H
 have bS := ak hy316
 clear hy316
 have c7 : y313.length + y316.length < 2932031007402 := Decidable.byContradiction fun q => by rw [if_neg q] at H; exact absurd H (by simp)
 rw [if_pos c7] at H
 have dO := ak c7
 clear c7
 obtain ⟨aK, hy320⟩ : ∃ y_ : List (S38), y_ = (y313 ++ y316) := ⟨_, rfl⟩
 replace H : (if 0 ≤ (wrap64 (a1 + 1)) then (if (wrap64 (a1 + 1)) ≤ (aA.length : Int) then ((some (aA.drop ((wrap64 (a1 + 1)) : Int).toNat : List (S38))).bind fun aG => (if aK.length + aG.length < 2932031007402 then (some ((aK ++ aG), wrap64 ((wrap64 (aH + (((rd_T38 aA a1).f1).size : Int))) + (((rd_T38 aA a1).f2).size : Int)), aI, aJ)) else (none))) else (none)) else (none)) = some (r1, r2, r3, r4) := by first | (rw [hy320]; with_reducible exact H) | (have a4 := (Option.bind_some _ _).symm.trans H; rw [hy320]; with_reducible exact a4) | (have a4 := (Option.bind_some _ _).symm.trans H; with_reducible exact a4) | with_reducible exact H | (rw [hy320]; exact H) | exact H
 have b7 := ak hy320
 clear hy320
 obtain ⟨a6, hji8⟩ : ∃ j_ : Int, (wrap64 (a1 + 1)) = j_ := ⟨_, rfl⟩
 replace H : (if 0 ≤ (a6) then (if (a6) ≤ (aA.length : Int) then ((some (aA.drop ((a6) : Int).toNat : List (S38))).bind fun aG => (if aK.length + aG.length < 2932031007402 then (some ((aK ++ aG), wrap64 ((wrap64 (aH + (((rd_T38 aA a1).f1).size : Int))) + (((rd_T38 aA a1).f2).size : Int)), aI, aJ)) else (none))) else (none)) else (none)) = some (r1, r2, r3, r4) := by first | (rw [hji8] at H; exact H) | (simp only [hji8] at H ⊢; exact H)
 have dX : (IntKind.i64.wrap (a1 + 1)) = a6 := (i64_w _).trans hji8
 have c9 : 0 ≤ (a6) := Decidable.byContradiction fun q => by rw [if_neg q] at H; exact absurd H (by simp)
 rw [if_pos c9] at H
 have eD := eq_true c9
 have eE : decide (0 ≤ (a6)) = true := decide_eq_true c9
 clear c9
 have b8 : (a6) ≤ (aA.length : Int) := Decidable.byContradiction fun q => by rw [if_neg q] at H; exact absurd H (by simp)
 rw [if_pos b8] at H
 have dY := eq_true b8
 have dZ : decide ((a6) ≤ (aA.length : Int)) = true := decide_eq_true b8
 clear b8
 obtain ⟨aG, hy323⟩ : ∃ y_ : List (S38), y_ = (aA.drop ((a6) : Int).toNat) := ⟨_, rfl⟩
 replace H : (if aK.length + aG.length < 2932031007402 then (some ((aK ++ aG), wrap64 ((wrap64 (aH + (((rd_T38 aA a1).f1).size : Int))) + (((rd_T38 aA a1).f2).size : Int)), aI, aJ)) else (none)) = some (r1, r2, r3, r4) := by first | (rw [hy323]; with_reducible exact H) | (have a4 := (Option.bind_some _ _).symm.trans H; rw [hy323]; with_reducible exact a4) | (have a4 := (Option.bind_some _ _).symm.trans H; with_reducible exact a4) | with_reducible exact H | (rw [hy323]; exact H) | exact H
 have bT := ak hy323
 clear hy323
 have cH : aK.length + aG.length < 2932031007402 := Decidable.byContradiction fun q => by rw [if_neg q] at H; exact absurd H (by simp)
 rw [if_pos cH] at H
 have b9 := ak cH
 clear cH
 obtain ⟨y327, hy327⟩ : ∃ y_ : List (S38), y_ = (aK ++ aG) := ⟨_, rfl⟩
 replace H : (some (y327, wrap64 ((wrap64 (aH + (((rd_T38 aA a1).f1).size : Int))) + (((rd_T38 aA a1).f2).size : Int)), aI, aJ)) = some (r1, r2, r3, r4) := by first | (rw [hy327]; with_reducible exact H) | (have a4 := (Option.bind_some _ _).symm.trans H; rw [hy327]; with_reducible exact a4) | (have a4 := (Option.bind_some _ _).symm.trans H; with_reducible exact a4) | with_reducible exact H | (rw [hy327]; exact H) | exact H
 have cA := ak hy327
 clear hy327
 simp only [Option.some.injEq, Prod.mk.injEq] at H
 obtain ⟨rfl, rfl, rfl, rfl⟩ := H
 go_enter Try.func72, Try.ntmps72
 try go_wp2_with (first | ((with_reducible refine gate_dst (N := 2) rfl ?_); refine box_event ?hg (N := 2) ?hd (cs := #[.slice bX aA.length aN, .int .i64 aH, .int .i64 aI, .bool aJ]) (t := 33) ?hr ?_; (case hd => rfl); (case hg => rfl); (case hr => first | (go_simp; done) | (go_simp; rfl)); intro aP hg eP hbox hb; obtain ⟨n_, aQ⟩ := Cb.bx (pB HB.out) hg hb; have d0 := aQ; have aC := ak (hbox); replace HB := n_; clear n_; clear hb hbox hg) | ((with_reducible refine gate_dst (N := 4) rfl ?_); refine box_event ?hg (N := 4) ?hd (cs := #[.slice none 0 0, .int .i64 0, .int .i64 0, .bool false]) (t := 33) ?hr ?_; (case hd => rfl); (case hg => rfl); (case hr => first | (go_simp; done) | (go_simp; rfl)); intro a3 hg eF hbox hb; obtain ⟨n_, aT⟩ := Cb.bx (by repeat (first | (with_reducible first | exact HB.out | apply ba | apply bn | apply bd | refine bs ?_ aQ.out) | exact HB.out)) hg hb; have d1 := aT; obtain ⟨a0, aM⟩ := Cb.nb hg aC.out; have aE := ak (hbox); replace aC := ak (blk_below aC.out hb); replace HB := n_; clear n_; clear hb hbox hg))
 replace aC := ak (blk_drew aC.out)
 replace aE := ak (blk_drew aE.out)
 replace HB := ak (below_drew1 HB.out)
 have bY : 0 ≤ (a1 : Int) := of_decide_eq_true (by first | (with_reducible assumption) | assumption)
 have bZ : a1 < (aA.length : Int) := of_decide_eq_true (by first | (with_reducible assumption) | assumption)
 obtain ⟨aD, dP, aU, aV, aW⟩ := at_T38 a7.out a1 bY bZ
 have a8 := aW
 have a9 := aV
 have bA := aU
 cases dP
 replace aU := (HB.out.cell (World.block_lt_of_cell? w _ aU)).trans aU
 replace aV := (HB.out.cell (World.block_lt_of_cell? w _ aV)).trans aV
 replace aW := (HB.out.cell (World.block_lt_of_cell? w _ aW)).trans aW
 replace bY := eq_true bY
 replace bZ := eq_true bZ
 have b0 : 0 ≤ (a1 : Int) := of_decide_eq_true (by first | (with_reducible assumption) | assumption)
 have b1 : a1 < (aA.length : Int) := of_decide_eq_true (by first | (with_reducible assumption) | assumption)
 obtain ⟨cB, dQ, aX, aY, aZ⟩ := at_T38 a7.out a1 b0 b1
 have bB := aZ
 have bC := aY
 have bD := aX
 obtain rfl : aD = cB := (by injection dQ)
 replace aX := (HB.out.cell (World.block_lt_of_cell? w _ aX)).trans aX
 replace aY := (HB.out.cell (World.block_lt_of_cell? w _ aY)).trans aY
 replace aZ := (HB.out.cell (World.block_lt_of_cell? w _ aZ)).trans aZ
 replace b0 := eq_true b0
 replace b1 := eq_true b1
 refine start_ (n := 20) (S := fun w' => w'.cell? ⟨aP, 0, none⟩ = some (.slice (some aD) aA.length aN) ∧ w'.cell? ⟨aP, 1, none⟩ = some (.int .i64 aH) ∧ w'.cell? ⟨aP, 2, none⟩ = some (.int .i64 aI) ∧ w'.cell? ⟨aP, 3, none⟩ = some (.bool aJ) ∧ w'.cell? (aD.add ((a1).toNat * 3)) = some (.string ((rd_T38 aA a1).f0)) ∧ w'.cell? ⟨(aD.add ((a1).toNat * 3)).block, (aD.add ((a1).toNat * 3)).off + 1, none⟩ = some (.string ((rd_T38 aA a1).f1)) ∧ w'.cell? ⟨(aD.add ((a1).toNat * 3)).block, (aD.add ((a1).toNat * 3)).off + 2, none⟩ = some (.string ((rd_T38 aA a1).f2)) ∧ w'.cell? (aD.add ((a1).toNat * 3)) = some (.string ((rd_T38 aA a1).f0)) ∧ w'.cell? ⟨(aD.add ((a1).toNat * 3)).block, (aD.add ((a1).toNat * 3)).off + 1, none⟩ = some (.string ((rd_T38 aA a1).f1)) ∧ w'.cell? ⟨(aD.add ((a1).toNat * 3)).block, (aD.add ((a1).toNat * 3)).off + 2, none⟩ = some (.string ((rd_T38 aA a1).f2))) (ds := [19]) #[false, false, false, false, false, false, false, false, false, false, false, false, false, false, false, false, false, false, false, false] (by kernel_rfl) rfl rfl ⟨(blk_cell aC.out 0).trans rfl, (blk_cell aC.out 1).trans rfl, (blk_cell aC.out 2).trans rfl, (blk_cell aC.out 3).trans rfl, ((HB.out.cell (World.block_lt_of_cell? w _ bA)).trans bA), ((HB.out.cell (World.block_lt_of_cell? w _ a9)).trans a9), ((HB.out.cell (World.block_lt_of_cell? w _ a8)).trans a8), ((HB.out.cell (World.block_lt_of_cell? w _ bD)).trans bD), ((HB.out.cell (World.block_lt_of_cell? w _ bC)).trans bC), ((HB.out.cell (World.block_lt_of_cell? w _ bB)).trans bB)⟩ (fun hHeld => ?_); refine with_tabW stanchionref03_less.tab1 stanchionref03_less.bits1 (fun HT_ HW_ => ?_)
 generalize eF.drew = w14 at aC aE HB aU aV aW aX aY aZ hHeld ⊢
 refine pure_ (i := 0) (N := some 6) (v := ?_) (a' := ?_) #[true, false, false, false, false, false, false, false, false, false, false, false, false, false, false, false, false, false, false, false] rfl rfl (any_of HT_.out (by kernel_rfl)) (fun _ _ _ h => h) (Or.inl ⟨by rfl, ?_⟩) ?_ ?_
 rotate_left
 ·intro w'
  go_simp
  with_reducible rfl
 rotate_left
 ·simp only [Act.put, List.setIfInBounds_toArray, List.set_cons_zero, List.set_cons_succ, i64_w, i32_w]
  rfl
 refine pure_ (i := 2) (N := some 8) (v := ?_) (a' := ?_) #[true, false, true, false, false, false, false, false, false, false, false, false, false, false, false, false, false, false, false, false] rfl rfl (any_of HT_.out (by kernel_rfl)) (fun _ _ _ h => h) (Or.inl ⟨by rfl, ?_⟩) ?_ ?_
 rotate_left
 ·intro w'
  go_simp
  with_reducible rfl
 rotate_left
 ·simp only [Act.put, List.setIfInBounds_toArray, List.set_cons_zero, List.set_cons_succ, i64_w, i32_w]
  rfl
 refine pure_ (i := 4) (N := some 10) (v := ?_) (a' := ?_) #[true, false, true, false, true, false, false, false, false, false, false, false, false, false, false, false, false, false, false, false] rfl rfl (any_of HT_.out (by kernel_rfl)) (fun _ _ _ h => h) (Or.inl ⟨by rfl, ?_⟩) ?_ ?_
 rotate_left
 ·intro w'
  go_simp
  with_reducible rfl
 rotate_left
 ·simp only [Act.put, List.setIfInBounds_toArray, List.set_cons_zero, List.set_cons_succ, i64_w, i32_w]
  rfl
 refine pure_ (i := 10) (N := some 16) (v := ?_) (a' := ?_) #[true, false, true, false, true, false, false, false, false, false, true, false, false, false, false, false, false, false, false, false] rfl rfl (any_of HT_.out (by kernel_rfl)) (fun _ _ _ h => h) (Or.inl ⟨by rfl, ?_⟩) ?_ ?_
 rotate_left
 ·intro w'
  go_simp
  with_reducible rfl
 rotate_left
 ·simp only [Act.put, List.setIfInBounds_toArray, List.set_cons_zero, List.set_cons_succ, i64_w, i32_w]
  rfl
 refine pure_ (i := 12) (N := some 18) (v := ?_) (a' := ?_) #[true, false, true, false, true, false, false, false, false, false, true, false, true, false, false, false, false, false, false, false] rfl rfl (any_of HT_.out (by kernel_rfl)) (fun _ _ _ h => h) (Or.inl ⟨by rfl, ?_⟩) ?_ ?_
 rotate_left
 ·intro w'
  go_simp
  with_reducible rfl
 rotate_left
 ·simp only [Act.put, List.setIfInBounds_toArray, List.set_cons_zero, List.set_cons_succ, i64_w, i32_w]
  rfl
 refine take_ (i := 1) (N := some 7) (v := ?_) (a' := ?_) #[true, true, true, false, true, false, false, false, false, false, true, false, true, false, false, false, false, false, false, false] rfl rfl (take_ofW HT_.out HW_.out (by kernel_rfl)) (fun _ _ _ h => h) (Or.inl ⟨by rfl, ?_⟩) hHeld ?_ ?_
 rotate_left
 ·rintro w' ⟨s0, s1, s2, s3, s4, s5, s6, s7, s8, s9⟩
  go_simp
  with_reducible rfl
 rotate_left
 ·simp only [Act.put, List.setIfInBounds_toArray, List.set_cons_zero, List.set_cons_succ, i64_w, i32_w]
  rfl
 refine take_ (i := 3) (N := some 9) (v := ?_) (a' := ?_) #[true, true, true, true, true, false, false, false, false, false, true, false, true, false, false, false, false, false, false, false] rfl rfl (take_ofW HT_.out HW_.out (by kernel_rfl)) (fun _ _ _ h => h) (Or.inl ⟨by rfl, ?_⟩) hHeld ?_ ?_
 rotate_left
 ·rintro w' ⟨s0, s1, s2, s3, s4, s5, s6, s7, s8, s9⟩
  go_simp
  with_reducible rfl
 rotate_left
 ·simp only [Act.put, List.setIfInBounds_toArray, List.set_cons_zero, List.set_cons_succ, i64_w, i32_w]
  rfl
 refine pure_ (i := 5) (N := some 11) (v := ?_) (a' := ?_) #[true, true, true, true, true, true, false, false, false, false, true, false, true, false, false, false, false, false, false, false] rfl rfl (any_of HT_.out (by kernel_rfl)) (fun _ _ _ h => h) (Or.inl ⟨by rfl, ?_⟩) ?_ ?_
 rotate_left
 ·intro w'
  go_simp
  with_reducible rfl
 rotate_left
 ·simp only [Act.put, List.setIfInBounds_toArray, List.set_cons_zero, List.set_cons_succ, i64_w, i32_w]
  rfl
 refine pure_ (i := 6) (N := some 12) (v := ?_) (a' := ?_) #[true, true, true, true, true, true, true, false, false, false, true, false, true, false, false, false, false, false, false, false] rfl rfl (any_of HT_.out (by kernel_rfl)) (fun _ _ _ h => h) (Or.inl ⟨by rfl, ?_⟩) ?_ ?_
 rotate_left
 ·intro w'
  go_simp
  with_reducible rfl
 rotate_left
 ·simp only [Act.put, List.setIfInBounds_toArray, List.set_cons_zero, List.set_cons_succ, i64_w, i32_w]
  rfl
 refine take_ (i := 7) (N := some 13) (v := ?_) (a' := ?_) #[true, true, true, true, true, true, true, true, false, false, true, false, true, false, false, false, false, false, false, false] rfl rfl (take_ofW HT_.out HW_.out (by kernel_rfl)) (fun _ _ _ h => h) (Or.inl ⟨by rfl, ?_⟩) hHeld ?_ ?_
 rotate_left
 ·rintro w' ⟨s0, s1, s2, s3, s4, s5, s6, s7, s8, s9⟩
  go_simp
  with_reducible rfl
 rotate_left
 ·simp only [Act.put, List.setIfInBounds_toArray, List.set_cons_zero, List.set_cons_succ, i64_w, i32_w]
  rfl
 refine pure_ (i := 8) (N := some 14) (v := ?_) (a' := ?_) #[true, true, true, true, true, true, true, true, true, false, true, false, true, false, false, false, false, false, false, false] rfl rfl (any_of HT_.out (by kernel_rfl)) (fun _ _ _ h => h) (Or.inl ⟨by rfl, ?_⟩) ?_ ?_
 rotate_left
 ·intro w'
  go_simp
  with_reducible rfl
 rotate_left
 ·simp only [Act.put, List.setIfInBounds_toArray, List.set_cons_zero, List.set_cons_succ, i64_w, i32_w]
  rfl
 refine pure_ (i := 9) (N := some 15) (v := ?_) (a' := ?_) #[true, true, true, true, true, true, true, true, true, true, true, false, true, false, false, false, false, false, false, false] rfl rfl (any_of HT_.out (by kernel_rfl)) (fun _ _ _ h => h) (Or.inl ⟨by rfl, ?_⟩) ?_ ?_
 rotate_left
 ·intro w'
  go_simp
  with_reducible rfl
 rotate_left
 ·simp only [Act.put, List.setIfInBounds_toArray, List.set_cons_zero, List.set_cons_succ, i64_w, i32_w]
  rfl
 refine take_ (i := 11) (N := some 17) (v := ?_) (a' := ?_) #[true, true, true, true, true, true, true, true, true, true, true, true, true, false, false, false, false, false, false, false] rfl rfl (take_ofW HT_.out HW_.out (by kernel_rfl)) (fun _ _ _ h => h) (Or.inl ⟨by rfl, ?_⟩) hHeld ?_ ?_
 rotate_left
 ·rintro w' ⟨s0, s1, s2, s3, s4, s5, s6, s7, s8, s9⟩
  go_simp
  with_reducible rfl
 rotate_left
 ·simp only [Act.put, List.setIfInBounds_toArray, List.set_cons_zero, List.set_cons_succ, i64_w, i32_w]
  rfl
 refine pure_ (i := 13) (N := some 19) (v := ?_) (a' := ?_) #[true, true, true, true, true, true, true, true, true, true, true, true, true, true, false, false, false, false, false, false] rfl rfl (any_of HT_.out (by kernel_rfl)) (fun _ _ _ h => h) (Or.inl ⟨by rfl, ?_⟩) ?_ ?_
 rotate_left
 ·intro w'
  go_simp
  with_reducible rfl
 rotate_left
 ·simp only [Act.put, List.setIfInBounds_toArray, List.set_cons_zero, List.set_cons_succ, i64_w, i32_w]
  rfl
 refine pure_ (i := 14) (N := some 20) (v := ?_) (a' := ?_) #[true, true, true, true, true, true, true, true, true, true, true, true, true, true, true, false, false, false, false, false] rfl rfl (any_of HT_.out (by kernel_rfl)) (fun _ _ _ h => h) (Or.inl ⟨by rfl, ?_⟩) ?_ ?_
 rotate_left
 ·intro w'
  go_simp
  with_reducible rfl
 rotate_left
 ·simp only [Act.put, List.setIfInBounds_toArray, List.set_cons_zero, List.set_cons_succ, i64_w, i32_w]
  rfl
 refine take_ (i := 15) (N := some 21) (v := ?_) (a' := ?_) #[true, true, true, true, true, true, true, true, true, true, true, true, true, true, true, true, false, false, false, false] rfl rfl (take_ofW HT_.out HW_.out (by kernel_rfl)) (fun _ _ _ h => h) (Or.inl ⟨by rfl, ?_⟩) hHeld ?_ ?_
 rotate_left
 ·rintro w' ⟨s0, s1, s2, s3, s4, s5, s6, s7, s8, s9⟩
  go_simp
  with_reducible rfl
 rotate_left
 ·simp only [Act.put, List.setIfInBounds_toArray, List.set_cons_zero, List.set_cons_succ, i64_w, i32_w]
  rfl
 refine pure_ (i := 16) (N := some 22) (v := ?_) (a' := ?_) #[true, true, true, true, true, true, true, true, true, true, true, true, true, true, true, true, true, false, false, false] rfl rfl (any_of HT_.out (by kernel_rfl)) (fun _ _ _ h => h) (Or.inl ⟨by rfl, ?_⟩) ?_ ?_
 rotate_left
 ·intro w'
  go_simp
  with_reducible rfl
 rotate_left
 ·simp only [Act.put, List.setIfInBounds_toArray, List.set_cons_zero, List.set_cons_succ, i64_w, i32_w]
  rfl
 refine pure_ (i := 17) (N := some 23) (v := ?_) (a' := ?_) #[true, true, true, true, true, true, true, true, true, true, true, true, true, true, true, true, true, true, false, false] rfl rfl (any_of HT_.out (by kernel_rfl)) (fun _ _ _ h => h) (Or.inl ⟨by rfl, ?_⟩) ?_ ?_
 rotate_left
 ·intro w'
  go_simp
  with_reducible rfl
 rotate_left
 ·simp only [Act.put, List.setIfInBounds_toArray, List.set_cons_zero, List.set_cons_succ, i64_w, i32_w]
  rfl
 refine pure_ (i := 18) (N := some 24) (v := ?_) (a' := ?_) #[true, true, true, true, true, true, true, true, true, true, true, true, true, true, true, true, true, true, true, false] rfl rfl (any_of HT_.out (by kernel_rfl)) (fun _ _ _ h => h) (Or.inl ⟨by rfl, ?_⟩) ?_ ?_
 rotate_left
 ·intro w'
  go_simp
  with_reducible rfl
 rotate_left
 ·simp only [Act.put, List.setIfInBounds_toArray, List.set_cons_zero, List.set_cons_succ, i64_w, i32_w]
  rfl
 refine last_ (i := 19) (N := none) #[true, true, true, true, true, true, true, true, true, true, true, true, true, true, true, true, true, true, true, true] rfl rfl (one_of HT_.out (by kernel_rfl)) (by decide) (fun K hK => ?_)
 have eG : w14.cell? ⟨aP, 1, none⟩ = some (.int .i64 aH) := (blk_cell aC.out 1).trans rfl
 have d2 := blk_frozen aC.out 1
 have cI := aM.out
 have cJ := a0.out
 refine skip_ (w1 := ?_) (by rfl) rfl ?_ ?_
 rotate_left
 ·go_simp
  rfl
 refine hK.out _ _ ?_
 clear hK K
 refine done_ (done_of HT_.out (by kernel_rfl)) ?_
 try go_wp2_with (first | ((with_reducible refine gate_dst (N := 25) rfl ?_); refine Kd.R_lit k38 _ 38 ?hg (N := 25) ?hd (xs := ([] : List (S38))) (inner := []) (ok := fun _ => True) (okp := fun _ => True) ?hr ?hp (fun _ hk => hk) trivial (Below.refl _ _) (Nat.le_refl _) (by simp) ?_; (case hd => rfl); (case hg => rfl); (case hr => first | (go_simp; done) | (go_simp; rfl)); (case hp => exact (Reps.none _ _)); intro dR eQ bI hb hg_ hnew_; clear hg_ hnew_; (first | rw [← bR.out] at bI | (simp only [Int.reduceToNat] at bI; rw [← bR.out] at bI)); have bE := ak (Kd.R_lower bI (below_size (by repeat (first | (with_reducible first | exact HB.out | apply ba | apply bn | apply bd | refine bs ?_ aQ.out | refine bs ?_ aT.out) | exact HB.out)))); replace aC := ak (blk_below (g := aP) (o := .cells #[.slice (some aD) aA.length aN, .int .i64 (wrap64 ((wrap64 (aH + (((rd_T38 aA a1).f1).size : Int))) + (((rd_T38 aA a1).f2).size : Int))), .int .i64 aI, .bool aJ] 33 (0, 0)) (by (with_reducible repeat (first | refine blk_drewN ?_ _ | refine blk_drew ?_ | refine blk_alloc ?_ _)); exact blk_put (pk aC.out) 1 _ rfl) hb); replace aE := ak (blk_below (g := a3) (o := .cells #[.slice none 0 0, .int .i64 0, .int .i64 0, .bool false] 33 (0, 0)) (by (with_reducible repeat (first | refine blk_drewN ?_ _ | refine blk_drew ?_ | refine blk_alloc ?_ _)); exact blk_far (pk aE.out) aM.out _) hb); replace HB := ak (below_step (by repeat (first | (with_reducible first | exact HB.out | apply ba | apply bn | apply bd | refine bs ?_ aQ.out | refine bs ?_ aT.out) | exact HB.out)) hb); clear hb bI; have d3 := a0.out; have d4 := aM.out; obtain ⟨cK, cL, cM, cN⟩ := Cb.c4 aC.out; obtain ⟨cO, cP, cQ, cR⟩ := Cb.f4 aC.out; have dS : (a1 : Int) ≤ ((aA.length : Int) : Int) := of_decide_eq_true (by first | (with_reducible assumption) | assumption); obtain ⟨i020, bU, _, cC, _⟩ := info_parts info38; have bF : aA.length ≤ aN := bQ.out; have cD : Kd.C k38 _ (some aD) aA.length aA := a7.out; have b2 := cut_to (P := Try.prog) 31 38 .i64 Try.underlying31 bU (some aD) aA.length aN a1 (of_decide_eq_true (by first | (with_reducible assumption) | assumption)) dS bF; have b3 := Kd.C_take (m := (a1 : Int).toNat) cD (by omega); have b4 : y316.length = (a1 : Int).toNat := (by rw [bS.out, List.length_take]; omega); rw [← bS.out] at b3; rw [← b4] at b2; have cE := ak b3; have d5 := ak (show y316.length ≤ aN from by omega); clear b3 cD bF bU cC; have eH := ak b4; clear b4; replace dS := eq_true dS) | ((with_reducible refine gate_builtin (b := .append) (xs := #[.tmp 25, .tmp 29]) rfl ?_); at_builtin; refine Kd.R_append_rows k38 (w0 := w) w.heap.size rfl (.tmp 25) (.tmp 29) 31 38 (.agg #[(.string ⟨#[]⟩), (.string ⟨#[]⟩), (.string ⟨#[]⟩)]) 48 rfl Try.underlying31 info38 rfl (by decide) (by omega) dR y313 y316 _ _ _ (fun _ => True) (fun _ => False) rfl rfl ?aO ?aR (fun _ _ h => h) (fun _ h => h.elim) ?aF ?aB ?aS ?aL ?_; (case aR => repeat (first | exact (Kd.C_below cE.out HB.out) | (with_reducible refine Kd.C_alloc ?_ _) | (with_reducible refine Kd.C_drewN ?_ _) | (with_reducible refine Kd.C_drew ?_))); (case aB => exact (by repeat (first | (with_reducible first | exact HB.out | apply ba | apply bn | apply bd | refine bs ?_ aQ.out | refine bs ?_ aT.out) | exact HB.out))); (case aF => exact (fun _ _ => trivial)); (case aO => exact (pR bE.out)); (case aS => exact (below_size (by repeat (first | (with_reducible first | exact HB.out | apply ba | apply bn | apply bd | refine bs ?_ aQ.out | refine bs ?_ aT.out) | exact HB.out)))); (case aL => have := dO.out; omega); intro dT eR ho hb hg hat; rw [← b7.out] at ho; have n0_ := ak (blk_grown (g := aP) (o := .cells #[.slice (some aD) aA.length aN, .int .i64 (wrap64 ((wrap64 (aH + (((rd_T38 aA a1).f1).size : Int))) + (((rd_T38 aA a1).f2).size : Int))), .int .i64 aI, .bool aJ] 33 (0, 0)) (pk aC.out) hg (Kd.R_ne bE.out aC.out (by decide))); have n1_ := ak (blk_grown (g := a3) (o := .cells #[.slice none 0 0, .int .i64 0, .int .i64 0, .bool false] 33 (0, 0)) (pk aE.out) hg (Kd.R_ne bE.out aE.out (by decide))); have n2_ := ak (hb); have n3_ := ak (ho); clear aC; clear aE; clear HB; clear bE; have aC := n0_; have aE := n1_; have HB := n2_; have bG := n3_; clear n0_ n1_ n2_ n3_; clear ho hb hg hat; obtain ⟨cS, cT, cU, cV⟩ := Cb.c4 aC.out; obtain ⟨cW, cX, cY, cZ⟩ := Cb.f4 aC.out; have dU : ((a6) : Int) ≤ ((aA.length : Int) : Int) := of_decide_eq_true (by first | (with_reducible assumption) | assumption); obtain ⟨i023, bV, _, bW, _⟩ := info_parts info38; have a5 : aA.length ≤ aN := bQ.out; have cF : Kd.C k38 _ (some aD) aA.length aA := a7.out; have dV : (0 : Int) ≤ ((a6) : Int) := of_decide_eq_true (by first | (with_reducible assumption) | assumption); have b5 := cut_from (P := Try.prog) 31 38 .i64 Try.underlying31 bV 3 bW (some aD) aA.length aN (a6) dV dU; have bJ := Kd.C_drop (m := ((a6) : Int).toNat) (c := aN) cF (by omega) a5; obtain ⟨eI, bK⟩ : ∃ A1, A1 = (if aN = ((a6) : Int).toNat then (some aD) else ((some aD) : Option Addr).map (·.add (((a6) : Int).toNat * 3))) := ⟨_, rfl⟩; obtain ⟨eJ, b6⟩ : ∃ c1, c1 = aN - ((a6) : Int).toNat := ⟨_, rfl⟩; have bL : aG.length = aA.length - ((a6) : Int).toNat := (by rw [bT.out, List.length_drop] <;> omega); rw [show (aA).drop ((a6) : Int).toNat = aG from bT.out.symm] at bJ; replace bJ : Kd.C k38 _ eI aG.length aG := (by rw [bK]; exact bJ); rw [← bL, ← bK, ← b6] at b5; have cG := ak bJ; have d6 := ak (show aG.length ≤ eJ from by rw [bL, b6]; exact Nat.sub_le_sub_right a5 _); clear bJ cF a5 bV bW b6; have eK := ak bL; have eL := ak bK; clear bL bK; replace dU := eq_true dU) | ((with_reducible refine gate_builtin (b := .append) (xs := #[.tmp 31, .tmp 36]) rfl ?_); at_builtin; refine Kd.R_append_rows k38 (w0 := w) w.heap.size rfl (.tmp 31) (.tmp 36) 31 38 (.agg #[(.string ⟨#[]⟩), (.string ⟨#[]⟩), (.string ⟨#[]⟩)]) 48 rfl Try.underlying31 info38 rfl (by decide) (by omega) dT aK aG _ _ _ (fun _ => True) (fun _ => False) rfl rfl ?aO ?aR (fun _ _ h => h) (fun _ h => h.elim) ?aF ?aB ?aS ?aL ?_; (case aR => repeat (first | exact (Kd.C_below cG.out HB.out) | (with_reducible refine Kd.C_alloc ?_ _) | (with_reducible refine Kd.C_drewN ?_ _) | (with_reducible refine Kd.C_drew ?_))); (case aB => exact (by repeat (first | (with_reducible first | exact HB.out | apply ba | apply bn | apply bd | refine bs ?_ aQ.out | refine bs ?_ aT.out) | exact HB.out))); (case aF => exact (fun _ _ => trivial)); (case aO => exact (pR bG.out)); (case aS => exact (below_size (by repeat (first | (with_reducible first | exact HB.out | apply ba | apply bn | apply bd | refine bs ?_ aQ.out | refine bs ?_ aT.out) | exact HB.out)))); (case aL => have := b9.out; omega); intro eM eN ho hb hg hat; rw [← cA.out] at ho; have n0_ := ak (blk_grown (g := aP) (o := .cells #[.slice (some aD) aA.length aN, .int .i64 (wrap64 ((wrap64 (aH + (((rd_T38 aA a1).f1).size : Int))) + (((rd_T38 aA a1).f2).size : Int))), .int .i64 aI, .bool aJ] 33 (0, 0)) (pk aC.out) hg (Kd.R_ne bG.out aC.out (by decide))); have n1_ := ak (blk_grown (g := a3) (o := .cells #[.slice none 0 0, .int .i64 0, .int .i64 0, .bool false] 33 (0, 0)) (pk aE.out) hg (Kd.R_ne bG.out aE.out (by decide))); have n2_ := ak (hb); have n3_ := ak (ho); clear aC; clear aE; clear HB; clear bG; have aC := n0_; have aE := n1_; have HB := n2_; have bH := n3_; clear n0_ n1_ n2_ n3_; clear ho hb hg hat; obtain ⟨bM, bN, dW⟩ := Kd.R_slice bH.out; subst dW; obtain ⟨c0, c8, dA, dB⟩ := Cb.c4 aC.out; obtain ⟨dC, dD, dE, dF⟩ := Cb.f4 aC.out; obtain ⟨dG, dH, dI, dJ⟩ := Cb.c4 aE.out; obtain ⟨dK, dL, dM, dN⟩ := Cb.f4 aE.out) | ((with_reducible refine gate_store (t := 33) (p := 4) rfl ?_); refine store_event (t := 33) (p := 4) (v := ?vo_w28) (w1 := (((((eN.setCell ⟨aP, 0, none⟩ (.slice bM y327.length bN)).setCell ⟨a3, 0, none⟩ (.slice bM y327.length bN)).setCell ⟨a3, 1, none⟩ (.int .i64 (wrap64 ((wrap64 (aH + (((rd_T38 aA a1).f1).size : Int))) + (((rd_T38 aA a1).f2).size : Int))))).setCell ⟨a3, 2, none⟩ (.int .i64 aI)).setCell ⟨a3, 3, none⟩ (.bool aJ))) ?hg ?ho ?hn ?hr ?_; (case ho => rfl); (case hg => rfl); (case hn => rfl); (case hr => first | (go_simp; done) | (go_simp; rfl)); intro eO hw; replace bH := rg4 (ok' := fun _ => True) hw (rf1 rfl (Kd.R_types (Kd.R_types bH.out aC.out (by decide)) aE.out (by decide)) fun _ hk => hk.1.2).out (fun _ hk => hk.2) fun _ hk => trivial; replace aC : Aside0 (eO.heap[aP]? = some (.cells #[.slice bM y327.length bN, .int .i64 (wrap64 ((wrap64 (aH + (((rd_T38 aA a1).f1).size : Int))) + (((rd_T38 aA a1).f2).size : Int))), .int .i64 aI, .bool aJ] 33 (0, 0))) := bf4 hw a0.out (blk_put aC.out 0 _ rfl); replace aE := bp4 hw (bf1 rfl aM.out aE.out).out; replace HB := bw4 hw (bw1 rfl HB.out aQ.out).out aT.out; clear hw))
 refine bodyPost_ret (results_cell_row rfl _ _ a3 33 #[.slice bM y327.length bN, .int .i64 (wrap64 ((wrap64 (aH + (((rd_T38 aA a1).f1).size : Int))) + (((rd_T38 aA a1).f2).size : Int))), .int .i64 aI, .bool aJ] (0, 0) _ rfl (pk aE.out) Try.underlying33 rfl (by kernel_rfl)) rfl ?_
 exact ⟨_, by first | rfl | (simp [errW_none, errW_some] <;> rfl) | (simp only [← hji8]; first | rfl | (simp [errW_none, errW_some] <;> rfl)) | (simp [*, errW_none, errW_some] <;> rfl), pR bH.out, by repeat (first | (with_reducible first | exact HB.out | apply ba | apply bn | apply bd | refine bs ?_ aQ.out | refine bs ?_ aT.out) | exact HB.out)⟩

end Go.Proofs.Ytbhkopbalhhpgaa.PY
