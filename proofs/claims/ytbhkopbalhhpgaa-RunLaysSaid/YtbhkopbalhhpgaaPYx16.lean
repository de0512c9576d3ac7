-- Made by a program of this workplace out of the translation (wip/tools in the repo). Not trusted: Lean checks it.
import Derived.Test.YtbhkopbalhhpgaaPYx0
import Derived.Test.YtbhkopbalhhpgaaCb
import Derived.Test.YtbhkopbalhhpgaaSq
import Derived.Test.YtbhkopbalhhpgaaSt
import Derived.Test.YtbhkopbalhhpgaaPYx3
import Derived.Test.YtbhkopbalhhpgaaPYx4
import Derived.Test.YtbhkopbalhhpgaaPYx8
import Derived.Test.YtbhkopbalhhpgaaPYx12
import Derived.Test.YtbhkopbalhhpgaaPYx13
import Derived.Test.YtbhkopbalhhpgaaPYx14
import Derived.Test.YtbhkopbalhhpgaaPYx15
namespace Go.Proofs.Ytbhkopbalhhpgaa.PY
open Go.RowKit Go.Proofs.YtbhkopbalhhpgaaW.PrintWords Go.Proofs.YtbhkopbalhhpgaaW.PrintLast Go.Proofs.YtbhkopbalhhpgaaW.PrintMore Go.Proofs.Ytbhkopbalhhpgaa
attribute [local go_sem] max2_int min2_int max_two min_two max_three min_three max_four min_four   -- for this text's walks alone
set_option linter.unusedVariables false
set_option linter.unusedSimpArgs false

/-! ### stanchionref06_Lay: function 18 -/
set_option maxHeartbeats 8000000 in
set_option maxRecDepth 100000 in
theorem stanchionref06_Lay.calls (k : Nat) (aZ : Nat → Prop) (bJ : Option Addr) (bK : Nat) (a0 : List (S38)) (a4 : Int) (a5 : Int) (a6 : Bool) (a1 : ByteArray) (a2 : ByteArray) (r1 : List (S38)) (r2 : Int) (r3 : Int) (r4 : Bool) (r5 : Int) (w : World) (dV : Kd.V k38 38 w w.heap.size (fun k_ => aZ k_) (.slice bJ a0.length bK) a0) (h : stanchionref06_Lay.f k a0 a4 a5 a6 a1 a2 = some (r1, r2, r3, r4, r5)) :
  Calls Try.prog 18 #[.agg #[.slice bJ a0.length bK, .int .i64 a4, .int .i64 a5, .bool a6], .string a1, .string a2] w fun e w' => ∃ v0_ : Value, e = .returned (.tuple #[.agg #[v0_, .int .i64 r2, .int .i64 r3, .bool r4], .int .i64 r5]) ∧ Kd.V k38 38 w' w.heap.size (fun k_ => (aZ k_ ∨ w.heap.size ≤ k_)) v0_ r1 ∧ Below w.heap.size w w' := by
 have iL := Try.underlying33
 have iM := Try.underlying38
 have aR := ak (show Kd.V k38 38 w w.heap.size (fun k_ => (aZ k_ ∨ w.heap.size ≤ k_)) (.slice bJ a0.length bK) a0 from Kd.V_mono dV (fun k_ hk => .inl hk))
 have HB := ak (Below.refl w.heap.size w)
 have H : (if 2 + a1.size ≤ 9223372036854775807 then ((stanchionref03_Find.f k a0 a4 a5 a6 ((⟨#[110, 46]⟩ : ByteArray) ++ a1)).bind fun bt428 => (if bt428.2.2.2 = true then ((stanchionref03_Delete.f k a0 a4 a5 a6 ((⟨#[110, 46]⟩ : ByteArray) ++ a1)).bind fun bt433 => (stanchionref06_Lay.j0 k a1 a2 ((⟨#[110, 46]⟩ : ByteArray) ++ a1) bt433.2.2.2.2 bt433.1 bt433.2.1 bt433.2.2.1 bt433.2.2.2.1)) else (stanchionref06_Lay.j0 k a1 a2 ((⟨#[110, 46]⟩ : ByteArray) ++ a1) 0 a0 a4 a5 a6))) else (none)) = some (r1, r2, r3, r4, r5) := h
 clear h
 have c4 : 2 + a1.size ≤ 9223372036854775807 := Decidable.byContradiction fun q => by rw [if_neg q] at H; exact absurd H (by simp)
 rw [if_pos c4] at H
 have dW := eq_true c4
 have dX : decide (2 + a1.size ≤ 9223372036854775807) = true := decide_eq_true c4
 try have dY : (9223372036854775807 < 2 + a1.size) = False := eq_false (Nat.not_lt.2 c4)
 replace H := Option.bind_eq_some_iff.mp H
 obtain ⟨⟨bE, bF, bG, dI⟩, hL, H⟩ := H
 replace H : (if dI = true then ((stanchionref03_Delete.f k a0 a4 a5 a6 ((⟨#[110, 46]⟩ : ByteArray) ++ a1)).bind fun bt433 => (stanchionref06_Lay.j0 k a1 a2 ((⟨#[110, 46]⟩ : ByteArray) ++ a1) bt433.2.2.2.2 bt433.1 bt433.2.1 bt433.2.2.1 bt433.2.2.2.1)) else (stanchionref06_Lay.j0 k a1 a2 ((⟨#[110, 46]⟩ : ByteArray) ++ a1) 0 a0 a4 a5 a6)) = some (r1, r2, r3, r4, r5) := H
 have A5 := ak hL
 clear hL
 have hA := ak H
 clear H
 go_enter Try.func18, Try.ntmps18
 go_upto_if 20 with (first | ((with_reducible refine gate_dst (N := 3) rfl ?_); refine box_event ?hg (N := 3) ?hd (cs := #[.slice bJ a0.length bK, .int .i64 a4, .int .i64 a5, .bool a6]) (t := 33) ?hr ?_; (case hd => rfl); (case hg => rfl); (case hr => first | (go_simp; done) | (go_simp; rfl)); intro aD hg w7 hbox hb; obtain ⟨n_, aG⟩ := Cb.bx (pB HB.out) hg hb; have hM := aG; have aB := ak (hbox); replace aR := ak (Kd.V_below (Kd.V_elderB (pV aR.out) aD (Nat.le_of_eq hg.symm)) hb); replace HB := n_; clear n_; clear hb hbox hg) | ((with_reducible refine gate_dst (N := 6) rfl ?_); refine box_event ?hg (N := 6) ?hd (cs := #[.slice none 0 0, .int .i64 0, .int .i64 0, .bool false]) (t := 33) ?hr ?_; (case hd => rfl); (case hg => rfl); (case hr => first | (go_simp; done) | (go_simp; rfl)); intro aF hg w8 hbox hb; obtain ⟨n_, aL⟩ := Cb.bx (by repeat (first | (with_reducible first | exact HB.out | apply ba | apply bn | apply bd | refine bs ?_ aG.out) | exact HB.out)) hg hb; have hN := aL; obtain ⟨aQ, aM⟩ := Cb.nb hg aB.out; have aC := ak (hbox); replace aR := ak (Kd.V_below (Kd.V_elderB (pV aR.out) aF (Nat.le_of_eq hg.symm)) hb); replace aB := ak (blk_below aB.out hb); replace HB := n_; clear n_; clear hb hbox hg; have iN := aQ.out; have iO := aM.out; obtain ⟨bL, bM, bN, bO⟩ := Cb.c4 aB.out; obtain ⟨bP, bQ, bR, bS⟩ := Cb.f4 aB.out) | ((with_reducible refine gate_callee (f := 16) rfl ?_); refine goesL_ (some 17) rfl rfl Try.func16 (by kernel_rfl) rfl #[.agg #[.slice bJ a0.length bK, .int .i64 a4, .int .i64 a5, .bool a6], .string ((⟨#[110, 46]⟩ : ByteArray) ++ a1)] rfl (by (try simp only [List.map_toArray, List.map_cons, List.map_nil]); first | done | rfl | (simp only [List.length_drop, List.length_take]; rfl)) ?_; (with_reducible refine (stanchionref03_Find.calls k _ _ a0 a4 a5 a6 ((⟨#[110, 46]⟩ : ByteArray) ++ a1) bE bF bG dI _ ?side1 ?side2 A5.out).mono ?_); (case side1 => repeat (first | exact (Kd.V_reads' aR.out).2.2 | (with_reducible refine Kd.C_alloc ?_ _) | (with_reducible refine Kd.C_drewN ?_ _) | (with_reducible refine Kd.C_drew ?_))); (case side2 => exact (Kd.V_reads' aR.out).2.1); rintro e i4 ⟨rfl, hb⟩; refine ⟨_, rfl, ?_⟩; replace aR := ak (Kd.V_below (pV aR.out) hb); replace aB := ak (blk_below aB.out hb); replace aC := ak (blk_below aC.out hb); replace HB := ak (below_step (by repeat (first | (with_reducible first | exact HB.out | apply ba | apply bn | apply bd | refine bs ?_ aG.out | refine bs ?_ aL.out) | exact HB.out)) hb); (try clear hb); (try clear hb2); (try clear hk); (try clear hi)) | ((with_reducible refine gate_dst (N := 10) rfl ?_); refine box_event ?hg (N := 10) ?hd (cs := #[.string (⟨#[]⟩ : ByteArray), .string (⟨#[]⟩ : ByteArray), .string (⟨#[]⟩ : ByteArray)]) (t := 38) ?hr ?_; (case hd => rfl); (case hg => rfl); (case hr => first | (go_simp; done) | (go_simp; rfl)); intro aO hg iP hbox hb; obtain ⟨n_, aP⟩ := Cb.bx (by repeat (first | (with_reducible first | exact HB.out | apply ba | apply bn | apply bd | refine bs ?_ aG.out | refine bs ?_ aL.out) | exact HB.out)) hg hb; have hO := aP; obtain ⟨aS, aN⟩ := Cb.nb hg aB.out; obtain ⟨a3, aT⟩ := Cb.nb hg aC.out; have aE := ak (hbox); replace aR := ak (Kd.V_below (Kd.V_elderB (pV aR.out) aO (Nat.le_of_eq hg.symm)) hb); replace aB := ak (blk_below aB.out hb); replace aC := ak (blk_below aC.out hb); replace HB := n_; clear n_; clear hb hbox hg; have hP := aN.out; have hQ := aS.out; have hR := aT.out; have hS := a3.out; obtain ⟨bT, bU, bV⟩ := Cb.c3 aE.out; obtain ⟨bW, bX, bY⟩ := Cb.f3 aE.out) | ((with_reducible refine gate_store (t := 38) (p := 10) rfl ?_); refine store_event (t := 38) (p := 10) (v := ?vo_w16) (w1 := (((iP.setCell ⟨aO, 0, none⟩ (.string bE)).setCell ⟨aO, 1, none⟩ (.string bF)).setCell ⟨aO, 2, none⟩ (.string bG))) ?hg ?ho ?hn ?hr ?_; (case ho => rfl); (case hg => rfl); (case hn => rfl); (case hr => first | (go_simp; done) | (go_simp; rfl)); intro i5 hw; replace aR := vg3 (ok' := fun k_ => (aZ k_ ∨ w.heap.size ≤ k_) ∧ k_ ≠ aD ∧ k_ ≠ aF ∧ k_ ≠ aO) hw aR.out (fun _ hk => hk.2) fun _ hk => ⟨hk.1.1.1, ⟨hk.1.1.2, ⟨hk.1.2, hk.2⟩⟩⟩; replace aB := bf3 hw aS.out aB.out; replace aC := bf3 hw a3.out aC.out; replace aE := bp3 hw aE.out; replace HB := bw3 hw HB.out aP.out; clear hw))
 (try simp only [Act.put, List.setIfInBounds_toArray, List.set_cons_zero, List.set_cons_succ])
 go_cut [9] (fun v9 wc => ∃ (kq : Nat) (bH : Int) (aU : List (S38)) (aV : Int) (aW : Int) (aX : Bool) (u427000 : Value), v9 = .int .i64 bH ∧ Aside0 (stanchionref06_Lay.j0 kq a1 a2 ((⟨#[110, 46]⟩ : ByteArray) ++ a1) bH aU aV aW aX = some (r1, r2, r3, r4, r5)) ∧ Aside0 (kq ≤ k) ∧ Aside0 (Kd.V k38 38 wc w.heap.size (fun k_ => (aZ k_ ∨ w.heap.size ≤ k_) ∧ k_ ≠ aD ∧ k_ ≠ aF ∧ k_ ≠ aO) u427000 aU) ∧ Aside0 (wc.heap[aD]? = some (.cells #[u427000, .int .i64 aV, .int .i64 aW, .bool aX] 33 (0, 0))) ∧ Aside0 (wc.heap[aF]? = some (.cells #[(.slice none 0 0), .int .i64 0, .int .i64 0, .bool false] 33 (0, 0))) ∧ Aside0 (wc.heap[aO]? = some (.cells #[.string bE, .string bF, .string bG] 38 (0, 0))) ∧ Aside0 (Below w.heap.size w wc))
 case first =>
  have H := hA.out
  clear hA
  by_cases dU : dI = true
  ·subst dU
   have H1 : ((stanchionref03_Delete.f k a0 a4 a5 a6 ((⟨#[110, 46]⟩ : ByteArray) ++ a1)).bind fun bt433 => (stanchionref06_Lay.j0 k a1 a2 ((⟨#[110, 46]⟩ : ByteArray) ++ a1) bt433.2.2.2.2 bt433.1 bt433.2.1 bt433.2.2.1 bt433.2.2.2.1)) = some (r1, r2, r3, r4, r5) := by rw [if_pos rfl] at H; exact H
   clear H
   have H := H1
   clear H1
   replace H := Option.bind_eq_some_iff.mp H
   obtain ⟨⟨cI, cO, cP, cQ, dJ⟩, dZ, H⟩ := H
   replace H : (stanchionref06_Lay.j0 k a1 a2 ((⟨#[110, 46]⟩ : ByteArray) ++ a1) dJ cI cO cP cQ) = some (r1, r2, r3, r4, r5) := H
   have iQ := ak dZ
   clear dZ
   have H' := ak H
   clear H
   have hT := aQ.out
   have hU := aM.out
   have hV := aS.out
   have hW := aN.out
   obtain ⟨bZ, b0, b1, b2⟩ := Cb.c4 aB.out
   obtain ⟨b3, b4, b5, b6⟩ := Cb.f4 aB.out
   go_wp2_with (first | ((with_reducible refine gate_callee (f := 43) rfl ?_); refine goesL_ (some 24) rfl rfl Try.func43 (by kernel_rfl) rfl #[.agg #[.slice bJ a0.length bK, .int .i64 a4, .int .i64 a5, .bool a6], .string ((⟨#[110, 46]⟩ : ByteArray) ++ a1)] rfl (by (try simp only [List.map_toArray, List.map_cons, List.map_nil]); first | done | rfl | (simp only [List.length_drop, List.length_take]; rfl)) ?_; (with_reducible refine (stanchionref03_Delete.calls k (fun k_ => ((aZ k_ ∨ w.heap.size ≤ k_) ∧ (k_ ≠ aD ∧ (k_ ≠ aF ∧ k_ ≠ aO)))) _ _ a0 a4 a5 a6 ((⟨#[110, 46]⟩ : ByteArray) ++ a1) cI cO cP cQ dJ _ ?side1 iQ.out).mono ?_); (case side1 => exact aR.out); rintro e iR ⟨iS, rfl, b7, hb⟩; refine ⟨_, rfl, ?_⟩; have b8 := ak (Kd.V_lower (Kd.V_mono (ok' := fun k_ => (aZ k_ ∨ w.heap.size ≤ k_) ∧ k_ ≠ aD ∧ k_ ≠ aF ∧ k_ ≠ aO) b7 (fun k_ hk_ => ⟨Or.elim hk_ (fun hs_ => hs_.1) (fun hn_ => (.inr (Nat.le_trans (below_size (by repeat (first | (with_reducible first | exact HB.out | apply ba | apply bn | apply bd | refine bs ?_ aG.out | refine bs ?_ aL.out | refine bs ?_ aP.out) | exact HB.out))) hn_))), Or.elim hk_ (fun hs_ => hs_.2.1) (fun hn_ => (Kd.freshB (g := aD) (o := .cells #[.slice bJ a0.length bK, .int .i64 a4, .int .i64 a5, .bool a6] 33 (0, 0)) (pk aB.out) k_ hn_)), Or.elim hk_ (fun hs_ => hs_.2.2.1) (fun hn_ => (Kd.freshB (g := aF) (o := .cells #[.slice none 0 0, .int .i64 0, .int .i64 0, .bool false] 33 (0, 0)) (pk aC.out) k_ hn_)), Or.elim hk_ (fun hs_ => hs_.2.2.2) (fun hn_ => (Kd.freshB (g := aO) (o := .cells #[.string bE, .string bF, .string bG] 38 (0, 0)) (pk aE.out) k_ hn_))⟩)) (below_size (by repeat (first | (with_reducible first | exact HB.out | apply ba | apply bn | apply bd | refine bs ?_ aG.out | refine bs ?_ aL.out | refine bs ?_ aP.out) | exact HB.out)))); replace aR := ak (Kd.V_below (pV aR.out) hb); replace aB := ak (blk_below aB.out hb); replace aC := ak (blk_below aC.out hb); replace aE := ak (blk_below aE.out hb); replace HB := ak (below_step (by repeat (first | (with_reducible first | exact HB.out | apply ba | apply bn | apply bd | refine bs ?_ aG.out | refine bs ?_ aL.out | refine bs ?_ aP.out) | exact HB.out)) hb); (try clear hb); (try clear hb2); (try clear hk); (try clear hi); (try clear b7); obtain ⟨d0, d1, hB⟩ := Kd.V_slice b8.out; subst hB; obtain ⟨b9, cA, cB, cC⟩ := Cb.c4 aB.out; obtain ⟨cD, cE, cF, cG⟩ := Cb.f4 aB.out) | ((with_reducible refine gate_store (t := 33) (p := 3) rfl ?_); refine store_event (t := 33) (p := 3) (v := ?vo_w25) (w1 := ((((iR.setCell ⟨aD, 0, none⟩ (.slice d0 cI.length d1)).setCell ⟨aD, 1, none⟩ (.int .i64 cO)).setCell ⟨aD, 2, none⟩ (.int .i64 cP)).setCell ⟨aD, 3, none⟩ (.bool cQ))) ?hg ?ho ?hn ?hr ?_; (case ho => rfl); (case hg => rfl); (case hn => rfl); (case hr => first | (go_simp; done) | (go_simp; rfl)); intro i6 hw; replace aR := vf4 hw aR.out fun _ hk => hk.2.1; replace b8 := vf4 hw b8.out fun _ hk => hk.2.1; replace aB := bp4 hw aB.out; replace aC := bf4 hw aM.out aC.out; replace aE := bf4 hw aN.out aE.out; replace HB := bw4 hw HB.out aG.out; clear hw))
   go_meet
   case rel => exact ⟨_, (dJ), (cI), (cO), (cP), (cQ), (.slice d0 cI.length d1), (by first | rfl | (simp; done) | (simp [*]; done)), H', ⟨by first | omega | exact Nat.le_refl _⟩, ⟨pV b8.out⟩, ⟨pk aB.out⟩, ⟨pk aC.out⟩, ⟨pk aE.out⟩, ⟨by repeat (first | (with_reducible first | exact HB.out | apply ba | apply bn | apply bd | refine bs ?_ aG.out | refine bs ?_ aL.out | refine bs ?_ aP.out) | exact HB.out)⟩⟩
  ·replace dU := Bool.eq_false_iff.mpr dU
   subst dU
   have H1 : (stanchionref06_Lay.j0 k a1 a2 ((⟨#[110, 46]⟩ : ByteArray) ++ a1) 0 a0 a4 a5 a6) = some (r1, r2, r3, r4, r5) := by rw [if_neg (show ¬ (false = true) by decide)] at H; exact H
   clear H
   have H := H1
   clear H1
   have H' := ak H
   clear H
   go_wp2
   go_meet
   case rel => exact ⟨_, (0), (a0), (a4), (a5), (a6), (.slice bJ a0.length bK), (by first | rfl | (simp; done) | (simp [*]; done)), H', ⟨by first | omega | exact Nat.le_refl _⟩, ⟨pV aR.out⟩, ⟨pk aB.out⟩, ⟨pk aC.out⟩, ⟨pk aE.out⟩, ⟨by repeat (first | (with_reducible first | exact HB.out | apply ba | apply bn | apply bd | refine bs ?_ aG.out | refine bs ?_ aL.out | refine bs ?_ aP.out) | exact HB.out)⟩⟩
 case rest =>
  clear hA
  try clear c1 c2 p2 c4 dW dX dY c9 c13 c14 c16 dU c18 c19 c20 bL bM bN bO bT bU bV bZ b0 b1 b2 b9 cA cB cC bP bQ bR bS bW bX bY b3 b4 b5 b6 cD cE cF cG
  obtain ⟨kq, bH, aU, aV, aW, aX, u427000, rfl, HA, hX, aA, aB, aC, aE, HB⟩ := hcut
  cases kq with
  | zero => exact absurd HA.out (by simp [stanchionref06_Lay.j0])
  | succ kj5 =>
   have H := HA.out
   clear HA
   simp only [stanchionref06_Lay.j0] at H
   have dK := ak H
   clear H
   go_upto_if 28 with (fail)
   go_cut [9] (fun v9 wc => ∃ (kq : Nat) (a7 : Int) (aH : List (S38)) (aI : Int) (aJ : Int) (aK : Bool) (u427000 : Value), v9 = .int .i64 a7 ∧ Aside0 (stanchionref06_Lay.j1 kq a1 ((⟨#[110, 46]⟩ : ByteArray) ++ a1) a7 aH aI aJ aK = some (r1, r2, r3, r4, r5)) ∧ Aside0 (kq ≤ kj5) ∧ Aside0 (Kd.V k38 38 wc w.heap.size (fun k_ => (aZ k_ ∨ w.heap.size ≤ k_) ∧ k_ ≠ aD ∧ k_ ≠ aF ∧ k_ ≠ aO) u427000 aH) ∧ Aside0 (wc.heap[aD]? = some (.cells #[u427000, .int .i64 aI, .int .i64 aJ, .bool aK] 33 (0, 0))) ∧ Aside0 (wc.heap[aF]? = some (.cells #[(.slice none 0 0), .int .i64 0, .int .i64 0, .bool false] 33 (0, 0))) ∧ Aside0 (wc.heap[aO]? = some (.cells #[.string bE, .string bF, .string bG] 38 (0, 0))) ∧ Aside0 (Below w.heap.size w wc))
   case first =>
    have H := dK.out
    clear dK
    by_cases dG : bH = 0
    ·rw [if_pos dG] at H
     have bC : (bH == 0) = true := beq_iff_eq.mpr dG
     have dH : (bH != 0) = false := bne_eq_false_iff_eq.mpr dG
     clear dG
     (first | rw [bC] | (simp only [i64_w, i32_w]; rw [bC]) | skip)
     replace H := Option.bind_eq_some_iff.mp H
     obtain ⟨⟨cJ, cR, cS, cT, dL⟩, d2, H⟩ := H
     replace H : (stanchionref06_Lay.j1 kj5 a1 ((⟨#[110, 46]⟩ : ByteArray) ++ a1) dL cJ cR cS cT) = some (r1, r2, r3, r4, r5) := H
     have iT := ak d2
     clear d2
     have H' := ak H
     clear H
     have hY := aQ.out
     have hZ := aM.out
     have h0 := aS.out
     have h1 := aN.out
     obtain ⟨cU, cV, cW, cX⟩ := Cb.c4 aB.out
     obtain ⟨cY, cZ, c0, c6⟩ := Cb.f4 aB.out
     obtain ⟨d3, d4, hC⟩ := Kd.V_slice aA.out
     subst hC
     go_wp2_with (first | ((with_reducible refine gate_callee (f := 44) rfl ?_); refine goesL_ (some 33) rfl rfl Try.func44 (by kernel_rfl) rfl #[.agg #[.slice d3 aU.length d4, .int .i64 aV, .int .i64 aW, .bool aX], .string ((⟨#[110, 46]⟩ : ByteArray) ++ a1), .string a2] rfl (by (try simp only [List.map_toArray, List.map_cons, List.map_nil]); first | done | rfl | (simp only [List.length_drop, List.length_take]; rfl)) ?_; (with_reducible refine (stanchionref03_Append.calls kj5 (fun k_ => ((aZ k_ ∨ w.heap.size ≤ k_) ∧ (k_ ≠ aD ∧ (k_ ≠ aF ∧ k_ ≠ aO)))) _ _ aU aV aW aX ((⟨#[110, 46]⟩ : ByteArray) ++ a1) a2 cJ cR cS cT dL _ ?side1 iT.out).mono ?_); (case side1 => exact aA.out); rintro e iU ⟨iV, rfl, b7, hb⟩; refine ⟨_, rfl, ?_⟩; have cH := ak (Kd.V_lower (Kd.V_mono (ok' := fun k_ => (aZ k_ ∨ w.heap.size ≤ k_) ∧ k_ ≠ aD ∧ k_ ≠ aF ∧ k_ ≠ aO) b7 (fun k_ hk_ => ⟨Or.elim hk_ (fun hs_ => hs_.1) (fun hn_ => (.inr (Nat.le_trans (below_size (by repeat (first | (with_reducible first | exact HB.out | apply ba | apply bn | apply bd | refine bs ?_ aG.out | refine bs ?_ aL.out | refine bs ?_ aP.out) | exact HB.out))) hn_))), Or.elim hk_ (fun hs_ => hs_.2.1) (fun hn_ => (Kd.freshB (g := aD) (o := .cells #[.slice d3 aU.length d4, .int .i64 aV, .int .i64 aW, .bool aX] 33 (0, 0)) (pk aB.out) k_ hn_)), Or.elim hk_ (fun hs_ => hs_.2.2.1) (fun hn_ => (Kd.freshB (g := aF) (o := .cells #[.slice none 0 0, .int .i64 0, .int .i64 0, .bool false] 33 (0, 0)) (pk aC.out) k_ hn_)), Or.elim hk_ (fun hs_ => hs_.2.2.2) (fun hn_ => (Kd.freshB (g := aO) (o := .cells #[.string bE, .string bF, .string bG] 38 (0, 0)) (pk aE.out) k_ hn_))⟩)) (below_size (by repeat (first | (with_reducible first | exact HB.out | apply ba | apply bn | apply bd | refine bs ?_ aG.out | refine bs ?_ aL.out | refine bs ?_ aP.out) | exact HB.out)))); replace aA := ak (Kd.V_below (pV aA.out) hb); replace aB := ak (blk_below aB.out hb); replace aC := ak (blk_below aC.out hb); replace aE := ak (blk_below aE.out hb); replace HB := ak (below_step (by repeat (first | (with_reducible first | exact HB.out | apply ba | apply bn | apply bd | refine bs ?_ aG.out | refine bs ?_ aL.out | refine bs ?_ aP.out) | exact HB.out)) hb); (try clear hb); (try clear hb2); (try clear hk); (try clear hi); (try clear b7); obtain ⟨d5, d6, hD⟩ := Kd.V_slice cH.out; subst hD; obtain ⟨c7, c8, dA, dB⟩ := Cb.c4 aB.out; obtain ⟨dC, dD, dE, dF⟩ := Cb.f4 aB.out) | ((with_reducible refine gate_store (t := 33) (p := 3) rfl ?_); refine store_event (t := 33) (p := 3) (v := ?vo_w36) (w1 := ((((iU.setCell ⟨aD, 0, none⟩ (.slice d5 cJ.length d6)).setCell ⟨aD, 1, none⟩ (.int .i64 cR)).setCell ⟨aD, 2, none⟩ (.int .i64 cS)).setCell ⟨aD, 3, none⟩ (.bool cT))) ?hg ?ho ?hn ?hr ?_; (case ho => rfl); (case hg => rfl); (case hn => rfl); (case hr => first | (go_simp; done) | (go_simp; rfl)); intro i7 hw; replace aA := vf4 hw aA.out fun _ hk => hk.2.1; replace cH := vf4 hw cH.out fun _ hk => hk.2.1; replace aB := bp4 hw aB.out; replace aC := bf4 hw aM.out aC.out; replace aE := bf4 hw aN.out aE.out; replace HB := bw4 hw HB.out aG.out; clear hw))
     go_meet
     case rel => exact ⟨_, (dL), (cJ), (cR), (cS), (cT), (.slice d5 cJ.length d6), (by first | rfl | (simp; done) | (simp [*]; done)), H', ⟨by have := hX.out; first | omega | exact Nat.le_refl _⟩, ⟨pV cH.out⟩, ⟨pk aB.out⟩, ⟨pk aC.out⟩, ⟨pk aE.out⟩, ⟨by repeat (first | (with_reducible first | exact HB.out | apply ba | apply bn | apply bd | refine bs ?_ aG.out | refine bs ?_ aL.out | refine bs ?_ aP.out) | exact HB.out)⟩⟩
    ·rw [if_neg dG] at H
     have bC : (bH == 0) = false := beq_eq_false_iff_ne.mpr dG
     have dH : (bH != 0) = true := bne_iff_ne.mpr dG
     (first | rw [bC] | (simp only [i64_w, i32_w]; rw [bC]) | skip)
     have H' := ak H
     clear H
     go_wp2
     go_meet
     case rel => exact ⟨_, (bH), (aU), (aV), (aW), (aX), (u427000), (by first | rfl | (simp; done) | (simp [*]; done)), H', ⟨by have := hX.out; first | omega | exact Nat.le_refl _⟩, ⟨pV aA.out⟩, ⟨pk aB.out⟩, ⟨pk aC.out⟩, ⟨pk aE.out⟩, ⟨by repeat (first | (with_reducible first | exact HB.out | apply ba | apply bn | apply bd | refine bs ?_ aG.out | refine bs ?_ aL.out | refine bs ?_ aP.out) | exact HB.out)⟩⟩
   case rest =>
    clear dK
    try clear c1 c2 p2 c3 c4 dW dX dY c9 c13 c14 c16 dU c18 c19 c20 dG bC dH c29 c30 bL bM bN bO bT bU bV bZ b0 b1 b2 b9 cA cB cC cU cV cW cX c7 c8 dA dB bP bQ bR bS bW bX bY b3 b4 b5 b6 cD cE cF cG cY cZ c0 c6 dC dD dE dF p2
    obtain ⟨kq, a7, aH, aI, aJ, aK, u427000, rfl, HA, iW, aA, aB, aC, aE, HB⟩ := hcut
    cases kq with
    | zero => exact absurd HA.out (by simp [stanchionref06_Lay.j1])
    | succ kj25 =>
     have H := HA.out
     clear HA
     simp only [stanchionref06_Lay.j1] at H
     by_cases dM : a7 = 0
     ·rw [if_pos dM] at H
      have d7 : (a7 == 0) = true := beq_iff_eq.mpr dM
      have d8 : (a7 != 0) = false := bne_eq_false_iff_eq.mpr dM
      clear dM
      replace H := Option.bind_eq_some_iff.mp H
      obtain ⟨⟨a8, a9, bA, bB, bI⟩, d9, H⟩ := H
      replace H : (if bI = 0 then ((stanchionref03_Rename.f kj25 a8 a9 bA bB ((⟨#[110, 46]⟩ : ByteArray) ++ a1) a1).bind fun bt454 => (some (bt454.1, bt454.2.1, bt454.2.2.1, bt454.2.2.2.1, bt454.2.2.2.2))) else (some (a8, a9, bA, bB, bI))) = some (r1, r2, r3, r4, r5) := H
      have h2 := ak d9
      clear d9
      by_cases dN : bI = 0
      ·rw [if_pos dN] at H
       have eA : (bI == 0) = true := beq_iff_eq.mpr dN
       have eB : (bI != 0) = false := bne_eq_false_iff_eq.mpr dN
       clear dN
       replace H := Option.bind_eq_some_iff.mp H
       obtain ⟨⟨cK, cL, cM, cN, eC⟩, eD, H⟩ := H
       replace H : (some (cK, cL, cM, cN, eC)) = some (r1, r2, r3, r4, r5) := H
       have iX := ak eD
       clear eD
       simp only [Option.some.injEq, Prod.mk.injEq] at H
       obtain ⟨rfl, rfl, rfl, rfl, rfl⟩ := H
       have h3 := aQ.out
       have h4 := aM.out
       have h5 := aS.out
       have h6 := aN.out
       obtain ⟨eK, eL, eM, eN⟩ := Cb.c4 aB.out
       obtain ⟨eO, eP, eQ, eR⟩ := Cb.f4 aB.out
       obtain ⟨eE, eF, hE⟩ := Kd.V_slice aA.out
       subst hE
       go_wp2_with (first | ((with_reducible refine gate_callee (f := 45) rfl ?_); refine goesL_ (some 41) rfl rfl Try.func45 (by kernel_rfl) rfl #[.agg #[.slice eE aH.length eF, .int .i64 aI, .int .i64 aJ, .bool aK], .string ((⟨#[110, 46]⟩ : ByteArray) ++ a1)] rfl (by (try simp only [List.map_toArray, List.map_cons, List.map_nil]); first | done | rfl | (simp only [List.length_drop, List.length_take]; rfl)) ?_; (with_reducible refine (stanchionref03_Sync.calls kj25 (fun k_ => ((aZ k_ ∨ w.heap.size ≤ k_) ∧ (k_ ≠ aD ∧ (k_ ≠ aF ∧ k_ ≠ aO)))) _ _ aH aI aJ aK ((⟨#[110, 46]⟩ : ByteArray) ++ a1) a8 a9 bA bB bI _ ?side1 h2.out).mono ?_); (case side1 => exact aA.out); rintro e iY ⟨hF, rfl, b7, hb⟩; refine ⟨_, rfl, ?_⟩; have aY := ak (Kd.V_lower (Kd.V_mono (ok' := fun k_ => (aZ k_ ∨ w.heap.size ≤ k_) ∧ k_ ≠ aD ∧ k_ ≠ aF ∧ k_ ≠ aO) b7 (fun k_ hk_ => ⟨Or.elim hk_ (fun hs_ => hs_.1) (fun hn_ => (.inr (Nat.le_trans (below_size (by repeat (first | (with_reducible first | exact HB.out | apply ba | apply bn | apply bd | refine bs ?_ aG.out | refine bs ?_ aL.out | refine bs ?_ aP.out) | exact HB.out))) hn_))), Or.elim hk_ (fun hs_ => hs_.2.1) (fun hn_ => (Kd.freshB (g := aD) (o := .cells #[.slice eE aH.length eF, .int .i64 aI, .int .i64 aJ, .bool aK] 33 (0, 0)) (pk aB.out) k_ hn_)), Or.elim hk_ (fun hs_ => hs_.2.2.1) (fun hn_ => (Kd.freshB (g := aF) (o := .cells #[.slice none 0 0, .int .i64 0, .int .i64 0, .bool false] 33 (0, 0)) (pk aC.out) k_ hn_)), Or.elim hk_ (fun hs_ => hs_.2.2.2) (fun hn_ => (Kd.freshB (g := aO) (o := .cells #[.string bE, .string bF, .string bG] 38 (0, 0)) (pk aE.out) k_ hn_))⟩)) (below_size (by repeat (first | (with_reducible first | exact HB.out | apply ba | apply bn | apply bd | refine bs ?_ aG.out | refine bs ?_ aL.out | refine bs ?_ aP.out) | exact HB.out)))); replace aA := ak (Kd.V_below (pV aA.out) hb); replace aB := ak (blk_below aB.out hb); replace aC := ak (blk_below aC.out hb); replace aE := ak (blk_below aE.out hb); replace HB := ak (below_step (by repeat (first | (with_reducible first | exact HB.out | apply ba | apply bn | apply bd | refine bs ?_ aG.out | refine bs ?_ aL.out | refine bs ?_ aP.out) | exact HB.out)) hb); (try clear hb); (try clear hb2); (try clear hk); (try clear hi); (try clear b7); obtain ⟨dO, dP, hG⟩ := Kd.V_slice aY.out; subst hG; obtain ⟨eS, eT, eU, eV⟩ := Cb.c4 aB.out; obtain ⟨eW, eX, eY, eZ⟩ := Cb.f4 aB.out) | ((with_reducible refine gate_store (t := 33) (p := 3) rfl ?_); refine store_event (t := 33) (p := 3) (v := ?vo_w48) (w1 := ((((iY.setCell ⟨aD, 0, none⟩ (.slice dO a8.length dP)).setCell ⟨aD, 1, none⟩ (.int .i64 a9)).setCell ⟨aD, 2, none⟩ (.int .i64 bA)).setCell ⟨aD, 3, none⟩ (.bool bB))) ?hg ?ho ?hn ?hr ?_; (case ho => rfl); (case hg => rfl); (case hn => rfl); (case hr => first | (go_simp; done) | (go_simp; rfl)); intro i8 hw; replace aA := vf4 hw aA.out fun _ hk => hk.2.1; replace aY := vf4 hw aY.out fun _ hk => hk.2.1; replace aB := bp4 hw aB.out; replace aC := bf4 hw aM.out aC.out; replace aE := bf4 hw aN.out aE.out; replace HB := bw4 hw HB.out aG.out; clear hw; obtain ⟨e0, e1, e2, e3⟩ := Cb.c4 aB.out; obtain ⟨e4, e5, e6, e7⟩ := Cb.f4 aB.out) | ((with_reducible refine gate_callee (f := 46) rfl ?_); refine goesL_ (some 50) rfl rfl Try.func46 (by kernel_rfl) rfl #[.agg #[.slice dO a8.length dP, .int .i64 a9, .int .i64 bA, .bool bB], .string ((⟨#[110, 46]⟩ : ByteArray) ++ a1), .string a1] rfl (by (try simp only [List.map_toArray, List.map_cons, List.map_nil]); first | done | rfl | (simp only [List.length_drop, List.length_take]; rfl)) ?_; (with_reducible refine (stanchionref03_Rename.calls kj25 (fun k_ => ((aZ k_ ∨ w.heap.size ≤ k_) ∧ (k_ ≠ aD ∧ (k_ ≠ aF ∧ k_ ≠ aO)))) _ _ a8 a9 bA bB ((⟨#[110, 46]⟩ : ByteArray) ++ a1) a1 cK cL cM cN eC _ ?side1 iX.out).mono ?_); (case side1 => exact aY.out); rintro e iZ ⟨i0, rfl, b7, hb⟩; refine ⟨_, rfl, ?_⟩; have bD := ak (Kd.V_lower (Kd.V_mono (ok' := fun k_ => (aZ k_ ∨ w.heap.size ≤ k_) ∧ k_ ≠ aD ∧ k_ ≠ aF ∧ k_ ≠ aO) b7 (fun k_ hk_ => ⟨Or.elim hk_ (fun hs_ => hs_.1) (fun hn_ => (.inr (Nat.le_trans (below_size (by repeat (first | (with_reducible first | exact HB.out | apply ba | apply bn | apply bd | refine bs ?_ aG.out | refine bs ?_ aL.out | refine bs ?_ aP.out) | exact HB.out))) hn_))), Or.elim hk_ (fun hs_ => hs_.2.1) (fun hn_ => (Kd.freshB (g := aD) (o := .cells #[.slice dO a8.length dP, .int .i64 a9, .int .i64 bA, .bool bB] 33 (0, 0)) (pk aB.out) k_ hn_)), Or.elim hk_ (fun hs_ => hs_.2.2.1) (fun hn_ => (Kd.freshB (g := aF) (o := .cells #[.slice none 0 0, .int .i64 0, .int .i64 0, .bool false] 33 (0, 0)) (pk aC.out) k_ hn_)), Or.elim hk_ (fun hs_ => hs_.2.2.2) (fun hn_ => (Kd.freshB (g := aO) (o := .cells #[.string bE, .string bF, .string bG] 38 (0, 0)) (pk aE.out) k_ hn_))⟩)) (below_size (by repeat (first | (with_reducible first | exact HB.out | apply ba | apply bn | apply bd | refine bs ?_ aG.out | refine bs ?_ aL.out | refine bs ?_ aP.out) | exact HB.out)))); replace aA := ak (Kd.V_below (pV aA.out) hb); replace aY := ak (Kd.V_below (pV aY.out) hb); replace aB := ak (blk_below aB.out hb); replace aC := ak (blk_below aC.out hb); replace aE := ak (blk_below aE.out hb); replace HB := ak (below_step (by repeat (first | (with_reducible first | exact HB.out | apply ba | apply bn | apply bd | refine bs ?_ aG.out | refine bs ?_ aL.out | refine bs ?_ aP.out) | exact HB.out)) hb); (try clear hb); (try clear hb2); (try clear hk); (try clear hi); (try clear b7); obtain ⟨dQ, dR, hH⟩ := Kd.V_slice bD.out; subst hH; obtain ⟨e8, e9, fA, fB⟩ := Cb.c4 aB.out; obtain ⟨fC, fD, fE, fF⟩ := Cb.f4 aB.out) | ((with_reducible refine gate_store (t := 33) (p := 3) rfl ?_); refine store_event (t := 33) (p := 3) (v := ?vo_w53) (w1 := ((((iZ.setCell ⟨aD, 0, none⟩ (.slice dQ cK.length dR)).setCell ⟨aD, 1, none⟩ (.int .i64 cL)).setCell ⟨aD, 2, none⟩ (.int .i64 cM)).setCell ⟨aD, 3, none⟩ (.bool cN))) ?hg ?ho ?hn ?hr ?_; (case ho => rfl); (case hg => rfl); (case hn => rfl); (case hr => first | (go_simp; done) | (go_simp; rfl)); intro i1 hw; replace aA := vf4 hw aA.out fun _ hk => hk.2.1; replace aY := vf4 hw aY.out fun _ hk => hk.2.1; replace bD := vf4 hw bD.out fun _ hk => hk.2.1; replace aB := bp4 hw aB.out; replace aC := bf4 hw aM.out aC.out; replace aE := bf4 hw aN.out aE.out; replace HB := bw4 hw HB.out aG.out; clear hw; obtain ⟨fG, fH, fI, fJ⟩ := Cb.c4 aB.out; obtain ⟨fK, fL, fM, fN⟩ := Cb.f4 aB.out; have h7 := a3.out; have h8 := aT.out; obtain ⟨fO, fP, fQ, fR⟩ := Cb.c4 aC.out; obtain ⟨fS, fT, fU, fV⟩ := Cb.f4 aC.out) | ((with_reducible refine gate_store (t := 33) (p := 6) rfl ?_); refine store_event (t := 33) (p := 6) (v := ?vo_w57) (w1 := ((((i1.setCell ⟨aF, 0, none⟩ (.slice dQ cK.length dR)).setCell ⟨aF, 1, none⟩ (.int .i64 cL)).setCell ⟨aF, 2, none⟩ (.int .i64 cM)).setCell ⟨aF, 3, none⟩ (.bool cN))) ?hg ?ho ?hn ?hr ?_; (case ho => rfl); (case hg => rfl); (case hn => rfl); (case hr => first | (go_simp; done) | (go_simp; rfl)); intro i9 hw; replace aA := vf4 hw aA.out fun _ hk => hk.2.2.1; replace aY := vf4 hw aY.out fun _ hk => hk.2.2.1; replace bD := vf4 hw bD.out fun _ hk => hk.2.2.1; replace aB := bf4 hw aQ.out aB.out; replace aC := bp4 hw aC.out; replace aE := bf4 hw aT.out aE.out; replace HB := bw4 hw HB.out aL.out; clear hw))
       refine bodyPost_ret (results_ct rfl _ _ aF 33 #[.slice dQ cK.length dR, .int .i64 cL, .int .i64 cM, .bool cN] (0, 0) _ rfl (pk aC.out) Try.underlying33 rfl (by kernel_rfl)) rfl ?_
       exact ⟨_, by first | rfl | (simp [errW_none, errW_some] <;> rfl) | (simp [*, errW_none, errW_some] <;> rfl), pV (Kd.V_mono bD.out (fun _ hk => hk.1)), by repeat (first | (with_reducible first | exact HB.out | apply ba | apply bn | apply bd | refine bs ?_ aG.out | refine bs ?_ aL.out | refine bs ?_ aP.out) | exact HB.out)⟩
      ·rw [if_neg dN] at H
       have eA : (bI == 0) = false := beq_eq_false_iff_ne.mpr dN
       have eB : (bI != 0) = true := bne_iff_ne.mpr dN
       simp only [Option.some.injEq, Prod.mk.injEq] at H
       obtain ⟨rfl, rfl, rfl, rfl, rfl⟩ := H
       have h9 := aQ.out
       have iA := aM.out
       have iB := aS.out
       have iC := aN.out
       obtain ⟨fW, fX, fY, fZ⟩ := Cb.c4 aB.out
       obtain ⟨f0, f1, f2, f5⟩ := Cb.f4 aB.out
       obtain ⟨eG, eH, hI⟩ := Kd.V_slice aA.out
       subst hI
       go_wp2_with (first | ((with_reducible refine gate_callee (f := 45) rfl ?_); refine goesL_ (some 41) rfl rfl Try.func45 (by kernel_rfl) rfl #[.agg #[.slice eG aH.length eH, .int .i64 aI, .int .i64 aJ, .bool aK], .string ((⟨#[110, 46]⟩ : ByteArray) ++ a1)] rfl (by (try simp only [List.map_toArray, List.map_cons, List.map_nil]); first | done | rfl | (simp only [List.length_drop, List.length_take]; rfl)) ?_; (with_reducible refine (stanchionref03_Sync.calls kj25 (fun k_ => ((aZ k_ ∨ w.heap.size ≤ k_) ∧ (k_ ≠ aD ∧ (k_ ≠ aF ∧ k_ ≠ aO)))) _ _ aH aI aJ aK ((⟨#[110, 46]⟩ : ByteArray) ++ a1) a8 a9 bA bB bI _ ?side1 h2.out).mono ?_); (case side1 => exact aA.out); rintro e i2 ⟨hF, rfl, b7, hb⟩; refine ⟨_, rfl, ?_⟩; have aY := ak (Kd.V_lower (Kd.V_mono (ok' := fun k_ => (aZ k_ ∨ w.heap.size ≤ k_) ∧ k_ ≠ aD ∧ k_ ≠ aF ∧ k_ ≠ aO) b7 (fun k_ hk_ => ⟨Or.elim hk_ (fun hs_ => hs_.1) (fun hn_ => (.inr (Nat.le_trans (below_size (by repeat (first | (with_reducible first | exact HB.out | apply ba | apply bn | apply bd | refine bs ?_ aG.out | refine bs ?_ aL.out | refine bs ?_ aP.out) | exact HB.out))) hn_))), Or.elim hk_ (fun hs_ => hs_.2.1) (fun hn_ => (Kd.freshB (g := aD) (o := .cells #[.slice eG aH.length eH, .int .i64 aI, .int .i64 aJ, .bool aK] 33 (0, 0)) (pk aB.out) k_ hn_)), Or.elim hk_ (fun hs_ => hs_.2.2.1) (fun hn_ => (Kd.freshB (g := aF) (o := .cells #[.slice none 0 0, .int .i64 0, .int .i64 0, .bool false] 33 (0, 0)) (pk aC.out) k_ hn_)), Or.elim hk_ (fun hs_ => hs_.2.2.2) (fun hn_ => (Kd.freshB (g := aO) (o := .cells #[.string bE, .string bF, .string bG] 38 (0, 0)) (pk aE.out) k_ hn_))⟩)) (below_size (by repeat (first | (with_reducible first | exact HB.out | apply ba | apply bn | apply bd | refine bs ?_ aG.out | refine bs ?_ aL.out | refine bs ?_ aP.out) | exact HB.out)))); replace aA := ak (Kd.V_below (pV aA.out) hb); replace aB := ak (blk_below aB.out hb); replace aC := ak (blk_below aC.out hb); replace aE := ak (blk_below aE.out hb); replace HB := ak (below_step (by repeat (first | (with_reducible first | exact HB.out | apply ba | apply bn | apply bd | refine bs ?_ aG.out | refine bs ?_ aL.out | refine bs ?_ aP.out) | exact HB.out)) hb); (try clear hb); (try clear hb2); (try clear hk); (try clear hi); (try clear b7); obtain ⟨dS, dT, hJ⟩ := Kd.V_slice aY.out; subst hJ; obtain ⟨f6, f7, f8, f9⟩ := Cb.c4 aB.out; obtain ⟨gA, gB, gC, gD⟩ := Cb.f4 aB.out) | ((with_reducible refine gate_store (t := 33) (p := 3) rfl ?_); refine store_event (t := 33) (p := 3) (v := ?vo_w65) (w1 := ((((i2.setCell ⟨aD, 0, none⟩ (.slice dS a8.length dT)).setCell ⟨aD, 1, none⟩ (.int .i64 a9)).setCell ⟨aD, 2, none⟩ (.int .i64 bA)).setCell ⟨aD, 3, none⟩ (.bool bB))) ?hg ?ho ?hn ?hr ?_; (case ho => rfl); (case hg => rfl); (case hn => rfl); (case hr => first | (go_simp; done) | (go_simp; rfl)); intro i3 hw; replace aA := vf4 hw aA.out fun _ hk => hk.2.1; replace aY := vf4 hw aY.out fun _ hk => hk.2.1; replace aB := bp4 hw aB.out; replace aC := bf4 hw aM.out aC.out; replace aE := bf4 hw aN.out aE.out; replace HB := bw4 hw HB.out aG.out; clear hw; obtain ⟨gE, gF, gG, gH⟩ := Cb.c4 aB.out; obtain ⟨gI, gJ, gK, gL⟩ := Cb.f4 aB.out; have iD := a3.out; have iE := aT.out; obtain ⟨gM, gN, gO, gP⟩ := Cb.c4 aC.out; obtain ⟨gQ, gR, gS, gT⟩ := Cb.f4 aC.out) | ((with_reducible refine gate_store (t := 33) (p := 6) rfl ?_); refine store_event (t := 33) (p := 6) (v := ?vo_w69) (w1 := ((((i3.setCell ⟨aF, 0, none⟩ (.slice dS a8.length dT)).setCell ⟨aF, 1, none⟩ (.int .i64 a9)).setCell ⟨aF, 2, none⟩ (.int .i64 bA)).setCell ⟨aF, 3, none⟩ (.bool bB))) ?hg ?ho ?hn ?hr ?_; (case ho => rfl); (case hg => rfl); (case hn => rfl); (case hr => first | (go_simp; done) | (go_simp; rfl)); intro jA hw; replace aA := vf4 hw aA.out fun _ hk => hk.2.2.1; replace aY := vf4 hw aY.out fun _ hk => hk.2.2.1; replace aB := bf4 hw aQ.out aB.out; replace aC := bp4 hw aC.out; replace aE := bf4 hw aT.out aE.out; replace HB := bw4 hw HB.out aL.out; clear hw))
       refine bodyPost_ret (results_ct rfl _ _ aF 33 #[.slice dS a8.length dT, .int .i64 a9, .int .i64 bA, .bool bB] (0, 0) _ rfl (pk aC.out) Try.underlying33 rfl (by kernel_rfl)) rfl ?_
       exact ⟨_, by first | rfl | (simp [errW_none, errW_some] <;> rfl) | (simp [*, errW_none, errW_some] <;> rfl), pV (Kd.V_mono aY.out (fun _ hk => hk.1)), by repeat (first | (with_reducible first | exact HB.out | apply ba | apply bn | apply bd | refine bs ?_ aG.out | refine bs ?_ aL.out | refine bs ?_ aP.out) | exact HB.out)⟩
     ·rw [if_neg dM] at H
      have d7 : (a7 == 0) = false := beq_eq_false_iff_ne.mpr dM
      have d8 : (a7 != 0) = true := bne_iff_ne.mpr dM
      simp only [Option.some.injEq, Prod.mk.injEq] at H
      obtain ⟨rfl, rfl, rfl, rfl, rfl⟩ := H
      have iF := aQ.out
      have iG := aM.out
      have iH := aS.out
      have iI := aN.out
      obtain ⟨gU, gV, gW, gX⟩ := Cb.c4 aB.out
      obtain ⟨gY, gZ, g0, g1⟩ := Cb.f4 aB.out
      obtain ⟨eI, eJ, hK⟩ := Kd.V_slice aA.out
      subst hK
      have iJ := a3.out
      have iK := aT.out
      obtain ⟨g2, g3, g4, g5⟩ := Cb.c4 aC.out
      obtain ⟨g6, g7, g8, g9⟩ := Cb.f4 aC.out
      go_wp2_with (first | ((with_reducible refine gate_store (t := 33) (p := 6) rfl ?_); refine store_event (t := 33) (p := 6) (v := ?vo_w76) (w1 := ((((wc.setCell ⟨aF, 0, none⟩ (.slice eI aH.length eJ)).setCell ⟨aF, 1, none⟩ (.int .i64 aI)).setCell ⟨aF, 2, none⟩ (.int .i64 aJ)).setCell ⟨aF, 3, none⟩ (.bool aK))) ?hg ?ho ?hn ?hr ?_; (case ho => rfl); (case hg => rfl); (case hn => rfl); (case hr => first | (go_simp; done) | (go_simp; rfl)); intro jB hw; replace aA := vf4 hw aA.out fun _ hk => hk.2.2.1; replace aB := bf4 hw aQ.out aB.out; replace aC := bp4 hw aC.out; replace aE := bf4 hw aT.out aE.out; replace HB := bw4 hw HB.out aL.out; clear hw))
      refine bodyPost_ret (results_ct rfl _ _ aF 33 #[.slice eI aH.length eJ, .int .i64 aI, .int .i64 aJ, .bool aK] (0, 0) _ rfl (pk aC.out) Try.underlying33 rfl (by kernel_rfl)) rfl ?_
      exact ⟨_, by first | rfl | (simp [errW_none, errW_some] <;> rfl) | (simp [*, errW_none, errW_some] <;> rfl), pV (Kd.V_mono aA.out (fun _ hk => hk.1)), by repeat (first | (with_reducible first | exact HB.out | apply ba | apply bn | apply bd | refine bs ?_ aG.out | refine bs ?_ aL.out | refine bs ?_ aP.out) | exact HB.out)⟩

/-! ### disk_Read: function 47 -/
set_option maxHeartbeats 8000000 in
set_option maxRecDepth 100000 in
theorem disk_Read.calls (aN : Option Addr) (aO : Nat) (aF : List (S38)) (aK : Int) (aL : Int) (aM : Bool) (a1 : ByteArray) (r1 : ByteArray) (r2 : Int) (w : World) (aQ : Kd.C k38 w aN aF.length aF) (aR : aF.length ≤ aO) (h : disk_Read.f aF aK aL aM a1 = some (r1, r2)) :
  Calls Try.prog 47 #[.agg #[.slice aN aF.length aO, .int .i64 aK, .int .i64 aL, .bool aM], .string a1] w fun e w' => e = .returned (.tuple #[.string r1, .int .i64 r2]) ∧ Below w.heap.size w w' := by
 have b3 := Try.underlying33
 have b4 := Try.underlying38
 have aS := ak aQ
 have aT := ak aR
 clear aQ aR
 have HB := ak (Below.refl w.heap.size w)
 have H : ((disk_Find.f aF aK aL aM a1).bind fun bt462 => (if bt462.2.2.2 = true then (if bt462.2.1.size + bt462.2.2.1.size ≤ 9223372036854775807 then (some (bt462.2.1 ++ bt462.2.2.1, 0)) else (none)) else (some ((⟨#[]⟩ : ByteArray), 7)))) = some (r1, r2) := h
 clear h
 replace H := Option.bind_eq_some_iff.mp H
 obtain ⟨⟨aP, aG, aH, aU⟩, bY, H⟩ := H
 replace H : (if aU = true then (if aG.size + aH.size ≤ 9223372036854775807 then (some (aG ++ aH, 0)) else (none)) else (some ((⟨#[]⟩ : ByteArray), 7))) = some (r1, r2) := H
 have A3 := ak bY
 clear bY
 by_cases c4 : aU = true
 ·subst c4
  have H1 : (if aG.size + aH.size ≤ 9223372036854775807 then (some (aG ++ aH, 0)) else (none)) = some (r1, r2) := by rw [if_pos rfl] at H; exact H
  clear H
  have H := H1
  clear H1
  have c5 : aG.size + aH.size ≤ 9223372036854775807 := Decidable.byContradiction fun q => by rw [if_neg q] at H; exact absurd H (by simp)
  rw [if_pos c5] at H
  have b5 := eq_true c5
  have b6 : decide (aG.size + aH.size ≤ 9223372036854775807) = true := decide_eq_true c5
  try have b7 : (9223372036854775807 < aG.size + aH.size) = False := eq_false (Nat.not_lt.2 c5)
  simp only [Option.some.injEq, Prod.mk.injEq] at H
  obtain ⟨rfl, rfl⟩ := H
  go_enter Try.func47, Try.ntmps47
  go_wp2_with (first | ((with_reducible refine gate_dst (N := 2) rfl ?_); refine box_event ?hg (N := 2) ?hd (cs := #[.slice aN aF.length aO, .int .i64 aK, .int .i64 aL, .bool aM]) (t := 33) ?hr ?_; (case hd => rfl); (case hg => rfl); (case hr => first | (go_simp; done) | (go_simp; rfl)); intro aV hg w6 hbox hb; obtain ⟨n_, aD⟩ := Cb.bx (pB HB.out) hg hb; have aW := aD; have aA := ak (hbox); replace HB := n_; clear n_; clear hb hbox hg; obtain ⟨bQ, bR, bS, bT⟩ := Cb.c4 aA.out; obtain ⟨bU, bV, bW, bX⟩ := Cb.f4 aA.out) | ((with_reducible refine gate_callee (f := 38) rfl ?_); refine goesL_ (some 11) rfl rfl Try.func38 (by kernel_rfl) rfl #[.agg #[.slice aN aF.length aO, .int .i64 aK, .int .i64 aL, .bool aM], .string a1] rfl (by (try simp only [List.map_toArray, List.map_cons, List.map_nil]); first | done | rfl | (simp only [List.length_drop, List.length_take]; rfl)) ?_; (with_reducible refine (disk_Find.calls _ _ aF aK aL aM a1 aP aG aH true _ ?side1 ?side2 A3.out).mono ?_); (case side1 => repeat (first | exact (Kd.C_below aS.out HB.out) | (with_reducible refine Kd.C_alloc ?_ _) | (with_reducible refine Kd.C_drewN ?_ _) | (with_reducible refine Kd.C_drew ?_))); (case side2 => exact aT.out); rintro e w8 ⟨rfl, hb⟩; refine ⟨_, rfl, ?_⟩; replace aA := ak (blk_below aA.out hb); replace HB := ak (below_step (by repeat (first | (with_reducible first | exact HB.out | apply ba | apply bn | apply bd | refine bs ?_ aD.out) | exact HB.out)) hb); (try clear hb); (try clear hb2); (try clear hk); (try clear hi)) | ((with_reducible refine gate_dst (N := 6) rfl ?_); refine box_event ?hg (N := 6) ?hd (cs := #[.string (⟨#[]⟩ : ByteArray), .string (⟨#[]⟩ : ByteArray), .string (⟨#[]⟩ : ByteArray)]) (t := 38) ?hr ?_; (case hd => rfl); (case hg => rfl); (case hr => first | (go_simp; done) | (go_simp; rfl)); intro aI hg w9 hbox hb; obtain ⟨n_, aJ⟩ := Cb.bx (by repeat (first | (with_reducible first | exact HB.out | apply ba | apply bn | apply bd | refine bs ?_ aD.out) | exact HB.out)) hg hb; have aX := aJ; obtain ⟨aB, aE⟩ := Cb.nb hg aA.out; have aC := ak (hbox); replace aA := ak (blk_below aA.out hb); replace HB := n_; clear n_; clear hb hbox hg; have bZ := aE.out; have b0 := aB.out; obtain ⟨aY, aZ, a0⟩ := Cb.c3 aC.out; obtain ⟨a3, a4, a5⟩ := Cb.f3 aC.out) | ((with_reducible refine gate_store (t := 38) (p := 6) rfl ?_); refine store_event (t := 38) (p := 6) (v := ?vo_w12) (w1 := (((w9.setCell ⟨aI, 0, none⟩ (.string aP)).setCell ⟨aI, 1, none⟩ (.string aG)).setCell ⟨aI, 2, none⟩ (.string aH))) ?hg ?ho ?hn ?hr ?_; (case ho => rfl); (case hg => rfl); (case hn => rfl); (case hr => first | (go_simp; done) | (go_simp; rfl)); intro b9 hw; replace aA := bf3 hw aB.out aA.out; replace aC := bp3 hw aC.out; replace HB := bw3 hw HB.out aJ.out; clear hw; obtain ⟨a6, a7, a8⟩ := Cb.c3 aC.out; obtain ⟨a9, bA, bB⟩ := Cb.f3 aC.out))
  go_ret2
  exact ⟨by first | rfl | (simp [errW_none, errW_some] <;> rfl) | (simp [*, errW_none, errW_some] <;> rfl), by repeat (first | (with_reducible first | exact HB.out | apply ba | apply bn | apply bd | refine bs ?_ aD.out | refine bs ?_ aJ.out) | exact HB.out)⟩
 ·replace c4 := Bool.eq_false_iff.mpr c4
  subst c4
  have H1 : (some ((⟨#[]⟩ : ByteArray), 7)) = some (r1, r2) := by rw [if_neg (show ¬ (false = true) by decide)] at H; exact H
  clear H
  have H := H1
  clear H1
  simp only [Option.some.injEq, Prod.mk.injEq] at H
  obtain ⟨rfl, rfl⟩ := H
  go_enter Try.func47, Try.ntmps47
  go_wp2_with (first | ((with_reducible refine gate_dst (N := 2) rfl ?_); refine box_event ?hg (N := 2) ?hd (cs := #[.slice aN aF.length aO, .int .i64 aK, .int .i64 aL, .bool aM]) (t := 33) ?hr ?_; (case hd => rfl); (case hg => rfl); (case hr => first | (go_simp; done) | (go_simp; rfl)); intro aV hg cA hbox hb; obtain ⟨n_, aD⟩ := Cb.bx (pB HB.out) hg hb; have aW := aD; have aA := ak (hbox); replace HB := n_; clear n_; clear hb hbox hg; obtain ⟨bC, bD, bE, bF⟩ := Cb.c4 aA.out; obtain ⟨bG, bH, bI, bJ⟩ := Cb.f4 aA.out) | ((with_reducible refine gate_callee (f := 38) rfl ?_); refine goesL_ (some 11) rfl rfl Try.func38 (by kernel_rfl) rfl #[.agg #[.slice aN aF.length aO, .int .i64 aK, .int .i64 aL, .bool aM], .string a1] rfl (by (try simp only [List.map_toArray, List.map_cons, List.map_nil]); first | done | rfl | (simp only [List.length_drop, List.length_take]; rfl)) ?_; (with_reducible refine (disk_Find.calls _ _ aF aK aL aM a1 aP aG aH false _ ?side1 ?side2 A3.out).mono ?_); (case side1 => repeat (first | exact (Kd.C_below aS.out HB.out) | (with_reducible refine Kd.C_alloc ?_ _) | (with_reducible refine Kd.C_drewN ?_ _) | (with_reducible refine Kd.C_drew ?_))); (case side2 => exact aT.out); rintro e cB ⟨rfl, hb⟩; refine ⟨_, rfl, ?_⟩; replace aA := ak (blk_below aA.out hb); replace HB := ak (below_step (by repeat (first | (with_reducible first | exact HB.out | apply ba | apply bn | apply bd | refine bs ?_ aD.out) | exact HB.out)) hb); (try clear hb); (try clear hb2); (try clear hk); (try clear hi)) | ((with_reducible refine gate_dst (N := 6) rfl ?_); refine box_event ?hg (N := 6) ?hd (cs := #[.string (⟨#[]⟩ : ByteArray), .string (⟨#[]⟩ : ByteArray), .string (⟨#[]⟩ : ByteArray)]) (t := 38) ?hr ?_; (case hd => rfl); (case hg => rfl); (case hr => first | (go_simp; done) | (go_simp; rfl)); intro aI hg b8 hbox hb; obtain ⟨n_, aJ⟩ := Cb.bx (by repeat (first | (with_reducible first | exact HB.out | apply ba | apply bn | apply bd | refine bs ?_ aD.out) | exact HB.out)) hg hb; have aX := aJ; obtain ⟨aB, aE⟩ := Cb.nb hg aA.out; have aC := ak (hbox); replace aA := ak (blk_below aA.out hb); replace HB := n_; clear n_; clear hb hbox hg; have b1 := aE.out; have b2 := aB.out; obtain ⟨bK, bL, bM⟩ := Cb.c3 aC.out; obtain ⟨bN, bO, bP⟩ := Cb.f3 aC.out) | ((with_reducible refine gate_store (t := 38) (p := 6) rfl ?_); refine store_event (t := 38) (p := 6) (v := ?vo_w20) (w1 := (((b8.setCell ⟨aI, 0, none⟩ (.string aP)).setCell ⟨aI, 1, none⟩ (.string aG)).setCell ⟨aI, 2, none⟩ (.string aH))) ?hg ?ho ?hn ?hr ?_; (case ho => rfl); (case hg => rfl); (case hn => rfl); (case hr => first | (go_simp; done) | (go_simp; rfl)); intro cC hw; replace aA := bf3 hw aB.out aA.out; replace aC := bp3 hw aC.out; replace HB := bw3 hw HB.out aJ.out; clear hw))
  go_ret2
  exact ⟨by first | rfl | (simp [errW_none, errW_some] <;> rfl) | (simp [*, errW_none, errW_some] <;> rfl), by repeat (first | (with_reducible first | exact HB.out | apply ba | apply bn | apply bd | refine bs ?_ aD.out | refine bs ?_ aJ.out) | exact HB.out)⟩

/-! ### run_Load: function 19 -/
set_option maxHeartbeats 8000000 in
set_option maxRecDepth 100000 in
theorem run_Load.calls (k : Nat) (aH : Option Addr) (aI : Nat) (aC : List (S38)) (aD : Int) (aE : Int) (aF : Bool) (a1 : ByteArray) (r1 : List (S62)) (r2 : Int) (w : World) (aK : Kd.C k38 w aH aC.length aC) (aL : aC.length ≤ aI) (h : run_Load.f k aC aD aE aF a1 = some (r1, r2)) :
  Calls Try.prog 19 #[.agg #[.slice aH aC.length aI, .int .i64 aD, .int .i64 aE, .bool aF], .string a1] w fun e w' => ∃ v0_ : Value, e = .returned (.tuple #[v0_, .int .i64 r2]) ∧ Kd.R k62 62 w' w.heap.size (fun _ => True) v0_ r1 ∧ Below w.heap.size w w' := by
 have bG := Try.underlying33
 have aM := ak aK
 have aN := ak aL
 clear aK aL
 have HB := ak (Below.refl w.heap.size w)
 have H : ((disk_Read.f aC aD aE aF a1).bind fun bt468 => (if bt468.2 = 0 then ((run_Take.f k bt468.1).bind fun bt470 => (some (bt470.1, bt470.2))) else (some (([] : List (S62)), bt468.2)))) = some (r1, r2) := h
 clear h
 replace H := Option.bind_eq_some_iff.mp H
 obtain ⟨⟨aJ, aG⟩, bD, H⟩ := H
 replace H : (if aG = 0 then ((run_Take.f k aJ).bind fun bt470 => (some (bt470.1, bt470.2))) else (some (([] : List (S62)), aG))) = some (r1, r2) := H
 have A3 := ak bD
 clear bD
 by_cases c4 : aG = 0
 ·rw [if_pos c4] at H
  have a3 : (aG == 0) = true := beq_iff_eq.mpr c4
  have a4 : (aG != 0) = false := bne_eq_false_iff_eq.mpr c4
  clear c4
  replace H := Option.bind_eq_some_iff.mp H
  obtain ⟨⟨aO, aP⟩, bE, H⟩ := H
  replace H : (some (aO, aP)) = some (r1, r2) := H
  have A5 := ak bE
  clear bE
  simp only [Option.some.injEq, Prod.mk.injEq] at H
  obtain ⟨rfl, rfl⟩ := H
  go_enter Try.func19, Try.ntmps19
  go_wp2_with (first | ((with_reducible refine gate_dst (N := 2) rfl ?_); refine box_event ?hg (N := 2) ?hd (cs := #[.slice aH aC.length aI, .int .i64 aD, .int .i64 aE, .bool aF]) (t := 33) ?hr ?_; (case hd => rfl); (case hg => rfl); (case hr => first | (go_simp; done) | (go_simp; rfl)); intro aQ hg w6 hbox hb; obtain ⟨n_, aB⟩ := Cb.bx (pB HB.out) hg hb; have aR := aB; have aA := ak (hbox); replace HB := n_; clear n_; clear hb hbox hg; obtain ⟨a5, a6, a7, a8⟩ := Cb.c4 aA.out; obtain ⟨a9, bA, bB, bC⟩ := Cb.f4 aA.out) | ((with_reducible refine gate_callee (f := 47) rfl ?_); refine goesL_ (some 11) rfl rfl Try.func47 (by kernel_rfl) rfl #[.agg #[.slice aH aC.length aI, .int .i64 aD, .int .i64 aE, .bool aF], .string a1] rfl (by (try simp only [List.map_toArray, List.map_cons, List.map_nil]); first | done | rfl | (simp only [List.length_drop, List.length_take]; rfl)) ?_; (with_reducible refine (disk_Read.calls _ _ aC aD aE aF a1 aJ aG _ ?side1 ?side2 A3.out).mono ?_); (case side1 => repeat (first | exact (Kd.C_below aM.out HB.out) | (with_reducible refine Kd.C_alloc ?_ _) | (with_reducible refine Kd.C_drewN ?_ _) | (with_reducible refine Kd.C_drew ?_))); (case side2 => exact aN.out); rintro e w8 ⟨rfl, hb⟩; refine ⟨_, rfl, ?_⟩; replace aA := ak (blk_below aA.out hb); replace HB := ak (below_step (by repeat (first | (with_reducible first | exact HB.out | apply ba | apply bn | apply bd | refine bs ?_ aB.out) | exact HB.out)) hb); (try clear hb); (try clear hb2); (try clear hk); (try clear hi)) | ((with_reducible refine gate_callee (f := 12) rfl ?_); refine goesL_ (some 18) rfl rfl Try.func12 (by kernel_rfl) rfl #[.string aJ] rfl (by (try simp only [List.map_toArray, List.map_cons, List.map_nil]); first | done | rfl | (simp only [List.length_drop, List.length_take]; rfl)) ?_; (with_reducible refine (run_Take.calls k aJ aO aP _ A5.out).mono ?_); rintro e w9 ⟨bH, rfl, bF, hb⟩; refine ⟨_, rfl, ?_⟩; have aS := ak (Kd.R_lower bF (below_size (by repeat (first | (with_reducible first | exact HB.out | apply ba | apply bn | apply bd | refine bs ?_ aB.out) | exact HB.out)))); replace aA := ak (blk_below aA.out hb); replace HB := ak (below_step (by repeat (first | (with_reducible first | exact HB.out | apply ba | apply bn | apply bd | refine bs ?_ aB.out) | exact HB.out)) hb); (try clear hb); (try clear hb2); (try clear hk); (try clear hi); (try clear bF)))
  go_ret2
  exact ⟨_, by first | rfl | (simp [errW_none, errW_some] <;> rfl) | (simp [*, errW_none, errW_some] <;> rfl), pR aS.out, by repeat (first | (with_reducible first | exact HB.out | apply ba | apply bn | apply bd | refine bs ?_ aB.out) | exact HB.out)⟩
 ·rw [if_neg c4] at H
  have a3 : (aG == 0) = false := beq_eq_false_iff_ne.mpr c4
  have a4 : (aG != 0) = true := bne_iff_ne.mpr c4
  simp only [Option.some.injEq, Prod.mk.injEq] at H
  obtain ⟨rfl, rfl⟩ := H
  go_enter Try.func19, Try.ntmps19
  go_wp2_with (first | ((with_reducible refine gate_dst (N := 2) rfl ?_); refine box_event ?hg (N := 2) ?hd (cs := #[.slice aH aC.length aI, .int .i64 aD, .int .i64 aE, .bool aF]) (t := 33) ?hr ?_; (case hd => rfl); (case hg => rfl); (case hr => first | (go_simp; done) | (go_simp; rfl)); intro aQ hg bI hbox hb; obtain ⟨n_, aB⟩ := Cb.bx (pB HB.out) hg hb; have aR := aB; have aA := ak (hbox); replace HB := n_; clear n_; clear hb hbox hg; obtain ⟨aT, aU, aV, aW⟩ := Cb.c4 aA.out; obtain ⟨aX, aY, aZ, a0⟩ := Cb.f4 aA.out) | ((with_reducible refine gate_callee (f := 47) rfl ?_); refine goesL_ (some 11) rfl rfl Try.func47 (by kernel_rfl) rfl #[.agg #[.slice aH aC.length aI, .int .i64 aD, .int .i64 aE, .bool aF], .string a1] rfl (by (try simp only [List.map_toArray, List.map_cons, List.map_nil]); first | done | rfl | (simp only [List.length_drop, List.length_take]; rfl)) ?_; (with_reducible refine (disk_Read.calls _ _ aC aD aE aF a1 aJ aG _ ?side1 ?side2 A3.out).mono ?_); (case side1 => repeat (first | exact (Kd.C_below aM.out HB.out) | (with_reducible refine Kd.C_alloc ?_ _) | (with_reducible refine Kd.C_drewN ?_ _) | (with_reducible refine Kd.C_drew ?_))); (case side2 => exact aN.out); rintro e bJ ⟨rfl, hb⟩; refine ⟨_, rfl, ?_⟩; replace aA := ak (blk_below aA.out hb); replace HB := ak (below_step (by repeat (first | (with_reducible first | exact HB.out | apply ba | apply bn | apply bd | refine bs ?_ aB.out) | exact HB.out)) hb); (try clear hb); (try clear hb2); (try clear hk); (try clear hi)))
  go_ret2
  exact ⟨_, by first | rfl | (simp [errW_none, errW_some] <;> rfl) | (simp [*, errW_none, errW_some] <;> rfl), by first | exact Kd.R_nil _ _ _ _ _ | exact Kd.N_nil _ _ _ _ _ | exact Kd.V_nil _ _ _ _ _ | exact Kd.Q_nil _ _ _ _ _ | exact Kd.S_nil _ _ _ _ _, by repeat (first | (with_reducible first | exact HB.out | apply ba | apply bn | apply bd | refine bs ?_ aB.out) | exact HB.out)⟩

/-! ### stanchionref03_Read: function 48 -/
set_option maxHeartbeats 8000000 in
set_option maxRecDepth 100000 in
theorem stanchionref03_Read.calls (k : Nat) (aN : Option Addr) (aO : Nat) (aF : List (S38)) (aK : Int) (aL : Int) (aM : Bool) (a1 : ByteArray) (r1 : ByteArray) (r2 : Int) (w : World) (aQ : Kd.C k38 w aN aF.length aF) (aR : aF.length ≤ aO) (h : stanchionref03_Read.f k aF aK aL aM a1 = some (r1, r2)) :
  Calls Try.prog 48 #[.agg #[.slice aN aF.length aO, .int .i64 aK, .int .i64 aL, .bool aM], .string a1] w fun e w' => e = .returned (.tuple #[.string r1, .int .i64 r2]) ∧ Below w.heap.size w w' := by
 have b3 := Try.underlying33
 have b4 := Try.underlying38
 have aS := ak aQ
 have aT := ak aR
 clear aQ aR
 have HB := ak (Below.refl w.heap.size w)
 have H : ((stanchionref03_Find.f k aF aK aL aM a1).bind fun bt475 => (if bt475.2.2.2 = true then (if bt475.2.1.size + bt475.2.2.1.size ≤ 9223372036854775807 then (some (bt475.2.1 ++ bt475.2.2.1, 0)) else (none)) else (some ((⟨#[]⟩ : ByteArray), 7)))) = some (r1, r2) := h
 clear h
 replace H := Option.bind_eq_some_iff.mp H
 obtain ⟨⟨aP, aG, aH, aU⟩, bY, H⟩ := H
 replace H : (if aU = true then (if aG.size + aH.size ≤ 9223372036854775807 then (some (aG ++ aH, 0)) else (none)) else (some ((⟨#[]⟩ : ByteArray), 7))) = some (r1, r2) := H
 have A3 := ak bY
 clear bY
 by_cases c4 : aU = true
 ·subst c4
  have H1 : (if aG.size + aH.size ≤ 9223372036854775807 then (some (aG ++ aH, 0)) else (none)) = some (r1, r2) := by rw [if_pos rfl] at H; exact H
  clear H
  have H := H1
  clear H1
  have c5 : aG.size + aH.size ≤ 9223372036854775807 := Decidable.byContradiction fun q => by rw [if_neg q] at H; exact absurd H (by simp)
  rw [if_pos c5] at H
  have b5 := eq_true c5
  have b6 : decide (aG.size + aH.size ≤ 9223372036854775807) = true := decide_eq_true c5
  try have b7 : (9223372036854775807 < aG.size + aH.size) = False := eq_false (Nat.not_lt.2 c5)
  simp only [Option.some.injEq, Prod.mk.injEq] at H
  obtain ⟨rfl, rfl⟩ := H
  go_enter Try.func48, Try.ntmps48
  go_wp2_with (first | ((with_reducible refine gate_dst (N := 2) rfl ?_); refine box_event ?hg (N := 2) ?hd (cs := #[.slice aN aF.length aO, .int .i64 aK, .int .i64 aL, .bool aM]) (t := 33) ?hr ?_; (case hd => rfl); (case hg => rfl); (case hr => first | (go_simp; done) | (go_simp; rfl)); intro aV hg w6 hbox hb; obtain ⟨n_, aD⟩ := Cb.bx (pB HB.out) hg hb; have aW := aD; have aA := ak (hbox); replace HB := n_; clear n_; clear hb hbox hg; obtain ⟨bQ, bR, bS, bT⟩ := Cb.c4 aA.out; obtain ⟨bU, bV, bW, bX⟩ := Cb.f4 aA.out) | ((with_reducible refine gate_callee (f := 16) rfl ?_); refine goesL_ (some 11) rfl rfl Try.func16 (by kernel_rfl) rfl #[.agg #[.slice aN aF.length aO, .int .i64 aK, .int .i64 aL, .bool aM], .string a1] rfl (by (try simp only [List.map_toArray, List.map_cons, List.map_nil]); first | done | rfl | (simp only [List.length_drop, List.length_take]; rfl)) ?_; (with_reducible refine (stanchionref03_Find.calls k _ _ aF aK aL aM a1 aP aG aH true _ ?side1 ?side2 A3.out).mono ?_); (case side1 => repeat (first | exact (Kd.C_below aS.out HB.out) | (with_reducible refine Kd.C_alloc ?_ _) | (with_reducible refine Kd.C_drewN ?_ _) | (with_reducible refine Kd.C_drew ?_))); (case side2 => exact aT.out); rintro e w8 ⟨rfl, hb⟩; refine ⟨_, rfl, ?_⟩; replace aA := ak (blk_below aA.out hb); replace HB := ak (below_step (by repeat (first | (with_reducible first | exact HB.out | apply ba | apply bn | apply bd | refine bs ?_ aD.out) | exact HB.out)) hb); (try clear hb); (try clear hb2); (try clear hk); (try clear hi)) | ((with_reducible refine gate_dst (N := 6) rfl ?_); refine box_event ?hg (N := 6) ?hd (cs := #[.string (⟨#[]⟩ : ByteArray), .string (⟨#[]⟩ : ByteArray), .string (⟨#[]⟩ : ByteArray)]) (t := 38) ?hr ?_; (case hd => rfl); (case hg => rfl); (case hr => first | (go_simp; done) | (go_simp; rfl)); intro aI hg w9 hbox hb; obtain ⟨n_, aJ⟩ := Cb.bx (by repeat (first | (with_reducible first | exact HB.out | apply ba | apply bn | apply bd | refine bs ?_ aD.out) | exact HB.out)) hg hb; have aX := aJ; obtain ⟨aB, aE⟩ := Cb.nb hg aA.out; have aC := ak (hbox); replace aA := ak (blk_below aA.out hb); replace HB := n_; clear n_; clear hb hbox hg; have bZ := aE.out; have b0 := aB.out; obtain ⟨aY, aZ, a0⟩ := Cb.c3 aC.out; obtain ⟨a3, a4, a5⟩ := Cb.f3 aC.out) | ((with_reducible refine gate_store (t := 38) (p := 6) rfl ?_); refine store_event (t := 38) (p := 6) (v := ?vo_w12) (w1 := (((w9.setCell ⟨aI, 0, none⟩ (.string aP)).setCell ⟨aI, 1, none⟩ (.string aG)).setCell ⟨aI, 2, none⟩ (.string aH))) ?hg ?ho ?hn ?hr ?_; (case ho => rfl); (case hg => rfl); (case hn => rfl); (case hr => first | (go_simp; done) | (go_simp; rfl)); intro b9 hw; replace aA := bf3 hw aB.out aA.out; replace aC := bp3 hw aC.out; replace HB := bw3 hw HB.out aJ.out; clear hw; obtain ⟨a6, a7, a8⟩ := Cb.c3 aC.out; obtain ⟨a9, bA, bB⟩ := Cb.f3 aC.out))
  go_ret2
  exact ⟨by first | rfl | (simp [errW_none, errW_some] <;> rfl) | (simp [*, errW_none, errW_some] <;> rfl), by repeat (first | (with_reducible first | exact HB.out | apply ba | apply bn | apply bd | refine bs ?_ aD.out | refine bs ?_ aJ.out) | exact HB.out)⟩
 ·replace c4 := Bool.eq_false_iff.mpr c4
  subst c4
  have H1 : (some ((⟨#[]⟩ : ByteArray), 7)) = some (r1, r2) := by rw [if_neg (show ¬ (false = true) by decide)] at H; exact H
  clear H
  have H := H1
  clear H1
  simp only [Option.some.injEq, Prod.mk.injEq] at H
  obtain ⟨rfl, rfl⟩ := H
  go_enter Try.func48, Try.ntmps48
  go_wp2_with (first | ((with_reducible refine gate_dst (N := 2) rfl ?_); refine box_event ?hg (N := 2) ?hd (cs := #[.slice aN aF.length aO, .int .i64 aK, .int .i64 aL, .bool aM]) (t := 33) ?hr ?_; (case hd => rfl); (case hg => rfl); (case hr => first | (go_simp; done) | (go_simp; rfl)); intro aV hg cA hbox hb; obtain ⟨n_, aD⟩ := Cb.bx (pB HB.out) hg hb; have aW := aD; have aA := ak (hbox); replace HB := n_; clear n_; clear hb hbox hg; obtain ⟨bC, bD, bE, bF⟩ := Cb.c4 aA.out; obtain ⟨bG, bH, bI, bJ⟩ := Cb.f4 aA.out) | ((with_reducible refine gate_callee (f := 16) rfl ?_); refine goesL_ (some 11) rfl rfl Try.func16 (by kernel_rfl) rfl #[.agg #[.slice aN aF.length aO, .int .i64 aK, .int .i64 aL, .bool aM], .string a1] rfl (by (try simp only [List.map_toArray, List.map_cons, List.map_nil]); first | done | rfl | (simp only [List.length_drop, List.length_take]; rfl)) ?_; (with_reducible refine (stanchionref03_Find.calls k _ _ aF aK aL aM a1 aP aG aH false _ ?side1 ?side2 A3.out).mono ?_); (case side1 => repeat (first | exact (Kd.C_below aS.out HB.out) | (with_reducible refine Kd.C_alloc ?_ _) | (with_reducible refine Kd.C_drewN ?_ _) | (with_reducible refine Kd.C_drew ?_))); (case side2 => exact aT.out); rintro e cB ⟨rfl, hb⟩; refine ⟨_, rfl, ?_⟩; replace aA := ak (blk_below aA.out hb); replace HB := ak (below_step (by repeat (first | (with_reducible first | exact HB.out | apply ba | apply bn | apply bd | refine bs ?_ aD.out) | exact HB.out)) hb); (try clear hb); (try clear hb2); (try clear hk); (try clear hi)) | ((with_reducible refine gate_dst (N := 6) rfl ?_); refine box_event ?hg (N := 6) ?hd (cs := #[.string (⟨#[]⟩ : ByteArray), .string (⟨#[]⟩ : ByteArray), .string (⟨#[]⟩ : ByteArray)]) (t := 38) ?hr ?_; (case hd => rfl); (case hg => rfl); (case hr => first | (go_simp; done) | (go_simp; rfl)); intro aI hg b8 hbox hb; obtain ⟨n_, aJ⟩ := Cb.bx (by repeat (first | (with_reducible first | exact HB.out | apply ba | apply bn | apply bd | refine bs ?_ aD.out) | exact HB.out)) hg hb; have aX := aJ; obtain ⟨aB, aE⟩ := Cb.nb hg aA.out; have aC := ak (hbox); replace aA := ak (blk_below aA.out hb); replace HB := n_; clear n_; clear hb hbox hg; have b1 := aE.out; have b2 := aB.out; obtain ⟨bK, bL, bM⟩ := Cb.c3 aC.out; obtain ⟨bN, bO, bP⟩ := Cb.f3 aC.out) | ((with_reducible refine gate_store (t := 38) (p := 6) rfl ?_); refine store_event (t := 38) (p := 6) (v := ?vo_w20) (w1 := (((b8.setCell ⟨aI, 0, none⟩ (.string aP)).setCell ⟨aI, 1, none⟩ (.string aG)).setCell ⟨aI, 2, none⟩ (.string aH))) ?hg ?ho ?hn ?hr ?_; (case ho => rfl); (case hg => rfl); (case hn => rfl); (case hr => first | (go_simp; done) | (go_simp; rfl)); intro cC hw; replace aA := bf3 hw aB.out aA.out; replace aC := bp3 hw aC.out; replace HB := bw3 hw HB.out aJ.out; clear hw))
  go_ret2
  exact ⟨by first | rfl | (simp [errW_none, errW_some] <;> rfl) | (simp [*, errW_none, errW_some] <;> rfl), by repeat (first | (with_reducible first | exact HB.out | apply ba | apply bn | apply bd | refine bs ?_ aD.out | refine bs ?_ aJ.out) | exact HB.out)⟩

end Go.Proofs.Ytbhkopbalhhpgaa.PY
