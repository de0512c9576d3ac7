-- Made by a program of this workplace out of the translation (wip/tools in the repo). Not trusted: Lean checks it.
import Derived.Test.YtbhkopbalhhpgaaPYx0
import Derived.Test.YtbhkopbalhhpgaaCb
import Derived.Test.YtbhkopbalhhpgaaSq
import Derived.Test.YtbhkopbalhhpgaaSt
import Derived.Test.YtbhkopbalhhpgaaPYx3
import Derived.Test.YtbhkopbalhhpgaaPYx12
namespace Go.Proofs.Ytbhkopbalhhpgaa.PY
open Go.RowKit Go.Proofs.YtbhkopbalhhpgaaW.PrintWords Go.Proofs.YtbhkopbalhhpgaaW.PrintLast Go.Proofs.YtbhkopbalhhpgaaW.PrintMore Go.Proofs.Ytbhkopbalhhpgaa
attribute [local go_sem] max2_int min2_int max_two min_two max_three min_three max_four min_four   -- for this text's walks alone
set_option linter.unusedVariables false
set_option linter.unusedSimpArgs false

/-! ### stanchionref03_Delete: function 43 -/
set_option maxHeartbeats 8000000 in
set_option maxRecDepth 100000 in
theorem stanchionref03_Delete.calls (k : Nat) (aZ : Nat → Prop) (aT : Option Addr) (aU : Nat) (aM : List (S38)) (aN : Int) (aP : Int) (a3 : Bool) (a1 : ByteArray) (r1 : List (S38)) (r2 : Int) (r3 : Int) (r4 : Bool) (r5 : Int) (w : World) (bJ : Kd.V k38 38 w w.heap.size (fun k_ => aZ k_) (.slice aT aM.length aU) aM) (h : stanchionref03_Delete.f k aM aN aP a3 a1 = some (r1, r2, r3, r4, r5)) :
  Calls Try.prog 43 #[.agg #[.slice aT aM.length aU, .int .i64 aN, .int .i64 aP, .bool a3], .string a1] w fun e w' => ∃ v0_ : Value, e = .returned (.tuple #[.agg #[v0_, .int .i64 r2, .int .i64 r3, .bool r4], .int .i64 r5]) ∧ Kd.V k38 38 w' w.heap.size (fun k_ => (aZ k_ ∨ w.heap.size ≤ k_)) v0_ r1 ∧ Below w.heap.size w w' := by
 have fG := Try.underlying33
 have aE := ak (show Kd.V k38 38 w w.heap.size (fun k_ => (aZ k_ ∨ w.heap.size ≤ k_)) (.slice aT aM.length aU) aM from Kd.V_mono bJ (fun k_ hk => .inl hk))
 have HB := ak (Below.refl w.heap.size w)
 have H : (if a3 = true then (some (aM, aN, aP, a3, 6)) else ((stanchionref03_at.f k aM aN aP a3 a1).bind fun a2 => (if a2 < 0 then (some (aM, aN, aP, a3, 7)) else ((stanchionref03_power.f aM aN aP a3).bind fun bt333 => (if bt333.2.2.2.2 = true then ((stanchionref03_at.f k bt333.1 bt333.2.1 bt333.2.2.1 bt333.2.2.2.1 a1).bind fun a0 => ((stanchionref03_less.f bt333.1 bt333.2.1 bt333.2.2.1 bt333.2.2.2.1 a0).bind fun bt341 => (some (bt341.1, bt341.2.1, bt341.2.2.1, bt341.2.2.2, 0)))) else (some (bt333.1, bt333.2.1, bt333.2.2.1, bt333.2.2.2.1, 6))))))) = some (r1, r2, r3, r4, r5) := h
 clear h
 by_cases c3 : a3 = true
 ·subst c3
  have H1 : (some (aM, aN, aP, true, 6)) = some (r1, r2, r3, r4, r5) := by rw [if_pos rfl] at H; exact H
  clear H
  have H := H1
  clear H1
  simp only [Option.some.injEq, Prod.mk.injEq] at H
  obtain ⟨rfl, rfl, rfl, rfl, rfl⟩ := H
  go_enter Try.func43, Try.ntmps43
  go_wp2_with (first | ((with_reducible refine gate_dst (N := 2) rfl ?_); refine box_event ?hg (N := 2) ?hd (cs := #[.slice aT aM.length aU, .int .i64 aN, .int .i64 aP, .bool true]) (t := 33) ?hr ?_; (case hd => rfl); (case hg => rfl); (case hr => first | (go_simp; done) | (go_simp; rfl)); intro aJ hg w4 hbox hb; obtain ⟨n_, aI⟩ := Cb.bx (pB HB.out) hg hb; have a6 := aI; have aA := ak (hbox); replace aE := ak (Kd.V_below (Kd.V_elderB (pV aE.out) aJ (Nat.le_of_eq hg.symm)) hb); replace HB := n_; clear n_; clear hb hbox hg) | ((with_reducible refine gate_dst (N := 4) rfl ?_); refine box_event ?hg (N := 4) ?hd (cs := #[.slice none 0 0, .int .i64 0, .int .i64 0, .bool false]) (t := 33) ?hr ?_; (case hd => rfl); (case hg => rfl); (case hr => first | (go_simp; done) | (go_simp; rfl)); intro aD hg w5 hbox hb; obtain ⟨n_, aK⟩ := Cb.bx (by repeat (first | (with_reducible first | exact HB.out | apply ba | apply bn | apply bd | refine bs ?_ aI.out) | exact HB.out)) hg hb; have a7 := aK; obtain ⟨aC, aH⟩ := Cb.nb hg aA.out; have aG := ak (hbox); replace aE := ak (Kd.V_below (Kd.V_elderB (pV aE.out) aD (Nat.le_of_eq hg.symm)) hb); replace aA := ak (blk_below aA.out hb); replace HB := n_; clear n_; clear hb hbox hg; have fH := aC.out; have fI := aH.out; obtain ⟨eL, eM, eN, eO⟩ := Cb.c4 aA.out; obtain ⟨eP, eQ, eR, eS⟩ := Cb.f4 aA.out; obtain ⟨eT, eU, eV, eW⟩ := Cb.c4 aG.out; obtain ⟨eX, eY, eZ, e0⟩ := Cb.f4 aG.out) | ((with_reducible refine gate_store (t := 33) (p := 4) rfl ?_); refine store_event (t := 33) (p := 4) (v := ?vo_w9) (w1 := ((((w5.setCell ⟨aD, 0, none⟩ (.slice aT aM.length aU)).setCell ⟨aD, 1, none⟩ (.int .i64 aN)).setCell ⟨aD, 2, none⟩ (.int .i64 aP)).setCell ⟨aD, 3, none⟩ (.bool true))) ?hg ?ho ?hn ?hr ?_; (case ho => rfl); (case hg => rfl); (case hn => rfl); (case hr => first | (go_simp; done) | (go_simp; rfl)); intro w9 hw; replace aE := vg4 (ok' := fun k_ => (aZ k_ ∨ w.heap.size ≤ k_) ∧ k_ ≠ aJ ∧ k_ ≠ aD) hw aE.out (fun _ hk => hk.2) fun _ hk => ⟨hk.1.1, ⟨hk.1.2, hk.2⟩⟩; replace aA := bf4 hw aC.out aA.out; replace aG := bp4 hw aG.out; replace HB := bw4 hw HB.out aK.out; clear hw))
  refine bodyPost_ret (results_ct rfl _ _ aD 33 #[.slice aT aM.length aU, .int .i64 aN, .int .i64 aP, .bool true] (0, 0) _ rfl (pk aG.out) Try.underlying33 rfl (by kernel_rfl)) rfl ?_
  exact ⟨_, by first | rfl | (simp [errW_none, errW_some] <;> rfl) | (simp [*, errW_none, errW_some] <;> rfl), pV (Kd.V_mono aE.out (fun _ hk => hk.1)), by repeat (first | (with_reducible first | exact HB.out | apply ba | apply bn | apply bd | refine bs ?_ aI.out | refine bs ?_ aK.out) | exact HB.out)⟩
 ·replace c3 := Bool.eq_false_iff.mpr c3
  subst c3
  have H1 : ((stanchionref03_at.f k aM aN aP false a1).bind fun a2 => (if a2 < 0 then (some (aM, aN, aP, false, 7)) else ((stanchionref03_power.f aM aN aP false).bind fun bt333 => (if bt333.2.2.2.2 = true then ((stanchionref03_at.f k bt333.1 bt333.2.1 bt333.2.2.1 bt333.2.2.2.1 a1).bind fun a0 => ((stanchionref03_less.f bt333.1 bt333.2.1 bt333.2.2.1 bt333.2.2.2.1 a0).bind fun bt341 => (some (bt341.1, bt341.2.1, bt341.2.2.1, bt341.2.2.2, 0)))) else (some (bt333.1, bt333.2.1, bt333.2.2.1, bt333.2.2.2.1, 6)))))) = some (r1, r2, r3, r4, r5) := by rw [if_neg (show ¬ (false = true) by decide)] at H; exact H
  clear H
  have H := H1
  clear H1
  replace H := Option.bind_eq_some_iff.mp H
  obtain ⟨a2, bK, H⟩ := H
  replace H : (if a2 < 0 then (some (aM, aN, aP, false, 7)) else ((stanchionref03_power.f aM aN aP false).bind fun bt333 => (if bt333.2.2.2.2 = true then ((stanchionref03_at.f k bt333.1 bt333.2.1 bt333.2.2.1 bt333.2.2.2.1 a1).bind fun a0 => ((stanchionref03_less.f bt333.1 bt333.2.1 bt333.2.2.1 bt333.2.2.2.1 a0).bind fun bt341 => (some (bt341.1, bt341.2.1, bt341.2.2.1, bt341.2.2.2, 0)))) else (some (bt333.1, bt333.2.1, bt333.2.2.1, bt333.2.2.2.1, 6))))) = some (r1, r2, r3, r4, r5) := H
  have e1 := ak bK
  clear bK
  by_cases bI : a2 < 0
  ·rw [if_pos bI] at H
   have bL : decide (a2 < 0) = true := decide_eq_true bI
   clear bI
   simp only [Option.some.injEq, Prod.mk.injEq] at H
   obtain ⟨rfl, rfl, rfl, rfl, rfl⟩ := H
   go_enter Try.func43, Try.ntmps43
   go_wp2_with (first | ((with_reducible refine gate_dst (N := 2) rfl ?_); refine box_event ?hg (N := 2) ?hd (cs := #[.slice aT aM.length aU, .int .i64 aN, .int .i64 aP, .bool false]) (t := 33) ?hr ?_; (case hd => rfl); (case hg => rfl); (case hr => first | (go_simp; done) | (go_simp; rfl)); intro aJ hg fX hbox hb; obtain ⟨n_, aI⟩ := Cb.bx (pB HB.out) hg hb; have a6 := aI; have aA := ak (hbox); replace aE := ak (Kd.V_below (Kd.V_elderB (pV aE.out) aJ (Nat.le_of_eq hg.symm)) hb); replace HB := n_; clear n_; clear hb hbox hg) | ((with_reducible refine gate_dst (N := 4) rfl ?_); refine box_event ?hg (N := 4) ?hd (cs := #[.slice none 0 0, .int .i64 0, .int .i64 0, .bool false]) (t := 33) ?hr ?_; (case hd => rfl); (case hg => rfl); (case hr => first | (go_simp; done) | (go_simp; rfl)); intro aD hg fY hbox hb; obtain ⟨n_, aK⟩ := Cb.bx (by repeat (first | (with_reducible first | exact HB.out | apply ba | apply bn | apply bd | refine bs ?_ aI.out) | exact HB.out)) hg hb; have a7 := aK; obtain ⟨aC, aH⟩ := Cb.nb hg aA.out; have aG := ak (hbox); replace aE := ak (Kd.V_below (Kd.V_elderB (pV aE.out) aD (Nat.le_of_eq hg.symm)) hb); replace aA := ak (blk_below aA.out hb); replace HB := n_; clear n_; clear hb hbox hg; have e5 := aC.out; have e6 := aH.out; obtain ⟨bR, bS, bT, bU⟩ := Cb.c4 aA.out; obtain ⟨bV, bW, bX, bY⟩ := Cb.f4 aA.out) | ((with_reducible refine gate_callee (f := 37) rfl ?_); refine goesL_ (some 12) rfl rfl Try.func37 (by kernel_rfl) rfl #[.agg #[.slice aT aM.length aU, .int .i64 aN, .int .i64 aP, .bool false], .string a1] rfl (by (try simp only [List.map_toArray, List.map_cons, List.map_nil]); first | done | rfl | (simp only [List.length_drop, List.length_take]; rfl)) ?_; (with_reducible refine (stanchionref03_at.calls k _ _ aM aN aP false a1 a2 _ ?side1 ?side2 e1.out).mono ?_); (case side1 => repeat (first | exact (Kd.V_reads' aE.out).2.2 | (with_reducible refine Kd.C_alloc ?_ _) | (with_reducible refine Kd.C_drewN ?_ _) | (with_reducible refine Kd.C_drew ?_))); (case side2 => exact (Kd.V_reads' aE.out).2.1); rintro e fJ ⟨rfl, hb⟩; refine ⟨_, rfl, ?_⟩; replace aE := ak (Kd.V_below (pV aE.out) hb); replace aA := ak (blk_below aA.out hb); replace aG := ak (blk_below aG.out hb); replace HB := ak (below_step (by repeat (first | (with_reducible first | exact HB.out | apply ba | apply bn | apply bd | refine bs ?_ aI.out | refine bs ?_ aK.out) | exact HB.out)) hb); (try clear hb); (try clear hb2); (try clear hk); (try clear hi); obtain ⟨bZ, b0, b1, b2⟩ := Cb.c4 aA.out; obtain ⟨b3, b4, b5, b6⟩ := Cb.f4 aA.out; obtain ⟨b7, b8, b9, cA⟩ := Cb.c4 aG.out; obtain ⟨cB, cC, cD, cE⟩ := Cb.f4 aG.out) | ((with_reducible refine gate_store (t := 33) (p := 4) rfl ?_); refine store_event (t := 33) (p := 4) (v := ?vo_w19) (w1 := ((((fJ.setCell ⟨aD, 0, none⟩ (.slice aT aM.length aU)).setCell ⟨aD, 1, none⟩ (.int .i64 aN)).setCell ⟨aD, 2, none⟩ (.int .i64 aP)).setCell ⟨aD, 3, none⟩ (.bool false))) ?hg ?ho ?hn ?hr ?_; (case ho => rfl); (case hg => rfl); (case hn => rfl); (case hr => first | (go_simp; done) | (go_simp; rfl)); intro fZ hw; replace aE := vg4 (ok' := fun k_ => (aZ k_ ∨ w.heap.size ≤ k_) ∧ k_ ≠ aJ ∧ k_ ≠ aD) hw aE.out (fun _ hk => hk.2) fun _ hk => ⟨hk.1.1, ⟨hk.1.2, hk.2⟩⟩; replace aA := bf4 hw aC.out aA.out; replace aG := bp4 hw aG.out; replace HB := bw4 hw HB.out aK.out; clear hw))
   refine bodyPost_ret (results_ct rfl _ _ aD 33 #[.slice aT aM.length aU, .int .i64 aN, .int .i64 aP, .bool false] (0, 0) _ rfl (pk aG.out) Try.underlying33 rfl (by kernel_rfl)) rfl ?_
   exact ⟨_, by first | rfl | (simp [errW_none, errW_some] <;> rfl) | (simp [*, errW_none, errW_some] <;> rfl), pV (Kd.V_mono aE.out (fun _ hk => hk.1)), by repeat (first | (with_reducible first | exact HB.out | apply ba | apply bn | apply bd | refine bs ?_ aI.out | refine bs ?_ aK.out) | exact HB.out)⟩
  ·rw [if_neg bI] at H
   have bL : decide (a2 < 0) = false := decide_eq_false bI
   clear bI
   replace H := Option.bind_eq_some_iff.mp H
   obtain ⟨⟨aV, aW, aX, aY, bM⟩, bN, H⟩ := H
   replace H : (if bM = true then ((stanchionref03_at.f k aV aW aX aY a1).bind fun a0 => ((stanchionref03_less.f aV aW aX aY a0).bind fun bt341 => (some (bt341.1, bt341.2.1, bt341.2.2.1, bt341.2.2.2, 0)))) else (some (aV, aW, aX, aY, 6))) = some (r1, r2, r3, r4, r5) := H
   have e7 := ak bN
   clear bN
   by_cases cF : bM = true
   ·subst cF
    have H1 : ((stanchionref03_at.f k aV aW aX aY a1).bind fun a0 => ((stanchionref03_less.f aV aW aX aY a0).bind fun bt341 => (some (bt341.1, bt341.2.1, bt341.2.2.1, bt341.2.2.2, 0)))) = some (r1, r2, r3, r4, r5) := by rw [if_pos rfl] at H; exact H
    clear H
    have H := H1
    clear H1
    replace H := Option.bind_eq_some_iff.mp H
    obtain ⟨a0, bO, H⟩ := H
    replace H : ((stanchionref03_less.f aV aW aX aY a0).bind fun bt341 => (some (bt341.1, bt341.2.1, bt341.2.2.1, bt341.2.2.2, 0))) = some (r1, r2, r3, r4, r5) := H
    have fK := ak bO
    clear bO
    replace H := Option.bind_eq_some_iff.mp H
    obtain ⟨⟨a4, a5, a8, bC⟩, bP, H⟩ := H
    replace H : (some (a4, a5, a8, bC, 0)) = some (r1, r2, r3, r4, r5) := H
    have fL := ak bP
    clear bP
    simp only [Option.some.injEq, Prod.mk.injEq] at H
    obtain ⟨rfl, rfl, rfl, rfl, rfl⟩ := H
    go_enter Try.func43, Try.ntmps43
    try go_wp2_with (first | ((with_reducible refine gate_dst (N := 2) rfl ?_); refine box_event ?hg (N := 2) ?hd (cs := #[.slice aT aM.length aU, .int .i64 aN, .int .i64 aP, .bool false]) (t := 33) ?hr ?_; (case hd => rfl); (case hg => rfl); (case hr => first | (go_simp; done) | (go_simp; rfl)); intro aJ hg f5 hbox hb; obtain ⟨n_, aI⟩ := Cb.bx (pB HB.out) hg hb; have a6 := aI; have aA := ak (hbox); replace aE := ak (Kd.V_below (Kd.V_elderB (pV aE.out) aJ (Nat.le_of_eq hg.symm)) hb); replace HB := n_; clear n_; clear hb hbox hg) | ((with_reducible refine gate_dst (N := 4) rfl ?_); refine box_event ?hg (N := 4) ?hd (cs := #[.slice none 0 0, .int .i64 0, .int .i64 0, .bool false]) (t := 33) ?hr ?_; (case hd => rfl); (case hg => rfl); (case hr => first | (go_simp; done) | (go_simp; rfl)); intro aD hg f6 hbox hb; obtain ⟨n_, aK⟩ := Cb.bx (by repeat (first | (with_reducible first | exact HB.out | apply ba | apply bn | apply bd | refine bs ?_ aI.out) | exact HB.out)) hg hb; have a7 := aK; obtain ⟨aC, aH⟩ := Cb.nb hg aA.out; have aG := ak (hbox); replace aE := ak (Kd.V_below (Kd.V_elderB (pV aE.out) aD (Nat.le_of_eq hg.symm)) hb); replace aA := ak (blk_below aA.out hb); replace HB := n_; clear n_; clear hb hbox hg; have e8 := aC.out; have e9 := aH.out; obtain ⟨cG, cH, cI, cJ⟩ := Cb.c4 aA.out; obtain ⟨cK, cL, cM, cN⟩ := Cb.f4 aA.out) | ((with_reducible refine gate_callee (f := 37) rfl ?_); refine goesL_ (some 12) rfl rfl Try.func37 (by kernel_rfl) rfl #[.agg #[.slice aT aM.length aU, .int .i64 aN, .int .i64 aP, .bool false], .string a1] rfl (by (try simp only [List.map_toArray, List.map_cons, List.map_nil]); first | done | rfl | (simp only [List.length_drop, List.length_take]; rfl)) ?_; (with_reducible refine (stanchionref03_at.calls k _ _ aM aN aP false a1 a2 _ ?side1 ?side2 e1.out).mono ?_); (case side1 => repeat (first | exact (Kd.V_reads' aE.out).2.2 | (with_reducible refine Kd.C_alloc ?_ _) | (with_reducible refine Kd.C_drewN ?_ _) | (with_reducible refine Kd.C_drew ?_))); (case side2 => exact (Kd.V_reads' aE.out).2.1); rintro e f7 ⟨rfl, hb⟩; refine ⟨_, rfl, ?_⟩; replace aE := ak (Kd.V_below (pV aE.out) hb); replace aA := ak (blk_below aA.out hb); replace aG := ak (blk_below aG.out hb); replace HB := ak (below_step (by repeat (first | (with_reducible first | exact HB.out | apply ba | apply bn | apply bd | refine bs ?_ aI.out | refine bs ?_ aK.out) | exact HB.out)) hb); (try clear hb); (try clear hb2); (try clear hk); (try clear hi); obtain ⟨cO, cP, cQ, cR⟩ := Cb.c4 aA.out; obtain ⟨cS, cT, cU, cV⟩ := Cb.f4 aA.out) | ((with_reducible refine gate_callee (f := 71) rfl ?_); refine goesL_ (some 17) rfl rfl Try.func71 (by kernel_rfl) rfl #[.agg #[.slice aT aM.length aU, .int .i64 aN, .int .i64 aP, .bool false]] rfl (by (try simp only [List.map_toArray, List.map_cons, List.map_nil]); first | done | rfl | (simp only [List.length_drop, List.length_take]; rfl)) ?_; (with_reducible refine (stanchionref03_power.calls (fun k_ => (((aZ k_ ∨ w.heap.size ≤ k_) ∧ k_ ≠ aJ) ∧ k_ ≠ aD)) _ _ aM aN aP false aV aW aX aY true _ ?side1 e7.out).mono ?_); (case side1 => exact aE.out); rintro e fM ⟨e2, rfl, bB, hb⟩; refine ⟨_, rfl, ?_⟩; have aQ := ak (Kd.V_lower (Kd.V_mono (ok' := fun k_ => (aZ k_ ∨ w.heap.size ≤ k_) ∧ k_ ≠ aJ ∧ k_ ≠ aD) bB (fun k_ hk_ => ⟨Or.elim hk_ (fun hs_ => hs_.1.1) (fun hn_ => (.inr (Nat.le_trans (below_size (by repeat (first | (with_reducible first | exact HB.out | apply ba | apply bn | apply bd | refine bs ?_ aI.out | refine bs ?_ aK.out) | exact HB.out))) hn_))), Or.elim hk_ (fun hs_ => hs_.1.2) (fun hn_ => (Kd.freshB (g := aJ) (o := .cells #[.slice aT aM.length aU, .int .i64 aN, .int .i64 aP, .bool false] 33 (0, 0)) (pk aA.out) k_ hn_)), Or.elim hk_ (fun hs_ => hs_.2) (fun hn_ => (Kd.freshB (g := aD) (o := .cells #[.slice none 0 0, .int .i64 0, .int .i64 0, .bool false] 33 (0, 0)) (pk aG.out) k_ hn_))⟩)) (below_size (by repeat (first | (with_reducible first | exact HB.out | apply ba | apply bn | apply bd | refine bs ?_ aI.out | refine bs ?_ aK.out) | exact HB.out)))); replace aE := ak (Kd.V_below (pV aE.out) hb); replace aA := ak (blk_below aA.out hb); replace aG := ak (blk_below aG.out hb); replace HB := ak (below_step (by repeat (first | (with_reducible first | exact HB.out | apply ba | apply bn | apply bd | refine bs ?_ aI.out | refine bs ?_ aK.out) | exact HB.out)) hb); (try clear hb); (try clear hb2); (try clear hk); (try clear hi); (try clear bB); obtain ⟨bD, bE, e3⟩ := Kd.V_slice aQ.out; subst e3; obtain ⟨cW, cX, cY, cZ⟩ := Cb.c4 aA.out; obtain ⟨c0, c1, c2, c7⟩ := Cb.f4 aA.out) | ((with_reducible refine gate_store (t := 33) (p := 2) rfl ?_); refine store_event (t := 33) (p := 2) (v := ?vo_w33) (w1 := ((((fM.setCell ⟨aJ, 0, none⟩ (.slice bD aV.length bE)).setCell ⟨aJ, 1, none⟩ (.int .i64 aW)).setCell ⟨aJ, 2, none⟩ (.int .i64 aX)).setCell ⟨aJ, 3, none⟩ (.bool aY))) ?hg ?ho ?hn ?hr ?_; (case ho => rfl); (case hg => rfl); (case hn => rfl); (case hr => first | (go_simp; done) | (go_simp; rfl)); intro fN hw; replace aE := vg4 (ok' := fun k_ => (aZ k_ ∨ w.heap.size ≤ k_) ∧ k_ ≠ aJ ∧ k_ ≠ aD) hw aE.out (fun _ hk => hk.1.2) fun _ hk => ⟨hk.1.1, ⟨hk.1.2, hk.2⟩⟩; replace aQ := vf4 hw aQ.out fun _ hk => hk.2.1; replace aA := bp4 hw aA.out; replace aG := bf4 hw aH.out aG.out; replace HB := bw4 hw HB.out aI.out; clear hw))
    replace aE := ak (Kd.V_drew aE.out)
    replace aQ := ak (Kd.V_drew aQ.out)
    replace aA := ak (blk_drew aA.out)
    replace aG := ak (blk_drew aG.out)
    replace HB := ak (below_drew1 HB.out)
    refine start_ (n := 7) (S := fun w' => w'.cell? ⟨aJ, 0, none⟩ = some (.slice bD aV.length bE) ∧ w'.cell? ⟨aJ, 1, none⟩ = some (.int .i64 aW) ∧ w'.cell? ⟨aJ, 2, none⟩ = some (.int .i64 aX) ∧ w'.cell? ⟨aJ, 3, none⟩ = some (.bool aY)) (ds := []) #[false, false, false, false, false, false, false] (by kernel_rfl) rfl rfl ⟨(blk_cell aA.out 0).trans rfl, (blk_cell aA.out 1).trans rfl, (blk_cell aA.out 2).trans rfl, (blk_cell aA.out 3).trans rfl⟩ (fun hHeld => ?_)
    generalize fN.drew = w34 at aE aQ aA aG HB hHeld ⊢
    refine pure_ (i := 2) (N := some 25) (v := ?_) (a' := ?_) #[false, false, true, false, false, false, false] rfl rfl (by kernel_rfl) (fun _ _ _ h => h) (Or.inl ⟨by rfl, ?_⟩) ?_ ?_
    rotate_left
    ·intro w'
     go_simp
     with_reducible rfl
    rotate_left
    ·simp only [Act.put, List.setIfInBounds_toArray, List.set_cons_zero, List.set_cons_succ, i64_w, i32_w]
     rfl
    refine take_ (i := 0) (N := some 23) (v := ?_) (a' := ?_) #[true, false, true, false, false, false, false] rfl rfl (by kernel_rfl) (fun _ _ _ h => h) (Or.inl ⟨by rfl, ?_⟩) hHeld ?_ ?_
    rotate_left
    ·rintro w' ⟨s0, s1, s2, s3⟩
     go_simp
     with_reducible rfl
    rotate_left
    ·simp only [Act.put, List.setIfInBounds_toArray, List.set_cons_zero, List.set_cons_succ, i64_w, i32_w]
     rfl
    refine take_ (i := 1) (N := some 24) (v := ?_) (a' := ?_) #[true, true, true, false, false, false, false] rfl rfl (by kernel_rfl) (fun _ _ _ h => h) (Or.inl ⟨by rfl, ?_⟩) hHeld ?_ ?_
    rotate_left
    ·rintro w' ⟨s0, s1, s2, s3⟩
     go_simp
     with_reducible rfl
    rotate_left
    ·simp only [Act.put, List.setIfInBounds_toArray, List.set_cons_zero, List.set_cons_succ, i64_w, i32_w]
     rfl
    refine one_ (i := 3) (N := some 26) #[true, true, true, true, false, false, false] rfl rfl (by kernel_rfl) (by decide) (fun K hK => ?_)
    refine goes_ Try.func37 (by kernel_rfl) rfl #[.agg #[.slice bD aV.length bE, .int .i64 aW, .int .i64 aX, .bool aY], .string a1] (by rfl) rfl rfl (by (try simp only [List.map_toArray, List.map_cons, List.map_nil]); first | done | rfl | (simp only [List.length_drop, List.length_take]; rfl)) ?_
    with_reducible refine (stanchionref03_at.calls k _ _ aV aW aX aY a1 a0 _ ?side1 ?side2 fK.out).mono ?_
    (case side1 => repeat (first | exact (Kd.V_reads' aQ.out).2.2 | (with_reducible refine Kd.C_alloc ?_ _) | (with_reducible refine Kd.C_drewN ?_ _) | (with_reducible refine Kd.C_drew ?_)))
    (case side2 => exact (Kd.V_reads' aQ.out).2.1)
    rintro e f8 ⟨rfl, hb⟩
    refine ⟨_, rfl, ?_⟩
    replace aE := ak (Kd.V_below (pV aE.out) hb)
    replace aQ := ak (Kd.V_below (pV aQ.out) hb)
    replace aA := ak (blk_below aA.out hb)
    replace aG := ak (blk_below aG.out hb)
    replace HB := ak (below_step (by repeat (first | (with_reducible first | exact HB.out | apply ba | apply bn | apply bd | refine bs ?_ aI.out | refine bs ?_ aK.out) | exact HB.out)) hb)
    (try clear hb)
    (try clear hb2)
    (try clear hk)
    (try clear hi)
    refine hK.out _ _ ⟨(blk_cell aA.out 0).trans rfl, (blk_cell aA.out 1).trans rfl, (blk_cell aA.out 2).trans rfl, (blk_cell aA.out 3).trans rfl⟩ (fun hHeld => ?_)
    clear hK K
    refine norm_ (a' := ?_) ?_ ?_
    rotate_left
    ·show Act.put _ (some 26) _ = _
     simp only [Act.put, List.setIfInBounds_toArray, List.set_cons_zero, List.set_cons_succ, i64_w, i32_w]
     rfl
    refine one_ (i := 4) (N := some 27) #[true, true, true, true, true, false, false] rfl rfl (by kernel_rfl) (by decide) (fun K hK => ?_)
    refine goes_ Try.func72 (by kernel_rfl) rfl #[.agg #[.slice bD aV.length bE, .int .i64 aW, .int .i64 aX, .bool aY], .int .i64 a0] (by rfl) rfl rfl (by (try simp only [List.map_toArray, List.map_cons, List.map_nil]); first | done | rfl | (simp only [List.length_drop, List.length_take]; rfl)) ?_
    with_reducible refine (stanchionref03_less.calls _ _ aV aW aX aY a0 a4 a5 a8 bC _ ?side1 ?side2 fL.out).mono ?_
    (case side1 => repeat (first | exact (Kd.V_reads' aQ.out).2.2 | (with_reducible refine Kd.C_alloc ?_ _) | (with_reducible refine Kd.C_drewN ?_ _) | (with_reducible refine Kd.C_drew ?_)))
    (case side2 => exact (Kd.V_reads' aQ.out).2.1)
    rintro e c8 ⟨fO, rfl, bB, hb⟩
    refine ⟨_, rfl, ?_⟩
    have bF := ak (Kd.R_lower (Kd.R_newM (M := fun k_ => (w.heap.size ≤ k_)) bB (below_size (by repeat (first | (with_reducible first | exact HB.out | apply ba | apply bn | apply bd | refine bs ?_ aI.out | refine bs ?_ aK.out) | exact HB.out))) (fun k_ h_ => h_)) (below_size (by repeat (first | (with_reducible first | exact HB.out | apply ba | apply bn | apply bd | refine bs ?_ aI.out | refine bs ?_ aK.out) | exact HB.out))))
    replace aE := ak (Kd.V_elder' (pV aE.out) (Kd.R_base bB) hb)
    replace aQ := ak (Kd.V_elder' (pV aQ.out) (Kd.R_base bB) hb)
    replace aA := ak (blk_below aA.out hb)
    replace aG := ak (blk_below aG.out hb)
    replace HB := ak (below_step (by repeat (first | (with_reducible first | exact HB.out | apply ba | apply bn | apply bd | refine bs ?_ aI.out | refine bs ?_ aK.out) | exact HB.out)) hb)
    (try clear hb)
    (try clear hb2)
    (try clear hk)
    (try clear hi)
    (try clear bB)
    obtain ⟨a9, bA, bQ⟩ := Kd.R_slice bF.out
    (first | subst bQ | (injection bQ with f1_ f2_ f3_; have fP := f1_.symm; have fQ := f3_.symm; clear f1_ f2_ f3_; subst fP; subst fQ))
    refine hK.out _ _ ⟨(blk_cell aA.out 0).trans rfl, (blk_cell aA.out 1).trans rfl, (blk_cell aA.out 2).trans rfl, (blk_cell aA.out 3).trans rfl⟩ (fun hHeld => ?_)
    clear hK K
    refine norm_ (a' := ?_) ?_ ?_
    rotate_left
    ·show Act.put _ (some 27) _ = _
     simp only [Act.put, List.setIfInBounds_toArray, List.set_cons_zero, List.set_cons_succ, i64_w, i32_w]
     rfl
    refine one_ (i := 5) (N := none) #[true, true, true, true, true, true, false] rfl rfl (by kernel_rfl) (by decide) (fun K hK => ?_)
    have fR : c8.cell? ⟨aD, 0, none⟩ = some (.slice none 0 0) := (blk_cell aG.out 0).trans rfl
    have fA := blk_frozen aG.out 0
    have c9 := aC.out
    have dA := aH.out
    have fS : c8.cell? ⟨aD, 1, none⟩ = some (.int .i64 0) := (blk_cell aG.out 1).trans rfl
    have fB := blk_frozen aG.out 1
    have dB := aC.out
    have dC := aH.out
    have fT : c8.cell? ⟨aD, 2, none⟩ = some (.int .i64 0) := (blk_cell aG.out 2).trans rfl
    have fC := blk_frozen aG.out 2
    have dD := aC.out
    have dE := aH.out
    have fU : c8.cell? ⟨aD, 3, none⟩ = some (.bool false) := (blk_cell aG.out 3).trans rfl
    have fD := blk_frozen aG.out 3
    have dF := aC.out
    have dG := aH.out
    refine skip_ (w1 := ?_) (by rfl) rfl ?_ ?_
    rotate_left
    ·go_simp
     rfl
    refine hK.out _ _ ⟨((cell_far (p := ⟨aD, _, none⟩) aC.out _).trans (((cell_far (p := ⟨aD, _, none⟩) aC.out _).trans (((cell_far (p := ⟨aD, _, none⟩) aC.out _).trans (((cell_far (p := ⟨aD, _, none⟩) aC.out _).trans (hHeld.1)))))))), ((cell_far (p := ⟨aD, _, none⟩) aC.out _).trans (((cell_far (p := ⟨aD, _, none⟩) aC.out _).trans (((cell_far (p := ⟨aD, _, none⟩) aC.out _).trans (((cell_far (p := ⟨aD, _, none⟩) aC.out _).trans (hHeld.2.1)))))))), ((cell_far (p := ⟨aD, _, none⟩) aC.out _).trans (((cell_far (p := ⟨aD, _, none⟩) aC.out _).trans (((cell_far (p := ⟨aD, _, none⟩) aC.out _).trans (((cell_far (p := ⟨aD, _, none⟩) aC.out _).trans (hHeld.2.2.1)))))))), ((cell_far (p := ⟨aD, _, none⟩) aC.out _).trans (((cell_far (p := ⟨aD, _, none⟩) aC.out _).trans (((cell_far (p := ⟨aD, _, none⟩) aC.out _).trans (((cell_far (p := ⟨aD, _, none⟩) aC.out _).trans (hHeld.2.2.2))))))))⟩ (fun hHeld => ?_)
    clear hK K
    refine pure_ (i := 6) (N := some 5) (v := ?_) (a' := ?_) #[true, true, true, true, true, true, true] rfl rfl (by kernel_rfl) (fun _ _ _ h => h) (Or.inl ⟨by rfl, ?_⟩) ?_ ?_
    rotate_left
    ·intro w'
     go_simp
     with_reducible rfl
    rotate_left
    ·simp only [Act.put, List.setIfInBounds_toArray, List.set_cons_zero, List.set_cons_succ, i64_w, i32_w]
     rfl
    refine done_ (by kernel_rfl) ?_
    try go_wp2
    refine bodyPost_ret (results_ct rfl _ _ aD 33 #[.slice a9 a4.length bA, .int .i64 a5, .int .i64 a8, .bool bC] (0, 0) _ rfl (by (with_reducible repeat (first | refine blk_drewN ?_ _ | refine blk_drew ?_ | refine blk_alloc ?_ _)); exact blk_put (blk_put (blk_put (blk_put (pk aG.out) 0 _ rfl) 1 _ rfl) 2 _ rfl) 3 _ rfl) Try.underlying33 rfl (by kernel_rfl)) rfl ?_
    exact ⟨_, by first | rfl | (simp [errW_none, errW_some] <;> rfl) | (simp [*, errW_none, errW_some] <;> rfl), Kd.V_mono (Kd.R_V (pR (Kd.R_mono (Kd.R_far (p := ⟨aD, 3, none⟩) (Kd.R_far (p := ⟨aD, 2, none⟩) (Kd.R_far (p := ⟨aD, 1, none⟩) (Kd.R_far (p := ⟨aD, 0, none⟩) (Kd.R_types bF.out aG.out (by decide)) (fun _ hk => hk.2) (.slice a9 a4.length bA)) (fun _ hk => hk.2) (.int .i64 a5)) (fun _ hk => hk.2) (.int .i64 a8)) (fun _ hk => hk.2) (.bool bC)) (fun _ hk => hk.1.1)))) (fun k_ hk => by first | exact ⟨(.inr (hk.1)), hk.2⟩ | exact (.inr (hk))), by repeat (first | (with_reducible first | exact HB.out | apply ba | apply bn | apply bd | refine bs ?_ aI.out | refine bs ?_ aK.out) | exact HB.out)⟩
   ·replace cF := Bool.eq_false_iff.mpr cF
    subst cF
    have H1 : (some (aV, aW, aX, aY, 6)) = some (r1, r2, r3, r4, r5) := by rw [if_neg (show ¬ (false = true) by decide)] at H; exact H
    clear H
    have H := H1
    clear H1
    simp only [Option.some.injEq, Prod.mk.injEq] at H
    obtain ⟨rfl, rfl, rfl, rfl, rfl⟩ := H
    go_enter Try.func43, Try.ntmps43
    go_wp2_with (first | ((with_reducible refine gate_dst (N := 2) rfl ?_); refine box_event ?hg (N := 2) ?hd (cs := #[.slice aT aM.length aU, .int .i64 aN, .int .i64 aP, .bool false]) (t := 33) ?hr ?_; (case hd => rfl); (case hg => rfl); (case hr => first | (go_simp; done) | (go_simp; rfl)); intro aJ hg f9 hbox hb; obtain ⟨n_, aI⟩ := Cb.bx (pB HB.out) hg hb; have a6 := aI; have aA := ak (hbox); replace aE := ak (Kd.V_below (Kd.V_elderB (pV aE.out) aJ (Nat.le_of_eq hg.symm)) hb); replace HB := n_; clear n_; clear hb hbox hg) | ((with_reducible refine gate_dst (N := 4) rfl ?_); refine box_event ?hg (N := 4) ?hd (cs := #[.slice none 0 0, .int .i64 0, .int .i64 0, .bool false]) (t := 33) ?hr ?_; (case hd => rfl); (case hg => rfl); (case hr => first | (go_simp; done) | (go_simp; rfl)); intro aD hg gA hbox hb; obtain ⟨n_, aK⟩ := Cb.bx (by repeat (first | (with_reducible first | exact HB.out | apply ba | apply bn | apply bd | refine bs ?_ aI.out) | exact HB.out)) hg hb; have a7 := aK; obtain ⟨aC, aH⟩ := Cb.nb hg aA.out; have aG := ak (hbox); replace aE := ak (Kd.V_below (Kd.V_elderB (pV aE.out) aD (Nat.le_of_eq hg.symm)) hb); replace aA := ak (blk_below aA.out hb); replace HB := n_; clear n_; clear hb hbox hg; have fE := aC.out; have fF := aH.out; obtain ⟨dH, dI, dJ, dK⟩ := Cb.c4 aA.out; obtain ⟨dL, dM, dN, dO⟩ := Cb.f4 aA.out) | ((with_reducible refine gate_callee (f := 37) rfl ?_); refine goesL_ (some 12) rfl rfl Try.func37 (by kernel_rfl) rfl #[.agg #[.slice aT aM.length aU, .int .i64 aN, .int .i64 aP, .bool false], .string a1] rfl (by (try simp only [List.map_toArray, List.map_cons, List.map_nil]); first | done | rfl | (simp only [List.length_drop, List.length_take]; rfl)) ?_; (with_reducible refine (stanchionref03_at.calls k _ _ aM aN aP false a1 a2 _ ?side1 ?side2 e1.out).mono ?_); (case side1 => repeat (first | exact (Kd.V_reads' aE.out).2.2 | (with_reducible refine Kd.C_alloc ?_ _) | (with_reducible refine Kd.C_drewN ?_ _) | (with_reducible refine Kd.C_drew ?_))); (case side2 => exact (Kd.V_reads' aE.out).2.1); rintro e gB ⟨rfl, hb⟩; refine ⟨_, rfl, ?_⟩; replace aE := ak (Kd.V_below (pV aE.out) hb); replace aA := ak (blk_below aA.out hb); replace aG := ak (blk_below aG.out hb); replace HB := ak (below_step (by repeat (first | (with_reducible first | exact HB.out | apply ba | apply bn | apply bd | refine bs ?_ aI.out | refine bs ?_ aK.out) | exact HB.out)) hb); (try clear hb); (try clear hb2); (try clear hk); (try clear hi); obtain ⟨dP, dQ, dR, dS⟩ := Cb.c4 aA.out; obtain ⟨dT, dU, dV, dW⟩ := Cb.f4 aA.out) | ((with_reducible refine gate_callee (f := 71) rfl ?_); refine goesL_ (some 17) rfl rfl Try.func71 (by kernel_rfl) rfl #[.agg #[.slice aT aM.length aU, .int .i64 aN, .int .i64 aP, .bool false]] rfl (by (try simp only [List.map_toArray, List.map_cons, List.map_nil]); first | done | rfl | (simp only [List.length_drop, List.length_take]; rfl)) ?_; (with_reducible refine (stanchionref03_power.calls (fun k_ => (((aZ k_ ∨ w.heap.size ≤ k_) ∧ k_ ≠ aJ) ∧ k_ ≠ aD)) _ _ aM aN aP false aV aW aX aY false _ ?side1 e7.out).mono ?_); (case side1 => exact aE.out); rintro e fV ⟨e2, rfl, bB, hb⟩; refine ⟨_, rfl, ?_⟩; have aQ := ak (Kd.V_lower (Kd.V_mono (ok' := fun k_ => (aZ k_ ∨ w.heap.size ≤ k_) ∧ k_ ≠ aJ ∧ k_ ≠ aD) bB (fun k_ hk_ => ⟨Or.elim hk_ (fun hs_ => hs_.1.1) (fun hn_ => (.inr (Nat.le_trans (below_size (by repeat (first | (with_reducible first | exact HB.out | apply ba | apply bn | apply bd | refine bs ?_ aI.out | refine bs ?_ aK.out) | exact HB.out))) hn_))), Or.elim hk_ (fun hs_ => hs_.1.2) (fun hn_ => (Kd.freshB (g := aJ) (o := .cells #[.slice aT aM.length aU, .int .i64 aN, .int .i64 aP, .bool false] 33 (0, 0)) (pk aA.out) k_ hn_)), Or.elim hk_ (fun hs_ => hs_.2) (fun hn_ => (Kd.freshB (g := aD) (o := .cells #[.slice none 0 0, .int .i64 0, .int .i64 0, .bool false] 33 (0, 0)) (pk aG.out) k_ hn_))⟩)) (below_size (by repeat (first | (with_reducible first | exact HB.out | apply ba | apply bn | apply bd | refine bs ?_ aI.out | refine bs ?_ aK.out) | exact HB.out)))); replace aE := ak (Kd.V_below (pV aE.out) hb); replace aA := ak (blk_below aA.out hb); replace aG := ak (blk_below aG.out hb); replace HB := ak (below_step (by repeat (first | (with_reducible first | exact HB.out | apply ba | apply bn | apply bd | refine bs ?_ aI.out | refine bs ?_ aK.out) | exact HB.out)) hb); (try clear hb); (try clear hb2); (try clear hk); (try clear hi); (try clear bB); obtain ⟨bG, bH, e4⟩ := Kd.V_slice aQ.out; subst e4; obtain ⟨dX, dY, dZ, d0⟩ := Cb.c4 aA.out; obtain ⟨d1, d2, d3, d4⟩ := Cb.f4 aA.out) | ((with_reducible refine gate_store (t := 33) (p := 2) rfl ?_); refine store_event (t := 33) (p := 2) (v := ?vo_w51) (w1 := ((((fV.setCell ⟨aJ, 0, none⟩ (.slice bG aV.length bH)).setCell ⟨aJ, 1, none⟩ (.int .i64 aW)).setCell ⟨aJ, 2, none⟩ (.int .i64 aX)).setCell ⟨aJ, 3, none⟩ (.bool aY))) ?hg ?ho ?hn ?hr ?_; (case ho => rfl); (case hg => rfl); (case hn => rfl); (case hr => first | (go_simp; done) | (go_simp; rfl)); intro fW hw; replace aE := vg4 (ok' := fun k_ => (aZ k_ ∨ w.heap.size ≤ k_) ∧ k_ ≠ aJ ∧ k_ ≠ aD) hw aE.out (fun _ hk => hk.1.2) fun _ hk => ⟨hk.1.1, ⟨hk.1.2, hk.2⟩⟩; replace aQ := vf4 hw aQ.out fun _ hk => hk.2.1; replace aA := bp4 hw aA.out; replace aG := bf4 hw aH.out aG.out; replace HB := bw4 hw HB.out aI.out; clear hw; obtain ⟨d5, d6, d7, d8⟩ := Cb.c4 aA.out; obtain ⟨d9, eA, eB, eC⟩ := Cb.f4 aA.out; obtain ⟨eD, eE, eF, eG⟩ := Cb.c4 aG.out; obtain ⟨eH, eI, eJ, eK⟩ := Cb.f4 aG.out) | ((with_reducible refine gate_store (t := 33) (p := 4) rfl ?_); refine store_event (t := 33) (p := 4) (v := ?vo_w54) (w1 := ((((fW.setCell ⟨aD, 0, none⟩ (.slice bG aV.length bH)).setCell ⟨aD, 1, none⟩ (.int .i64 aW)).setCell ⟨aD, 2, none⟩ (.int .i64 aX)).setCell ⟨aD, 3, none⟩ (.bool aY))) ?hg ?ho ?hn ?hr ?_; (case ho => rfl); (case hg => rfl); (case hn => rfl); (case hr => first | (go_simp; done) | (go_simp; rfl)); intro gC hw; replace aE := vf4 hw aE.out fun _ hk => hk.2.2; replace aQ := vf4 hw aQ.out fun _ hk => hk.2.2; replace aA := bf4 hw aC.out aA.out; replace aG := bp4 hw aG.out; replace HB := bw4 hw HB.out aK.out; clear hw))
    refine bodyPost_ret (results_ct rfl _ _ aD 33 #[.slice bG aV.length bH, .int .i64 aW, .int .i64 aX, .bool aY] (0, 0) _ rfl (pk aG.out) Try.underlying33 rfl (by kernel_rfl)) rfl ?_
    exact ⟨_, by first | rfl | (simp [errW_none, errW_some] <;> rfl) | (simp [*, errW_none, errW_some] <;> rfl), pV (Kd.V_mono aQ.out (fun _ hk => hk.1)), by repeat (first | (with_reducible first | exact HB.out | apply ba | apply bn | apply bd | refine bs ?_ aI.out | refine bs ?_ aK.out) | exact HB.out)⟩

/-! ### stanchionref03_with: function 73 -/
set_option maxHeartbeats 8000000 in
set_option maxRecDepth 100000 in
theorem stanchionref03_with.calls (a8 : Option Addr) (a9 : Nat) (aG : List (S38)) (aN : Int) (aP : Int) (aQ : Bool) (a1 : Int) (aH : ByteArray) (aI : ByteArray) (aJ : ByteArray) (r1 : List (S38)) (r2 : Int) (r3 : Int) (r4 : Bool) (w : World) (bF : Kd.C k38 w a8 aG.length aG) (bG : aG.length ≤ a9) (h : stanchionref03_with.f aG aN aP aQ a1 aH aI aJ = some (r1, r2, r3, r4)) :
  Calls Try.prog 73 #[.agg #[.slice a8 aG.length a9, .int .i64 aN, .int .i64 aP, .bool aQ], .int .i64 a1, .agg #[.string aH, .string aI, .string aJ]] w fun e w' => ∃ v0_ : Value, e = .returned (.agg #[v0_, .int .i64 r2, .int .i64 r3, .bool r4]) ∧ Kd.R k38 38 w' w.heap.size (fun _ => True) v0_ r1 ∧ Below w.heap.size w w' := by
 have dJ := Try.underlying33
 have dK := Try.underlying38
 have bR := ak bF
 have cV := ak bG
 clear bF bG
 have HB := ak (Below.refl w.heap.size w)
 have H : ((some (([] : List (S38)) : List (S38))).bind fun y350 => (if y350.length + aG.length < 2932031007402 then ((some (y350 ++ aG : List (S38))).bind fun y353 => (if 0 ≤ a1 then (if a1 < (y353.length : Int) then (some ((y353.set (a1 : Int).toNat (⟨aH, aI, aJ⟩ : S38)), aN, aP, aQ)) else (none)) else (none))) else (none))) = some (r1, r2, r3, r4) := h
 clear h
 obtain ⟨y350, hy350⟩ : ∃ y_ : List (S38), y_ = (([] : List (S38))) := ⟨_, rfl⟩
 replace H : (if y350.length + aG.length < 2932031007402 then ((some (y350 ++ aG : List (S38))).bind fun y353 => (if 0 ≤ a1 then (if a1 < (y353.length : Int) then (some ((y353.set (a1 : Int).toNat (⟨aH, aI, aJ⟩ : S38)), aN, aP, aQ)) else (none)) else (none))) else (none)) = some (r1, r2, r3, r4) := by first | (rw [hy350]; with_reducible exact H) | (have bA := (Option.bind_some _ _).symm.trans H; rw [hy350]; with_reducible exact bA) | (have bA := (Option.bind_some _ _).symm.trans H; with_reducible exact bA) | with_reducible exact H | (rw [hy350]; exact H) | exact H
 have bH := ak hy350
 clear hy350
 have c4 : y350.length + aG.length < 2932031007402 := Decidable.byContradiction fun q => by rw [if_neg q] at H; exact absurd H (by simp)
 rw [if_pos c4] at H
 have cR := ak c4
 clear c4
 obtain ⟨y353, hy353⟩ : ∃ y_ : List (S38), y_ = (y350 ++ aG) := ⟨_, rfl⟩
 replace H : (if 0 ≤ a1 then (if a1 < (y353.length : Int) then (some ((y353.set (a1 : Int).toNat (⟨aH, aI, aJ⟩ : S38)), aN, aP, aQ)) else (none)) else (none)) = some (r1, r2, r3, r4) := by first | (rw [hy353]; with_reducible exact H) | (have bA := (Option.bind_some _ _).symm.trans H; rw [hy353]; with_reducible exact bA) | (have bA := (Option.bind_some _ _).symm.trans H; with_reducible exact bA) | with_reducible exact H | (rw [hy353]; exact H) | exact H
 have bS := ak hy353
 clear hy353
 have c5 : 0 ≤ a1 := Decidable.byContradiction fun q => by rw [if_neg q] at H; exact absurd H (by simp)
 rw [if_pos c5] at H
 have dL : decide (0 ≤ a1) = true := decide_eq_true c5
 clear c5
 have c6 : a1 < (y353.length : Int) := Decidable.byContradiction fun q => by rw [if_neg q] at H; exact absurd H (by simp)
 rw [if_pos c6] at H
 have dM : decide (a1 < (y353.length : Int)) = true := decide_eq_true c6
 clear c6
 obtain ⟨y356, hy356⟩ : ∃ y_ : List (S38), y_ = (y353.set (a1 : Int).toNat (⟨aH, aI, aJ⟩ : S38)) := ⟨_, rfl⟩
 replace H : (some (y356, aN, aP, aQ)) = some (r1, r2, r3, r4) := by first | (rw [hy356]; with_reducible exact H) | (have bA := (Option.bind_some _ _).symm.trans H; rw [hy356]; with_reducible exact bA) | (have bA := (Option.bind_some _ _).symm.trans H; with_reducible exact bA) | with_reducible exact H | (rw [hy356]; exact H) | exact H
 have bT := ak hy356
 clear hy356
 simp only [Option.some.injEq, Prod.mk.injEq] at H
 obtain ⟨rfl, rfl, rfl, rfl⟩ := H
 go_enter Try.func73, Try.ntmps73
 go_wp2_with (first | ((with_reducible refine gate_dst (N := 3) rfl ?_); refine box_event ?hg (N := 3) ?hd (cs := #[.slice a8 aG.length a9, .int .i64 aN, .int .i64 aP, .bool aQ]) (t := 33) ?hr ?_; (case hd => rfl); (case hg => rfl); (case hr => first | (go_simp; done) | (go_simp; rfl)); intro a4 hg w8 hbox hb; obtain ⟨n_, aK⟩ := Cb.bx (pB HB.out) hg hb; have cW := aK; have aA := ak (hbox); replace HB := n_; clear n_; clear hb hbox hg) | ((with_reducible refine gate_dst (N := 5) rfl ?_); refine box_event ?hg (N := 5) ?hd (cs := #[.string aH, .string aI, .string aJ]) (t := 38) ?hr ?_; (case hd => rfl); (case hg => rfl); (case hr => first | (go_simp; done) | (go_simp; rfl)); intro aM hg w9 hbox hb; obtain ⟨n_, aT⟩ := Cb.bx (by repeat (first | (with_reducible first | exact HB.out | apply ba | apply bn | apply bd | refine bs ?_ aK.out) | exact HB.out)) hg hb; have cX := aT; obtain ⟨a6, aW⟩ := Cb.nb hg aA.out; have aC := ak (hbox); replace aA := ak (blk_below aA.out hb); replace HB := n_; clear n_; clear hb hbox hg) | ((with_reducible refine gate_dst (N := 6) rfl ?_); refine box_event ?hg (N := 6) ?hd (cs := #[.slice none 0 0, .int .i64 0, .int .i64 0, .bool false]) (t := 33) ?hr ?_; (case hd => rfl); (case hg => rfl); (case hr => first | (go_simp; done) | (go_simp; rfl)); intro aU hg dR hbox hb; obtain ⟨n_, aV⟩ := Cb.bx (by repeat (first | (with_reducible first | exact HB.out | apply ba | apply bn | apply bd | refine bs ?_ aK.out | refine bs ?_ aT.out) | exact HB.out)) hg hb; have cY := aV; obtain ⟨aX, aY⟩ := Cb.nb hg aA.out; obtain ⟨aZ, a7⟩ := Cb.nb hg aC.out; have aD := ak (hbox); replace aA := ak (blk_below aA.out hb); replace aC := ak (blk_below aC.out hb); replace HB := n_; clear n_; clear hb hbox hg) | ((with_reducible refine gate_dst (N := 8) rfl ?_); refine Kd.R_lit k38 _ 38 ?hg (N := 8) ?hd (xs := ([] : List (S38))) (inner := []) (ok := fun _ => True) (okp := fun _ => True) ?hr ?hp (fun _ hk => hk) trivial (Below.refl _ _) (Nat.le_refl _) (by simp) ?_; (case hd => rfl); (case hg => rfl); (case hr => first | (go_simp; done) | (go_simp; rfl)); (case hp => exact (Reps.none _ _)); intro cS dS bB hb hg_ hnew_; clear hg_ hnew_; (first | rw [← bH.out] at bB | (simp only [Int.reduceToNat] at bB; rw [← bH.out] at bB)); have a0 := ak (Kd.R_lower (Kd.R_newB bB (g := aM) (o := .cells #[.string aH, .string aI, .string aJ] 38 (0, 0)) (pk aC.out)) (below_size (by repeat (first | (with_reducible first | exact HB.out | apply ba | apply bn | apply bd | refine bs ?_ aK.out | refine bs ?_ aT.out | refine bs ?_ aV.out) | exact HB.out)))); replace aA := ak (blk_below aA.out hb); replace aC := ak (blk_below aC.out hb); replace aD := ak (blk_below aD.out hb); replace HB := ak (below_step (by repeat (first | (with_reducible first | exact HB.out | apply ba | apply bn | apply bd | refine bs ?_ aK.out | refine bs ?_ aT.out | refine bs ?_ aV.out) | exact HB.out)) hb); clear hb bB; have cZ := a6.out; have c0 := aW.out; have c1 := aX.out; have c2 := aY.out; obtain ⟨bW, bX, bY, bZ⟩ := Cb.c4 aA.out; obtain ⟨b0, b1, b2, b3⟩ := Cb.f4 aA.out) | ((with_reducible refine gate_builtin (b := .append) (xs := #[.tmp 8, .tmp 10]) rfl ?_); at_builtin; refine Kd.R_append_rows k38 (w0 := w) w.heap.size rfl (.tmp 8) (.tmp 10) 31 38 (.agg #[(.string ⟨#[]⟩), (.string ⟨#[]⟩), (.string ⟨#[]⟩)]) 48 rfl Try.underlying31 info38 rfl (by decide) (by omega) cS y350 aG _ _ _ (fun k_ => k_ ≠ aM) (fun _ => False) rfl rfl ?aO ?aR (fun _ _ h => h) (fun _ h => h.elim) ?aF ?aB ?aS ?aL ?_; (case aR => repeat (first | exact (Kd.C_below bR.out HB.out) | (with_reducible refine Kd.C_alloc ?_ _) | (with_reducible refine Kd.C_drewN ?_ _) | (with_reducible refine Kd.C_drew ?_))); (case aB => exact (by repeat (first | (with_reducible first | exact HB.out | apply ba | apply bn | apply bd | refine bs ?_ aK.out | refine bs ?_ aT.out | refine bs ?_ aV.out) | exact HB.out))); (case aF => exact (fun k_ hk => Kd.freshB (g := aM) (o := .cells #[.string aH, .string aI, .string aJ] 38 (0, 0)) (pk aC.out) k_ hk)); (case aO => exact (pR (Kd.R_mono a0.out (fun _ hk => hk.2)))); (case aS => exact (below_size (by repeat (first | (with_reducible first | exact HB.out | apply ba | apply bn | apply bd | refine bs ?_ aK.out | refine bs ?_ aT.out | refine bs ?_ aV.out) | exact HB.out)))); (case aL => have := cR.out; omega); intro dN bC ho hb hg hat; rw [← bS.out] at ho; have n0_ := ak (blk_grown (g := a4) (o := .cells #[.slice a8 aG.length a9, .int .i64 aN, .int .i64 aP, .bool aQ] 33 (0, 0)) (pk aA.out) hg (Kd.R_ne a0.out aA.out (by decide))); have n1_ := ak (blk_grown (g := aM) (o := .cells #[.string aH, .string aI, .string aJ] 38 (0, 0)) (pk aC.out) hg (Kd.R_away a0.out (fun _ hk => hk.2))); have n2_ := ak (blk_grown (g := aU) (o := .cells #[.slice none 0 0, .int .i64 0, .int .i64 0, .bool false] 33 (0, 0)) (pk aD.out) hg (Kd.R_ne a0.out aD.out (by decide))); have n3_ := ak (hb); have n4_ := ak (ho); clear aA; clear aC; clear aD; clear HB; clear a0; have aA := n0_; have aC := n1_; have aD := n2_; have HB := n3_; have aE := n4_; clear n0_ n1_ n2_ n3_ n4_; clear ho hb hg hat; have c7 := aZ.out; have c8 := a7.out; obtain ⟨b4, b5, b6⟩ := Cb.c3 aC.out; obtain ⟨b7, b8, b9⟩ := Cb.f3 aC.out; have p7 : 0 ≤ (a1 : Int) := of_decide_eq_true (by first | (with_reducible assumption) | assumption); have q7 : (a1 : Int) < ((y353.length : Int) : Int) := of_decide_eq_true (by first | (with_reducible assumption) | assumption); obtain ⟨a3, bQ, c9, dA, dO, dT, dB⟩ := Kd.R_form aE.out (by omega); (first | cases c9 | (injection c9 with ea_ en_ ec_; (first | subst ea_ | (injection ea_ with ea_; subst ea_)); subst ec_; clear en_)); have cT := ak dA; have dU := ak dB; clear dA dO dB; obtain ⟨dV, cU, dC, bD, bE⟩ := Kd.R_elem aE.out z38 (a1 : Int) p7 q7; obtain rfl := k38_openM dC; have dD : bC.cell? ⟨a3, (a1 : Int).toNat * 3, none⟩ = some (.string ((rd_T38 y353 a1).f0)) := bD 0 _ rfl; have dE : bC.cell? ⟨a3, (a1 : Int).toNat * 3 + 1, none⟩ = some (.string ((rd_T38 y353 a1).f1)) := bD 1 _ rfl; have dF : bC.cell? ⟨a3, (a1 : Int).toNat * 3 + 2, none⟩ = some (.string ((rd_T38 y353 a1).f2)) := bD 2 _ rfl; have dG : bC.frozen? ⟨a3, (a1 : Int).toNat * 3, none⟩ = false := bE 0; have dH : bC.frozen? ⟨a3, (a1 : Int).toNat * 3 + 1, none⟩ = false := bE 1; have dI : bC.frozen? ⟨a3, (a1 : Int).toNat * 3 + 2, none⟩ = false := bE 2; clear cU bD bE dC; replace p7 := eq_true p7; replace q7 := eq_true q7; have bU := ak (show Kd.R k38 38 bC w.heap.size (fun k_ => k_ ≠ aM) (.slice (some ⟨a3, 0, none⟩) y353.length bQ) y353 from (pR aE.out)); obtain ⟨dP, bI, bV, a2, a5⟩ := Kd.R_elem bU.out z38 (a1 : Int) (of_decide_eq_true (by first | (with_reducible assumption) | assumption)) (by have h_ : (a1 : Int) < ((y353.length : Int) : Int) := of_decide_eq_true (by first | (with_reducible assumption) | assumption); first | exact h_ | (have e_ := (Kd.R_reads' aE.out).1; omega) | simpa using h_); obtain rfl := k38_openM bV; have bJ := Kd.R_seg bU.out (a1 : Int) (of_decide_eq_true (by first | (with_reducible assumption) | assumption)) (by have h_ : (a1 : Int) < ((y353.length : Int) : Int) := of_decide_eq_true (by first | (with_reducible assumption) | assumption); first | exact h_ | (have e_ := (Kd.R_reads' aE.out).1; omega) | simpa using h_) (seg := [.string aH, .string aI, .string aJ]) (j := 0) bI a2 (show 3 ≤ 3 from by decide) (x' := (⟨aH, aI, aJ⟩ : S38)) (k38_mkM _ _ _ (⟨aH, aI, aJ⟩ : S38) ) (fun _ hk => hk); have bK := a2 0 _ rfl; (try simp only [show (k38).sz = 3 from rfl, Nat.mul_one, Nat.add_zero] at bK); have bL := a5 0; (try simp only [show (k38).sz = 3 from rfl, Nat.mul_one, Nat.add_zero] at bL); have bM := a2 1 _ rfl; (try simp only [show (k38).sz = 3 from rfl, Nat.mul_one, Nat.add_zero] at bM); have bN := a5 1; (try simp only [show (k38).sz = 3 from rfl, Nat.mul_one, Nat.add_zero] at bN); have bO := a2 2 _ rfl; (try simp only [show (k38).sz = 3 from rfl, Nat.mul_one, Nat.add_zero] at bO); have bP := a5 2; (try simp only [show (k38).sz = 3 from rfl, Nat.mul_one, Nat.add_zero] at bP); clear bI a2 a5 bV) | ((with_reducible refine gate_store (t := 38) (p := 15) rfl ?_); refine store_event (t := 38) (p := 15) (v := ?vo_w20) (w1 := (((bC.setCell ⟨a3, (a1 : Int).toNat * 3, none⟩ (.string aH)).setCell ⟨a3, (a1 : Int).toNat * 3 + 1, none⟩ (.string aI)).setCell ⟨a3, (a1 : Int).toNat * 3 + 2, none⟩ (.string aJ))) ?hg ?ho ?hn ?hr ?_; (case ho => rfl); (case hg => rfl); (case hn => rfl); (case hr => first | (go_simp; done) | (go_simp; rfl)); intro cA hw; have hg : bC.grownBy cA (some a3) := (by rw [hw]; exact bJ.2); have hp_ : Kd.R k38 38 cA w.heap.size (fun k_ => k_ ≠ aM) (.slice (some ⟨a3, 0, none⟩) y353.length bQ) y356 := (by rw [hw, bT.out]; exact bJ.1); clear bJ; replace aA := ak (blk_grown (g := a4) (o := .cells #[.slice a8 aG.length a9, .int .i64 aN, .int .i64 aP, .bool aQ] 33 (0, 0)) (by exact aA.out) hg (Kd.R_ne aE.out aA.out (by decide))); replace aC := ak (blk_grown (g := aM) (o := .cells #[.string aH, .string aI, .string aJ] 38 (0, 0)) (by exact aC.out) hg (Kd.R_away aE.out (fun _ hk => hk))); replace aD := ak (blk_grown (g := aU) (o := .cells #[.slice none 0 0, .int .i64 0, .int .i64 0, .bool false] 33 (0, 0)) (by exact aD.out) hg (Kd.R_ne aE.out aD.out (by decide))); replace aE := ak (hp_); replace HB := ak ((by rw [hw]; exact below_set (below_set (below_set (HB.out) cT.out) cT.out) cT.out : Below w.heap.size w cA)); clear hg hw hp_; obtain ⟨cB, cC, cD, cE⟩ := Cb.c4 aA.out; obtain ⟨cF, cG, cH, cI⟩ := Cb.f4 aA.out; obtain ⟨cJ, cK, cL, cM⟩ := Cb.c4 aD.out; obtain ⟨cN, cO, cP, cQ⟩ := Cb.f4 aD.out) | ((with_reducible refine gate_store (t := 33) (p := 6) rfl ?_); refine store_event (t := 33) (p := 6) (v := ?vo_w23) (w1 := (((((cA.setCell ⟨a4, 0, none⟩ (.slice (some ⟨a3, 0, none⟩) y353.length bQ)).setCell ⟨aU, 0, none⟩ (.slice (some ⟨a3, 0, none⟩) y353.length bQ)).setCell ⟨aU, 1, none⟩ (.int .i64 aN)).setCell ⟨aU, 2, none⟩ (.int .i64 aP)).setCell ⟨aU, 3, none⟩ (.bool aQ))) ?hg ?ho ?hn ?hr ?_; (case ho => rfl); (case hg => rfl); (case hn => rfl); (case hr => first | (go_simp; done) | (go_simp; rfl)); intro dQ hw; replace aE := rg4 (ok' := fun k_ => k_ ≠ aM) hw (rf1 rfl (Kd.R_types (Kd.R_types aE.out aA.out (by decide)) aD.out (by decide)) fun _ hk => hk.1.2).out (fun _ hk => hk.2) fun _ hk => hk.1.1; replace aA : Aside0 (dQ.heap[a4]? = some (.cells #[.slice (some ⟨a3, 0, none⟩) y353.length bQ, .int .i64 aN, .int .i64 aP, .bool aQ] 33 (0, 0))) := bf4 hw aX.out (blk_put aA.out 0 _ rfl); replace aC := bf4 hw aZ.out (bf1 rfl aW.out aC.out).out; replace aD := bp4 hw (bf1 rfl aY.out aD.out).out; replace HB := bw4 hw (bw1 rfl HB.out aK.out).out aV.out; clear hw))
 refine bodyPost_ret (results_cell_row rfl _ _ aU 33 #[.slice (some ⟨a3, 0, none⟩) y353.length bQ, .int .i64 aN, .int .i64 aP, .bool aQ] (0, 0) _ rfl (pk aD.out) Try.underlying33 rfl (by kernel_rfl)) rfl ?_
 exact ⟨_, by first | rfl | (simp [errW_none, errW_some] <;> rfl) | (simp [*, errW_none, errW_some] <;> rfl), pR (Kd.R_mono aE.out (fun _ hk => trivial)), by repeat (first | (with_reducible first | exact HB.out | apply ba | apply bn | apply bd | refine bs ?_ aK.out | refine bs ?_ aT.out | refine bs ?_ aV.out) | exact HB.out)⟩

end Go.Proofs.Ytbhkopbalhhpgaa.PY
