-- Made by a program of this workplace out of the translation (wip/tools in the repo). Not trusted: Lean checks it.
import Derived.Test.YtbhkopbalhhpgaaPYx0
import Derived.Test.YtbhkopbalhhpgaaCb
import Derived.Test.YtbhkopbalhhpgaaSq
import Derived.Test.YtbhkopbalhhpgaaSt
import Derived.Test.YtbhkopbalhhpgaaPYx3
import Derived.Test.YtbhkopbalhhpgaaPYx4
import Derived.Test.YtbhkopbalhhpgaaPYx12
import Derived.Test.YtbhkopbalhhpgaaPYx13
namespace Go.Proofs.Ytbhkopbalhhpgaa.PY
open Go.RowKit Go.Proofs.YtbhkopbalhhpgaaW.PrintWords Go.Proofs.YtbhkopbalhhpgaaW.PrintLast Go.Proofs.YtbhkopbalhhpgaaW.PrintMore Go.Proofs.Ytbhkopbalhhpgaa
attribute [local go_sem] max2_int min2_int max_two min_two max_three min_three max_four min_four   -- for this text's walks alone
set_option linter.unusedVariables false
set_option linter.unusedSimpArgs false

/-! ### stanchionref03_Append: function 44 -/
def stanchionref03_Append.T15 : Bool × List (List Nat × List Nat) := (true, [([], []), ([], []), ([1], [1]), ([0, 2], [0, 2]), ([], []), ([4], [4]), ([3, 5, 3], [3, 5]), ([0, 1, 2, 3, 4, 5, 6], []), ([7, 6, 6, 0, 1, 2, 3, 4, 5, 6], [6, 7])])
def stanchionref03_Append.B15 : List Nat := [0, 0, 2, 7, 0, 16, 63, 127, 255]
theorem stanchionref03_Append.tab15 : rtab .any (opsOf Try.f44 15) = stanchionref03_Append.T15 := by kernel_rfl
theorem stanchionref03_Append.bits15 : waitsOk stanchionref03_Append.T15.2 stanchionref03_Append.B15 = true := by kernel_rfl
def stanchionref03_Append.T19 : Bool × List (List Nat × List Nat) := (true, [([], []), ([0], [0]), ([], []), ([], []), ([2, 3], [2, 3]), ([1, 4], [1, 4]), ([0, 1, 2, 3, 4, 5], []), ([6, 5, 0, 1, 2, 3, 4, 5], [5, 6])])
def stanchionref03_Append.B19 : List Nat := [0, 1, 0, 0, 12, 31, 63, 127]
theorem stanchionref03_Append.tab19 : rtab .any (opsOf Try.f44 19) = stanchionref03_Append.T19 := by kernel_rfl
theorem stanchionref03_Append.bits19 : waitsOk stanchionref03_Append.T19.2 stanchionref03_Append.B19 = true := by kernel_rfl
set_option maxHeartbeats 8000000 in
set_option maxRecDepth 100000 in
theorem stanchionref03_Append.calls (k : Nat) (a8 : Nat → Prop) (bA : Option Addr) (bB : Nat) (aW : List (S38)) (a0 : Int) (a3 : Int) (e0 : Bool) (a1 : ByteArray) (a2 : ByteArray) (r1 : List (S38)) (r2 : Int) (r3 : Int) (r4 : Bool) (r5 : Int) (w : World) (iT : Kd.V k38 38 w w.heap.size (fun k_ => a8 k_) (.slice bA aW.length bB) aW) (h : stanchionref03_Append.f k aW a0 a3 e0 a1 a2 = some (r1, r2, r3, r4, r5)) :
  Calls Try.prog 44 #[.agg #[.slice bA aW.length bB, .int .i64 a0, .int .i64 a3, .bool e0], .string a1, .string a2] w fun e w' => ∃ v0_ : Value, e = .returned (.tuple #[.agg #[v0_, .int .i64 r2, .int .i64 r3, .bool r4], .int .i64 r5]) ∧ Kd.V k38 38 w' w.heap.size (fun k_ => (a8 k_ ∨ w.heap.size ≤ k_)) v0_ r1 ∧ Below w.heap.size w w' := by
 have sC := Try.underlying33
 have sD := Try.underlying38
 have bI := ak (show Kd.V k38 38 w w.heap.size (fun k_ => (a8 k_ ∨ w.heap.size ≤ k_)) (.slice bA aW.length bB) aW from Kd.V_mono iT (fun k_ hk => .inl hk))
 have HB := ak (Below.refl w.heap.size w)
 have H : (if e0 = true then (some (aW, a0, a3, e0, 6)) else (if (a1.size : Int) < 1 then (stanchionref03_Append.j0 k a1 a2 true aW a0 a3 e0) else (stanchionref03_Append.j0 k a1 a2 (decide ((a1.size : Int) > 16)) aW a0 a3 e0))) = some (r1, r2, r3, r4, r5) := h
 clear h
 by_cases c4 : e0 = true
 ·subst c4
  have H1 : (some (aW, a0, a3, true, 6)) = some (r1, r2, r3, r4, r5) := by rw [if_pos rfl] at H; exact H
  clear H
  have H := H1
  clear H1
  simp only [Option.some.injEq, Prod.mk.injEq] at H
  obtain ⟨rfl, rfl, rfl, rfl, rfl⟩ := H
  go_enter Try.func44, Try.ntmps44
  go_wp2_with (first | ((with_reducible refine gate_dst (N := 3) rfl ?_); (try (refine gate_guard (by rfl) ?_; dsimp only)); refine box_event ?hg (N := 3) ?hd (cs := #[.slice bA aW.length bB, .int .i64 a0, .int .i64 a3, .bool true]) (t := 33) ?hr ?_; (case hd => rfl); (case hg => rfl); (case hr => first | (go_simp; done) | (go_simp; rfl)); intro aM hg w5 hbox hb; obtain ⟨n_, aP⟩ := Cb.bx (pB HB.out) hg hb; have iU := aP; have aD := ak (hbox); replace bI := ak (Kd.V_below (Kd.V_elderB (pV bI.out) aM (Nat.le_of_eq hg.symm)) hb); replace HB := n_; clear n_; clear hb hbox hg) | ((with_reducible refine gate_dst (N := 6) rfl ?_); (try (refine gate_guard (by rfl) ?_; dsimp only)); refine box_event ?hg (N := 6) ?hd (cs := #[.slice none 0 0, .int .i64 0, .int .i64 0, .bool false]) (t := 33) ?hr ?_; (case hd => rfl); (case hg => rfl); (case hr => first | (go_simp; done) | (go_simp; rfl)); intro aN hg w6 hbox hb; obtain ⟨n_, aQ⟩ := Cb.bx (by repeat (first | (with_reducible first | exact HB.out | apply ba | apply bn | apply bd | refine bs ?_ aP.out) | exact HB.out)) hg hb; have iV := aQ; obtain ⟨aV, aT⟩ := Cb.nb hg aD.out; have aI := ak (hbox); replace bI := ak (Kd.V_below (Kd.V_elderB (pV bI.out) aN (Nat.le_of_eq hg.symm)) hb); replace aD := ak (blk_below aD.out hb); replace HB := n_; clear n_; clear hb hbox hg; have sE := aV.out; have sF := aT.out; obtain ⟨e1, e2, e3, e4⟩ := Cb.c4 aD.out; obtain ⟨b3, b4, b5, b6⟩ := Cb.f4 aD.out; obtain ⟨e5, e6, e7, e8⟩ := Cb.c4 aI.out; obtain ⟨b7, b8, b9, cA⟩ := Cb.f4 aI.out) | ((with_reducible refine gate_store (t := 33) (p := 6) rfl ?_); refine store_event (t := 33) (p := 6) (v := ?vo_w10) (w1 := ((((w6.setCell ⟨aN, 0, none⟩ (.slice bA aW.length bB)).setCell ⟨aN, 1, none⟩ (.int .i64 a0)).setCell ⟨aN, 2, none⟩ (.int .i64 a3)).setCell ⟨aN, 3, none⟩ (.bool true))) ?hg ?ho ?hn ?hr ?_; (case ho => rfl); (case hg => rfl); (case hn => rfl); (case hr => first | (go_simp; done) | (go_simp; rfl)); intro sR hw; replace bI := vg4 (ok' := fun k_ => (a8 k_ ∨ w.heap.size ≤ k_) ∧ k_ ≠ aM ∧ k_ ≠ aN) hw bI.out (fun _ hk => hk.2) fun _ hk => ⟨hk.1.1, ⟨hk.1.2, hk.2⟩⟩; replace aD := bf4 hw aV.out aD.out; replace aI := bp4 hw aI.out; replace HB := bw4 hw HB.out aQ.out; clear hw))
  refine bodyPost_ret (results_ct rfl _ _ aN 33 #[.slice bA aW.length bB, .int .i64 a0, .int .i64 a3, .bool true] (0, 0) _ rfl (pk aI.out) Try.underlying33 rfl (by kernel_rfl)) rfl ?_
  exact ⟨_, by first | rfl | (simp [errW_none, errW_some] <;> rfl) | (simp [*, errW_none, errW_some] <;> rfl), pV (Kd.V_mono bI.out (fun _ hk => hk.1)), by repeat (first | (with_reducible first | exact HB.out | apply ba | apply bn | apply bd | refine bs ?_ aP.out | refine bs ?_ aQ.out) | exact HB.out)⟩
 ·replace c4 := Bool.eq_false_iff.mpr c4
  subst c4
  have H1 : (if (a1.size : Int) < 1 then (stanchionref03_Append.j0 k a1 a2 true aW a0 a3 false) else (stanchionref03_Append.j0 k a1 a2 (decide ((a1.size : Int) > 16)) aW a0 a3 false)) = some (r1, r2, r3, r4, r5) := by rw [if_neg (show ¬ (false = true) by decide)] at H; exact H
  clear H
  have H := H1
  clear H1
  have iE := ak H
  clear H
  go_enter Try.func44, Try.ntmps44
  go_upto_region 3 with (first | ((with_reducible refine gate_dst (N := 3) rfl ?_); (try (refine gate_guard (by rfl) ?_; dsimp only)); refine box_event ?hg (N := 3) ?hd (cs := #[.slice bA aW.length bB, .int .i64 a0, .int .i64 a3, .bool false]) (t := 33) ?hr ?_; (case hd => rfl); (case hg => rfl); (case hr => first | (go_simp; done) | (go_simp; rfl)); intro aM hg sS hbox hb; obtain ⟨n_, aP⟩ := Cb.bx (pB HB.out) hg hb; have iU := aP; have aD := ak (hbox); replace bI := ak (Kd.V_below (Kd.V_elderB (pV bI.out) aM (Nat.le_of_eq hg.symm)) hb); replace HB := n_; clear n_; clear hb hbox hg) | ((with_reducible refine gate_dst (N := 6) rfl ?_); (try (refine gate_guard (by rfl) ?_; dsimp only)); refine box_event ?hg (N := 6) ?hd (cs := #[.slice none 0 0, .int .i64 0, .int .i64 0, .bool false]) (t := 33) ?hr ?_; (case hd => rfl); (case hg => rfl); (case hr => first | (go_simp; done) | (go_simp; rfl)); intro aN hg sT hbox hb; obtain ⟨n_, aQ⟩ := Cb.bx (by repeat (first | (with_reducible first | exact HB.out | apply ba | apply bn | apply bd | refine bs ?_ aP.out) | exact HB.out)) hg hb; have iV := aQ; obtain ⟨aV, aT⟩ := Cb.nb hg aD.out; have aI := ak (hbox); replace bI := ak (Kd.V_below (Kd.V_elderB (pV bI.out) aN (Nat.le_of_eq hg.symm)) hb); replace aD := ak (blk_below aD.out hb); replace HB := n_; clear n_; clear hb hbox hg; have p4 := aV.out; have p5 := aT.out; obtain ⟨dH, dI, dJ, dK⟩ := Cb.c4 aD.out; obtain ⟨dL, dM, dN, dO⟩ := Cb.f4 aD.out))
  (try simp only [Act.put, List.setIfInBounds_toArray, List.set_cons_zero, List.set_cons_succ])
  go_cut [21] (fun v21 wc => ∃ (kq : Nat) (dP : Bool), v21 = .bool dP ∧ Aside0 (stanchionref03_Append.j0 kq a1 a2 dP aW a0 a3 false = some (r1, r2, r3, r4, r5)) ∧ Aside0 (kq ≤ k) ∧ Aside0 (Kd.V k38 38 wc w.heap.size (fun k_ => (a8 k_ ∨ w.heap.size ≤ k_) ∧ k_ ≠ aM ∧ k_ ≠ aN) (.slice bA aW.length bB) aW) ∧ Aside0 (wc.heap[aM]? = some (.cells #[(.slice bA aW.length bB), .int .i64 a0, .int .i64 a3, .bool false] 33 (0, 0))) ∧ Aside0 (wc.heap[aN]? = some (.cells #[(.slice none 0 0), .int .i64 0, .int .i64 0, .bool false] 33 (0, 0))) ∧ Aside0 (Below w.heap.size w wc))
  case first =>
   have H := iE.out
   clear iE
   by_cases g9 : (a1.size : Int) < 1
   ·rw [if_pos g9] at H
    have cD : decide ((a1.size : Int) < 1) = true := decide_eq_true g9
    have fE : decide (a1.size < 1) = true := decide_eq_true (by omega)
    clear g9
    (first | rw [cD] | (simp only [i64_w, i32_w]; rw [cD]) | skip)
    have H' := ak H
    clear H
    go_wp2
    go_meet
    case rel => exact ⟨_, (true), (by first | rfl | (simp; done) | (simp [*]; done)), H', ⟨by first | omega | exact Nat.le_refl _⟩, ⟨pV (Kd.V_mono bI.out (fun _ hk => ⟨hk.1.1, ⟨hk.1.2, hk.2⟩⟩))⟩, ⟨pk aD.out⟩, ⟨pk aI.out⟩, ⟨by repeat (first | (with_reducible first | exact HB.out | apply ba | apply bn | apply bd | refine bs ?_ aP.out | refine bs ?_ aQ.out) | exact HB.out)⟩⟩
   ·rw [if_neg g9] at H
    have cD : decide ((a1.size : Int) < 1) = false := decide_eq_false g9
    have fE : decide (a1.size < 1) = false := decide_eq_false (by omega)
    clear g9
    (first | rw [cD] | (simp only [i64_w, i32_w]; rw [cD]) | skip)
    have H' := ak H
    clear H
    go_wp2
    go_meet
    case rel => exact ⟨_, (decide ((a1.size : Int) > 16)), (by first | rfl | (simp; done) | (simp [*]; done)), H', ⟨by first | omega | exact Nat.le_refl _⟩, ⟨pV (Kd.V_mono bI.out (fun _ hk => ⟨hk.1.1, ⟨hk.1.2, hk.2⟩⟩))⟩, ⟨pk aD.out⟩, ⟨pk aI.out⟩, ⟨by repeat (first | (with_reducible first | exact HB.out | apply ba | apply bn | apply bd | refine bs ?_ aP.out | refine bs ?_ aQ.out) | exact HB.out)⟩⟩
  case rest =>
   clear iE
   try clear c1 p2 c4 c7 c14 g9 cD fE dH dI dJ dK e1 e2 e3 e4 e5 e6 e7 e8 dL dM dN dO b3 b4 b5 b6 b7 b8 b9 cA
   obtain ⟨kq, dP, rfl, HA, dB, aA, aD, aI, HB⟩ := hcut
   cases kq with
   | zero => exact absurd HA.out (by simp [stanchionref03_Append.j0])
   | succ kj10 =>
    have H := HA.out
    clear HA
    simp only [stanchionref03_Append.j0] at H
    by_cases iR : dP = true
    ·subst iR
     have H1 : (some (aW, a0, a3, false, 1)) = some (r1, r2, r3, r4, r5) := by rw [if_pos rfl] at H; exact H
     clear H
     have H := H1
     clear H1
     simp only [Option.some.injEq, Prod.mk.injEq] at H
     obtain ⟨rfl, rfl, rfl, rfl, rfl⟩ := H
     have p7 := aV.out
     have p8 := aT.out
     obtain ⟨fF, fG, fH, fI⟩ := Cb.c4 aD.out
     obtain ⟨fJ, fK, fL, fM⟩ := Cb.f4 aD.out
     obtain ⟨fN, fO, fP, fQ⟩ := Cb.c4 aI.out
     obtain ⟨fR, fS, bL, bM⟩ := Cb.f4 aI.out
     go_wp2_with (first | ((with_reducible refine gate_store (t := 33) (p := 6) rfl ?_); refine store_event (t := 33) (p := 6) (v := ?vo_w21) (w1 := ((((wc.setCell ⟨aN, 0, none⟩ (.slice bA aW.length bB)).setCell ⟨aN, 1, none⟩ (.int .i64 a0)).setCell ⟨aN, 2, none⟩ (.int .i64 a3)).setCell ⟨aN, 3, none⟩ (.bool false))) ?hg ?ho ?hn ?hr ?_; (case ho => rfl); (case hg => rfl); (case hn => rfl); (case hr => first | (go_simp; done) | (go_simp; rfl)); intro sU hw; replace aA := vf4 hw aA.out fun _ hk => hk.2.2; replace aD := bf4 hw aV.out aD.out; replace aI := bp4 hw aI.out; replace HB := bw4 hw HB.out aQ.out; clear hw))
     refine bodyPost_ret (results_ct rfl _ _ aN 33 #[.slice bA aW.length bB, .int .i64 a0, .int .i64 a3, .bool false] (0, 0) _ rfl (pk aI.out) Try.underlying33 rfl (by kernel_rfl)) rfl ?_
     exact ⟨_, by first | rfl | (simp [errW_none, errW_some] <;> rfl) | (simp [*, errW_none, errW_some] <;> rfl), pV (Kd.V_mono aA.out (fun _ hk => hk.1)), by repeat (first | (with_reducible first | exact HB.out | apply ba | apply bn | apply bd | refine bs ?_ aP.out | refine bs ?_ aQ.out) | exact HB.out)⟩
    ·replace iR := Bool.eq_false_iff.mpr iR
     subst iR
     have H1 : ((stanchionref03_at.f kj10 aW a0 a3 false a1).bind fun a7 => (if a7 < 0 then (if (aW.length : Int) ≥ 64 then (stanchionref03_Append.j1 kj10 a1 a2 a7 true aW a0 a3 false) else (stanchionref03_Append.j1 kj10 a1 a2 a7 (decide ((a2.size : Int) > a0)) aW a0 a3 false)) else (stanchionref03_Append.j1 kj10 a1 a2 a7 (decide ((a2.size : Int) > a0)) aW a0 a3 false))) = some (r1, r2, r3, r4, r5) := by rw [if_neg (show ¬ (false = true) by decide)] at H; exact H
     clear H
     have H := H1
     clear H1
     replace H := Option.bind_eq_some_iff.mp H
     obtain ⟨a7, iW, H⟩ := H
     replace H : (if a7 < 0 then (if (aW.length : Int) ≥ 64 then (stanchionref03_Append.j1 kj10 a1 a2 a7 true aW a0 a3 false) else (stanchionref03_Append.j1 kj10 a1 a2 a7 (decide ((a2.size : Int) > a0)) aW a0 a3 false)) else (stanchionref03_Append.j1 kj10 a1 a2 a7 (decide ((a2.size : Int) > a0)) aW a0 a3 false)) = some (r1, r2, r3, r4, r5) := H
     have sG := ak iW
     clear iW
     have iF := ak H
     clear H
     have p9 := aV.out
     have qA := aT.out
     obtain ⟨fT, fU, fV, fW⟩ := Cb.c4 aD.out
     obtain ⟨bN, bO, bP, bQ⟩ := Cb.f4 aD.out
     go_upto_region 6 with (first | ((with_reducible refine gate_callee (f := 37) rfl ?_); refine goesL_ (some 25) rfl rfl Try.func37 (by kernel_rfl) rfl #[.agg #[.slice bA aW.length bB, .int .i64 a0, .int .i64 a3, .bool false], .string a1] rfl (by (try simp only [List.map_toArray, List.map_cons, List.map_nil]); first | done | rfl | (simp only [List.length_drop, List.length_take]; rfl)) ?_; (with_reducible refine (stanchionref03_at.calls kj10 _ _ aW a0 a3 false a1 a7 _ ?side1 ?side2 sG.out).mono ?_); (case side1 => repeat (first | exact (Kd.V_reads' aA.out).2.2 | (with_reducible refine Kd.C_alloc ?_ _) | (with_reducible refine Kd.C_drewN ?_ _) | (with_reducible refine Kd.C_drew ?_))); (case side2 => exact (Kd.V_reads' aA.out).2.1); rintro e sV ⟨rfl, hb⟩; refine ⟨_, rfl, ?_⟩; replace aA := ak (Kd.V_below (pV aA.out) hb); replace aD := ak (blk_below aD.out hb); replace aI := ak (blk_below aI.out hb); replace HB := ak (below_step (by repeat (first | (with_reducible first | exact HB.out | apply ba | apply bn | apply bd | refine bs ?_ aP.out | refine bs ?_ aQ.out) | exact HB.out)) hb); (try clear hb); (try clear hb2); (try clear hk); (try clear hi)))
     (try simp only [Act.put, List.setIfInBounds_toArray, List.set_cons_zero, List.set_cons_succ])
     go_cut [40] (fun v40 wc => ∃ (kq : Nat) (dQ : Bool), v40 = .bool dQ ∧ Aside0 (stanchionref03_Append.j1 kq a1 a2 a7 dQ aW a0 a3 false = some (r1, r2, r3, r4, r5)) ∧ Aside0 (kq ≤ kj10) ∧ Aside0 (Kd.V k38 38 wc w.heap.size (fun k_ => (a8 k_ ∨ w.heap.size ≤ k_) ∧ k_ ≠ aM ∧ k_ ≠ aN) (.slice bA aW.length bB) aW) ∧ Aside0 (wc.heap[aM]? = some (.cells #[(.slice bA aW.length bB), .int .i64 a0, .int .i64 a3, .bool false] 33 (0, 0))) ∧ Aside0 (wc.heap[aN]? = some (.cells #[(.slice none 0 0), .int .i64 0, .int .i64 0, .bool false] 33 (0, 0))) ∧ Aside0 (Below w.heap.size w wc))
     case first =>
      have H := iF.out
      clear iF
      by_cases h5 : a7 < 0
      ·rw [if_pos h5] at H
       have dC : decide (a7 < 0) = true := decide_eq_true h5
       clear h5
       (first | rw [dC] | (simp only [i64_w, i32_w]; rw [dC]) | skip)
       by_cases h6 : (aW.length : Int) ≥ 64
       ·rw [if_pos h6] at H
        have g1 : decide (64 ≤ (aW.length : Int)) = true := decide_eq_true h6
        have g2 : decide (64 ≤ aW.length) = true := decide_eq_true (by omega)
        clear h6
        have H' := ak H
        clear H
        have qB := aV.out
        have qC := aT.out
        obtain ⟨fX, fY, fZ, f5⟩ := Cb.c4 aD.out
        obtain ⟨bR, bS, bT, bU⟩ := Cb.f4 aD.out
        go_wp2
        go_meet
        case rel => exact ⟨_, (true), (by first | rfl | (simp; done) | (simp [*]; done)), H', ⟨by have := dB.out; first | omega | exact Nat.le_refl _⟩, ⟨pV aA.out⟩, ⟨pk aD.out⟩, ⟨pk aI.out⟩, ⟨by repeat (first | (with_reducible first | exact HB.out | apply ba | apply bn | apply bd | refine bs ?_ aP.out | refine bs ?_ aQ.out) | exact HB.out)⟩⟩
       ·rw [if_neg h6] at H
        have g1 : decide (64 ≤ (aW.length : Int)) = false := decide_eq_false h6
        have g2 : decide (64 ≤ aW.length) = false := decide_eq_false (by omega)
        clear h6
        have H' := ak H
        clear H
        have qD := aV.out
        have qE := aT.out
        obtain ⟨f6, f7, f8, f9⟩ := Cb.c4 aD.out
        obtain ⟨bV, bW, bX, bY⟩ := Cb.f4 aD.out
        go_wp2
        go_meet
        case rel => exact ⟨_, (decide ((a2.size : Int) > a0)), (by first | rfl | (simp; done) | (simp [*]; done)), H', ⟨by have := dB.out; first | omega | exact Nat.le_refl _⟩, ⟨pV aA.out⟩, ⟨pk aD.out⟩, ⟨pk aI.out⟩, ⟨by repeat (first | (with_reducible first | exact HB.out | apply ba | apply bn | apply bd | refine bs ?_ aP.out | refine bs ?_ aQ.out) | exact HB.out)⟩⟩
      ·rw [if_neg h5] at H
       have dC : decide (a7 < 0) = false := decide_eq_false h5
       clear h5
       (first | rw [dC] | (simp only [i64_w, i32_w]; rw [dC]) | skip)
       have H' := ak H
       clear H
       have qF := aV.out
       have qG := aT.out
       obtain ⟨gA, gB, gC, gD⟩ := Cb.c4 aD.out
       obtain ⟨bZ, b0, b1, b2⟩ := Cb.f4 aD.out
       go_wp2
       go_meet
       case rel => exact ⟨_, (decide ((a2.size : Int) > a0)), (by first | rfl | (simp; done) | (simp [*]; done)), H', ⟨by have := dB.out; first | omega | exact Nat.le_refl _⟩, ⟨pV aA.out⟩, ⟨pk aD.out⟩, ⟨pk aI.out⟩, ⟨by repeat (first | (with_reducible first | exact HB.out | apply ba | apply bn | apply bd | refine bs ?_ aP.out | refine bs ?_ aQ.out) | exact HB.out)⟩⟩
     case rest =>
      clear iF
      try clear c1 c2 p2 c3 c4 c7 c14 g9 cD fE iR c18 c24 h5 dC h6 g1 g2 c29 c31 c33 dH dI dJ dK fF fG fH fI fN fO fP fQ fT fU fV fW fX fY fZ f5 f6 f7 f8 f9 gA gB gC gD e1 e2 e3 e4 e5 e6 e7 e8 dL dM dN dO fJ fK fL fM fR fS bL bM bN bO bP bQ bR bS bT bU bV bW bX bY bZ b0 b1 b2 b3 b4 b5 b6 b7 b8 b9 cA p2
      obtain ⟨kq, dQ, rfl, HA, eS, aA, aD, aI, HB⟩ := hcut
      cases kq with
      | zero => exact absurd HA.out (by simp [stanchionref03_Append.j1])
      | succ kj22 =>
       have H := HA.out
       clear HA
       simp only [stanchionref03_Append.j1] at H
       by_cases iX : dQ = true
       ·subst iX
        have H1 : (some (aW, a0, a3, false, 5)) = some (r1, r2, r3, r4, r5) := by rw [if_pos rfl] at H; exact H
        clear H
        have H := H1
        clear H1
        simp only [Option.some.injEq, Prod.mk.injEq] at H
        obtain ⟨rfl, rfl, rfl, rfl, rfl⟩ := H
        have qH := aV.out
        have qI := aT.out
        obtain ⟨hA, hB, hC, hD⟩ := Cb.c4 aD.out
        obtain ⟨cH, cI, cJ, cK⟩ := Cb.f4 aD.out
        obtain ⟨hE, hF, hG, hH⟩ := Cb.c4 aI.out
        obtain ⟨cL, cM, cN, cO⟩ := Cb.f4 aI.out
        go_wp2_with (first | ((with_reducible refine gate_store (t := 33) (p := 6) rfl ?_); refine store_event (t := 33) (p := 6) (v := ?vo_w39) (w1 := ((((wc.setCell ⟨aN, 0, none⟩ (.slice bA aW.length bB)).setCell ⟨aN, 1, none⟩ (.int .i64 a0)).setCell ⟨aN, 2, none⟩ (.int .i64 a3)).setCell ⟨aN, 3, none⟩ (.bool false))) ?hg ?ho ?hn ?hr ?_; (case ho => rfl); (case hg => rfl); (case hn => rfl); (case hr => first | (go_simp; done) | (go_simp; rfl)); intro sW hw; replace aA := vf4 hw aA.out fun _ hk => hk.2.2; replace aD := bf4 hw aV.out aD.out; replace aI := bp4 hw aI.out; replace HB := bw4 hw HB.out aQ.out; clear hw))
        refine bodyPost_ret (results_ct rfl _ _ aN 33 #[.slice bA aW.length bB, .int .i64 a0, .int .i64 a3, .bool false] (0, 0) _ rfl (pk aI.out) Try.underlying33 rfl (by kernel_rfl)) rfl ?_
        exact ⟨_, by first | rfl | (simp [errW_none, errW_some] <;> rfl) | (simp [*, errW_none, errW_some] <;> rfl), pV (Kd.V_mono aA.out (fun _ hk => hk.1)), by repeat (first | (with_reducible first | exact HB.out | apply ba | apply bn | apply bd | refine bs ?_ aP.out | refine bs ?_ aQ.out) | exact HB.out)⟩
       ·replace iX := Bool.eq_false_iff.mpr iX
        subst iX
        have H1 : (if a7 ≥ 0 then (if 0 ≤ a7 then (if a7 < (aW.length : Int) then (stanchionref03_Append.j2 kj22 a2 a7 aW a0 a3 false ((rd_T38 aW a7).f0) ((rd_T38 aW a7).f1) ((rd_T38 aW a7).f2)) else (none)) else (none)) else (stanchionref03_Append.j2 kj22 a2 a7 aW a0 a3 false a1 (⟨#[]⟩ : ByteArray) (⟨#[]⟩ : ByteArray))) = some (r1, r2, r3, r4, r5) := by rw [if_neg (show ¬ (false = true) by decide)] at H; exact H
        clear H
        have H := H1
        clear H1
        have iG := ak H
        clear H
        go_upto_if 45 with (first | ((with_reducible refine gate_dst (N := 9) rfl ?_); (try (refine gate_guard (by rfl) ?_; dsimp only)); refine box_event ?hg (N := 9) ?hd (cs := #[.string (⟨#[]⟩ : ByteArray), .string (⟨#[]⟩ : ByteArray), .string (⟨#[]⟩ : ByteArray)]) (t := 38) ?hr ?_; (case hd => rfl); (case hg => rfl); (case hr => first | (go_simp; done) | (go_simp; rfl)); intro aJ hg sH hbox hb; obtain ⟨n_, aY⟩ := Cb.bx (by repeat (first | (with_reducible first | exact HB.out | apply ba | apply bn | apply bd | refine bs ?_ aP.out | refine bs ?_ aQ.out) | exact HB.out)) hg hb; have qJ := aY; obtain ⟨aZ, aX⟩ := Cb.nb hg aD.out; obtain ⟨a4, a5⟩ := Cb.nb hg aI.out; have aH := ak (hbox); replace aA := ak (Kd.V_below (Kd.V_elderB (pV aA.out) aJ (Nat.le_of_eq hg.symm)) hb); replace aD := ak (blk_below aD.out hb); replace aI := ak (blk_below aI.out hb); replace HB := n_; clear n_; clear hb hbox hg; have qK := aX.out; have qL := aZ.out; have qM := a5.out; have qN := a4.out; obtain ⟨hI, hJ, hL⟩ := Cb.c3 aH.out; obtain ⟨cP, cQ, cR⟩ := Cb.f3 aH.out) | ((with_reducible refine gate_store (t := 38) (p := 9) rfl ?_); refine store_event (t := 38) (p := 9) (v := ?vo_w45) (w1 := (((sH.setCell ⟨aJ, 0, none⟩ (.string a1)).setCell ⟨aJ, 1, none⟩ (.string (⟨#[]⟩ : ByteArray))).setCell ⟨aJ, 2, none⟩ (.string (⟨#[]⟩ : ByteArray)))) ?hg ?ho ?hn ?hr ?_; (case ho => rfl); (case hg => rfl); (case hn => rfl); (case hr => first | (go_simp; done) | (go_simp; rfl)); intro sI hw; replace aA := vg3 (ok' := fun k_ => (a8 k_ ∨ w.heap.size ≤ k_) ∧ k_ ≠ aM ∧ k_ ≠ aN ∧ k_ ≠ aJ) hw aA.out (fun _ hk => hk.2) fun _ hk => ⟨hk.1.1, ⟨hk.1.2.1, ⟨hk.1.2.2, hk.2⟩⟩⟩; replace aD := bf3 hw aZ.out aD.out; replace aI := bf3 hw a4.out aI.out; replace aH := bp3 hw aH.out; replace HB := bw3 hw HB.out aY.out; clear hw))
        (try simp only [Act.put, List.setIfInBounds_toArray, List.set_cons_zero, List.set_cons_succ])
        go_cut [] (fun wc => ∃ (kq : Nat) (aG : ByteArray) (aE : ByteArray) (aC : ByteArray), Aside0 (stanchionref03_Append.j2 kq a2 a7 aW a0 a3 false aG aE aC = some (r1, r2, r3, r4, r5)) ∧ Aside0 (kq ≤ kj22) ∧ Aside0 (Kd.V k38 38 wc w.heap.size (fun k_ => (a8 k_ ∨ w.heap.size ≤ k_) ∧ k_ ≠ aM ∧ k_ ≠ aN ∧ k_ ≠ aJ) (.slice bA aW.length bB) aW) ∧ Aside0 (wc.heap[aM]? = some (.cells #[(.slice bA aW.length bB), .int .i64 a0, .int .i64 a3, .bool false] 33 (0, 0))) ∧ Aside0 (wc.heap[aN]? = some (.cells #[(.slice none 0 0), .int .i64 0, .int .i64 0, .bool false] 33 (0, 0))) ∧ Aside0 (wc.heap[aJ]? = some (.cells #[.string aG, .string aE, .string aC] 38 (0, 0))) ∧ Aside0 (Below w.heap.size w wc))
        case first =>
         have H := iG.out
         clear iG
         by_cases iH : a7 ≥ 0
         ·rw [if_pos iH] at H
          have dF : decide (0 ≤ a7) = true := decide_eq_true iH
          clear iH
          (first | rw [dF] | (simp only [i64_w, i32_w]; rw [dF]) | skip)
          have iY : 0 ≤ a7 := Decidable.byContradiction fun q => by rw [if_neg q] at H; exact absurd H (by simp)
          rw [if_pos iY] at H
          have iZ : decide (0 ≤ a7) = true := decide_eq_true iY
          clear iY
          have i0 : a7 < (aW.length : Int) := Decidable.byContradiction fun q => by rw [if_neg q] at H; exact absurd H (by simp)
          rw [if_pos i0] at H
          have i1 : decide (a7 < (aW.length : Int)) = true := decide_eq_true i0
          clear i0
          have H' := ak H
          clear H
          have qO := aV.out
          have qP := aT.out
          have qQ := aZ.out
          have qR := aX.out
          obtain ⟨hM, hN, hO, hP⟩ := Cb.c4 aD.out
          obtain ⟨cS, cT, cU, cV⟩ := Cb.f4 aD.out
          have e9 : 0 ≤ (a7 : Int) := of_decide_eq_true (by first | (with_reducible assumption) | assumption)
          have fA : a7 < (aW.length : Int) := of_decide_eq_true (by first | (with_reducible assumption) | assumption)
          obtain ⟨qS, oT, cW, cX, cY⟩ := at_T38 (Kd.V_reads' aA.out).2.2 a7 e9 fA
          cases oT
          replace e9 := eq_true e9
          replace fA := eq_true fA
          have qT := a5.out
          have qU := a4.out
          obtain ⟨hQ, hR, hS⟩ := Cb.c3 aH.out
          obtain ⟨cZ, c0, dA⟩ := Cb.f3 aH.out
          go_wp2_with (first | ((with_reducible refine gate_store (t := 38) (p := 9) rfl ?_); refine store_event (t := 38) (p := 9) (v := ?vo_w54) (w1 := (((sI.setCell ⟨aJ, 0, none⟩ (.string ((rd_T38 aW a7).f0))).setCell ⟨aJ, 1, none⟩ (.string ((rd_T38 aW a7).f1))).setCell ⟨aJ, 2, none⟩ (.string ((rd_T38 aW a7).f2)))) ?hg ?ho ?hn ?hr ?_; (case ho => rfl); (case hg => rfl); (case hn => rfl); (case hr => first | (go_simp; done) | (go_simp; rfl)); intro sX hw; replace aA := vf3 hw aA.out fun _ hk => hk.2.2.2; replace aD := bf3 hw aZ.out aD.out; replace aI := bf3 hw a4.out aI.out; replace aH := bp3 hw aH.out; replace HB := bw3 hw HB.out aY.out; clear hw))
          go_meet
          case rel => exact ⟨_, ((rd_T38 aW a7).f0), ((rd_T38 aW a7).f1), ((rd_T38 aW a7).f2), H', ⟨by have := dB.out; have := eS.out; first | omega | exact Nat.le_refl _⟩, ⟨pV aA.out⟩, ⟨pk aD.out⟩, ⟨pk aI.out⟩, ⟨pk aH.out⟩, ⟨by repeat (first | (with_reducible first | exact HB.out | apply ba | apply bn | apply bd | refine bs ?_ aP.out | refine bs ?_ aQ.out | refine bs ?_ aY.out) | exact HB.out)⟩⟩
         ·rw [if_neg iH] at H
          have dF : decide (0 ≤ a7) = false := decide_eq_false iH
          clear iH
          (first | rw [dF] | (simp only [i64_w, i32_w]; rw [dF]) | skip)
          have H' := ak H
          clear H
          go_wp2
          go_meet
          case rel => exact ⟨_, (a1), ((⟨#[]⟩ : ByteArray)), ((⟨#[]⟩ : ByteArray)), H', ⟨by have := dB.out; have := eS.out; first | omega | exact Nat.le_refl _⟩, ⟨pV aA.out⟩, ⟨pk aD.out⟩, ⟨pk aI.out⟩, ⟨pk aH.out⟩, ⟨by repeat (first | (with_reducible first | exact HB.out | apply ba | apply bn | apply bd | refine bs ?_ aP.out | refine bs ?_ aQ.out | refine bs ?_ aY.out) | exact HB.out)⟩⟩
        case rest =>
         clear iG
         try clear c1 c2 p2 c3 p3 q3 hx3 c4 c5 c7 c14 g9 cD fE iR c18 c24 h5 dC h6 g1 g2 c29 c31 c33 iX c36 p36 q36 hx36 c37 c42 c43 c44 iH dF iY iZ i0 i1 c49 c50 c52 dH dI dJ dK fF fG fH fI fN fO fP fQ fT fU fV fW fX fY fZ f5 f6 f7 f8 f9 gA gB gC gD hA hB hC hD hE hF hG hH hI hJ hL hM hN hO hP hQ hR hS e1 e2 e3 e4 e5 e6 e7 e8 dL dM dN dO fJ fK fL fM fR fS bL bM bN bO bP bQ bR bS bT bU bV bW bX bY bZ b0 b1 b2 cH cI cJ cK cL cM cN cO cP cQ cR cS cT cU cV cZ c0 dA b3 b4 b5 b6 b7 b8 b9 cA cW cX cY p2 e9 fA
         obtain ⟨kq, aG, aE, aC, HA, gX, aA, aD, aI, aH, HB⟩ := hcut
         cases kq with
         | zero => exact absurd HA.out (by simp [stanchionref03_Append.j2])
         | succ kj39 =>
          have H := HA.out
          clear HA
          simp only [stanchionref03_Append.j2] at H
          by_cases hT : (wrap64 ((wrap64 ((aE.size : Int) + (aC.size : Int))) + (a2.size : Int))) > 65536
          ·rw [if_pos hT] at H
           have gE : decide (65536 < (wrap64 ((wrap64 ((aE.size : Int) + (aC.size : Int))) + (a2.size : Int)))) = true := decide_eq_true hT
           clear hT
           simp only [Option.some.injEq, Prod.mk.injEq] at H
           obtain ⟨rfl, rfl, rfl, rfl, rfl⟩ := H
           have qV := aX.out
           have qW := aZ.out
           have qX := a5.out
           have qY := a4.out
           obtain ⟨dR, dS, dT⟩ := Cb.c3 aH.out
           obtain ⟨dU, dV, dW⟩ := Cb.f3 aH.out
           have qZ := aV.out
           have q0 := aT.out
           obtain ⟨dX, dY, dZ, d0⟩ := Cb.c4 aD.out
           obtain ⟨d1, d2, d3, d4⟩ := Cb.f4 aD.out
           obtain ⟨d5, d6, d7, d8⟩ := Cb.c4 aI.out
           obtain ⟨d9, eA, eB, eC⟩ := Cb.f4 aI.out
           go_wp2_with (first | ((with_reducible refine gate_store (t := 33) (p := 6) rfl ?_); refine store_event (t := 33) (p := 6) (v := ?vo_w62) (w1 := ((((wc.setCell ⟨aN, 0, none⟩ (.slice bA aW.length bB)).setCell ⟨aN, 1, none⟩ (.int .i64 a0)).setCell ⟨aN, 2, none⟩ (.int .i64 a3)).setCell ⟨aN, 3, none⟩ (.bool false))) ?hg ?ho ?hn ?hr ?_; (case ho => rfl); (case hg => rfl); (case hn => rfl); (case hr => first | (go_simp; done) | (go_simp; rfl)); intro sY hw; replace aA := vf4 hw aA.out fun _ hk => hk.2.2.1; replace aD := bf4 hw aV.out aD.out; replace aI := bp4 hw aI.out; replace aH := bf4 hw a5.out aH.out; replace HB := bw4 hw HB.out aQ.out; clear hw))
           refine bodyPost_ret (results_ct rfl _ _ aN 33 #[.slice bA aW.length bB, .int .i64 a0, .int .i64 a3, .bool false] (0, 0) _ rfl (pk aI.out) Try.underlying33 rfl (by kernel_rfl)) rfl ?_
           exact ⟨_, by first | rfl | (simp [errW_none, errW_some] <;> rfl) | (simp [*, errW_none, errW_some] <;> rfl), pV (Kd.V_mono aA.out (fun _ hk => hk.1)), by repeat (first | (with_reducible first | exact HB.out | apply ba | apply bn | apply bd | refine bs ?_ aP.out | refine bs ?_ aQ.out | refine bs ?_ aY.out) | exact HB.out)⟩
          ·rw [if_neg hT] at H
           have gE : decide (65536 < (wrap64 ((wrap64 ((aE.size : Int) + (aC.size : Int))) + (a2.size : Int)))) = false := decide_eq_false hT
           clear hT
           have iI := ak H
           clear H
           have q1 := aX.out
           have q2 := aZ.out
           have q4 := a5.out
           have q5 := a4.out
           obtain ⟨eD, eE, eF⟩ := Cb.c3 aH.out
           obtain ⟨eG, eH, eI⟩ := Cb.f3 aH.out
           go_upto_if 64 with (fail)
           go_cut [8] (fun v8 wc => ∃ (kq : Nat) (bG : Int) (aU : List (S38)) (u358000 : Value), v8 = .int .i64 bG ∧ Aside0 (stanchionref03_Append.j3 kq a2 bG aU a0 a3 false aG aE aC = some (r1, r2, r3, r4, r5)) ∧ Aside0 (kq ≤ kj39) ∧ Aside0 (Kd.V k38 38 wc w.heap.size (fun k_ => (a8 k_ ∨ w.heap.size ≤ k_) ∧ k_ ≠ aM ∧ k_ ≠ aN ∧ k_ ≠ aJ) u358000 aU) ∧ Aside0 (wc.heap[aM]? = some (.cells #[u358000, .int .i64 a0, .int .i64 a3, .bool false] 33 (0, 0))) ∧ Aside0 (wc.heap[aN]? = some (.cells #[(.slice none 0 0), .int .i64 0, .int .i64 0, .bool false] 33 (0, 0))) ∧ Aside0 (wc.heap[aJ]? = some (.cells #[.string aG, .string aE, .string aC] 38 (0, 0))) ∧ Aside0 (Below w.heap.size w wc))
           case first =>
            have H := iI.out
            clear iI
            by_cases hU : a7 < 0
            ·rw [if_pos hU] at H
             have cE : decide (a7 < 0) = true := decide_eq_true hU
             clear hU
             (first | rw [cE] | (simp only [i64_w, i32_w]; rw [cE]) | skip)
             obtain ⟨y362, hy362⟩ : ∃ y_ : List (S38), y_ = (([] : List (S38))) := ⟨_, rfl⟩
             replace H : (if y362.length + aW.length < 2932031007402 then ((some (y362 ++ aW : List (S38))).bind fun y365 => ((some (([(⟨aG, aE, aC⟩ : S38)] : List (S38)) : List (S38))).bind fun y368 => (if y365.length + y368.length < 2932031007402 then (stanchionref03_Append.j3 kj39 a2 (aW.length : Int) (y365 ++ y368) a0 a3 false aG aE aC) else (none)))) else (none)) = some (r1, r2, r3, r4, r5) := by first | (rw [hy362]; with_reducible exact H) | (have fB := (Option.bind_some _ _).symm.trans H; rw [hy362]; with_reducible exact fB) | (have fB := (Option.bind_some _ _).symm.trans H; with_reducible exact fB) | with_reducible exact H | (rw [hy362]; exact H) | exact H
             have gF := ak hy362
             clear hy362
             have iJ : y362.length + aW.length < 2932031007402 := Decidable.byContradiction fun q => by rw [if_neg q] at H; exact absurd H (by simp)
             rw [if_pos iJ] at H
             have g3 := ak iJ
             clear iJ
             obtain ⟨y365, hy365⟩ : ∃ y_ : List (S38), y_ = (y362 ++ aW) := ⟨_, rfl⟩
             replace H : ((some (([(⟨aG, aE, aC⟩ : S38)] : List (S38)) : List (S38))).bind fun y368 => (if y365.length + y368.length < 2932031007402 then (stanchionref03_Append.j3 kj39 a2 (aW.length : Int) (y365 ++ y368) a0 a3 false aG aE aC) else (none))) = some (r1, r2, r3, r4, r5) := by first | (rw [hy365]; with_reducible exact H) | (have fB := (Option.bind_some _ _).symm.trans H; rw [hy365]; with_reducible exact fB) | (have fB := (Option.bind_some _ _).symm.trans H; with_reducible exact fB) | with_reducible exact H | (rw [hy365]; exact H) | exact H
             have g4 := ak hy365
             clear hy365
             obtain ⟨y368, hy368⟩ : ∃ y_ : List (S38), y_ = (([(⟨aG, aE, aC⟩ : S38)] : List (S38))) := ⟨_, rfl⟩
             replace H : (if y365.length + y368.length < 2932031007402 then (stanchionref03_Append.j3 kj39 a2 (aW.length : Int) (y365 ++ y368) a0 a3 false aG aE aC) else (none)) = some (r1, r2, r3, r4, r5) := by first | (rw [hy368]; with_reducible exact H) | (have fB := (Option.bind_some _ _).symm.trans H; rw [hy368]; with_reducible exact fB) | (have fB := (Option.bind_some _ _).symm.trans H; with_reducible exact fB) | with_reducible exact H | (rw [hy368]; exact H) | exact H
             have dG := ak hy368
             clear hy368
             have iK : y365.length + y368.length < 2932031007402 := Decidable.byContradiction fun q => by rw [if_neg q] at H; exact absurd H (by simp)
             rw [if_pos iK] at H
             have i2 := ak iK
             clear iK
             obtain ⟨y371, hy371⟩ : ∃ y_ : List (S38), y_ = (y365 ++ y368) := ⟨_, rfl⟩
             replace H : (stanchionref03_Append.j3 kj39 a2 (aW.length : Int) y371 a0 a3 false aG aE aC) = some (r1, r2, r3, r4, r5) := by first | (rw [hy371]; with_reducible exact H) | (have fB := (Option.bind_some _ _).symm.trans H; rw [hy371]; with_reducible exact fB) | (have fB := (Option.bind_some _ _).symm.trans H; with_reducible exact fB) | with_reducible exact H | (rw [hy371]; exact H) | exact H
             have i3 := ak hy371
             clear hy371
             have H' := ak H
             clear H
             have q6 := aV.out
             have q7 := aT.out
             have q8 := aZ.out
             have q9 := aX.out
             obtain ⟨eJ, eK, eL, eM⟩ := Cb.c4 aD.out
             obtain ⟨eN, eO, eP, eQ⟩ := Cb.f4 aD.out
             try go_wp2
             replace aA := ak (Kd.V_drew aA.out)
             replace aD := ak (blk_drew aD.out)
             replace aI := ak (blk_drew aI.out)
             replace aH := ak (blk_drew aH.out)
             replace HB := ak (below_drew1 HB.out)
             refine start_ (n := 9) (S := fun w' => w'.cell? ⟨aM, 0, none⟩ = some (.slice bA aW.length bB) ∧ w'.cell? ⟨aM, 1, none⟩ = some (.int .i64 a0) ∧ w'.cell? ⟨aM, 2, none⟩ = some (.int .i64 a3) ∧ w'.cell? ⟨aM, 3, none⟩ = some (.bool false) ∧ w'.cell? ⟨aJ, 0, none⟩ = some (.string aG) ∧ w'.cell? ⟨aJ, 1, none⟩ = some (.string aE) ∧ w'.cell? ⟨aJ, 2, none⟩ = some (.string aC)) (ds := [8]) #[false, false, false, false, false, false, false, false, false] (by kernel_rfl) rfl rfl ⟨(blk_cell aD.out 0).trans rfl, (blk_cell aD.out 1).trans rfl, (blk_cell aD.out 2).trans rfl, (blk_cell aD.out 3).trans rfl, (blk_cell aH.out 0).trans rfl, (blk_cell aH.out 1).trans rfl, (blk_cell aH.out 2).trans rfl⟩ (fun hHeld => ?_); refine with_tabW stanchionref03_Append.tab15 stanchionref03_Append.bits15 (fun HT_ HW_ => ?_)
             generalize wc.drew = w73 at aA aD aI aH HB hHeld ⊢
             refine pure_ (i := 1) (N := some 69) (v := ?_) (a' := ?_) #[false, true, false, false, false, false, false, false, false] rfl rfl (any_of HT_.out (by kernel_rfl)) (fun _ _ _ h => h) (Or.inl ⟨by rfl, ?_⟩) ?_ ?_
             rotate_left
             ·intro w'
              go_simp
              with_reducible rfl
             rotate_left
             ·simp only [Act.put, List.setIfInBounds_toArray, List.set_cons_zero, List.set_cons_succ, i64_w, i32_w]
              rfl
             refine take_ (i := 2) (N := some 70) (v := ?_) (a' := ?_) #[false, true, true, false, false, false, false, false, false] rfl rfl (take_ofW HT_.out HW_.out (by kernel_rfl)) (fun _ _ _ h => h) (Or.inl ⟨by rfl, ?_⟩) hHeld ?_ ?_
             rotate_left
             ·rintro w' ⟨s0, s1, s2, s3, s4, s5, s6⟩
              go_simp
              with_reducible rfl
             rotate_left
             ·simp only [Act.put, List.setIfInBounds_toArray, List.set_cons_zero, List.set_cons_succ, i64_w, i32_w]
              rfl
             refine take_ (i := 4) (N := some 72) (v := ?_) (a' := ?_) #[false, true, true, false, true, false, false, false, false] rfl rfl (take_ofW HT_.out HW_.out (by kernel_rfl)) (fun _ _ _ h => h) (Or.inl ⟨by rfl, ?_⟩) hHeld ?_ ?_
             rotate_left
             ·rintro w' ⟨s0, s1, s2, s3, s4, s5, s6⟩
              go_simp
              with_reducible rfl
             rotate_left
             ·simp only [Act.put, List.setIfInBounds_toArray, List.set_cons_zero, List.set_cons_succ, i64_w, i32_w]
              rfl
             refine join_ (σ := Value × Value × Value) 3 #[true, true, true, true, true, true, false, false, false] (fun s_ => [(68, s_.1), (71, s_.2.1), (73, s_.2.2)]) (fun s_ w' => (w'.cell? ⟨aM, 0, none⟩ = some (.slice bA aW.length bB) ∧ w'.cell? ⟨aM, 1, none⟩ = some (.int .i64 a0) ∧ w'.cell? ⟨aM, 2, none⟩ = some (.int .i64 a3) ∧ w'.cell? ⟨aM, 3, none⟩ = some (.bool false) ∧ w'.cell? ⟨aJ, 0, none⟩ = some (.string aG) ∧ w'.cell? ⟨aJ, 1, none⟩ = some (.string aE) ∧ w'.cell? ⟨aJ, 2, none⟩ = some (.string aC)) ∧ (Kd.R k38 38 w' w.heap.size (fun k_ => (w.heap.size ≤ k_) ∧ some k_ ≠ (s_.2.2 : Value).ownBlock ∧ k_ ≠ aJ) s_.2.1 y365) ∧ (Kd.R k38 38 w' w.heap.size (fun k_ => (w.heap.size ≤ k_) ∧ some k_ ≠ (s_.2.1 : Value).ownBlock ∧ k_ ≠ aJ) s_.2.2 y368) ∧ (Kd.V k38 38 w' w.heap.size (fun k_ => (a8 k_ ∨ w.heap.size ≤ k_) ∧ some k_ ≠ (s_.2.1 : Value).ownBlock ∧ some k_ ≠ (s_.2.2 : Value).ownBlock ∧ k_ ≠ aM ∧ k_ ≠ aN ∧ k_ ≠ aJ) (.slice bA aW.length bB) aW) ∧ (w'.heap[aM]? = some (.cells #[.slice bA aW.length bB, .int .i64 a0, .int .i64 a3, .bool false] 33 (0, 0))) ∧ (w'.heap[aN]? = some (.cells #[.slice none 0 0, .int .i64 0, .int .i64 0, .bool false] 33 (0, 0))) ∧ (w'.heap[aJ]? = some (.cells #[.string aG, .string aE, .string aC] 38 (0, 0))) ∧ (Below w.heap.size w w')) ?_ ?_
             rotate_left
             ·intro hCont
              refine two_ (i := 0) (j := 5) (Ni := some 68) (Nj := some 73) #[true, true, true, false, true, false, false, false, false] #[false, true, true, false, true, true, false, false, false] rfl rfl rfl rfl (two_of HT_.out (by kernel_rfl)) (by decide) (by decide) (fun K hK => ?_) (fun K hK => ?_)
              ·skip
               refine Kd.R_lit_step k38 _ 38 ?hg (N := 68) ?hd (xs := ([] : List (S38))) (inner := []) (ok := fun _ => True) (okp := fun _ => True) ?hr ?hp (fun _ hk => hk) trivial (Below.refl _ _) (Nat.le_refl _) (by simp) ?_; (case hd => rfl); (case hg => rfl); (case hr => first | (go_simp; done) | (go_simp; rfl)); (case hp => exact (Reps.none _ _))
               intro eT sJ cB hb hg_ hnew_
               clear hg_ hnew_
               (first | rw [← gF.out] at cB | (simp only [Int.reduceToNat] at cB; rw [← gF.out] at cB))
               have bF := ak (Kd.R_lower (Kd.R_newB (Kd.R_newM (M := fun k_ => (w.heap.size ≤ k_)) cB (below_size (by repeat (first | (with_reducible first | exact HB.out | apply ba | apply bn | apply bd | refine bs ?_ aP.out | refine bs ?_ aQ.out | refine bs ?_ aY.out) | exact HB.out))) (fun k_ h_ => h_)) (g := aJ) (o := .cells #[.string aG, .string aE, .string aC] 38 (0, 0)) (pk aH.out)) (below_size (by repeat (first | (with_reducible first | exact HB.out | apply ba | apply bn | apply bd | refine bs ?_ aP.out | refine bs ?_ aQ.out | refine bs ?_ aY.out) | exact HB.out))))
               replace aA := ak (Kd.V_elder' (pV aA.out) (Kd.R_base cB) hb)
               replace aD := ak (blk_below aD.out hb)
               replace aI := ak (blk_below aI.out hb)
               replace aH := ak (blk_below aH.out hb)
               replace HB := ak (below_step (by repeat (first | (with_reducible first | exact HB.out | apply ba | apply bn | apply bd | refine bs ?_ aP.out | refine bs ?_ aQ.out | refine bs ?_ aY.out) | exact HB.out)) hb)
               clear hb cB
               refine hK.out _ _ ⟨(blk_cell aD.out 0).trans rfl, (blk_cell aD.out 1).trans rfl, (blk_cell aD.out 2).trans rfl, (blk_cell aD.out 3).trans rfl, (blk_cell aH.out 0).trans rfl, (blk_cell aH.out 1).trans rfl, (blk_cell aH.out 2).trans rfl⟩ (fun hHeld => ?_)
               clear hK K
               refine norm_ (a' := ?_) ?_ ?_
               rotate_left
               ·show Act.put _ (some 68) _ = _
                simp only [Act.put, List.setIfInBounds_toArray, List.set_cons_zero, List.set_cons_succ, i64_w, i32_w]
                rfl
               refine two_ (i := 3) (j := 5) (Ni := some 71) (Nj := some 73) #[true, true, true, true, true, false, false, false, false] #[true, true, true, false, true, true, false, false, false] rfl rfl rfl rfl (two_of HT_.out (by kernel_rfl)) (by decide) (by decide) (fun K hK => ?_) (fun K hK => ?_)
               ·skip
                refine Kd.R_append_rows_step k38 (w0 := w) w.heap.size (by rfl) (.tmp 68) (.tmp 70) 31 38 (.agg #[(.string ⟨#[]⟩), (.string ⟨#[]⟩), (.string ⟨#[]⟩)]) 48 rfl Try.underlying31 info38 rfl (by decide) (by omega) eT y362 aW _ _ _ (fun k_ => (w.heap.size ≤ k_) ∧ k_ ≠ aJ) (fun _ => False) rfl rfl ?aO ?aR (fun _ _ h => h) (fun _ h => h.elim) ?aF ?aB ?aS ?aL ?_
                (case aR => repeat (first | exact (Kd.V_reads' aA.out).2.2 | (with_reducible refine Kd.C_alloc ?_ _) | (with_reducible refine Kd.C_drewN ?_ _) | (with_reducible refine Kd.C_drew ?_)))
                (case aB => exact (by repeat (first | (with_reducible first | exact HB.out | apply ba | apply bn | apply bd | refine bs ?_ aP.out | refine bs ?_ aQ.out | refine bs ?_ aY.out) | exact HB.out)))
                (case aF => exact (fun k_ hk => ⟨(Nat.le_trans (below_size (by repeat (first | (with_reducible first | exact HB.out | apply ba | apply bn | apply bd | refine bs ?_ aP.out | refine bs ?_ aQ.out | refine bs ?_ aY.out) | exact HB.out))) hk), Kd.freshB (g := aJ) (o := .cells #[.string aG, .string aE, .string aC] 38 (0, 0)) (pk aH.out) k_ hk⟩))
                (case aO => exact (pR (Kd.R_mono bF.out (fun _ hk => ⟨hk.1.1, hk.2⟩))))
                (case aS => exact (below_size (by repeat (first | (with_reducible first | exact HB.out | apply ba | apply bn | apply bd | refine bs ?_ aP.out | refine bs ?_ aQ.out | refine bs ?_ aY.out) | exact HB.out))))
                (case aL => have := g3.out; omega)
                intro dE rA ho hb hg hat
                rw [← g4.out] at ho
                have n0_ := ak (Kd.V_afterv (ok := (fun k_ => (a8 k_ ∨ w.heap.size ≤ k_) ∧ k_ ≠ aM ∧ k_ ≠ aN ∧ k_ ≠ aJ)) (pV aA.out) hg hat)
                have n1_ := ak (blk_grown (g := aM) (o := .cells #[.slice bA aW.length bB, .int .i64 a0, .int .i64 a3, .bool false] 33 (0, 0)) (pk aD.out) hg (Kd.R_ne bF.out aD.out (by decide)))
                have n2_ := ak (blk_grown (g := aN) (o := .cells #[.slice none 0 0, .int .i64 0, .int .i64 0, .bool false] 33 (0, 0)) (pk aI.out) hg (Kd.R_ne bF.out aI.out (by decide)))
                have n3_ := ak (blk_grown (g := aJ) (o := .cells #[.string aG, .string aE, .string aC] 38 (0, 0)) (pk aH.out) hg (Kd.R_away bF.out (fun _ hk => hk.2)))
                have n4_ := ak (hb)
                have n5_ := ak (ho)
                clear aA
                clear aD
                clear aI
                clear aH
                clear HB
                clear bF
                have aA := n0_
                have aD := n1_
                have aI := n2_
                have aH := n3_
                have HB := n4_
                have bH := n5_
                clear n0_ n1_ n2_ n3_ n4_ n5_
                clear ho hb hg hat
                refine hK.out _ _ ⟨(blk_cell aD.out 0).trans rfl, (blk_cell aD.out 1).trans rfl, (blk_cell aD.out 2).trans rfl, (blk_cell aD.out 3).trans rfl, (blk_cell aH.out 0).trans rfl, (blk_cell aH.out 1).trans rfl, (blk_cell aH.out 2).trans rfl⟩ (fun hHeld => ?_)
                clear hK K
                refine norm_ (a' := ?_) ?_ ?_
                rotate_left
                ·show Act.put _ (some 71) _ = _
                 simp only [Act.put, List.setIfInBounds_toArray, List.set_cons_zero, List.set_cons_succ, i64_w, i32_w]
                 rfl
                refine one_ (i := 5) (N := some 73) #[true, true, true, true, true, true, false, false, false] rfl rfl (one_of HT_.out (by kernel_rfl)) (by decide) (fun K hK => ?_)
                refine Kd.R_lit_step k38 _ 38 ?hg (N := 73) ?hd (xs := ([(⟨aG, aE, aC⟩ : S38)] : List (S38))) (inner := [.string aG, .string aE, .string aC]) (ok := fun _ => True) (okp := fun _ => True) ?hr ?hp (fun _ hk => hk) trivial (Below.refl _ _) (Nat.le_refl _) (by simp) ?_; (case hd => rfl); (case hg => rfl); (case hr => first | (go_simp; done) | (go_simp; rfl)); (case hp => exact (Reps.c3 (show Kd.M k38 _ _ _ (⟨aG, aE, aC⟩ : S38) [.string aG, .string aE, .string aC] from (k38_mkM _ _ _ (⟨aG, aE, aC⟩ : S38) )) (Reps.none _ _)))
                intro cC sZ fC hb hg_ hnew_
                clear hg_ hnew_
                (first | rw [← dG.out] at fC | (simp only [Int.reduceToNat] at fC; rw [← dG.out] at fC))
                have a9 := ak (Kd.R_lower (Kd.R_newB (Kd.R_new' (Kd.R_newM (M := fun k_ => (w.heap.size ≤ k_)) fC (below_size (by repeat (first | (with_reducible first | exact HB.out | apply ba | apply bn | apply bd | refine bs ?_ aP.out | refine bs ?_ aQ.out | refine bs ?_ aY.out) | exact HB.out))) (fun k_ h_ => h_)) (Kd.R_lt (pR bH.out))) (g := aJ) (o := .cells #[.string aG, .string aE, .string aC] 38 (0, 0)) (pk aH.out)) (below_size (by repeat (first | (with_reducible first | exact HB.out | apply ba | apply bn | apply bd | refine bs ?_ aP.out | refine bs ?_ aQ.out | refine bs ?_ aY.out) | exact HB.out))))
                replace aA := ak (Kd.V_elder' (pV aA.out) (Kd.R_base fC) hb)
                replace bH := ak (Kd.R_elder' (pR bH.out) (Kd.R_base fC) hb)
                replace aD := ak (blk_below aD.out hb)
                replace aI := ak (blk_below aI.out hb)
                replace aH := ak (blk_below aH.out hb)
                replace HB := ak (below_step (by repeat (first | (with_reducible first | exact HB.out | apply ba | apply bn | apply bd | refine bs ?_ aP.out | refine bs ?_ aQ.out | refine bs ?_ aY.out) | exact HB.out)) hb)
                clear hb fC
                refine hK.out _ _ ⟨(blk_cell aD.out 0).trans rfl, (blk_cell aD.out 1).trans rfl, (blk_cell aD.out 2).trans rfl, (blk_cell aD.out 3).trans rfl, (blk_cell aH.out 0).trans rfl, (blk_cell aH.out 1).trans rfl, (blk_cell aH.out 2).trans rfl⟩ (fun hHeld => ?_)
                clear hK K
                refine norm_ (a' := ?_) ?_ ?_
                rotate_left
                ·show Act.put _ (some 73) _ = _
                 simp only [Act.put, List.setIfInBounds_toArray, List.set_cons_zero, List.set_cons_succ, i64_w, i32_w]
                 rfl
                exact norm_ (by simp only [putAll, Act.put, List.setIfInBounds_toArray, List.set_cons_zero, List.set_cons_succ]) (hCont (eT, dE, cC) _ ⟨hHeld, (pR (Kd.R_mono bH.out (fun _ hk => ⟨hk.1.1, ⟨hk.2, hk.1.2⟩⟩))), (pR (Kd.R_mono a9.out (fun _ hk => ⟨hk.1.1.1, ⟨hk.1.2, hk.2⟩⟩))), (pV (Kd.V_mono aA.out (fun _ hk => ⟨hk.1.1.1, ⟨hk.1.2, ⟨hk.2, ⟨hk.1.1.2.1, ⟨hk.1.1.2.2.1, hk.1.1.2.2.2⟩⟩⟩⟩⟩))), (pk aD.out), (pk aI.out), (pk aH.out), (by repeat (first | (with_reducible first | exact HB.out | apply ba | apply bn | apply bd | refine bs ?_ aP.out | refine bs ?_ aQ.out | refine bs ?_ aY.out) | exact HB.out))⟩)
               ·skip
                refine Kd.R_lit_step k38 _ 38 ?hg (N := 73) ?hd (xs := ([(⟨aG, aE, aC⟩ : S38)] : List (S38))) (inner := [.string aG, .string aE, .string aC]) (ok := fun _ => True) (okp := fun _ => True) ?hr ?hp (fun _ hk => hk) trivial (Below.refl _ _) (Nat.le_refl _) (by simp) ?_; (case hd => rfl); (case hg => rfl); (case hr => first | (go_simp; done) | (go_simp; rfl)); (case hp => exact (Reps.c3 (show Kd.M k38 _ _ _ (⟨aG, aE, aC⟩ : S38) [.string aG, .string aE, .string aC] from (k38_mkM _ _ _ (⟨aG, aE, aC⟩ : S38) )) (Reps.none _ _)))
                intro cC rA bK hb hg_ hnew_
                clear hg_ hnew_
                (first | rw [← dG.out] at bK | (simp only [Int.reduceToNat] at bK; rw [← dG.out] at bK))
                have a9 := ak (Kd.R_lower (Kd.R_newB (Kd.R_new' (Kd.R_newM (M := fun k_ => (w.heap.size ≤ k_)) bK (below_size (by repeat (first | (with_reducible first | exact HB.out | apply ba | apply bn | apply bd | refine bs ?_ aP.out | refine bs ?_ aQ.out | refine bs ?_ aY.out) | exact HB.out))) (fun k_ h_ => h_)) (Kd.R_lt (pR bF.out))) (g := aJ) (o := .cells #[.string aG, .string aE, .string aC] 38 (0, 0)) (pk aH.out)) (below_size (by repeat (first | (with_reducible first | exact HB.out | apply ba | apply bn | apply bd | refine bs ?_ aP.out | refine bs ?_ aQ.out | refine bs ?_ aY.out) | exact HB.out))))
                replace aA := ak (Kd.V_elder' (pV aA.out) (Kd.R_base bK) hb)
                replace bF := ak (Kd.R_elder' (pR bF.out) (Kd.R_base bK) hb)
                replace aD := ak (blk_below aD.out hb)
                replace aI := ak (blk_below aI.out hb)
                replace aH := ak (blk_below aH.out hb)
                replace HB := ak (below_step (by repeat (first | (with_reducible first | exact HB.out | apply ba | apply bn | apply bd | refine bs ?_ aP.out | refine bs ?_ aQ.out | refine bs ?_ aY.out) | exact HB.out)) hb)
                clear hb bK
                refine hK.out _ _ ⟨(blk_cell aD.out 0).trans rfl, (blk_cell aD.out 1).trans rfl, (blk_cell aD.out 2).trans rfl, (blk_cell aD.out 3).trans rfl, (blk_cell aH.out 0).trans rfl, (blk_cell aH.out 1).trans rfl, (blk_cell aH.out 2).trans rfl⟩ (fun hHeld => ?_)
                clear hK K
                refine norm_ (a' := ?_) ?_ ?_
                rotate_left
                ·show Act.put _ (some 73) _ = _
                 simp only [Act.put, List.setIfInBounds_toArray, List.set_cons_zero, List.set_cons_succ, i64_w, i32_w]
                 rfl
                refine one_ (i := 3) (N := some 71) #[true, true, true, true, true, true, false, false, false] rfl rfl (one_of HT_.out (by kernel_rfl)) (by decide) (fun K hK => ?_)
                refine Kd.R_append_rows_step k38 (w0 := w) w.heap.size (by rfl) (.tmp 68) (.tmp 70) 31 38 (.agg #[(.string ⟨#[]⟩), (.string ⟨#[]⟩), (.string ⟨#[]⟩)]) 48 rfl Try.underlying31 info38 rfl (by decide) (by omega) eT y362 aW _ _ _ (fun k_ => (w.heap.size ≤ k_) ∧ some k_ ≠ (cC : Value).ownBlock ∧ k_ ≠ aJ) (fun _ => False) rfl rfl ?aO ?aR (fun _ _ h => h) (fun _ h => h.elim) ?aF ?aB ?aS ?aL ?_
                (case aR => repeat (first | exact (Kd.V_reads' aA.out).2.2 | (with_reducible refine Kd.C_alloc ?_ _) | (with_reducible refine Kd.C_drewN ?_ _) | (with_reducible refine Kd.C_drew ?_)))
                (case aB => exact (by repeat (first | (with_reducible first | exact HB.out | apply ba | apply bn | apply bd | refine bs ?_ aP.out | refine bs ?_ aQ.out | refine bs ?_ aY.out) | exact HB.out)))
                (case aF => exact (fun k_ hk => ⟨(Nat.le_trans (below_size (by repeat (first | (with_reducible first | exact HB.out | apply ba | apply bn | apply bd | refine bs ?_ aP.out | refine bs ?_ aQ.out | refine bs ?_ aY.out) | exact HB.out))) hk), Kd.fresh' (Kd.R_lt (pR a9.out)) k_ hk, Kd.freshB (g := aJ) (o := .cells #[.string aG, .string aE, .string aC] 38 (0, 0)) (pk aH.out) k_ hk⟩))
                (case aO => exact (pR (Kd.R_mono bF.out (fun _ hk => ⟨hk.1.1.1, ⟨hk.2, hk.1.2⟩⟩))))
                (case aS => exact (below_size (by repeat (first | (with_reducible first | exact HB.out | apply ba | apply bn | apply bd | refine bs ?_ aP.out | refine bs ?_ aQ.out | refine bs ?_ aY.out) | exact HB.out))))
                (case aL => have := g3.out; omega)
                intro dE sK ho hb hg hat
                rw [← g4.out] at ho
                have n0_ := ak (Kd.V_afterv (ok := (fun k_ => (a8 k_ ∨ w.heap.size ≤ k_) ∧ some k_ ≠ (cC : Value).ownBlock ∧ k_ ≠ aM ∧ k_ ≠ aN ∧ k_ ≠ aJ)) (pV (Kd.V_mono aA.out (fun _ hk => ⟨⟨hk.1.1.1, ⟨hk.2, ⟨hk.1.1.2.1, ⟨hk.1.1.2.2.1, hk.1.1.2.2.2⟩⟩⟩⟩, hk.1.2⟩))) hg hat)
                have n1_ := ak (blk_grown (g := aM) (o := .cells #[.slice bA aW.length bB, .int .i64 a0, .int .i64 a3, .bool false] 33 (0, 0)) (pk aD.out) hg (Kd.R_ne bF.out aD.out (by decide)))
                have n2_ := ak (blk_grown (g := aN) (o := .cells #[.slice none 0 0, .int .i64 0, .int .i64 0, .bool false] 33 (0, 0)) (pk aI.out) hg (Kd.R_ne bF.out aI.out (by decide)))
                have n3_ := ak (blk_grown (g := aJ) (o := .cells #[.string aG, .string aE, .string aC] 38 (0, 0)) (pk aH.out) hg (Kd.R_away bF.out (fun _ hk => hk.1.2)))
                have n4_ := ak (Kd.R_after (ok := (fun k_ => (w.heap.size ≤ k_) ∧ k_ ≠ aJ)) (pR (Kd.R_mono a9.out (fun _ hk => ⟨⟨hk.1.1.1, hk.2⟩, hk.1.2⟩))) hg hat)
                have n5_ := ak (hb)
                have n6_ := ak (ho)
                clear aA
                clear aD
                clear aI
                clear aH
                clear a9
                clear HB
                clear bF
                have aA := n0_
                have aD := n1_
                have aI := n2_
                have aH := n3_
                have a9 := n4_
                have HB := n5_
                have bH := n6_
                clear n0_ n1_ n2_ n3_ n4_ n5_ n6_
                clear ho hb hg hat
                refine hK.out _ _ ⟨(blk_cell aD.out 0).trans rfl, (blk_cell aD.out 1).trans rfl, (blk_cell aD.out 2).trans rfl, (blk_cell aD.out 3).trans rfl, (blk_cell aH.out 0).trans rfl, (blk_cell aH.out 1).trans rfl, (blk_cell aH.out 2).trans rfl⟩ (fun hHeld => ?_)
                clear hK K
                refine norm_ (a' := ?_) ?_ ?_
                rotate_left
                ·show Act.put _ (some 71) _ = _
                 simp only [Act.put, List.setIfInBounds_toArray, List.set_cons_zero, List.set_cons_succ, i64_w, i32_w]
                 rfl
                exact norm_ (by simp only [putAll, Act.put, List.setIfInBounds_toArray, List.set_cons_zero, List.set_cons_succ]) (hCont (eT, dE, cC) _ ⟨hHeld, (pR bH.out), (pR (Kd.R_mono a9.out (fun _ hk => ⟨hk.1.1, ⟨hk.2, hk.1.2⟩⟩))), (pV (Kd.V_mono aA.out (fun _ hk => ⟨hk.1.1, ⟨hk.2, ⟨hk.1.2.1, ⟨hk.1.2.2.1, ⟨hk.1.2.2.2.1, hk.1.2.2.2.2⟩⟩⟩⟩⟩))), (pk aD.out), (pk aI.out), (pk aH.out), (by repeat (first | (with_reducible first | exact HB.out | apply ba | apply bn | apply bd | refine bs ?_ aP.out | refine bs ?_ aQ.out | refine bs ?_ aY.out) | exact HB.out))⟩)
              ·skip
               refine Kd.R_lit_step k38 _ 38 ?hg (N := 73) ?hd (xs := ([(⟨aG, aE, aC⟩ : S38)] : List (S38))) (inner := [.string aG, .string aE, .string aC]) (ok := fun _ => True) (okp := fun _ => True) ?hr ?hp (fun _ hk => hk) trivial (Below.refl _ _) (Nat.le_refl _) (by simp) ?_; (case hd => rfl); (case hg => rfl); (case hr => first | (go_simp; done) | (go_simp; rfl)); (case hp => exact (Reps.c3 (show Kd.M k38 _ _ _ (⟨aG, aE, aC⟩ : S38) [.string aG, .string aE, .string aC] from (k38_mkM _ _ _ (⟨aG, aE, aC⟩ : S38) )) (Reps.none _ _)))
               intro cC sJ cB hb hg_ hnew_
               clear hg_ hnew_
               (first | rw [← dG.out] at cB | (simp only [Int.reduceToNat] at cB; rw [← dG.out] at cB))
               have a9 := ak (Kd.R_lower (Kd.R_newB (Kd.R_newM (M := fun k_ => (w.heap.size ≤ k_)) cB (below_size (by repeat (first | (with_reducible first | exact HB.out | apply ba | apply bn | apply bd | refine bs ?_ aP.out | refine bs ?_ aQ.out | refine bs ?_ aY.out) | exact HB.out))) (fun k_ h_ => h_)) (g := aJ) (o := .cells #[.string aG, .string aE, .string aC] 38 (0, 0)) (pk aH.out)) (below_size (by repeat (first | (with_reducible first | exact HB.out | apply ba | apply bn | apply bd | refine bs ?_ aP.out | refine bs ?_ aQ.out | refine bs ?_ aY.out) | exact HB.out))))
               replace aA := ak (Kd.V_elder' (pV aA.out) (Kd.R_base cB) hb)
               replace aD := ak (blk_below aD.out hb)
               replace aI := ak (blk_below aI.out hb)
               replace aH := ak (blk_below aH.out hb)
               replace HB := ak (below_step (by repeat (first | (with_reducible first | exact HB.out | apply ba | apply bn | apply bd | refine bs ?_ aP.out | refine bs ?_ aQ.out | refine bs ?_ aY.out) | exact HB.out)) hb)
               clear hb cB
               refine hK.out _ _ ⟨(blk_cell aD.out 0).trans rfl, (blk_cell aD.out 1).trans rfl, (blk_cell aD.out 2).trans rfl, (blk_cell aD.out 3).trans rfl, (blk_cell aH.out 0).trans rfl, (blk_cell aH.out 1).trans rfl, (blk_cell aH.out 2).trans rfl⟩ (fun hHeld => ?_)
               clear hK K
               refine norm_ (a' := ?_) ?_ ?_
               rotate_left
               ·show Act.put _ (some 73) _ = _
                simp only [Act.put, List.setIfInBounds_toArray, List.set_cons_zero, List.set_cons_succ, i64_w, i32_w]
                rfl
               refine one_ (i := 0) (N := some 68) #[true, true, true, false, true, true, false, false, false] rfl rfl (one_of HT_.out (by kernel_rfl)) (by decide) (fun K hK => ?_)
               refine Kd.R_lit_step k38 _ 38 ?hg (N := 68) ?hd (xs := ([] : List (S38))) (inner := []) (ok := fun _ => True) (okp := fun _ => True) ?hr ?hp (fun _ hk => hk) trivial (Below.refl _ _) (Nat.le_refl _) (by simp) ?_; (case hd => rfl); (case hg => rfl); (case hr => first | (go_simp; done) | (go_simp; rfl)); (case hp => exact (Reps.none _ _))
               intro eT rA bK hb hg_ hnew_
               clear hg_ hnew_
               (first | rw [← gF.out] at bK | (simp only [Int.reduceToNat] at bK; rw [← gF.out] at bK))
               have bF := ak (Kd.R_lower (Kd.R_newB (Kd.R_new' (Kd.R_newM (M := fun k_ => (w.heap.size ≤ k_)) bK (below_size (by repeat (first | (with_reducible first | exact HB.out | apply ba | apply bn | apply bd | refine bs ?_ aP.out | refine bs ?_ aQ.out | refine bs ?_ aY.out) | exact HB.out))) (fun k_ h_ => h_)) (Kd.R_lt (pR a9.out))) (g := aJ) (o := .cells #[.string aG, .string aE, .string aC] 38 (0, 0)) (pk aH.out)) (below_size (by repeat (first | (with_reducible first | exact HB.out | apply ba | apply bn | apply bd | refine bs ?_ aP.out | refine bs ?_ aQ.out | refine bs ?_ aY.out) | exact HB.out))))
               replace aA := ak (Kd.V_elder' (pV aA.out) (Kd.R_base bK) hb)
               replace a9 := ak (Kd.R_elder' (pR a9.out) (Kd.R_base bK) hb)
               replace aD := ak (blk_below aD.out hb)
               replace aI := ak (blk_below aI.out hb)
               replace aH := ak (blk_below aH.out hb)
               replace HB := ak (below_step (by repeat (first | (with_reducible first | exact HB.out | apply ba | apply bn | apply bd | refine bs ?_ aP.out | refine bs ?_ aQ.out | refine bs ?_ aY.out) | exact HB.out)) hb)
               clear hb bK
               refine hK.out _ _ ⟨(blk_cell aD.out 0).trans rfl, (blk_cell aD.out 1).trans rfl, (blk_cell aD.out 2).trans rfl, (blk_cell aD.out 3).trans rfl, (blk_cell aH.out 0).trans rfl, (blk_cell aH.out 1).trans rfl, (blk_cell aH.out 2).trans rfl⟩ (fun hHeld => ?_)
               clear hK K
               refine norm_ (a' := ?_) ?_ ?_
               rotate_left
               ·show Act.put _ (some 68) _ = _
                simp only [Act.put, List.setIfInBounds_toArray, List.set_cons_zero, List.set_cons_succ, i64_w, i32_w]
                rfl
               refine one_ (i := 3) (N := some 71) #[true, true, true, true, true, true, false, false, false] rfl rfl (one_of HT_.out (by kernel_rfl)) (by decide) (fun K hK => ?_)
               refine Kd.R_append_rows_step k38 (w0 := w) w.heap.size (by rfl) (.tmp 68) (.tmp 70) 31 38 (.agg #[(.string ⟨#[]⟩), (.string ⟨#[]⟩), (.string ⟨#[]⟩)]) 48 rfl Try.underlying31 info38 rfl (by decide) (by omega) eT y362 aW _ _ _ (fun k_ => (w.heap.size ≤ k_) ∧ some k_ ≠ (cC : Value).ownBlock ∧ k_ ≠ aJ) (fun _ => False) rfl rfl ?aO ?aR (fun _ _ h => h) (fun _ h => h.elim) ?aF ?aB ?aS ?aL ?_
               (case aR => repeat (first | exact (Kd.V_reads' aA.out).2.2 | (with_reducible refine Kd.C_alloc ?_ _) | (with_reducible refine Kd.C_drewN ?_ _) | (with_reducible refine Kd.C_drew ?_)))
               (case aB => exact (by repeat (first | (with_reducible first | exact HB.out | apply ba | apply bn | apply bd | refine bs ?_ aP.out | refine bs ?_ aQ.out | refine bs ?_ aY.out) | exact HB.out)))
               (case aF => exact (fun k_ hk => ⟨(Nat.le_trans (below_size (by repeat (first | (with_reducible first | exact HB.out | apply ba | apply bn | apply bd | refine bs ?_ aP.out | refine bs ?_ aQ.out | refine bs ?_ aY.out) | exact HB.out))) hk), Kd.fresh' (Kd.R_lt (pR a9.out)) k_ hk, Kd.freshB (g := aJ) (o := .cells #[.string aG, .string aE, .string aC] 38 (0, 0)) (pk aH.out) k_ hk⟩))
               (case aO => exact (pR (Kd.R_mono bF.out (fun _ hk => ⟨hk.1.1.1, ⟨hk.1.2, hk.2⟩⟩))))
               (case aS => exact (below_size (by repeat (first | (with_reducible first | exact HB.out | apply ba | apply bn | apply bd | refine bs ?_ aP.out | refine bs ?_ aQ.out | refine bs ?_ aY.out) | exact HB.out))))
               (case aL => have := g3.out; omega)
               intro dE sK ho hb hg hat
               rw [← g4.out] at ho
               have n0_ := ak (Kd.V_afterv (ok := (fun k_ => (a8 k_ ∨ w.heap.size ≤ k_) ∧ some k_ ≠ (cC : Value).ownBlock ∧ k_ ≠ aM ∧ k_ ≠ aN ∧ k_ ≠ aJ)) (pV (Kd.V_mono aA.out (fun _ hk => ⟨⟨hk.1.1.1, ⟨hk.1.2, ⟨hk.1.1.2.1, ⟨hk.1.1.2.2.1, hk.1.1.2.2.2⟩⟩⟩⟩, hk.2⟩))) hg hat)
               have n1_ := ak (blk_grown (g := aM) (o := .cells #[.slice bA aW.length bB, .int .i64 a0, .int .i64 a3, .bool false] 33 (0, 0)) (pk aD.out) hg (Kd.R_ne bF.out aD.out (by decide)))
               have n2_ := ak (blk_grown (g := aN) (o := .cells #[.slice none 0 0, .int .i64 0, .int .i64 0, .bool false] 33 (0, 0)) (pk aI.out) hg (Kd.R_ne bF.out aI.out (by decide)))
               have n3_ := ak (blk_grown (g := aJ) (o := .cells #[.string aG, .string aE, .string aC] 38 (0, 0)) (pk aH.out) hg (Kd.R_away bF.out (fun _ hk => hk.2)))
               have n4_ := ak (Kd.R_after (ok := (fun k_ => (w.heap.size ≤ k_) ∧ k_ ≠ aJ)) (pR (Kd.R_mono a9.out (fun _ hk => ⟨⟨hk.1.1.1, hk.1.2⟩, hk.2⟩))) hg hat)
               have n5_ := ak (hb)
               have n6_ := ak (ho)
               clear aA
               clear aD
               clear aI
               clear aH
               clear a9
               clear HB
               clear bF
               have aA := n0_
               have aD := n1_
               have aI := n2_
               have aH := n3_
               have a9 := n4_
               have HB := n5_
               have bH := n6_
               clear n0_ n1_ n2_ n3_ n4_ n5_ n6_
               clear ho hb hg hat
               refine hK.out _ _ ⟨(blk_cell aD.out 0).trans rfl, (blk_cell aD.out 1).trans rfl, (blk_cell aD.out 2).trans rfl, (blk_cell aD.out 3).trans rfl, (blk_cell aH.out 0).trans rfl, (blk_cell aH.out 1).trans rfl, (blk_cell aH.out 2).trans rfl⟩ (fun hHeld => ?_)
               clear hK K
               refine norm_ (a' := ?_) ?_ ?_
               rotate_left
               ·show Act.put _ (some 71) _ = _
                simp only [Act.put, List.setIfInBounds_toArray, List.set_cons_zero, List.set_cons_succ, i64_w, i32_w]
                rfl
               exact norm_ (by simp only [putAll, Act.put, List.setIfInBounds_toArray, List.set_cons_zero, List.set_cons_succ]) (hCont (eT, dE, cC) _ ⟨hHeld, (pR bH.out), (pR (Kd.R_mono a9.out (fun _ hk => ⟨hk.1.1, ⟨hk.2, hk.1.2⟩⟩))), (pV (Kd.V_mono aA.out (fun _ hk => ⟨hk.1.1, ⟨hk.2, ⟨hk.1.2.1, ⟨hk.1.2.2.1, ⟨hk.1.2.2.2.1, hk.1.2.2.2.2⟩⟩⟩⟩⟩))), (pk aD.out), (pk aI.out), (pk aH.out), (by repeat (first | (with_reducible first | exact HB.out | apply ba | apply bn | apply bd | refine bs ?_ aP.out | refine bs ?_ aQ.out | refine bs ?_ aY.out) | exact HB.out))⟩)
             rintro ⟨eT, dE, cC⟩ gG ⟨hS_, rB, rC, rD, rE, rF, rG, rH⟩
             have n0_ : Aside0 (Kd.R k38 38 gG w.heap.size (fun k_ => (w.heap.size ≤ k_) ∧ some k_ ≠ (cC : Value).ownBlock ∧ k_ ≠ aJ) dE y365) := ⟨rB⟩
             have n1_ : Aside0 (Kd.R k38 38 gG w.heap.size (fun k_ => (w.heap.size ≤ k_) ∧ some k_ ≠ (dE : Value).ownBlock ∧ k_ ≠ aJ) cC y368) := ⟨rC⟩
             have n2_ : Aside0 (Kd.V k38 38 gG w.heap.size (fun k_ => (a8 k_ ∨ w.heap.size ≤ k_) ∧ some k_ ≠ (dE : Value).ownBlock ∧ some k_ ≠ (cC : Value).ownBlock ∧ k_ ≠ aM ∧ k_ ≠ aN ∧ k_ ≠ aJ) (.slice bA aW.length bB) aW) := ⟨rD⟩
             have n3_ : Aside0 (gG.heap[aM]? = some (.cells #[.slice bA aW.length bB, .int .i64 a0, .int .i64 a3, .bool false] 33 (0, 0))) := ⟨rE⟩
             have n4_ : Aside0 (gG.heap[aN]? = some (.cells #[.slice none 0 0, .int .i64 0, .int .i64 0, .bool false] 33 (0, 0))) := ⟨rF⟩
             have n5_ : Aside0 (gG.heap[aJ]? = some (.cells #[.string aG, .string aE, .string aC] 38 (0, 0))) := ⟨rG⟩
             have n6_ : Aside0 (Below w.heap.size w gG) := ⟨rH⟩
             clear aA
             clear aD
             clear aI
             clear aH
             clear HB
             clear rB rC rD rE rF rG rH
             have bH := n0_
             have a9 := n1_
             have aA := n2_
             have aD := n3_
             have aI := n4_
             have aH := n5_
             have HB := n6_
             clear n0_ n1_ n2_ n3_ n4_ n5_ n6_
             have hHeld : gG.cell? ⟨aM, 0, none⟩ = some (.slice bA aW.length bB) ∧ gG.cell? ⟨aM, 1, none⟩ = some (.int .i64 a0) ∧ gG.cell? ⟨aM, 2, none⟩ = some (.int .i64 a3) ∧ gG.cell? ⟨aM, 3, none⟩ = some (.bool false) ∧ gG.cell? ⟨aJ, 0, none⟩ = some (.string aG) ∧ gG.cell? ⟨aJ, 1, none⟩ = some (.string aE) ∧ gG.cell? ⟨aJ, 2, none⟩ = some (.string aC) := hS_
             obtain ⟨i4, i5, i6⟩ := Kd.R_slice a9.out
             (first | subst i6 | (injection i6 with f1_ f2_ f3_; have oU := f1_.symm; have oV := f3_.symm; clear f1_ f2_ f3_; subst oU; subst oV))
             refine norm_ (a' := ?_) ?_ ?_
             rotate_left
             ·simp only [putAll, Act.put, List.setIfInBounds_toArray, List.set_cons_zero, List.set_cons_succ]
              rfl
             refine one_ (i := 6) (N := some 74) #[true, true, true, true, true, true, true, false, false] rfl rfl (one_of HT_.out (by kernel_rfl)) (by decide) (fun K hK => ?_)
             refine Kd.R_append_rows_step k38 (w0 := w) w.heap.size (by rfl) (.tmp 71) (.tmp 73) 31 38 (.agg #[(.string ⟨#[]⟩), (.string ⟨#[]⟩), (.string ⟨#[]⟩)]) 48 rfl Try.underlying31 info38 rfl (by decide) (by omega) dE y365 y368 _ _ _ (fun k_ => (w.heap.size ≤ k_) ∧ some k_ ≠ (.slice i4 y368.length i5 : Value).ownBlock ∧ k_ ≠ aJ) (fun _ => False) rfl rfl ?aO ?aR (fun _ _ h => h) (fun _ h => h.elim) ?aF ?aB ?aS ?aL ?_
             (case aR => repeat (first | exact (Kd.R_reads' a9.out).2.2 | (with_reducible refine Kd.C_alloc ?_ _) | (with_reducible refine Kd.C_drewN ?_ _) | (with_reducible refine Kd.C_drew ?_)))
             (case aB => exact (by repeat (first | (with_reducible first | exact HB.out | apply ba | apply bn | apply bd | refine bs ?_ aP.out | refine bs ?_ aQ.out | refine bs ?_ aY.out) | exact HB.out)))
             (case aF => exact (fun k_ hk => ⟨(Nat.le_trans (below_size (by repeat (first | (with_reducible first | exact HB.out | apply ba | apply bn | apply bd | refine bs ?_ aP.out | refine bs ?_ aQ.out | refine bs ?_ aY.out) | exact HB.out))) hk), Kd.fresh' (Kd.R_lt (pR a9.out)) k_ hk, Kd.freshB (g := aJ) (o := .cells #[.string aG, .string aE, .string aC] 38 (0, 0)) (pk aH.out) k_ hk⟩))
             (case aO => exact (pR bH.out))
             (case aS => exact (below_size (by repeat (first | (with_reducible first | exact HB.out | apply ba | apply bn | apply bd | refine bs ?_ aP.out | refine bs ?_ aQ.out | refine bs ?_ aY.out) | exact HB.out))))
             (case aL => have := i2.out; omega)
             intro sL sM ho hb hg hat
             rw [← i3.out] at ho
             have n0_ := ak (Kd.V_afterv (ok := (fun k_ => (a8 k_ ∨ w.heap.size ≤ k_) ∧ some k_ ≠ (.slice i4 y368.length i5 : Value).ownBlock ∧ k_ ≠ aM ∧ k_ ≠ aN ∧ k_ ≠ aJ)) (pV (Kd.V_mono aA.out (fun _ hk => ⟨⟨hk.1, ⟨hk.2.2.1, ⟨hk.2.2.2.1, ⟨hk.2.2.2.2.1, hk.2.2.2.2.2⟩⟩⟩⟩, hk.2.1⟩))) hg hat)
             have n1_ := ak (blk_grown (g := aM) (o := .cells #[.slice bA aW.length bB, .int .i64 a0, .int .i64 a3, .bool false] 33 (0, 0)) (pk aD.out) hg (Kd.R_ne bH.out aD.out (by decide)))
             have n2_ := ak (blk_grown (g := aN) (o := .cells #[.slice none 0 0, .int .i64 0, .int .i64 0, .bool false] 33 (0, 0)) (pk aI.out) hg (Kd.R_ne bH.out aI.out (by decide)))
             have n3_ := ak (blk_grown (g := aJ) (o := .cells #[.string aG, .string aE, .string aC] 38 (0, 0)) (pk aH.out) hg (Kd.R_away bH.out (fun _ hk => hk.2.2)))
             have n4_ := ak (Kd.R_after (ok := (fun k_ => (w.heap.size ≤ k_) ∧ k_ ≠ aJ)) (pR (Kd.R_mono a9.out (fun _ hk => ⟨⟨hk.1, hk.2.2⟩, hk.2.1⟩))) hg hat)
             have n5_ := ak (hb)
             have n6_ := ak (ho)
             clear aA
             clear aD
             clear aI
             clear aH
             clear a9
             clear HB
             clear bH
             have aA := n0_
             have aD := n1_
             have aI := n2_
             have aH := n3_
             have a9 := n4_
             have HB := n5_
             have h7 := n6_
             clear n0_ n1_ n2_ n3_ n4_ n5_ n6_
             clear ho hb hg hat
             obtain ⟨i7, i8, i9⟩ := Kd.R_slice h7.out
             (first | subst i9 | (injection i9 with f1_ f2_ f3_; have oU := f1_.symm; have oV := f3_.symm; clear f1_ f2_ f3_; subst oU; subst oV))
             refine hK.out _ _ ⟨(blk_cell aD.out 0).trans rfl, (blk_cell aD.out 1).trans rfl, (blk_cell aD.out 2).trans rfl, (blk_cell aD.out 3).trans rfl, (blk_cell aH.out 0).trans rfl, (blk_cell aH.out 1).trans rfl, (blk_cell aH.out 2).trans rfl⟩ (fun hHeld => ?_)
             clear hK K
             refine norm_ (a' := ?_) ?_ ?_
             rotate_left
             ·show Act.put _ (some 74) _ = _
              simp only [Act.put, List.setIfInBounds_toArray, List.set_cons_zero, List.set_cons_succ, i64_w, i32_w]
              rfl
             refine pure_ (i := 7) (N := some 75) (v := ?_) (a' := ?_) #[true, true, true, true, true, true, true, true, false] rfl rfl (any_of HT_.out (by kernel_rfl)) (fun _ _ _ h => h) (Or.inl ⟨by rfl, ?_⟩) ?_ ?_
             rotate_left
             ·intro w'
              go_simp
              with_reducible rfl
             rotate_left
             ·simp only [Act.put, List.setIfInBounds_toArray, List.set_cons_zero, List.set_cons_succ, i64_w, i32_w]
              rfl
             refine last_ (i := 8) (N := none) #[true, true, true, true, true, true, true, true, true] rfl rfl (one_of HT_.out (by kernel_rfl)) (by decide) (fun K hK => ?_)
             have sN : sM.cell? ⟨aM, 0, none⟩ = some (.slice bA aW.length bB) := (blk_cell aD.out 0).trans rfl
             have rI := blk_frozen aD.out 0
             have oP := aT.out
             have oQ := aX.out
             have oR := aV.out
             have oS := aZ.out
             refine skip_ (w1 := ?_) (by rfl) rfl ?_ ?_
             rotate_left
             ·go_simp
              rfl
             refine hK.out _ _ ?_
             clear hK K
             refine done_ (done_of HT_.out (by kernel_rfl)) ?_
             try go_wp2
             go_meet
             case rel => exact ⟨_, ((aW.length : Int)), (y371), (.slice i7 y371.length i8), (by first | rfl | (simp; done) | (simp [*]; done)), H', ⟨by have := dB.out; have := eS.out; have := gX.out; first | omega | exact Nat.le_refl _⟩, ⟨Kd.V_mono (Kd.R_V (pR (Kd.R_mono (Kd.R_far (p := ⟨aM, 0, none⟩) (Kd.R_types (Kd.R_types (Kd.R_types h7.out aD.out (by decide)) aI.out (by decide)) aD.out (by decide)) (fun _ hk => hk.2) (.slice i7 y371.length i8)) (fun _ hk => And.intro (hk.1.1.1.1) (And.intro (hk.1.1.2) (And.intro (hk.1.2) (hk.1.1.1.2.2))))))) (fun k_ hk => by first | exact ⟨(.inr (hk.1)), hk.2⟩ | exact (.inr (hk)))⟩, ⟨by (with_reducible repeat (first | refine blk_drewN ?_ _ | refine blk_drew ?_ | refine blk_alloc ?_ _)); exact blk_put (pk aD.out) 0 _ rfl⟩, ⟨by (with_reducible repeat (first | refine blk_drewN ?_ _ | refine blk_drew ?_ | refine blk_alloc ?_ _)); exact blk_far (pk aI.out) aT.out _⟩, ⟨by (with_reducible repeat (first | refine blk_drewN ?_ _ | refine blk_drew ?_ | refine blk_alloc ?_ _)); exact blk_far (pk aH.out) aX.out _⟩, ⟨by repeat (first | (with_reducible first | exact HB.out | apply ba | apply bn | apply bd | refine bs ?_ aP.out | refine bs ?_ aQ.out | refine bs ?_ aY.out) | exact HB.out)⟩⟩
            ·rw [if_neg hU] at H
             have cE : decide (a7 < 0) = false := decide_eq_false hU
             clear hU
             (first | rw [cE] | (simp only [i64_w, i32_w]; rw [cE]) | skip)
             have H' := ak H
             clear H
             go_wp2
             go_meet
             case rel => exact ⟨_, (a7), (aW), (.slice bA aW.length bB), (by first | rfl | (simp; done) | (simp [*]; done)), H', ⟨by have := dB.out; have := eS.out; have := gX.out; first | omega | exact Nat.le_refl _⟩, ⟨pV aA.out⟩, ⟨pk aD.out⟩, ⟨pk aI.out⟩, ⟨pk aH.out⟩, ⟨by repeat (first | (with_reducible first | exact HB.out | apply ba | apply bn | apply bd | refine bs ?_ aP.out | refine bs ?_ aQ.out | refine bs ?_ aY.out) | exact HB.out)⟩⟩
           case rest =>
            clear iI
            try clear p2 c3 p3 q3 hx3 c5 c6 p6 c7 p36 q36 hx36 hT gE c56 c57 c59 c64 p64 c65 hU cE iJ iK c70 c71 dR dS dT dX dY dZ d0 d5 d6 d7 d8 eD eE eF eJ eK eL eM bL bM bN bO bP bQ bR bS bT bU bV bW bX bY bZ b0 b1 b2 cH cI cJ cK cL cM cN cO cP cQ cR cS cT cU cV cZ c0 dA dU dV dW d1 d2 d3 d4 d9 eA eB eC eG eH eI eN eO eP eQ b3 b4 b5 b6 b7 b8 b9 cA cW cX cY p2 e9 fA
            obtain ⟨kq, bG, aU, u358000, rfl, HA, hV, aA, aD, aI, aH, HB⟩ := hcut
            cases kq with
            | zero => exact absurd HA.out (by simp [stanchionref03_Append.j3])
            | succ kj62 =>
             have H := HA.out
             clear HA
             simp only [stanchionref03_Append.j3] at H
             have iL := ak H
             clear H
             go_upto_region 17 with (fail)
             go_cut [86] (fun v86 wc => ∃ (kq : Nat) (eR : Bool), v86 = .bool eR ∧ Aside0 (stanchionref03_Append.j4 kq a2 bG (a2.size : Int) eR aU a0 a3 false aG aE aC = some (r1, r2, r3, r4, r5)) ∧ Aside0 (kq ≤ kj62) ∧ Aside0 (Kd.V k38 38 wc w.heap.size (fun k_ => (a8 k_ ∨ w.heap.size ≤ k_) ∧ k_ ≠ aM ∧ k_ ≠ aN ∧ k_ ≠ aJ) u358000 aU) ∧ Aside0 (wc.heap[aM]? = some (.cells #[u358000, .int .i64 a0, .int .i64 a3, .bool false] 33 (0, 0))) ∧ Aside0 (wc.heap[aN]? = some (.cells #[(.slice none 0 0), .int .i64 0, .int .i64 0, .bool false] 33 (0, 0))) ∧ Aside0 (wc.heap[aJ]? = some (.cells #[.string aG, .string aE, .string aC] 38 (0, 0))) ∧ Aside0 (Below w.heap.size w wc))
             case first =>
              have H := iL.out
              clear iL
              by_cases h8 : a3 ≥ 0
              ·rw [if_pos h8] at H
               have dD : decide (0 ≤ a3) = true := decide_eq_true h8
               clear h8
               (first | rw [dD] | (simp only [i64_w, i32_w]; rw [dD]) | skip)
               have H' := ak H
               clear H
               have rJ := aV.out
               have rK := aT.out
               have rL := aZ.out
               have rM := aX.out
               obtain ⟨gH, gI, gJ, gK⟩ := Cb.c4 aD.out
               obtain ⟨gL, gM, gN, gO⟩ := Cb.f4 aD.out
               go_wp2
               go_meet
               case rel => exact ⟨_, (decide (a3 < (a2.size : Int))), (by first | rfl | (simp; done) | (simp [*]; done)), H', ⟨by have := dB.out; have := eS.out; have := gX.out; have := hV.out; first | omega | exact Nat.le_refl _⟩, ⟨pV aA.out⟩, ⟨pk aD.out⟩, ⟨pk aI.out⟩, ⟨pk aH.out⟩, ⟨by repeat (first | (with_reducible first | exact HB.out | apply ba | apply bn | apply bd | refine bs ?_ aP.out | refine bs ?_ aQ.out | refine bs ?_ aY.out) | exact HB.out)⟩⟩
              ·rw [if_neg h8] at H
               have dD : decide (0 ≤ a3) = false := decide_eq_false h8
               clear h8
               (first | rw [dD] | (simp only [i64_w, i32_w]; rw [dD]) | skip)
               have H' := ak H
               clear H
               have rN := aV.out
               have rO := aT.out
               have rP := aZ.out
               have rQ := aX.out
               obtain ⟨gP, gQ, gR, gS⟩ := Cb.c4 aD.out
               obtain ⟨gT, gU, gV, gW⟩ := Cb.f4 aD.out
               go_wp2
               go_meet
               case rel => exact ⟨_, (false), (by first | rfl | (simp; done) | (simp [*]; done)), H', ⟨by have := dB.out; have := eS.out; have := gX.out; have := hV.out; first | omega | exact Nat.le_refl _⟩, ⟨pV aA.out⟩, ⟨pk aD.out⟩, ⟨pk aI.out⟩, ⟨pk aH.out⟩, ⟨by repeat (first | (with_reducible first | exact HB.out | apply ba | apply bn | apply bd | refine bs ?_ aP.out | refine bs ?_ aQ.out | refine bs ?_ aY.out) | exact HB.out)⟩⟩
             case rest =>
              clear iL
              try clear p2 c3 p3 q3 hx3 c5 c6 p6 c7 c8 c9 p36 q36 hx36 hT gE c56 c57 c59 c64 p64 c65 hU cE iJ iK c70 c71 h8 dD c86 c87 c89 c90 dR dS dT dX dY dZ d0 d5 d6 d7 d8 eD eE eF eJ eK eL eM gH gI gJ gK gP gQ gR gS bL bM bN bO bP bQ bR bS bT bU bV bW bX bY bZ b0 b1 b2 cH cI cJ cK cL cM cN cO cP cQ cR cS cT cU cV cZ c0 dA dU dV dW d1 d2 d3 d4 d9 eA eB eC eG eH eI eN eO eP eQ gL gM gN gO b3 b4 b5 b6 gT gU gV gW b7 b8 b9 cA cW cX cY p2 p3 p36 e9 p6 p64 q3 q36 fA
              obtain ⟨kq, eR, rfl, HA, jA, aA, aD, aI, aH, HB⟩ := hcut
              cases kq with
              | zero => exact absurd HA.out (by simp [stanchionref03_Append.j4])
              | succ kj83 =>
               have H := HA.out
               clear HA
               simp only [stanchionref03_Append.j4] at H
               have iM := ak H
               clear H
               go_upto_if 86 with (fail)
               go_cut [10] (fun v10 wc => ∃ (kq : Nat) (aK : Int), v10 = .int .i64 aK ∧ Aside0 (stanchionref03_Append.j5 kq a2 bG aK aU a0 a3 false aG aE aC = some (r1, r2, r3, r4, r5)) ∧ Aside0 (kq ≤ kj83) ∧ Aside0 (Kd.V k38 38 wc w.heap.size (fun k_ => (a8 k_ ∨ w.heap.size ≤ k_) ∧ k_ ≠ aM ∧ k_ ≠ aN ∧ k_ ≠ aJ) u358000 aU) ∧ Aside0 (wc.heap[aM]? = some (.cells #[u358000, .int .i64 a0, .int .i64 a3, .bool false] 33 (0, 0))) ∧ Aside0 (wc.heap[aN]? = some (.cells #[(.slice none 0 0), .int .i64 0, .int .i64 0, .bool false] 33 (0, 0))) ∧ Aside0 (wc.heap[aJ]? = some (.cells #[.string aG, .string aE, .string aC] 38 (0, 0))) ∧ Aside0 (Below w.heap.size w wc))
               case first =>
                have H := iM.out
                clear iM
                by_cases jB : eR = true
                ·subst jB
                 have H1 : (stanchionref03_Append.j5 kj83 a2 bG a3 aU a0 a3 false aG aE aC) = some (r1, r2, r3, r4, r5) := by rw [if_pos rfl] at H; exact H
                 clear H
                 have H := H1
                 clear H1
                 have H' := ak H
                 clear H
                 have rR := aV.out
                 have rS := aT.out
                 have rT := aZ.out
                 have rU := aX.out
                 obtain ⟨hW, hX, hY, hZ⟩ := Cb.c4 aD.out
                 obtain ⟨h0, h1, h2, h3⟩ := Cb.f4 aD.out
                 go_wp2
                 go_meet
                 case rel => exact ⟨_, (a3), (by first | rfl | (simp; done) | (simp [*]; done)), H', ⟨by have := dB.out; have := eS.out; have := gX.out; have := hV.out; have := jA.out; first | omega | exact Nat.le_refl _⟩, ⟨pV aA.out⟩, ⟨pk aD.out⟩, ⟨pk aI.out⟩, ⟨pk aH.out⟩, ⟨by repeat (first | (with_reducible first | exact HB.out | apply ba | apply bn | apply bd | refine bs ?_ aP.out | refine bs ?_ aQ.out | refine bs ?_ aY.out) | exact HB.out)⟩⟩
                ·replace jB := Bool.eq_false_iff.mpr jB
                 subst jB
                 have H1 : (stanchionref03_Append.j5 kj83 a2 bG (a2.size : Int) aU a0 a3 false aG aE aC) = some (r1, r2, r3, r4, r5) := by rw [if_neg (show ¬ (false = true) by decide)] at H; exact H
                 clear H
                 have H := H1
                 clear H1
                 have H' := ak H
                 clear H
                 go_wp2
                 go_meet
                 case rel => exact ⟨_, ((a2.size : Int)), (by first | rfl | (simp; done) | (simp [*]; done)), H', ⟨by have := dB.out; have := eS.out; have := gX.out; have := hV.out; have := jA.out; first | omega | exact Nat.le_refl _⟩, ⟨pV aA.out⟩, ⟨pk aD.out⟩, ⟨pk aI.out⟩, ⟨pk aH.out⟩, ⟨by repeat (first | (with_reducible first | exact HB.out | apply ba | apply bn | apply bd | refine bs ?_ aP.out | refine bs ?_ aQ.out | refine bs ?_ aY.out) | exact HB.out)⟩⟩
               case rest =>
                clear iM
                try clear p2 c3 p3 q3 hx3 c5 c6 p6 c7 c8 c9 p36 q36 hx36 hT gE c56 c57 c59 c64 p64 c65 hU cE iJ iK c70 c71 h8 dD c86 c87 c89 c90 jB c94 c95 dR dS dT dX dY dZ d0 d5 d6 d7 d8 eD eE eF eJ eK eL eM gH gI gJ gK gP gQ gR gS hW hX hY hZ bL bM bN bO bP bQ bR bS bT bU bV bW bX bY bZ b0 b1 b2 cH cI cJ cK cL cM cN cO cP cQ cR cS cT cU cV cZ c0 dA dU dV dW d1 d2 d3 d4 d9 eA eB eC eG eH eI eN eO eP eQ gL gM gN gO b3 b4 b5 b6 gT gU gV gW h0 h1 h2 h3 b7 b8 b9 cA cW cX cY p2 p3 p36 e9 p6 p64 q3 q36 fA
                obtain ⟨kq, aK, rfl, HA, sO, aA, aD, aI, aH, HB⟩ := hcut
                cases kq with
                | zero => exact absurd HA.out (by simp [stanchionref03_Append.j5])
                | succ kj91 =>
                 have H := HA.out
                 clear HA
                 simp only [stanchionref03_Append.j5] at H
                 have jC : 0 ≤ aK := Decidable.byContradiction fun q => by rw [if_neg q] at H; exact absurd H (by simp)
                 rw [if_pos jC] at H
                 have rV := eq_true jC
                 have rW : decide (0 ≤ aK) = true := decide_eq_true jC
                 clear jC
                 have jD : aK ≤ (a2.size : Int) := Decidable.byContradiction fun q => by rw [if_neg q] at H; exact absurd H (by simp)
                 rw [if_pos jD] at H
                 have rX := eq_true jD
                 have rY : decide (aK ≤ (a2.size : Int)) = true := decide_eq_true jD
                 clear jD
                 have iS : aC.size + (a2.extract 0 (aK : Int).toNat).size ≤ 9223372036854775807 := Decidable.byContradiction fun q => by rw [if_neg q] at H; exact absurd H (by simp)
                 rw [if_pos iS] at H
                 have rZ := eq_true iS
                 have r0 : decide (aC.size + (a2.extract 0 (aK : Int).toNat).size ≤ 9223372036854775807) = true := decide_eq_true iS
                 try have r6 : (9223372036854775807 < aC.size + (a2.extract 0 (aK : Int).toNat).size) = False := eq_false (Nat.not_lt.2 iS)
                 try have r7 : (9223372036854775807 < aC.size + (aK : Int).toNat) = False := eq_false (by have sP := iS; rw [ByteArray.size_extract] at sP; have s7 := of_decide_eq_true (show decide (aK ≤ (a2.size : Int)) = true by assumption); omega)
                 replace H := Option.bind_eq_some_iff.mp H
                 obtain ⟨⟨bD, bE, bC, bJ⟩, h9, H⟩ := H
                 replace H : (if bC ≥ 0 then (if aK < (a2.size : Int) then (some (bD, wrap64 (bE - aK), wrap64 (bC - aK), true, 6)) else (some (bD, wrap64 (bE - aK), wrap64 (bC - aK), bJ, 0))) else (if aK < (a2.size : Int) then (some (bD, wrap64 (bE - aK), bC, true, 6)) else (some (bD, wrap64 (bE - aK), bC, bJ, 0)))) = some (r1, r2, r3, r4, r5) := H
                 have h4 := ak h9
                 clear h9
                 by_cases gY : bC ≥ 0
                 ·rw [if_pos gY] at H
                  have iN : decide (0 ≤ bC) = true := decide_eq_true gY
                  clear gY
                  by_cases gZ : aK < (a2.size : Int)
                  ·rw [if_pos gZ] at H
                   have iO : decide (aK < (a2.size : Int)) = true := decide_eq_true gZ
                   clear gZ
                   simp only [Option.some.injEq, Prod.mk.injEq] at H
                   obtain ⟨rfl, rfl, rfl, rfl, rfl⟩ := H
                   try go_wp2
                   replace aA := ak (Kd.V_drew aA.out)
                   replace aD := ak (blk_drew aD.out)
                   replace aI := ak (blk_drew aI.out)
                   replace aH := ak (blk_drew aH.out)
                   replace HB := ak (below_drew1 HB.out)
                   refine start_ (n := 8) (S := fun w' => w'.cell? ⟨aJ, 0, none⟩ = some (.string aG) ∧ w'.cell? ⟨aJ, 1, none⟩ = some (.string aE) ∧ w'.cell? ⟨aJ, 2, none⟩ = some (.string aC)) (ds := [7]) #[false, false, false, false, false, false, false, false] (by kernel_rfl) rfl rfl ⟨(blk_cell aH.out 0).trans rfl, (blk_cell aH.out 1).trans rfl, (blk_cell aH.out 2).trans rfl⟩ (fun hHeld => ?_); refine with_tabW stanchionref03_Append.tab19 stanchionref03_Append.bits19 (fun HT_ HW_ => ?_)
                   generalize wc.drew = w103 at aA aD aI aH HB hHeld ⊢
                   refine pure_ (i := 0) (N := some 89) (v := ?_) (a' := ?_) #[true, false, false, false, false, false, false, false] rfl rfl (any_of HT_.out (by kernel_rfl)) (fun _ _ _ h => h) (Or.inl ⟨by rfl, ?_⟩) ?_ ?_
                   rotate_left
                   ·intro w'
                    go_simp
                    with_reducible rfl
                   rotate_left
                   ·simp only [Act.put, List.setIfInBounds_toArray, List.set_cons_zero, List.set_cons_succ, i64_w, i32_w]
                    rfl
                   refine pure_ (i := 2) (N := some 91) (v := ?_) (a' := ?_) #[true, false, true, false, false, false, false, false] rfl rfl (any_of HT_.out (by kernel_rfl)) (fun _ _ _ h => h) (Or.inl ⟨by rfl, ?_⟩) ?_ ?_
                   rotate_left
                   ·intro w'
                    go_simp
                    with_reducible rfl
                   rotate_left
                   ·simp only [Act.put, List.setIfInBounds_toArray, List.set_cons_zero, List.set_cons_succ, i64_w, i32_w]
                    rfl
                   refine pure_ (i := 3) (N := some 92) (v := ?_) (a' := ?_) #[true, false, true, true, false, false, false, false] rfl rfl (any_of HT_.out (by kernel_rfl)) (fun _ _ _ h => h) (Or.inl ⟨by rfl, ?_⟩) ?_ ?_
                   rotate_left
                   ·intro w'
                    go_simp
                    with_reducible rfl
                   rotate_left
                   ·simp only [Act.put, List.setIfInBounds_toArray, List.set_cons_zero, List.set_cons_succ, i64_w, i32_w]
                    rfl
                   refine pure_ (i := 4) (N := some 93) (v := ?_) (a' := ?_) #[true, false, true, true, true, false, false, false] rfl rfl (any_of HT_.out (by kernel_rfl)) (fun _ _ _ h => h) (Or.inl ⟨by rfl, ?_⟩) ?_ ?_
                   rotate_left
                   ·intro w'
                    go_simp
                    with_reducible rfl
                   rotate_left
                   ·simp only [Act.put, List.setIfInBounds_toArray, List.set_cons_zero, List.set_cons_succ, i64_w, i32_w]
                    rfl
                   refine take_ (i := 1) (N := some 90) (v := ?_) (a' := ?_) #[true, true, true, true, true, false, false, false] rfl rfl (take_ofW HT_.out HW_.out (by kernel_rfl)) (fun _ _ _ h => h) (Or.inl ⟨by rfl, ?_⟩) hHeld ?_ ?_
                   rotate_left
                   ·rintro w' ⟨s0, s1, s2⟩
                    go_simp
                    with_reducible rfl
                   rotate_left
                   ·simp only [Act.put, List.setIfInBounds_toArray, List.set_cons_zero, List.set_cons_succ, i64_w, i32_w]
                    rfl
                   refine pure_ (i := 5) (N := some 94) (v := ?_) (a' := ?_) #[true, true, true, true, true, true, false, false] rfl rfl (any_of HT_.out (by kernel_rfl)) (fun _ _ _ h => h) (Or.inl ⟨by rfl, ?_⟩) ?_ ?_
                   rotate_left
                   ·intro w'
                    go_simp
                    with_reducible rfl
                   rotate_left
                   ·simp only [Act.put, List.setIfInBounds_toArray, List.set_cons_zero, List.set_cons_succ, i64_w, i32_w]
                    rfl
                   refine pure_ (i := 6) (N := some 95) (v := ?_) (a' := ?_) #[true, true, true, true, true, true, true, false] rfl rfl (any_of HT_.out (by kernel_rfl)) (fun _ _ _ h => h) (Or.inl ⟨by rfl, ?_⟩) ?_ ?_
                   rotate_left
                   ·intro w'
                    go_simp
                    with_reducible rfl
                   rotate_left
                   ·simp only [Act.put, List.setIfInBounds_toArray, List.set_cons_zero, List.set_cons_succ, i64_w, i32_w]
                    rfl
                   refine last_ (i := 7) (N := none) #[true, true, true, true, true, true, true, true] rfl rfl (one_of HT_.out (by kernel_rfl)) (by decide) (fun K hK => ?_)
                   have r8 : w103.cell? ⟨aJ, 2, none⟩ = some (.string aC) := (blk_cell aH.out 2).trans rfl
                   have oW := blk_frozen aH.out 2
                   have jE := aZ.out
                   have jF := a4.out
                   have jG := aX.out
                   have jH := a5.out
                   refine skip_ (w1 := ?_) (by rfl) rfl ?_ ?_
                   rotate_left
                   ·go_simp
                    rfl
                   refine hK.out _ _ ?_
                   clear hK K
                   refine done_ (done_of HT_.out (by kernel_rfl)) ?_
                   have oX := aV.out
                   have oY := aT.out
                   have oZ := aZ.out
                   have o0 := aX.out
                   obtain ⟨jI, jJ, jK, jL⟩ := Cb.c4 aD.out
                   obtain ⟨jM, jN, jO, jP⟩ := Cb.f4 aD.out
                   have o1 := a5.out
                   have o2 := a4.out
                   obtain ⟨jQ, jR, jS⟩ := Cb.c3 aH.out
                   obtain ⟨jT, jU, jV⟩ := Cb.f3 aH.out
                   obtain ⟨iA, g5, jW⟩ := Kd.V_slice aA.out
                   subst jW
                   try go_wp2_with (first | ((with_reducible refine gate_callee (f := 73) rfl ?_); refine goesL_ (some 99) rfl rfl Try.func73 (by kernel_rfl) rfl #[.agg #[.slice iA aU.length g5, .int .i64 a0, .int .i64 a3, .bool false], .int .i64 bG, .agg #[.string aG, .string aE, .string (aC ++ (a2.extract 0 (aK : Int).toNat))]] rfl (by (try simp only [List.map_toArray, List.map_cons, List.map_nil]); first | done | rfl | (simp only [List.length_drop, List.length_take]; rfl)) ?_; (with_reducible refine (stanchionref03_with.calls _ _ aU a0 a3 false bG aG aE (aC ++ (a2.extract 0 (aK : Int).toNat)) bD bE bC bJ _ ?side1 ?side2 h4.out).mono ?_); (case side1 => refine (Kd.V_reads' (e := 38) (base := w.heap.size) (ok := fun k_ => ((a8 k_ ∨ w.heap.size ≤ k_) ∧ (k_ ≠ aM ∧ (k_ ≠ aN ∧ k_ ≠ aJ)))) (n := aU.length) (c := g5) ?_).2.2; exact (pV ((Kd.V_mono (Kd.V_far (p := ⟨aJ, 2, none⟩) (Kd.V_mono aA.out (fun k_ hk => (⟨hk, hk.2.2.2⟩ : _ ∧ k_ ≠ aJ))) (fun _ hk => hk.2) (.string (aC ++ (a2.extract 0 (aK : Int).toNat)))) (fun _ h_ => h_.1))))); (case side2 => exact (Kd.V_reads' aA.out).2.1); rintro e o3 ⟨iP, rfl, fD, hb⟩; refine ⟨_, rfl, ?_⟩; have a6 := ak (Kd.R_lower (Kd.R_newB (Kd.R_newM (M := fun k_ => (w.heap.size ≤ k_)) fD (below_size (by repeat (first | (with_reducible first | exact HB.out | apply ba | apply bn | apply bd | refine bs ?_ aP.out | refine bs ?_ aQ.out | refine bs ?_ aY.out) | exact HB.out))) (fun k_ h_ => h_)) (g := aJ) (o := .cells #[.string aG, .string aE, .string (aC ++ (a2.extract 0 (aK : Int).toNat))] 38 (0, 0)) (by (with_reducible repeat (first | refine blk_drewN ?_ _ | refine blk_drew ?_ | refine blk_alloc ?_ _)); exact blk_put (pk aH.out) 2 _ rfl)) (below_size (by repeat (first | (with_reducible first | exact HB.out | apply ba | apply bn | apply bd | refine bs ?_ aP.out | refine bs ?_ aQ.out | refine bs ?_ aY.out) | exact HB.out)))); replace aA := ak (Kd.V_elder' (pV ((Kd.V_mono (Kd.V_far (p := ⟨aJ, 2, none⟩) (Kd.V_mono aA.out (fun k_ hk => (⟨hk, hk.2.2.2⟩ : _ ∧ k_ ≠ aJ))) (fun _ hk => hk.2) (.string (aC ++ (a2.extract 0 (aK : Int).toNat)))) (fun _ h_ => h_.1)))) (Kd.R_base fD) hb); replace aD := ak (blk_below (g := aM) (o := .cells #[.slice iA aU.length g5, .int .i64 a0, .int .i64 a3, .bool false] 33 (0, 0)) (by (with_reducible repeat (first | refine blk_drewN ?_ _ | refine blk_drew ?_ | refine blk_alloc ?_ _)); exact blk_far (pk aD.out) aZ.out _) hb); replace aI := ak (blk_below (g := aN) (o := .cells #[.slice none 0 0, .int .i64 0, .int .i64 0, .bool false] 33 (0, 0)) (by (with_reducible repeat (first | refine blk_drewN ?_ _ | refine blk_drew ?_ | refine blk_alloc ?_ _)); exact blk_far (pk aI.out) a4.out _) hb); replace aH := ak (blk_below (g := aJ) (o := .cells #[.string aG, .string aE, .string (aC ++ (a2.extract 0 (aK : Int).toNat))] 38 (0, 0)) (by (with_reducible repeat (first | refine blk_drewN ?_ _ | refine blk_drew ?_ | refine blk_alloc ?_ _)); exact blk_put (pk aH.out) 2 _ rfl) hb); replace HB := ak (below_step (by repeat (first | (with_reducible first | exact HB.out | apply ba | apply bn | apply bd | refine bs ?_ aP.out | refine bs ?_ aQ.out | refine bs ?_ aY.out) | exact HB.out)) hb); (try clear hb); (try clear hb2); (try clear hk); (try clear hi); (try clear fD); obtain ⟨cF, cG, jX⟩ := Kd.R_slice a6.out; subst jX; obtain ⟨jY, jZ, j6, j7⟩ := Cb.c4 aD.out; obtain ⟨j8, j9, kA, kB⟩ := Cb.f4 aD.out) | ((with_reducible refine gate_store (t := 33) (p := 3) rfl ?_); refine store_event (t := 33) (p := 3) (v := ?vo_w114) (w1 := ((((o3.setCell ⟨aM, 0, none⟩ (.slice cF bD.length cG)).setCell ⟨aM, 1, none⟩ (.int .i64 bE)).setCell ⟨aM, 2, none⟩ (.int .i64 bC)).setCell ⟨aM, 3, none⟩ (.bool bJ))) ?hg ?ho ?hn ?hr ?_; (case ho => rfl); (case hg => rfl); (case hn => rfl); (case hr => first | (go_simp; done) | (go_simp; rfl)); intro o4 hw; replace aA := vg4 (ok' := fun k_ => (a8 k_ ∨ w.heap.size ≤ k_) ∧ some k_ ≠ (.slice cF bD.length cG : Value).ownBlock ∧ k_ ≠ aM ∧ k_ ≠ aN ∧ k_ ≠ aJ) hw aA.out (fun _ hk => hk.1.2.1) fun _ hk => ⟨hk.1.1, ⟨hk.2, ⟨hk.1.2.1, ⟨hk.1.2.2.1, hk.1.2.2.2⟩⟩⟩⟩; replace a6 := rt4 (ok' := fun k_ => (w.heap.size ≤ k_) ∧ k_ ≠ aJ) hw a6.out aD.out (by decide) fun _ hk => ⟨hk.1.1.1, hk.1.2⟩; replace aD := bp4 hw aD.out; replace aI := bf4 hw aT.out aI.out; replace aH := bf4 hw aX.out aH.out; replace HB := bw4 hw HB.out aP.out; clear hw; obtain ⟨kC, kD, kE, kF⟩ := Cb.c4 aD.out; obtain ⟨kG, kH, kI, kJ⟩ := Cb.f4 aD.out) | ((with_reducible refine gate_store (t := 4) (p := 117) rfl ?_); refine store_event (t := 4) (p := 117) (v := ?vo_w116) (w1 := (((o4.setCell ⟨aM, 1, none⟩ (.int .i64 (wrap64 (bE - aK)))).setCell ⟨aM, 2, none⟩ (.int .i64 (wrap64 (bC - aK)))).setCell ⟨aM, 3, none⟩ (.bool true))) ?hg ?ho ?hn ?hr ?_; (case ho => rfl); (case hg => rfl); (case hn => rfl); (case hr => first | (go_simp; done) | (go_simp; rfl)); intro kK hw; replace aA := vf3 hw aA.out fun _ hk => hk.2.2.1; replace a6 := rt3 (ok' := fun k_ => (w.heap.size ≤ k_) ∧ k_ ≠ aJ) hw a6.out aD.out (by decide) fun _ hk => ⟨hk.1.1, hk.1.2⟩; replace aD : Aside0 (kK.heap[aM]? = some (.cells #[.slice cF bD.length cG, .int .i64 (wrap64 (bE - aK)), .int .i64 (wrap64 (bC - aK)), .bool true] 33 (0, 0))) := ⟨(by rw [hw]; exact (by exact blk_put (blk_put (blk_put aD.out 1 _ rfl) 2 _ rfl) 3 _ rfl))⟩; replace aI := bf3 hw aT.out aI.out; replace aH := bf3 hw aX.out aH.out; replace HB := bw3 hw HB.out aP.out; clear hw; obtain ⟨kL, kM, kN, kO⟩ := Cb.c4 aD.out; obtain ⟨kP, kQ, kR, kS⟩ := Cb.f4 aD.out; obtain ⟨kT, kU, kV, kW⟩ := Cb.c4 aI.out; obtain ⟨kX, kY, kZ, k0⟩ := Cb.f4 aI.out) | ((with_reducible refine gate_store (t := 33) (p := 6) rfl ?_); refine store_event (t := 33) (p := 6) (v := ?vo_w119) (w1 := ((((kK.setCell ⟨aN, 0, none⟩ (.slice cF bD.length cG)).setCell ⟨aN, 1, none⟩ (.int .i64 (wrap64 (bE - aK)))).setCell ⟨aN, 2, none⟩ (.int .i64 (wrap64 (bC - aK)))).setCell ⟨aN, 3, none⟩ (.bool true))) ?hg ?ho ?hn ?hr ?_; (case ho => rfl); (case hg => rfl); (case hn => rfl); (case hr => first | (go_simp; done) | (go_simp; rfl)); intro sQ hw; replace aA := vf4 hw aA.out fun _ hk => hk.2.2.2.1; replace a6 := rt4 (ok' := fun k_ => (w.heap.size ≤ k_) ∧ k_ ≠ aJ) hw a6.out aI.out (by decide) fun _ hk => ⟨hk.1.1, hk.1.2⟩; replace aD := bf4 hw aV.out aD.out; replace aI := bp4 hw aI.out; replace aH := bf4 hw a5.out aH.out; replace HB := bw4 hw HB.out aQ.out; clear hw))
                   refine bodyPost_ret (results_ct rfl _ _ aN 33 #[.slice cF bD.length cG, .int .i64 (wrap64 (bE - aK)), .int .i64 (wrap64 (bC - aK)), .bool true] (0, 0) _ rfl (pk aI.out) Try.underlying33 rfl (by kernel_rfl)) rfl ?_
                   exact ⟨_, by first | rfl | (simp [errW_none, errW_some] <;> rfl) | (simp [*, errW_none, errW_some] <;> rfl), Kd.V_mono (Kd.R_V (pR (Kd.R_mono a6.out (fun _ hk => hk.1)))) (fun k_ hk => by first | exact ⟨(.inr (hk.1)), hk.2⟩ | exact (.inr (hk))), by repeat (first | (with_reducible first | exact HB.out | apply ba | apply bn | apply bd | refine bs ?_ aP.out | refine bs ?_ aQ.out | refine bs ?_ aY.out) | exact HB.out)⟩
                  ·rw [if_neg gZ] at H
                   have iO : decide (aK < (a2.size : Int)) = false := decide_eq_false gZ
                   clear gZ
                   simp only [Option.some.injEq, Prod.mk.injEq] at H
                   obtain ⟨rfl, rfl, rfl, rfl, rfl⟩ := H
                   try go_wp2
                   replace aA := ak (Kd.V_drew aA.out)
                   replace aD := ak (blk_drew aD.out)
                   replace aI := ak (blk_drew aI.out)
                   replace aH := ak (blk_drew aH.out)
                   replace HB := ak (below_drew1 HB.out)
                   refine start_ (n := 8) (S := fun w' => w'.cell? ⟨aJ, 0, none⟩ = some (.string aG) ∧ w'.cell? ⟨aJ, 1, none⟩ = some (.string aE) ∧ w'.cell? ⟨aJ, 2, none⟩ = some (.string aC)) (ds := [7]) #[false, false, false, false, false, false, false, false] (by kernel_rfl) rfl rfl ⟨(blk_cell aH.out 0).trans rfl, (blk_cell aH.out 1).trans rfl, (blk_cell aH.out 2).trans rfl⟩ (fun hHeld => ?_); refine with_tabW stanchionref03_Append.tab19 stanchionref03_Append.bits19 (fun HT_ HW_ => ?_)
                   generalize wc.drew = w120 at aA aD aI aH HB hHeld ⊢
                   refine pure_ (i := 0) (N := some 89) (v := ?_) (a' := ?_) #[true, false, false, false, false, false, false, false] rfl rfl (any_of HT_.out (by kernel_rfl)) (fun _ _ _ h => h) (Or.inl ⟨by rfl, ?_⟩) ?_ ?_
                   rotate_left
                   ·intro w'
                    go_simp
                    with_reducible rfl
                   rotate_left
                   ·simp only [Act.put, List.setIfInBounds_toArray, List.set_cons_zero, List.set_cons_succ, i64_w, i32_w]
                    rfl
                   refine pure_ (i := 2) (N := some 91) (v := ?_) (a' := ?_) #[true, false, true, false, false, false, false, false] rfl rfl (any_of HT_.out (by kernel_rfl)) (fun _ _ _ h => h) (Or.inl ⟨by rfl, ?_⟩) ?_ ?_
                   rotate_left
                   ·intro w'
                    go_simp
                    with_reducible rfl
                   rotate_left
                   ·simp only [Act.put, List.setIfInBounds_toArray, List.set_cons_zero, List.set_cons_succ, i64_w, i32_w]
                    rfl
                   refine pure_ (i := 3) (N := some 92) (v := ?_) (a' := ?_) #[true, false, true, true, false, false, false, false] rfl rfl (any_of HT_.out (by kernel_rfl)) (fun _ _ _ h => h) (Or.inl ⟨by rfl, ?_⟩) ?_ ?_
                   rotate_left
                   ·intro w'
                    go_simp
                    with_reducible rfl
                   rotate_left
                   ·simp only [Act.put, List.setIfInBounds_toArray, List.set_cons_zero, List.set_cons_succ, i64_w, i32_w]
                    rfl
                   refine pure_ (i := 4) (N := some 93) (v := ?_) (a' := ?_) #[true, false, true, true, true, false, false, false] rfl rfl (any_of HT_.out (by kernel_rfl)) (fun _ _ _ h => h) (Or.inl ⟨by rfl, ?_⟩) ?_ ?_
                   rotate_left
                   ·intro w'
                    go_simp
                    with_reducible rfl
                   rotate_left
                   ·simp only [Act.put, List.setIfInBounds_toArray, List.set_cons_zero, List.set_cons_succ, i64_w, i32_w]
                    rfl
                   refine take_ (i := 1) (N := some 90) (v := ?_) (a' := ?_) #[true, true, true, true, true, false, false, false] rfl rfl (take_ofW HT_.out HW_.out (by kernel_rfl)) (fun _ _ _ h => h) (Or.inl ⟨by rfl, ?_⟩) hHeld ?_ ?_
                   rotate_left
                   ·rintro w' ⟨s0, s1, s2⟩
                    go_simp
                    with_reducible rfl
                   rotate_left
                   ·simp only [Act.put, List.setIfInBounds_toArray, List.set_cons_zero, List.set_cons_succ, i64_w, i32_w]
                    rfl
                   refine pure_ (i := 5) (N := some 94) (v := ?_) (a' := ?_) #[true, true, true, true, true, true, false, false] rfl rfl (any_of HT_.out (by kernel_rfl)) (fun _ _ _ h => h) (Or.inl ⟨by rfl, ?_⟩) ?_ ?_
                   rotate_left
                   ·intro w'
                    go_simp
                    with_reducible rfl
                   rotate_left
                   ·simp only [Act.put, List.setIfInBounds_toArray, List.set_cons_zero, List.set_cons_succ, i64_w, i32_w]
                    rfl
                   refine pure_ (i := 6) (N := some 95) (v := ?_) (a' := ?_) #[true, true, true, true, true, true, true, false] rfl rfl (any_of HT_.out (by kernel_rfl)) (fun _ _ _ h => h) (Or.inl ⟨by rfl, ?_⟩) ?_ ?_
                   rotate_left
                   ·intro w'
                    go_simp
                    with_reducible rfl
                   rotate_left
                   ·simp only [Act.put, List.setIfInBounds_toArray, List.set_cons_zero, List.set_cons_succ, i64_w, i32_w]
                    rfl
                   refine last_ (i := 7) (N := none) #[true, true, true, true, true, true, true, true] rfl rfl (one_of HT_.out (by kernel_rfl)) (by decide) (fun K hK => ?_)
                   have r9 : w120.cell? ⟨aJ, 2, none⟩ = some (.string aC) := (blk_cell aH.out 2).trans rfl
                   have o5 := blk_frozen aH.out 2
                   have k1 := aZ.out
                   have k2 := a4.out
                   have k3 := aX.out
                   have k4 := a5.out
                   refine skip_ (w1 := ?_) (by rfl) rfl ?_ ?_
                   rotate_left
                   ·go_simp
                    rfl
                   refine hK.out _ _ ?_
                   clear hK K
                   refine done_ (done_of HT_.out (by kernel_rfl)) ?_
                   have o6 := aV.out
                   have o7 := aT.out
                   have o8 := aZ.out
                   have o9 := aX.out
                   obtain ⟨k5, k6, k7, k8⟩ := Cb.c4 aD.out
                   obtain ⟨k9, lA, lB, lC⟩ := Cb.f4 aD.out
                   have pA := a5.out
                   have pC := a4.out
                   obtain ⟨lD, lE, lF⟩ := Cb.c3 aH.out
                   obtain ⟨lG, lH, lI⟩ := Cb.f3 aH.out
                   obtain ⟨iB, g6, lJ⟩ := Kd.V_slice aA.out
                   subst lJ
                   try go_wp2_with (first | ((with_reducible refine gate_callee (f := 73) rfl ?_); refine goesL_ (some 99) rfl rfl Try.func73 (by kernel_rfl) rfl #[.agg #[.slice iB aU.length g6, .int .i64 a0, .int .i64 a3, .bool false], .int .i64 bG, .agg #[.string aG, .string aE, .string (aC ++ (a2.extract 0 (aK : Int).toNat))]] rfl (by (try simp only [List.map_toArray, List.map_cons, List.map_nil]); first | done | rfl | (simp only [List.length_drop, List.length_take]; rfl)) ?_; (with_reducible refine (stanchionref03_with.calls _ _ aU a0 a3 false bG aG aE (aC ++ (a2.extract 0 (aK : Int).toNat)) bD bE bC bJ _ ?side1 ?side2 h4.out).mono ?_); (case side1 => refine (Kd.V_reads' (e := 38) (base := w.heap.size) (ok := fun k_ => ((a8 k_ ∨ w.heap.size ≤ k_) ∧ (k_ ≠ aM ∧ (k_ ≠ aN ∧ k_ ≠ aJ)))) (n := aU.length) (c := g6) ?_).2.2; exact (pV ((Kd.V_mono (Kd.V_far (p := ⟨aJ, 2, none⟩) (Kd.V_mono aA.out (fun k_ hk => (⟨hk, hk.2.2.2⟩ : _ ∧ k_ ≠ aJ))) (fun _ hk => hk.2) (.string (aC ++ (a2.extract 0 (aK : Int).toNat)))) (fun _ h_ => h_.1))))); (case side2 => exact (Kd.V_reads' aA.out).2.1); rintro e pD ⟨iP, rfl, fD, hb⟩; refine ⟨_, rfl, ?_⟩; have a6 := ak (Kd.R_lower (Kd.R_newB (Kd.R_newM (M := fun k_ => (w.heap.size ≤ k_)) fD (below_size (by repeat (first | (with_reducible first | exact HB.out | apply ba | apply bn | apply bd | refine bs ?_ aP.out | refine bs ?_ aQ.out | refine bs ?_ aY.out) | exact HB.out))) (fun k_ h_ => h_)) (g := aJ) (o := .cells #[.string aG, .string aE, .string (aC ++ (a2.extract 0 (aK : Int).toNat))] 38 (0, 0)) (by (with_reducible repeat (first | refine blk_drewN ?_ _ | refine blk_drew ?_ | refine blk_alloc ?_ _)); exact blk_put (pk aH.out) 2 _ rfl)) (below_size (by repeat (first | (with_reducible first | exact HB.out | apply ba | apply bn | apply bd | refine bs ?_ aP.out | refine bs ?_ aQ.out | refine bs ?_ aY.out) | exact HB.out)))); replace aA := ak (Kd.V_elder' (pV ((Kd.V_mono (Kd.V_far (p := ⟨aJ, 2, none⟩) (Kd.V_mono aA.out (fun k_ hk => (⟨hk, hk.2.2.2⟩ : _ ∧ k_ ≠ aJ))) (fun _ hk => hk.2) (.string (aC ++ (a2.extract 0 (aK : Int).toNat)))) (fun _ h_ => h_.1)))) (Kd.R_base fD) hb); replace aD := ak (blk_below (g := aM) (o := .cells #[.slice iB aU.length g6, .int .i64 a0, .int .i64 a3, .bool false] 33 (0, 0)) (by (with_reducible repeat (first | refine blk_drewN ?_ _ | refine blk_drew ?_ | refine blk_alloc ?_ _)); exact blk_far (pk aD.out) aZ.out _) hb); replace aI := ak (blk_below (g := aN) (o := .cells #[.slice none 0 0, .int .i64 0, .int .i64 0, .bool false] 33 (0, 0)) (by (with_reducible repeat (first | refine blk_drewN ?_ _ | refine blk_drew ?_ | refine blk_alloc ?_ _)); exact blk_far (pk aI.out) a4.out _) hb); replace aH := ak (blk_below (g := aJ) (o := .cells #[.string aG, .string aE, .string (aC ++ (a2.extract 0 (aK : Int).toNat))] 38 (0, 0)) (by (with_reducible repeat (first | refine blk_drewN ?_ _ | refine blk_drew ?_ | refine blk_alloc ?_ _)); exact blk_put (pk aH.out) 2 _ rfl) hb); replace HB := ak (below_step (by repeat (first | (with_reducible first | exact HB.out | apply ba | apply bn | apply bd | refine bs ?_ aP.out | refine bs ?_ aQ.out | refine bs ?_ aY.out) | exact HB.out)) hb); (try clear hb); (try clear hb2); (try clear hk); (try clear hi); (try clear fD); obtain ⟨eU, eV, lK⟩ := Kd.R_slice a6.out; subst lK; obtain ⟨lL, lM, lN, lO⟩ := Cb.c4 aD.out; obtain ⟨lP, lQ, lR, lS⟩ := Cb.f4 aD.out) | ((with_reducible refine gate_store (t := 33) (p := 3) rfl ?_); refine store_event (t := 33) (p := 3) (v := ?vo_w131) (w1 := ((((pD.setCell ⟨aM, 0, none⟩ (.slice eU bD.length eV)).setCell ⟨aM, 1, none⟩ (.int .i64 bE)).setCell ⟨aM, 2, none⟩ (.int .i64 bC)).setCell ⟨aM, 3, none⟩ (.bool bJ))) ?hg ?ho ?hn ?hr ?_; (case ho => rfl); (case hg => rfl); (case hn => rfl); (case hr => first | (go_simp; done) | (go_simp; rfl)); intro pE hw; replace aA := vg4 (ok' := fun k_ => (a8 k_ ∨ w.heap.size ≤ k_) ∧ some k_ ≠ (.slice eU bD.length eV : Value).ownBlock ∧ k_ ≠ aM ∧ k_ ≠ aN ∧ k_ ≠ aJ) hw aA.out (fun _ hk => hk.1.2.1) fun _ hk => ⟨hk.1.1, ⟨hk.2, ⟨hk.1.2.1, ⟨hk.1.2.2.1, hk.1.2.2.2⟩⟩⟩⟩; replace a6 := rt4 (ok' := fun k_ => (w.heap.size ≤ k_) ∧ k_ ≠ aJ) hw a6.out aD.out (by decide) fun _ hk => ⟨hk.1.1.1, hk.1.2⟩; replace aD := bp4 hw aD.out; replace aI := bf4 hw aT.out aI.out; replace aH := bf4 hw aX.out aH.out; replace HB := bw4 hw HB.out aP.out; clear hw; obtain ⟨lT, lU, lV, lW⟩ := Cb.c4 aD.out; obtain ⟨lX, lY, lZ, l0⟩ := Cb.f4 aD.out; obtain ⟨l1, l2, l3, l4⟩ := Cb.c4 aI.out; obtain ⟨l5, l6, l7, l8⟩ := Cb.f4 aI.out) | ((with_reducible refine gate_store (t := 33) (p := 6) rfl ?_); refine store_event (t := 33) (p := 6) (v := ?vo_w134) (w1 := ((((((pE.setCell ⟨aM, 1, none⟩ (.int .i64 (wrap64 (bE - aK)))).setCell ⟨aM, 2, none⟩ (.int .i64 (wrap64 (bC - aK)))).setCell ⟨aN, 0, none⟩ (.slice eU bD.length eV)).setCell ⟨aN, 1, none⟩ (.int .i64 (wrap64 (bE - aK)))).setCell ⟨aN, 2, none⟩ (.int .i64 (wrap64 (bC - aK)))).setCell ⟨aN, 3, none⟩ (.bool bJ))) ?hg ?ho ?hn ?hr ?_; (case ho => rfl); (case hg => rfl); (case hn => rfl); (case hr => first | (go_simp; done) | (go_simp; rfl)); intro pF hw; replace aA := vf4 hw (vf2 rfl aA.out fun _ hk => hk.2.2.1).out fun _ hk => hk.2.2.2.1; replace a6 := rg4 (ok' := fun k_ => (w.heap.size ≤ k_) ∧ k_ ≠ aJ) hw (rf2 rfl (Kd.R_types (Kd.R_types a6.out aD.out (by decide)) aI.out (by decide)) fun _ hk => hk.1.2).out (fun _ hk => hk.2) fun _ hk => ⟨hk.1.1.1, hk.1.1.2⟩; replace aD : Aside0 (pF.heap[aM]? = some (.cells #[.slice eU bD.length eV, .int .i64 (wrap64 (bE - aK)), .int .i64 (wrap64 (bC - aK)), .bool bJ] 33 (0, 0))) := bf4 hw aV.out (blk_put (blk_put aD.out 1 _ rfl) 2 _ rfl); replace aI := bp4 hw (bf2 rfl aT.out aI.out).out; replace aH := bf4 hw a5.out (bf2 rfl aX.out aH.out).out; replace HB := bw4 hw (bw2 rfl HB.out aP.out).out aQ.out; clear hw))
                   refine bodyPost_ret (results_ct rfl _ _ aN 33 #[.slice eU bD.length eV, .int .i64 (wrap64 (bE - aK)), .int .i64 (wrap64 (bC - aK)), .bool bJ] (0, 0) _ rfl (pk aI.out) Try.underlying33 rfl (by kernel_rfl)) rfl ?_
                   exact ⟨_, by first | rfl | (simp [errW_none, errW_some] <;> rfl) | (simp [*, errW_none, errW_some] <;> rfl), Kd.V_mono (Kd.R_V (pR (Kd.R_mono a6.out (fun _ hk => hk.1)))) (fun k_ hk => by first | exact ⟨(.inr (hk.1)), hk.2⟩ | exact (.inr (hk))), by repeat (first | (with_reducible first | exact HB.out | apply ba | apply bn | apply bd | refine bs ?_ aP.out | refine bs ?_ aQ.out | refine bs ?_ aY.out) | exact HB.out)⟩
                 ·rw [if_neg gY] at H
                  have iN : decide (0 ≤ bC) = false := decide_eq_false gY
                  clear gY
                  by_cases g0 : aK < (a2.size : Int)
                  ·rw [if_pos g0] at H
                   have iQ : decide (aK < (a2.size : Int)) = true := decide_eq_true g0
                   clear g0
                   simp only [Option.some.injEq, Prod.mk.injEq] at H
                   obtain ⟨rfl, rfl, rfl, rfl, rfl⟩ := H
                   try go_wp2
                   replace aA := ak (Kd.V_drew aA.out)
                   replace aD := ak (blk_drew aD.out)
                   replace aI := ak (blk_drew aI.out)
                   replace aH := ak (blk_drew aH.out)
                   replace HB := ak (below_drew1 HB.out)
                   refine start_ (n := 8) (S := fun w' => w'.cell? ⟨aJ, 0, none⟩ = some (.string aG) ∧ w'.cell? ⟨aJ, 1, none⟩ = some (.string aE) ∧ w'.cell? ⟨aJ, 2, none⟩ = some (.string aC)) (ds := [7]) #[false, false, false, false, false, false, false, false] (by kernel_rfl) rfl rfl ⟨(blk_cell aH.out 0).trans rfl, (blk_cell aH.out 1).trans rfl, (blk_cell aH.out 2).trans rfl⟩ (fun hHeld => ?_); refine with_tabW stanchionref03_Append.tab19 stanchionref03_Append.bits19 (fun HT_ HW_ => ?_)
                   generalize wc.drew = w136 at aA aD aI aH HB hHeld ⊢
                   refine pure_ (i := 0) (N := some 89) (v := ?_) (a' := ?_) #[true, false, false, false, false, false, false, false] rfl rfl (any_of HT_.out (by kernel_rfl)) (fun _ _ _ h => h) (Or.inl ⟨by rfl, ?_⟩) ?_ ?_
                   rotate_left
                   ·intro w'
                    go_simp
                    with_reducible rfl
                   rotate_left
                   ·simp only [Act.put, List.setIfInBounds_toArray, List.set_cons_zero, List.set_cons_succ, i64_w, i32_w]
                    rfl
                   refine pure_ (i := 2) (N := some 91) (v := ?_) (a' := ?_) #[true, false, true, false, false, false, false, false] rfl rfl (any_of HT_.out (by kernel_rfl)) (fun _ _ _ h => h) (Or.inl ⟨by rfl, ?_⟩) ?_ ?_
                   rotate_left
                   ·intro w'
                    go_simp
                    with_reducible rfl
                   rotate_left
                   ·simp only [Act.put, List.setIfInBounds_toArray, List.set_cons_zero, List.set_cons_succ, i64_w, i32_w]
                    rfl
                   refine pure_ (i := 3) (N := some 92) (v := ?_) (a' := ?_) #[true, false, true, true, false, false, false, false] rfl rfl (any_of HT_.out (by kernel_rfl)) (fun _ _ _ h => h) (Or.inl ⟨by rfl, ?_⟩) ?_ ?_
                   rotate_left
                   ·intro w'
                    go_simp
                    with_reducible rfl
                   rotate_left
                   ·simp only [Act.put, List.setIfInBounds_toArray, List.set_cons_zero, List.set_cons_succ, i64_w, i32_w]
                    rfl
                   refine pure_ (i := 4) (N := some 93) (v := ?_) (a' := ?_) #[true, false, true, true, true, false, false, false] rfl rfl (any_of HT_.out (by kernel_rfl)) (fun _ _ _ h => h) (Or.inl ⟨by rfl, ?_⟩) ?_ ?_
                   rotate_left
                   ·intro w'
                    go_simp
                    with_reducible rfl
                   rotate_left
                   ·simp only [Act.put, List.setIfInBounds_toArray, List.set_cons_zero, List.set_cons_succ, i64_w, i32_w]
                    rfl
                   refine take_ (i := 1) (N := some 90) (v := ?_) (a' := ?_) #[true, true, true, true, true, false, false, false] rfl rfl (take_ofW HT_.out HW_.out (by kernel_rfl)) (fun _ _ _ h => h) (Or.inl ⟨by rfl, ?_⟩) hHeld ?_ ?_
                   rotate_left
                   ·rintro w' ⟨s0, s1, s2⟩
                    go_simp
                    with_reducible rfl
                   rotate_left
                   ·simp only [Act.put, List.setIfInBounds_toArray, List.set_cons_zero, List.set_cons_succ, i64_w, i32_w]
                    rfl
                   refine pure_ (i := 5) (N := some 94) (v := ?_) (a' := ?_) #[true, true, true, true, true, true, false, false] rfl rfl (any_of HT_.out (by kernel_rfl)) (fun _ _ _ h => h) (Or.inl ⟨by rfl, ?_⟩) ?_ ?_
                   rotate_left
                   ·intro w'
                    go_simp
                    with_reducible rfl
                   rotate_left
                   ·simp only [Act.put, List.setIfInBounds_toArray, List.set_cons_zero, List.set_cons_succ, i64_w, i32_w]
                    rfl
                   refine pure_ (i := 6) (N := some 95) (v := ?_) (a' := ?_) #[true, true, true, true, true, true, true, false] rfl rfl (any_of HT_.out (by kernel_rfl)) (fun _ _ _ h => h) (Or.inl ⟨by rfl, ?_⟩) ?_ ?_
                   rotate_left
                   ·intro w'
                    go_simp
                    with_reducible rfl
                   rotate_left
                   ·simp only [Act.put, List.setIfInBounds_toArray, List.set_cons_zero, List.set_cons_succ, i64_w, i32_w]
                    rfl
                   refine last_ (i := 7) (N := none) #[true, true, true, true, true, true, true, true] rfl rfl (one_of HT_.out (by kernel_rfl)) (by decide) (fun K hK => ?_)
                   have sA : w136.cell? ⟨aJ, 2, none⟩ = some (.string aC) := (blk_cell aH.out 2).trans rfl
                   have pG := blk_frozen aH.out 2
                   have l9 := aZ.out
                   have mA := a4.out
                   have mB := aX.out
                   have mC := a5.out
                   refine skip_ (w1 := ?_) (by rfl) rfl ?_ ?_
                   rotate_left
                   ·go_simp
                    rfl
                   refine hK.out _ _ ?_
                   clear hK K
                   refine done_ (done_of HT_.out (by kernel_rfl)) ?_
                   have pH := aV.out
                   have pI := aT.out
                   have pJ := aZ.out
                   have pK := aX.out
                   obtain ⟨mD, mE, mF, mG⟩ := Cb.c4 aD.out
                   obtain ⟨mH, mI, mJ, mK⟩ := Cb.f4 aD.out
                   have pL := a5.out
                   have pM := a4.out
                   obtain ⟨mL, mM, mN⟩ := Cb.c3 aH.out
                   obtain ⟨mO, mP, mQ⟩ := Cb.f3 aH.out
                   obtain ⟨iC, g7, mR⟩ := Kd.V_slice aA.out
                   subst mR
                   try go_wp2_with (first | ((with_reducible refine gate_callee (f := 73) rfl ?_); refine goesL_ (some 99) rfl rfl Try.func73 (by kernel_rfl) rfl #[.agg #[.slice iC aU.length g7, .int .i64 a0, .int .i64 a3, .bool false], .int .i64 bG, .agg #[.string aG, .string aE, .string (aC ++ (a2.extract 0 (aK : Int).toNat))]] rfl (by (try simp only [List.map_toArray, List.map_cons, List.map_nil]); first | done | rfl | (simp only [List.length_drop, List.length_take]; rfl)) ?_; (with_reducible refine (stanchionref03_with.calls _ _ aU a0 a3 false bG aG aE (aC ++ (a2.extract 0 (aK : Int).toNat)) bD bE bC bJ _ ?side1 ?side2 h4.out).mono ?_); (case side1 => refine (Kd.V_reads' (e := 38) (base := w.heap.size) (ok := fun k_ => ((a8 k_ ∨ w.heap.size ≤ k_) ∧ (k_ ≠ aM ∧ (k_ ≠ aN ∧ k_ ≠ aJ)))) (n := aU.length) (c := g7) ?_).2.2; exact (pV ((Kd.V_mono (Kd.V_far (p := ⟨aJ, 2, none⟩) (Kd.V_mono aA.out (fun k_ hk => (⟨hk, hk.2.2.2⟩ : _ ∧ k_ ≠ aJ))) (fun _ hk => hk.2) (.string (aC ++ (a2.extract 0 (aK : Int).toNat)))) (fun _ h_ => h_.1))))); (case side2 => exact (Kd.V_reads' aA.out).2.1); rintro e pN ⟨iP, rfl, fD, hb⟩; refine ⟨_, rfl, ?_⟩; have a6 := ak (Kd.R_lower (Kd.R_newB (Kd.R_newM (M := fun k_ => (w.heap.size ≤ k_)) fD (below_size (by repeat (first | (with_reducible first | exact HB.out | apply ba | apply bn | apply bd | refine bs ?_ aP.out | refine bs ?_ aQ.out | refine bs ?_ aY.out) | exact HB.out))) (fun k_ h_ => h_)) (g := aJ) (o := .cells #[.string aG, .string aE, .string (aC ++ (a2.extract 0 (aK : Int).toNat))] 38 (0, 0)) (by (with_reducible repeat (first | refine blk_drewN ?_ _ | refine blk_drew ?_ | refine blk_alloc ?_ _)); exact blk_put (pk aH.out) 2 _ rfl)) (below_size (by repeat (first | (with_reducible first | exact HB.out | apply ba | apply bn | apply bd | refine bs ?_ aP.out | refine bs ?_ aQ.out | refine bs ?_ aY.out) | exact HB.out)))); replace aA := ak (Kd.V_elder' (pV ((Kd.V_mono (Kd.V_far (p := ⟨aJ, 2, none⟩) (Kd.V_mono aA.out (fun k_ hk => (⟨hk, hk.2.2.2⟩ : _ ∧ k_ ≠ aJ))) (fun _ hk => hk.2) (.string (aC ++ (a2.extract 0 (aK : Int).toNat)))) (fun _ h_ => h_.1)))) (Kd.R_base fD) hb); replace aD := ak (blk_below (g := aM) (o := .cells #[.slice iC aU.length g7, .int .i64 a0, .int .i64 a3, .bool false] 33 (0, 0)) (by (with_reducible repeat (first | refine blk_drewN ?_ _ | refine blk_drew ?_ | refine blk_alloc ?_ _)); exact blk_far (pk aD.out) aZ.out _) hb); replace aI := ak (blk_below (g := aN) (o := .cells #[.slice none 0 0, .int .i64 0, .int .i64 0, .bool false] 33 (0, 0)) (by (with_reducible repeat (first | refine blk_drewN ?_ _ | refine blk_drew ?_ | refine blk_alloc ?_ _)); exact blk_far (pk aI.out) a4.out _) hb); replace aH := ak (blk_below (g := aJ) (o := .cells #[.string aG, .string aE, .string (aC ++ (a2.extract 0 (aK : Int).toNat))] 38 (0, 0)) (by (with_reducible repeat (first | refine blk_drewN ?_ _ | refine blk_drew ?_ | refine blk_alloc ?_ _)); exact blk_put (pk aH.out) 2 _ rfl) hb); replace HB := ak (below_step (by repeat (first | (with_reducible first | exact HB.out | apply ba | apply bn | apply bd | refine bs ?_ aP.out | refine bs ?_ aQ.out | refine bs ?_ aY.out) | exact HB.out)) hb); (try clear hb); (try clear hb2); (try clear hk); (try clear hi); (try clear fD); obtain ⟨eW, eX, mS⟩ := Kd.R_slice a6.out; subst mS; obtain ⟨mT, mU, mV, mW⟩ := Cb.c4 aD.out; obtain ⟨mX, mY, mZ, m0⟩ := Cb.f4 aD.out) | ((with_reducible refine gate_store (t := 33) (p := 3) rfl ?_); refine store_event (t := 33) (p := 3) (v := ?vo_w147) (w1 := ((((pN.setCell ⟨aM, 0, none⟩ (.slice eW bD.length eX)).setCell ⟨aM, 1, none⟩ (.int .i64 bE)).setCell ⟨aM, 2, none⟩ (.int .i64 bC)).setCell ⟨aM, 3, none⟩ (.bool bJ))) ?hg ?ho ?hn ?hr ?_; (case ho => rfl); (case hg => rfl); (case hn => rfl); (case hr => first | (go_simp; done) | (go_simp; rfl)); intro pO hw; replace aA := vg4 (ok' := fun k_ => (a8 k_ ∨ w.heap.size ≤ k_) ∧ some k_ ≠ (.slice eW bD.length eX : Value).ownBlock ∧ k_ ≠ aM ∧ k_ ≠ aN ∧ k_ ≠ aJ) hw aA.out (fun _ hk => hk.1.2.1) fun _ hk => ⟨hk.1.1, ⟨hk.2, ⟨hk.1.2.1, ⟨hk.1.2.2.1, hk.1.2.2.2⟩⟩⟩⟩; replace a6 := rt4 (ok' := fun k_ => (w.heap.size ≤ k_) ∧ k_ ≠ aJ) hw a6.out aD.out (by decide) fun _ hk => ⟨hk.1.1.1, hk.1.2⟩; replace aD := bp4 hw aD.out; replace aI := bf4 hw aT.out aI.out; replace aH := bf4 hw aX.out aH.out; replace HB := bw4 hw HB.out aP.out; clear hw; obtain ⟨m1, m2, m3, m4⟩ := Cb.c4 aD.out; obtain ⟨m5, m6, m7, m8⟩ := Cb.f4 aD.out; obtain ⟨m9, nA, nB, nC⟩ := Cb.c4 aI.out; obtain ⟨nD, nE, nF, nG⟩ := Cb.f4 aI.out) | ((with_reducible refine gate_store (t := 33) (p := 6) rfl ?_); refine store_event (t := 33) (p := 6) (v := ?vo_w150) (w1 := ((((((pO.setCell ⟨aM, 1, none⟩ (.int .i64 (wrap64 (bE - aK)))).setCell ⟨aM, 3, none⟩ (.bool true)).setCell ⟨aN, 0, none⟩ (.slice eW bD.length eX)).setCell ⟨aN, 1, none⟩ (.int .i64 (wrap64 (bE - aK)))).setCell ⟨aN, 2, none⟩ (.int .i64 bC)).setCell ⟨aN, 3, none⟩ (.bool true))) ?hg ?ho ?hn ?hr ?_; (case ho => rfl); (case hg => rfl); (case hn => rfl); (case hr => first | (go_simp; done) | (go_simp; rfl)); intro pP hw; replace aA := vf4 hw (vf2 rfl aA.out fun _ hk => hk.2.2.1).out fun _ hk => hk.2.2.2.1; replace a6 := rg4 (ok' := fun k_ => (w.heap.size ≤ k_) ∧ k_ ≠ aJ) hw (rf2 rfl (Kd.R_types (Kd.R_types a6.out aD.out (by decide)) aI.out (by decide)) fun _ hk => hk.1.2).out (fun _ hk => hk.2) fun _ hk => ⟨hk.1.1.1, hk.1.1.2⟩; replace aD : Aside0 (pP.heap[aM]? = some (.cells #[.slice eW bD.length eX, .int .i64 (wrap64 (bE - aK)), .int .i64 bC, .bool true] 33 (0, 0))) := bf4 hw aV.out (blk_put (blk_put aD.out 1 _ rfl) 3 _ rfl); replace aI := bp4 hw (bf2 rfl aT.out aI.out).out; replace aH := bf4 hw a5.out (bf2 rfl aX.out aH.out).out; replace HB := bw4 hw (bw2 rfl HB.out aP.out).out aQ.out; clear hw))
                   refine bodyPost_ret (results_ct rfl _ _ aN 33 #[.slice eW bD.length eX, .int .i64 (wrap64 (bE - aK)), .int .i64 bC, .bool true] (0, 0) _ rfl (pk aI.out) Try.underlying33 rfl (by kernel_rfl)) rfl ?_
                   exact ⟨_, by first | rfl | (simp [errW_none, errW_some] <;> rfl) | (simp [*, errW_none, errW_some] <;> rfl), Kd.V_mono (Kd.R_V (pR (Kd.R_mono a6.out (fun _ hk => hk.1)))) (fun k_ hk => by first | exact ⟨(.inr (hk.1)), hk.2⟩ | exact (.inr (hk))), by repeat (first | (with_reducible first | exact HB.out | apply ba | apply bn | apply bd | refine bs ?_ aP.out | refine bs ?_ aQ.out | refine bs ?_ aY.out) | exact HB.out)⟩
                  ·rw [if_neg g0] at H
                   have iQ : decide (aK < (a2.size : Int)) = false := decide_eq_false g0
                   clear g0
                   simp only [Option.some.injEq, Prod.mk.injEq] at H
                   obtain ⟨rfl, rfl, rfl, rfl, rfl⟩ := H
                   try go_wp2
                   replace aA := ak (Kd.V_drew aA.out)
                   replace aD := ak (blk_drew aD.out)
                   replace aI := ak (blk_drew aI.out)
                   replace aH := ak (blk_drew aH.out)
                   replace HB := ak (below_drew1 HB.out)
                   refine start_ (n := 8) (S := fun w' => w'.cell? ⟨aJ, 0, none⟩ = some (.string aG) ∧ w'.cell? ⟨aJ, 1, none⟩ = some (.string aE) ∧ w'.cell? ⟨aJ, 2, none⟩ = some (.string aC)) (ds := [7]) #[false, false, false, false, false, false, false, false] (by kernel_rfl) rfl rfl ⟨(blk_cell aH.out 0).trans rfl, (blk_cell aH.out 1).trans rfl, (blk_cell aH.out 2).trans rfl⟩ (fun hHeld => ?_); refine with_tabW stanchionref03_Append.tab19 stanchionref03_Append.bits19 (fun HT_ HW_ => ?_)
                   generalize wc.drew = w151 at aA aD aI aH HB hHeld ⊢
                   refine pure_ (i := 0) (N := some 89) (v := ?_) (a' := ?_) #[true, false, false, false, false, false, false, false] rfl rfl (any_of HT_.out (by kernel_rfl)) (fun _ _ _ h => h) (Or.inl ⟨by rfl, ?_⟩) ?_ ?_
                   rotate_left
                   ·intro w'
                    go_simp
                    with_reducible rfl
                   rotate_left
                   ·simp only [Act.put, List.setIfInBounds_toArray, List.set_cons_zero, List.set_cons_succ, i64_w, i32_w]
                    rfl
                   refine pure_ (i := 2) (N := some 91) (v := ?_) (a' := ?_) #[true, false, true, false, false, false, false, false] rfl rfl (any_of HT_.out (by kernel_rfl)) (fun _ _ _ h => h) (Or.inl ⟨by rfl, ?_⟩) ?_ ?_
                   rotate_left
                   ·intro w'
                    go_simp
                    with_reducible rfl
                   rotate_left
                   ·simp only [Act.put, List.setIfInBounds_toArray, List.set_cons_zero, List.set_cons_succ, i64_w, i32_w]
                    rfl
                   refine pure_ (i := 3) (N := some 92) (v := ?_) (a' := ?_) #[true, false, true, true, false, false, false, false] rfl rfl (any_of HT_.out (by kernel_rfl)) (fun _ _ _ h => h) (Or.inl ⟨by rfl, ?_⟩) ?_ ?_
                   rotate_left
                   ·intro w'
                    go_simp
                    with_reducible rfl
                   rotate_left
                   ·simp only [Act.put, List.setIfInBounds_toArray, List.set_cons_zero, List.set_cons_succ, i64_w, i32_w]
                    rfl
                   refine pure_ (i := 4) (N := some 93) (v := ?_) (a' := ?_) #[true, false, true, true, true, false, false, false] rfl rfl (any_of HT_.out (by kernel_rfl)) (fun _ _ _ h => h) (Or.inl ⟨by rfl, ?_⟩) ?_ ?_
                   rotate_left
                   ·intro w'
                    go_simp
                    with_reducible rfl
                   rotate_left
                   ·simp only [Act.put, List.setIfInBounds_toArray, List.set_cons_zero, List.set_cons_succ, i64_w, i32_w]
                    rfl
                   refine take_ (i := 1) (N := some 90) (v := ?_) (a' := ?_) #[true, true, true, true, true, false, false, false] rfl rfl (take_ofW HT_.out HW_.out (by kernel_rfl)) (fun _ _ _ h => h) (Or.inl ⟨by rfl, ?_⟩) hHeld ?_ ?_
                   rotate_left
                   ·rintro w' ⟨s0, s1, s2⟩
                    go_simp
                    with_reducible rfl
                   rotate_left
                   ·simp only [Act.put, List.setIfInBounds_toArray, List.set_cons_zero, List.set_cons_succ, i64_w, i32_w]
                    rfl
                   refine pure_ (i := 5) (N := some 94) (v := ?_) (a' := ?_) #[true, true, true, true, true, true, false, false] rfl rfl (any_of HT_.out (by kernel_rfl)) (fun _ _ _ h => h) (Or.inl ⟨by rfl, ?_⟩) ?_ ?_
                   rotate_left
                   ·intro w'
                    go_simp
                    with_reducible rfl
                   rotate_left
                   ·simp only [Act.put, List.setIfInBounds_toArray, List.set_cons_zero, List.set_cons_succ, i64_w, i32_w]
                    rfl
                   refine pure_ (i := 6) (N := some 95) (v := ?_) (a' := ?_) #[true, true, true, true, true, true, true, false] rfl rfl (any_of HT_.out (by kernel_rfl)) (fun _ _ _ h => h) (Or.inl ⟨by rfl, ?_⟩) ?_ ?_
                   rotate_left
                   ·intro w'
                    go_simp
                    with_reducible rfl
                   rotate_left
                   ·simp only [Act.put, List.setIfInBounds_toArray, List.set_cons_zero, List.set_cons_succ, i64_w, i32_w]
                    rfl
                   refine last_ (i := 7) (N := none) #[true, true, true, true, true, true, true, true] rfl rfl (one_of HT_.out (by kernel_rfl)) (by decide) (fun K hK => ?_)
                   have sB : w151.cell? ⟨aJ, 2, none⟩ = some (.string aC) := (blk_cell aH.out 2).trans rfl
                   have pQ := blk_frozen aH.out 2
                   have nH := aZ.out
                   have nI := a4.out
                   have nJ := aX.out
                   have nK := a5.out
                   refine skip_ (w1 := ?_) (by rfl) rfl ?_ ?_
                   rotate_left
                   ·go_simp
                    rfl
                   refine hK.out _ _ ?_
                   clear hK K
                   refine done_ (done_of HT_.out (by kernel_rfl)) ?_
                   have pS := aV.out
                   have pT := aT.out
                   have pU := aZ.out
                   have pW := aX.out
                   obtain ⟨nL, nM, nN, nO⟩ := Cb.c4 aD.out
                   obtain ⟨nP, nQ, nR, nS⟩ := Cb.f4 aD.out
                   have pX := a5.out
                   have pY := a4.out
                   obtain ⟨nT, nU, nV⟩ := Cb.c3 aH.out
                   obtain ⟨nW, nX, nY⟩ := Cb.f3 aH.out
                   obtain ⟨iD, g8, nZ⟩ := Kd.V_slice aA.out
                   subst nZ
                   try go_wp2_with (first | ((with_reducible refine gate_callee (f := 73) rfl ?_); refine goesL_ (some 99) rfl rfl Try.func73 (by kernel_rfl) rfl #[.agg #[.slice iD aU.length g8, .int .i64 a0, .int .i64 a3, .bool false], .int .i64 bG, .agg #[.string aG, .string aE, .string (aC ++ (a2.extract 0 (aK : Int).toNat))]] rfl (by (try simp only [List.map_toArray, List.map_cons, List.map_nil]); first | done | rfl | (simp only [List.length_drop, List.length_take]; rfl)) ?_; (with_reducible refine (stanchionref03_with.calls _ _ aU a0 a3 false bG aG aE (aC ++ (a2.extract 0 (aK : Int).toNat)) bD bE bC bJ _ ?side1 ?side2 h4.out).mono ?_); (case side1 => refine (Kd.V_reads' (e := 38) (base := w.heap.size) (ok := fun k_ => ((a8 k_ ∨ w.heap.size ≤ k_) ∧ (k_ ≠ aM ∧ (k_ ≠ aN ∧ k_ ≠ aJ)))) (n := aU.length) (c := g8) ?_).2.2; exact (pV ((Kd.V_mono (Kd.V_far (p := ⟨aJ, 2, none⟩) (Kd.V_mono aA.out (fun k_ hk => (⟨hk, hk.2.2.2⟩ : _ ∧ k_ ≠ aJ))) (fun _ hk => hk.2) (.string (aC ++ (a2.extract 0 (aK : Int).toNat)))) (fun _ h_ => h_.1))))); (case side2 => exact (Kd.V_reads' aA.out).2.1); rintro e pZ ⟨iP, rfl, fD, hb⟩; refine ⟨_, rfl, ?_⟩; have a6 := ak (Kd.R_lower (Kd.R_newB (Kd.R_newM (M := fun k_ => (w.heap.size ≤ k_)) fD (below_size (by repeat (first | (with_reducible first | exact HB.out | apply ba | apply bn | apply bd | refine bs ?_ aP.out | refine bs ?_ aQ.out | refine bs ?_ aY.out) | exact HB.out))) (fun k_ h_ => h_)) (g := aJ) (o := .cells #[.string aG, .string aE, .string (aC ++ (a2.extract 0 (aK : Int).toNat))] 38 (0, 0)) (by (with_reducible repeat (first | refine blk_drewN ?_ _ | refine blk_drew ?_ | refine blk_alloc ?_ _)); exact blk_put (pk aH.out) 2 _ rfl)) (below_size (by repeat (first | (with_reducible first | exact HB.out | apply ba | apply bn | apply bd | refine bs ?_ aP.out | refine bs ?_ aQ.out | refine bs ?_ aY.out) | exact HB.out)))); replace aA := ak (Kd.V_elder' (pV ((Kd.V_mono (Kd.V_far (p := ⟨aJ, 2, none⟩) (Kd.V_mono aA.out (fun k_ hk => (⟨hk, hk.2.2.2⟩ : _ ∧ k_ ≠ aJ))) (fun _ hk => hk.2) (.string (aC ++ (a2.extract 0 (aK : Int).toNat)))) (fun _ h_ => h_.1)))) (Kd.R_base fD) hb); replace aD := ak (blk_below (g := aM) (o := .cells #[.slice iD aU.length g8, .int .i64 a0, .int .i64 a3, .bool false] 33 (0, 0)) (by (with_reducible repeat (first | refine blk_drewN ?_ _ | refine blk_drew ?_ | refine blk_alloc ?_ _)); exact blk_far (pk aD.out) aZ.out _) hb); replace aI := ak (blk_below (g := aN) (o := .cells #[.slice none 0 0, .int .i64 0, .int .i64 0, .bool false] 33 (0, 0)) (by (with_reducible repeat (first | refine blk_drewN ?_ _ | refine blk_drew ?_ | refine blk_alloc ?_ _)); exact blk_far (pk aI.out) a4.out _) hb); replace aH := ak (blk_below (g := aJ) (o := .cells #[.string aG, .string aE, .string (aC ++ (a2.extract 0 (aK : Int).toNat))] 38 (0, 0)) (by (with_reducible repeat (first | refine blk_drewN ?_ _ | refine blk_drew ?_ | refine blk_alloc ?_ _)); exact blk_put (pk aH.out) 2 _ rfl) hb); replace HB := ak (below_step (by repeat (first | (with_reducible first | exact HB.out | apply ba | apply bn | apply bd | refine bs ?_ aP.out | refine bs ?_ aQ.out | refine bs ?_ aY.out) | exact HB.out)) hb); (try clear hb); (try clear hb2); (try clear hk); (try clear hi); (try clear fD); obtain ⟨eY, eZ, n0⟩ := Kd.R_slice a6.out; subst n0; obtain ⟨n1, n2, n3, n4⟩ := Cb.c4 aD.out; obtain ⟨n5, n6, n7, n8⟩ := Cb.f4 aD.out) | ((with_reducible refine gate_store (t := 33) (p := 3) rfl ?_); refine store_event (t := 33) (p := 3) (v := ?vo_w162) (w1 := ((((pZ.setCell ⟨aM, 0, none⟩ (.slice eY bD.length eZ)).setCell ⟨aM, 1, none⟩ (.int .i64 bE)).setCell ⟨aM, 2, none⟩ (.int .i64 bC)).setCell ⟨aM, 3, none⟩ (.bool bJ))) ?hg ?ho ?hn ?hr ?_; (case ho => rfl); (case hg => rfl); (case hn => rfl); (case hr => first | (go_simp; done) | (go_simp; rfl)); intro p0 hw; replace aA := vg4 (ok' := fun k_ => (a8 k_ ∨ w.heap.size ≤ k_) ∧ some k_ ≠ (.slice eY bD.length eZ : Value).ownBlock ∧ k_ ≠ aM ∧ k_ ≠ aN ∧ k_ ≠ aJ) hw aA.out (fun _ hk => hk.1.2.1) fun _ hk => ⟨hk.1.1, ⟨hk.2, ⟨hk.1.2.1, ⟨hk.1.2.2.1, hk.1.2.2.2⟩⟩⟩⟩; replace a6 := rt4 (ok' := fun k_ => (w.heap.size ≤ k_) ∧ k_ ≠ aJ) hw a6.out aD.out (by decide) fun _ hk => ⟨hk.1.1.1, hk.1.2⟩; replace aD := bp4 hw aD.out; replace aI := bf4 hw aT.out aI.out; replace aH := bf4 hw aX.out aH.out; replace HB := bw4 hw HB.out aP.out; clear hw; obtain ⟨n9, oA, oB, oC⟩ := Cb.c4 aD.out; obtain ⟨oD, oE, oF, oG⟩ := Cb.f4 aD.out; obtain ⟨oH, oI, oJ, oK⟩ := Cb.c4 aI.out; obtain ⟨oL, oM, oN, oO⟩ := Cb.f4 aI.out) | ((with_reducible refine gate_store (t := 33) (p := 6) rfl ?_); refine store_event (t := 33) (p := 6) (v := ?vo_w165) (w1 := (((((p0.setCell ⟨aM, 1, none⟩ (.int .i64 (wrap64 (bE - aK)))).setCell ⟨aN, 0, none⟩ (.slice eY bD.length eZ)).setCell ⟨aN, 1, none⟩ (.int .i64 (wrap64 (bE - aK)))).setCell ⟨aN, 2, none⟩ (.int .i64 bC)).setCell ⟨aN, 3, none⟩ (.bool bJ))) ?hg ?ho ?hn ?hr ?_; (case ho => rfl); (case hg => rfl); (case hn => rfl); (case hr => first | (go_simp; done) | (go_simp; rfl)); intro p1 hw; replace aA := vf4 hw (vf1 rfl aA.out fun _ hk => hk.2.2.1).out fun _ hk => hk.2.2.2.1; replace a6 := rg4 (ok' := fun k_ => (w.heap.size ≤ k_) ∧ k_ ≠ aJ) hw (rf1 rfl (Kd.R_types (Kd.R_types a6.out aD.out (by decide)) aI.out (by decide)) fun _ hk => hk.1.2).out (fun _ hk => hk.2) fun _ hk => ⟨hk.1.1.1, hk.1.1.2⟩; replace aD : Aside0 (p1.heap[aM]? = some (.cells #[.slice eY bD.length eZ, .int .i64 (wrap64 (bE - aK)), .int .i64 bC, .bool bJ] 33 (0, 0))) := bf4 hw aV.out (blk_put aD.out 1 _ rfl); replace aI := bp4 hw (bf1 rfl aT.out aI.out).out; replace aH := bf4 hw a5.out (bf1 rfl aX.out aH.out).out; replace HB := bw4 hw (bw1 rfl HB.out aP.out).out aQ.out; clear hw))
                   refine bodyPost_ret (results_ct rfl _ _ aN 33 #[.slice eY bD.length eZ, .int .i64 (wrap64 (bE - aK)), .int .i64 bC, .bool bJ] (0, 0) _ rfl (pk aI.out) Try.underlying33 rfl (by kernel_rfl)) rfl ?_
                   exact ⟨_, by first | rfl | (simp [errW_none, errW_some] <;> rfl) | (simp [*, errW_none, errW_some] <;> rfl), Kd.V_mono (Kd.R_V (pR (Kd.R_mono a6.out (fun _ hk => hk.1)))) (fun k_ hk => by first | exact ⟨(.inr (hk.1)), hk.2⟩ | exact (.inr (hk))), by repeat (first | (with_reducible first | exact HB.out | apply ba | apply bn | apply bd | refine bs ?_ aP.out | refine bs ?_ aQ.out | refine bs ?_ aY.out) | exact HB.out)⟩

end Go.Proofs.Ytbhkopbalhhpgaa.PY
