-- Made by a program of this workplace out of the translation (wip/tools in the repo). Not trusted: Lean checks it.
import Derived.Test.YtbhkopbalhhpgaaPYx0
import Derived.Test.YtbhkopbalhhpgaaCb
import Derived.Test.YtbhkopbalhhpgaaSq
import Derived.Test.YtbhkopbalhhpgaaSt
import Derived.Test.YtbhkopbalhhpgaaPYx3
import Derived.Test.YtbhkopbalhhpgaaPYx4
namespace Go.Proofs.Ytbhkopbalhhpgaa.PY
open Go.RowKit Go.Proofs.YtbhkopbalhhpgaaW.PrintWords Go.Proofs.YtbhkopbalhhpgaaW.PrintLast Go.Proofs.YtbhkopbalhhpgaaW.PrintMore Go.Proofs.Ytbhkopbalhhpgaa
attribute [local go_sem] max2_int min2_int max_two min_two max_three min_three max_four min_four   -- for this text's walks alone
set_option linter.unusedVariables false
set_option linter.unusedSimpArgs false

/-! ### stanchionlaw06_RunLays (function 5): what it is -/
def stanchionlaw06_RunLays.f (k : Nat) (aC : List (S38)) (aD : Int) (aE : Int) (aF : Bool) (a1 : ByteArray) (a2 : ByteArray) : Option (Bool) := (stanchionlaw06_shown.f k).bind fun aI => ((run_Lay.f k aC aD aE aF a1 a2).bind fun aA => ((stanchionref06_Lay.f k aC aD aE aF a1 a2).bind fun aB => ((run_Load.f k aC aD aE aF a1).bind fun aG => ((stanchionref06_Load.f k aC aD aE aF a1).bind fun aH => ((stanchionref03_Same.f k aA.1 aA.2.1 aA.2.2.1 aA.2.2.2.1 aB.1 aB.2.1 aB.2.2.1 aB.2.2.2.1).bind fun aJ => (if aJ = true then ((stanchionref05_Same.f k aG.1 aH.1).bind fun aK => (if aI = true then (if aK = true then (if aA.2.2.2.2 = aB.2.2.2.2 then (some (aG.2 == aH.2)) else (some false)) else (some false)) else (some false))) else (if aI = true then (some false) else (some false))))))))
/-! ### run_may_1: function 58 -/
set_option maxHeartbeats 8000000 in
set_option maxRecDepth 100000 in
theorem run_may_1.calls (a0_0 : ByteArray) (a0_1 : ByteArray) (r : Bool) (w : World) (h : run_may_1.f a0_0 a0_1 = some r) :
  Calls Try.prog 58 #[.agg #[.string a0_0, .string a0_1]] w fun e w' => e = .returned (.bool r) ∧ Below w.heap.size w w' := by
 have hu62 := Try.underlying62
 have HB := ak (Below.refl w.heap.size w)
 have H : (if (a0_0.size : Int) > 65536 then (some true) else (some (decide ((a0_1.size : Int) > 65536)))) = some r := h
 clear h
 by_cases c2 : (a0_0.size : Int) > 65536
 ·rw [if_pos c2] at H
  have c2b0 : decide (65536 < (a0_0.size : Int)) = true := decide_eq_true c2
  have c2b1 : decide (65536 < a0_0.size) = true := decide_eq_true (by omega)
  clear c2
  obtain rfl := Option.some.inj H
  go_enter Try.func58, Try.ntmps58
  go_wp2_with (first | ((with_reducible refine gate_dst (N := 1) rfl ?_); (try (refine gate_guard (by rfl) ?_; dsimp only)); refine box_event ?hg (N := 1) ?hd (cs := #[.string a0_0, .string a0_1]) (t := 62) ?hr ?_; (case hd => rfl); (case hg => rfl); (case hr => first | (go_simp; done) | (go_simp; rfl)); intro gb101 hg w3 hbox hb; obtain ⟨n_, GE101⟩ := Cb.bx (pB HB.out) hg hb; have GW101 := GE101; have BK101 := ak (hbox); replace HB := n_; clear n_; clear hb hbox hg; obtain ⟨hcz4_0, hcz4_1⟩ := Cb.c2 BK101.out; obtain ⟨hfz4_0, hfz4_1⟩ := Cb.f2 BK101.out))
  go_ret
  exact ⟨by first | rfl | (simp [errW_none, errW_some] <;> rfl) | (simp [*, errW_none, errW_some] <;> rfl) | (simp [*, errW_none, errW_some]; generalize ByteArray.toList _ = q_; cases q_ <;> rfl), by repeat (first | (with_reducible first | exact HB.out | apply ba | apply bn | apply bd | refine bs ?_ GE101.out) | exact HB.out)⟩
 ·rw [if_neg c2] at H
  have c2b0 : decide (65536 < (a0_0.size : Int)) = false := decide_eq_false c2
  have c2b1 : decide (65536 < a0_0.size) = false := decide_eq_false (by omega)
  clear c2
  obtain rfl := Option.some.inj H
  go_enter Try.func58, Try.ntmps58
  go_wp2_with (first | ((with_reducible refine gate_dst (N := 1) rfl ?_); (try (refine gate_guard (by rfl) ?_; dsimp only)); refine box_event ?hg (N := 1) ?hd (cs := #[.string a0_0, .string a0_1]) (t := 62) ?hr ?_; (case hd => rfl); (case hg => rfl); (case hr => first | (go_simp; done) | (go_simp; rfl)); intro gb101 hg w5 hbox hb; obtain ⟨n_, GE101⟩ := Cb.bx (pB HB.out) hg hb; have GW101 := GE101; have BK101 := ak (hbox); replace HB := n_; clear n_; clear hb hbox hg; obtain ⟨hcz6_0, hcz6_1⟩ := Cb.c2 BK101.out; obtain ⟨hfz6_0, hfz6_1⟩ := Cb.f2 BK101.out))
  go_ret
  exact ⟨by first | rfl | (simp [errW_none, errW_some] <;> rfl) | (simp [*, errW_none, errW_some] <;> rfl) | (simp [*, errW_none, errW_some]; generalize ByteArray.toList _ = q_; cases q_ <;> rfl), by repeat (first | (with_reducible first | exact HB.out | apply ba | apply bn | apply bd | refine bs ?_ GE101.out) | exact HB.out)⟩

/-! ### table_Right: function 59 -/
set_option maxHeartbeats 8000000 in
set_option maxRecDepth 100000 in
theorem table_Right.calls (k : Nat) (A0 : Option Addr) (c0 : Nat) (l0 : List (S62)) (r : Bool) (w : World) (aQ : Kd.C k62 w A0 l0.length l0) (aR : l0.length ≤ c0) (h : table_Right.f k l0 = some r) :
  Calls Try.prog 59 #[.slice A0 l0.length c0] w fun e w' => e = .returned (.bool r) ∧ Drawn0 w w' := by
 have aN := ak aQ
 have aX := ak aR
 clear aQ aR
 have H : (table_Right.l0 k l0 1) = some r := h
 clear h
 have H' := ak H
 clear H
 go_enter Try.func59, Try.ntmps59
 go_wp2
 repeat (go_quiet (fail); try go_wp2)
 go_loopg [3] k (fun kq v3 w' => ∃ (aA : Int), v3 = .int .i64 aA ∧ Aside0 (table_Right.l0 kq l0 aA = some r) ∧ Aside0 (kq ≤ k) ∧ Drawn0 w w')
 case atStart => exact ⟨(1), (by first | rfl | (simp; done) | (simp [*]; done)), H', ⟨Nat.le_refl _⟩, by repeat (first | exact Drawn0.refl _ | apply Drawn0.step)⟩
 case round =>
  clear H'
  obtain ⟨aA, rfl, HA, aS, ⟨m1, rfl⟩⟩ := hrel
  cases gk with
  | zero => exact absurd HA.out (by simp [table_Right.l0])
  | succ k1 =>
   have H := HA.out
   clear HA
   simp only [table_Right.l0] at H
   by_cases c2 : aA < (l0.length : Int)
   ·rw [if_pos c2] at H
    have aO : decide (aA < (l0.length : Int)) = true := decide_eq_true c2
    clear c2
    obtain ⟨ji3, hji3⟩ : ∃ j_ : Int, (wrap64 (aA - 1)) = j_ := ⟨_, rfl⟩
    replace H : (if 0 ≤ (ji3) then (if (ji3) < (l0.length : Int) then (if 0 ≤ aA then (if ((Op.bytesLess (((rd_T62 l0 (ji3)).f0).toList) (((rd_T62 l0 aA).f0).toList)) = true) then (table_Right.l0 k1 l0 (wrap64 (aA + 1))) else (some false)) else (none)) else (none)) else (none)) = some r := by first | (rw [hji3] at H; exact H) | (simp only [hji3] at H ⊢; exact H)
    have aT : (IntKind.i64.wrap (aA - 1)) = ji3 := (i64_w _).trans hji3
    have c4 : 0 ≤ (ji3) := Decidable.byContradiction fun q => by rw [if_neg q] at H; exact absurd H (by simp)
    rw [if_pos c4] at H
    have aU : decide (0 ≤ (ji3)) = true := decide_eq_true c4
    clear c4
    have c5 : (ji3) < (l0.length : Int) := Decidable.byContradiction fun q => by rw [if_neg q] at H; exact absurd H (by simp)
    rw [if_pos c5] at H
    have aV : decide ((ji3) < (l0.length : Int)) = true := decide_eq_true c5
    clear c5
    have c6 : 0 ≤ aA := Decidable.byContradiction fun q => by rw [if_neg q] at H; exact absurd H (by simp)
    rw [if_pos c6] at H
    have aW : decide (0 ≤ aA) = true := decide_eq_true c6
    clear c6
    by_cases c7 : ((Op.bytesLess (((rd_T62 l0 (ji3)).f0).toList) (((rd_T62 l0 aA).f0).toList)) = true)
    ·rw [if_pos c7] at H
     have aP : (Op.bytesLess (((rd_T62 l0 (ji3)).f0).toList) (((rd_T62 l0 aA).f0).toList)) = true := c7
     clear c7
     have H' := ak H
     clear H
     have aB : 0 ≤ ((ji3) : Int) := of_decide_eq_true (by first | (with_reducible assumption) | assumption)
     have aC : (ji3) < (l0.length : Int) := of_decide_eq_true (by first | (with_reducible assumption) | assumption)
     obtain ⟨aF, aL, aH, aI⟩ := at_T62 aN.out (ji3) aB aC
     cases aL
     replace aB := eq_true aB
     replace aC := eq_true aC
     have aD : 0 ≤ (aA : Int) := of_decide_eq_true (by first | (with_reducible assumption) | assumption)
     have aE : aA < (l0.length : Int) := of_decide_eq_true (by first | (with_reducible assumption) | assumption)
     obtain ⟨aG, aM, aJ, aK⟩ := at_T62 aN.out aA aD aE
     obtain rfl : aF = aG := (by injection aM)
     replace aD := eq_true aD
     replace aE := eq_true aE
     go_wp2
     repeat (go_quiet (fail); try go_wp2)
     go_roundg k1
     case measure => have := aS.out; omega
     case rel => exact ⟨(wrap64 (aA + 1)), (by first | rfl | (simp; done) | (simp [*]; done)), H', ⟨by have := aS.out; omega⟩, by repeat (first | exact Drawn0.refl _ | apply Drawn0.step)⟩
    ·rw [if_neg c7] at H
     have aP : (Op.bytesLess (((rd_T62 l0 (ji3)).f0).toList) (((rd_T62 l0 aA).f0).toList)) = false := by simpa using c7
     clear c7
     obtain rfl := Option.some.inj H
     have aB : 0 ≤ ((ji3) : Int) := of_decide_eq_true (by first | (with_reducible assumption) | assumption)
     have aC : (ji3) < (l0.length : Int) := of_decide_eq_true (by first | (with_reducible assumption) | assumption)
     obtain ⟨aF, aL, aH, aI⟩ := at_T62 aN.out (ji3) aB aC
     cases aL
     replace aB := eq_true aB
     replace aC := eq_true aC
     have aD : 0 ≤ (aA : Int) := of_decide_eq_true (by first | (with_reducible assumption) | assumption)
     have aE : aA < (l0.length : Int) := of_decide_eq_true (by first | (with_reducible assumption) | assumption)
     obtain ⟨aG, aM, aJ, aK⟩ := at_T62 aN.out aA aD aE
     obtain rfl : aF = aG := (by injection aM)
     replace aD := eq_true aD
     replace aE := eq_true aE
     go_wp2
     repeat (go_quiet (fail); try go_wp2)
     go_ret
     exact ⟨by first | rfl | (simp; done) | (simp only [← hji3] <;> (first | rfl | simp)) | (simp [*]; done), by repeat (first | exact Drawn0.refl _ | apply Drawn0.step)⟩
   ·rw [if_neg c2] at H
    have aO : decide (aA < (l0.length : Int)) = false := decide_eq_false c2
    clear c2
    obtain rfl := Option.some.inj H
    go_wp2
    repeat (go_quiet (fail); try go_wp2)
    go_ret
    exact ⟨by first | rfl | (simp; done) | (simp [*]; done), by repeat (first | exact Drawn0.refl _ | apply Drawn0.step)⟩

open Go.Proofs.Ytbhkopbalhhpgaa.Cp
/-! ### api_Pair_86: function 86 -/
set_option maxHeartbeats 8000000 in
set_option maxRecDepth 100000 in
theorem api_Pair_86.calls (p : S62 → Bool) (g : Nat) (lb : Array Value) (eg : ∀ args w, (callFunc g args).run Try.prog w = .ok (.enter g args) w) (A0 : Option Addr) (c0 : Nat) (l0 : List (S62)) (w : World) (hr0 : Kd.C k62 w A0 l0.length l0)
  (hp : ∀ (W : World) (x : S62), Below w.heap.size w W → Calls Try.prog g (#[.agg #[.string x.f0, .string x.f1]] ++ lb) W fun e w' => e = .returned (.bool (p x)) ∧ Below W.heap.size W w') :
  Calls Try.prog 86 #[.slice A0 l0.length c0, .func (.func g) #[] lb] w fun e w' => e = .returned (.int .i64 (ixOf p l0)) ∧ Below w.heap.size w w' := by
 have hu62 := Try.underlying62
 have HR := ak hr0
 have HP := ak hp
 have hmx := hr0.2.1
 clear hr0 hp
 go_enter Try.func86, Try.ntmps86
 go_wp2
 go_loopg [5, 8] l0.length (fun gg _ s8 wr => ∃ kk : Nat, kk ≤ l0.length ∧ l0.length - kk ≤ gg ∧ s8 = .int .i64 kk ∧ Aside0 (Below w.heap.size w wr) ∧ Aside0 (∀ j, j < kk → p (l0.getD j z62) = false))
 case atStart => exact ⟨0, Nat.zero_le _, by omega, rfl, ⟨Below.refl _ w⟩, ⟨fun j hj => absurd hj (Nat.not_lt_zero _)⟩⟩
 case round =>
  obtain ⟨kk, hkk, hg, rfl, HB, A⟩ := hrel
  by_cases hlt : kk < l0.length
  ·have hltz : (kk : Int) < (l0.length : Int) := by omega
   obtain ⟨ad, e, hx0, hx1⟩ := at_T62 (Kd.C_below HR.out HB.out) (kk : Int) (by omega) hltz
   cases e
   simp only [Int.toNat_natCast] at hx0 hx1
   have hcall := HP.out wr (l0.getD kk z62) HB.out
   have e0 : rd_T62 l0 (kk : Int) = l0.getD kk z62 := by simp [rd_T62]
   rw [e0] at hx0 hx1
   clear e0
   obtain ⟨y, hy⟩ : ∃ y, l0.getD kk z62 = y := ⟨_, rfl⟩
   rw [hy] at hx0 hx1 hcall
   have Y := ak hy
   clear hy
   obtain ⟨q, hq⟩ : ∃ q, p y = q := ⟨_, rfl⟩
   rw [hq] at hcall
   have Q := ak hq
   clear hq
   cases q with
   | true =>
    go_wp2_with (go_at_fn g; refine hcall.mono ?_; rintro e w' ⟨rfl, hb'⟩)
    go_ret
    exact ⟨by rw [ixOf_hit p l0 z62 kk hlt (by rw [Y.out]; exact Q.out) A.out]; rfl, below_step HB.out hb'⟩
   | false =>
    go_wp2_with (go_at_fn g; refine hcall.mono ?_; rintro e w' ⟨rfl, hb'⟩)
    go_roundg (l0.length - (kk + 1))
    case measure => omega
    case rel =>
     refine ⟨kk + 1, by omega, by omega, by go_num, ⟨below_step HB.out hb'⟩, ⟨fun j hj => ?_⟩⟩
     by_cases e : j = kk
     ·subst e; rw [Y.out]; exact Q.out
     ·exact A.out j (by omega)
  ·have hltz : decide ((kk : Int) < (l0.length : Int)) = false := decide_eq_false (by omega)
   have hltn : decide (kk < l0.length) = false := decide_eq_false (by omega)
   have E := ak (show kk = l0.length by omega)
   go_wp2
   go_ret
   exact ⟨by rw [ixOf_miss p l0 z62 (fun j hj => A.out j (by have := E.out; omega))]; rfl, HB.out⟩

open Go.Proofs.Ytbhkopbalhhpgaa.Cp
/-! ### api_Pair_60: function 60 -/
theorem ixOf_any {α : Type} (p : α → Bool) (l : List α) : decide (ixOf p l ≥ 0) = l.any p := by
 unfold ixOf
 by_cases h : l.findIdx p < l.length
 ·rw [if_pos h, List.any_eq_true.2 ⟨l[l.findIdx p], List.getElem_mem h, List.findIdx_getElem⟩]
  exact decide_eq_true (by omega)
 ·rw [if_neg h, List.any_eq_false.2 (fun x hx hp => h (List.findIdx_lt_length_of_exists ⟨x, hx, hp⟩))]
  decide
set_option maxHeartbeats 8000000 in
theorem api_Pair_60.calls (p : S62 → Bool) (g : Nat) (lb : Array Value) (eg : ∀ args w, (callFunc g args).run Try.prog w = .ok (.enter g args) w) (A0 : Option Addr) (c0 : Nat) (l0 : List (S62)) (w : World) (hr0 : Kd.C k62 w A0 l0.length l0)
  (hp : ∀ (W : World) (x : S62), Below w.heap.size w W → Calls Try.prog g (#[.agg #[.string x.f0, .string x.f1]] ++ lb) W fun e w' => e = .returned (.bool (p x)) ∧ Below W.heap.size W w') :
  Calls Try.prog 60 #[.slice A0 l0.length c0, .func (.func g) #[] lb] w fun e w' => e = .returned (.bool (l0.any p)) ∧ Below w.heap.size w w' := by
 have HR := ak hr0
 have HP := ak hp
 clear hr0 hp
 go_enter Try.func60, Try.ntmps60
 go_wp2_with (go_at_call 86; (refine (api_Pair_86.calls p g lb eg A0 c0 l0 _ HR.out HP.out).mono ?_; rintro e w' ⟨rfl, hb⟩))
 go_ret
 exact ⟨by rw [← ixOf_any]; rfl, hb⟩

/-! ### run_may: function 28 -/
theorem enters58 : ∀ args w, (callFunc 58 args).run Try.prog w = .ok (.enter 58 args) w := enters_of Try.func58 (by kernel_rfl) rfl
set_option maxHeartbeats 8000000 in
theorem run_may_has_1.calls (x : S62) (W : World) :
  Calls Try.prog 58 #[.agg #[.string x.f0, .string x.f1]] W fun e w' => e = .returned (.bool ((run_may_1.f x.f0 x.f1).getD false)) ∧ Below W.heap.size W w' := by
 obtain ⟨r, hr⟩ : ∃ r, run_may_1.f x.f0 x.f1 = some r := by unfold run_may_1.f; (repeat' split) <;> exact ⟨_, rfl⟩
 refine (run_may_1.calls x.f0 x.f1 r W hr).mono ?_
 rintro e w' ⟨rfl, hb⟩
 exact ⟨by rw [hr]; rfl, hb⟩
theorem run_may_has.calls (A0 : Option Addr) (c0 : Nat) (l0 : List (S62)) (r : Bool) (w : World) (hr0 : Kd.C k62 w A0 l0.length l0) (hc0 : l0.length ≤ c0) (h : run_may_has.f l0 = some r) :
  Calls Try.prog 60 #[.slice A0 l0.length c0, .func (.func 58) #[] #[]] w fun e w' => e = .returned (.bool r) ∧ Below w.heap.size w w' := by
 obtain rfl := Option.some.inj h
 exact api_Pair_60.calls (fun x => (run_may_1.f x.f0 x.f1).getD false) 58 #[] enters58 A0 c0 l0 w hr0 (fun W x _ => run_may_has_1.calls x W)
set_option maxHeartbeats 8000000 in
set_option maxRecDepth 100000 in
theorem run_may.calls (k : Nat) (A0 : Option Addr) (c0 : Nat) (l0 : List (S62)) (r : Bool) (w : World) (aE : Kd.C k62 w A0 l0.length l0) (aF : l0.length ≤ c0) (h : run_may.f k l0 = some r) :
  Calls Try.prog 28 #[.slice A0 l0.length c0] w fun e w' => e = .returned (.bool r) ∧ Below w.heap.size w w' := by
 have aC := ak aE
 have aD := ak aF
 clear aE aF
 have HB := ak (Below.refl w.heap.size w)
 have H : ((table_Right.f k l0).bind fun aB => (if aB = true then ((run_may_has.f l0).bind fun aA => (some (!aA))) else (some false))) = some r := h
 clear h
 replace H := Option.bind_eq_some_iff.mp H
 obtain ⟨aB, aG, H⟩ := H
 replace H : (if aB = true then ((run_may_has.f l0).bind fun aA => (some (!aA))) else (some false)) = some r := H
 have A2 := ak aG
 clear aG
 by_cases c3 : aB = true
 ·subst c3
  have H1 : ((run_may_has.f l0).bind fun aA => (some (!aA))) = some r := by rw [if_pos rfl] at H; exact H
  clear H
  have H := H1
  clear H1
  replace H := Option.bind_eq_some_iff.mp H
  obtain ⟨aA, aH, H⟩ := H
  replace H : (some (!aA)) = some r := H
  have A4 := ak aH
  clear aH
  obtain rfl := Option.some.inj H
  go_enter Try.func28, Try.ntmps28
  go_wp2_with (first | ((with_reducible refine gate_callee (f := 59) rfl ?_); refine goesL_ (some 5) rfl rfl Try.func59 (by kernel_rfl) rfl #[.slice A0 l0.length c0] rfl (by (try simp only [List.map_toArray, List.map_cons, List.map_nil]); first | done | rfl | (simp only [List.length_drop, List.length_take]; rfl)) ?_; (with_reducible refine (table_Right.calls k _ _ l0 true _ ?side1 ?side2 A2.out).mono ?_); (case side1 => repeat (first | exact aC.out | (with_reducible refine Kd.C_alloc ?_ _) | (with_reducible refine Kd.C_drewN ?_ _) | (with_reducible refine Kd.C_drew ?_))); (case side2 => exact aD.out); rintro e w' ⟨rfl, ⟨nd, rfl⟩⟩; refine ⟨_, rfl, ?_⟩) | (go_at_call 60; (with_reducible refine (run_may_has.calls _ _ l0 aA _ ?side1 ?side2 A4.out).mono ?_); (case side1 => repeat (first | exact aC.out | (with_reducible refine Kd.C_alloc ?_ _) | (with_reducible refine Kd.C_drewN ?_ _) | (with_reducible refine Kd.C_drew ?_))); (case side2 => exact aD.out); rintro e w5 ⟨rfl, hb⟩; replace HB := ak (below_step (pB HB.out) hb); (try clear hb); (try clear hb2); (try clear hk); (try clear hi)))
  go_ret
  exact ⟨by first | rfl | (simp [errW_none, errW_some] <;> rfl) | (simp [*, errW_none, errW_some] <;> rfl), pB HB.out⟩
 ·replace c3 := Bool.eq_false_iff.mpr c3
  subst c3
  have H1 : (some false) = some r := by rw [if_neg (show ¬ (false = true) by decide)] at H; exact H
  clear H
  have H := H1
  clear H1
  obtain rfl := Option.some.inj H
  go_enter Try.func28, Try.ntmps28
  go_wp2_with (first | ((with_reducible refine gate_callee (f := 59) rfl ?_); refine goesL_ (some 5) rfl rfl Try.func59 (by kernel_rfl) rfl #[.slice A0 l0.length c0] rfl (by (try simp only [List.map_toArray, List.map_cons, List.map_nil]); first | done | rfl | (simp only [List.length_drop, List.length_take]; rfl)) ?_; (with_reducible refine (table_Right.calls k _ _ l0 false _ ?side1 ?side2 A2.out).mono ?_); (case side1 => repeat (first | exact aC.out | (with_reducible refine Kd.C_alloc ?_ _) | (with_reducible refine Kd.C_drewN ?_ _) | (with_reducible refine Kd.C_drew ?_))); (case side2 => exact aD.out); rintro e w' ⟨rfl, ⟨nd, rfl⟩⟩; refine ⟨_, rfl, ?_⟩))
  go_ret
  exact ⟨by first | rfl | (simp [errW_none, errW_some] <;> rfl) | (simp [*, errW_none, errW_some] <;> rfl), pB HB.out⟩

-- NOT PRINTED: function 87 (abi_NoEscape)

-- NOT PRINTED: function 61 (strings_Builder_copyCheck)

-- NOT PRINTED: function 29 (strings_Builder_WriteString)

open Go.Proofs.Ytbhkopbalhhpgaa.Cp
/-! ### dec_Num: function 30 -/
def u8row (B : List UInt8) : Array Value := (B.map fun x => Value.int .u8 (x.toNat : Int)).toArray
theorem u8row_set (B : List UInt8) (i : Nat) (x : UInt8) : (u8row B).setIfInBounds i (.int .u8 (x.toNat : Int)) = u8row (B.set i x) := by
 unfold u8row
 rw [List.setIfInBounds_toArray, List.map_set]
theorem drop_set_eq (B : List UInt8) (n : Nat) (x : UInt8) (h : n < B.length) : (B.set n x).drop n = x :: B.drop (n + 1) := by
 rw [List.drop_set, if_neg (Nat.lt_irrefl n), Nat.sub_self, List.drop_eq_getElem_cons h]
 rfl
theorem u64_div (v : Int) (h0 : 0 ≤ v) (h1 : v < 18446744073709551616) : IntKind.u64.wrap (v.tdiv 10) = ((v.toNat / 10 : Nat) : Int) := by
 rw [Int.tdiv_eq_ediv_of_nonneg h0]
 have e : IntKind.u64.wrap (v / 10) = (v / 10) % 18446744073709551616 := rfl
 rw [e]
 omega
theorem u8str (l : List UInt8) : strOfNums (l.map fun y => (y.toNat : Int)) = ⟨l.toArray⟩ := by
 unfold strOfNums
 rw [List.map_map]
 congr 2
 conv => rhs; rw [← List.map_id l]
 exact List.map_congr_left (fun a _ => by simp)
set_option maxHeartbeats 8000000 in
set_option maxRecDepth 100000 in
theorem dec_Num.calls (a0 : Int) (r : ByteArray) (w : World) (h : dec_Num.f a0 = some r) :
  Calls Try.prog 30 #[.int .u64 a0] w fun e w' => e = .returned (.string r) ∧ Below w.heap.size w w' := by
 unfold dec_Num.f at h
 split at h
 case isFalse => cases h
 split at h
 case isFalse => cases h
 rename_i h0 h1
 obtain rfl := Option.some.inj h
 clear h
 go_enter Try.func30, Try.ntmps30
 go_wp2
 go_loopg [0, 4] 21 (fun gg s0 s4 wr => ∃ (v : Int) (n : Nat) (B : List UInt8), s0 = .int .u64 v ∧ s4 = .int .i64 ((n : Int) + 1) ∧ n ≤ 19 ∧ n + 1 ≤ gg ∧ Aside0 (v.toNat < 10 ^ (n + 1)) ∧ Aside0 (0 ≤ v ∧ v < 18446744073709551616) ∧ Aside0 (B.length = 21) ∧ Aside0 (wr.heap[w.heap.size]? = some (.cells (u8row B) 97 (0, 0))) ∧ Aside0 (Below w.heap.size w wr) ∧ Aside0 (dg (n + 1) v.toNat (B.drop (n + 1)) = dg 20 a0.toNat [59]))
 case atStart =>
  refine ⟨a0, 19, [0,0,0,0,0,0,0,0,0,0,0,0,0,0,0,0,0,0,0,0,59], rfl, rfl, by omega, by omega, ⟨by omega⟩, ⟨⟨by omega, by omega⟩⟩, ⟨rfl⟩, ⟨?_⟩, ⟨(Below.refl _ _).alloc (Nat.le_refl _) _⟩, ⟨rfl⟩⟩
  exact blk_new w _
 case round =>
  obtain ⟨v, n, B, rfl, rfl, hn, hg, V, HV, HL, BK, HB, D⟩ := hrel
  have c1 : wr.cell? ⟨w.heap.size, n, none⟩ = some (.int .u8 ((B.getD n 0).toNat : Int)) := by
   have hB := HL.out
   rw [blk_cell BK.out]
   simp [u8row, List.getElem?_map, List.getD_eq_getElem?_getD, List.getElem?_eq_getElem (show n < B.length by omega)]
  have f1 : wr.frozen? ⟨w.heap.size, n, none⟩ = false := blk_frozen BK.out n
  have b1 : n < 21 := by omega
  have hsl : ∀ W : World, (Instr.sliceAt 97 (.pointer (some ⟨w.heap.size, 0, none⟩)) (some (.int .i64 (n : Int))) none none).run Try.prog W = .ok (.slice (some ⟨w.heap.size, n, none⟩) (21 - n) (21 - n)) W := fun W => by
   have hal : Try.prog.arrayLen 97 = 21 := by kernel_rfl
   have h := run_sliceAt_array_l (P := Try.prog) W 97 ⟨w.heap.size, 0, none⟩ (by kernel_rfl) .i64 (n : Int) (by omega) (by rw [hal]; omega)
   rw [h, hal, show (sizeOf (Try.prog.elem 97)).run Try.prog W = .ok 1 W from rfl]
   have e : ¬ (21 = n) := by omega
   simp only [Result.andThen, slicedAt, Addr.add, Int.toNat_natCast, if_neg e, Nat.mul_one, Nat.zero_add]
   by_cases aB : n = 0
   ·subst aB; rfl
   ·rw [if_neg aB]
  obtain ⟨x, hx⟩ : ∃ x : UInt8, x = UInt8.ofNat (48 + v.toNat % 10) := ⟨_, rfl⟩
  have hxv : (48 + v.tmod 10) % 256 = (x.toNat : Int) := by
   have := HV.out
   rw [hx, Int.tmod_eq_emod_of_nonneg this.1, UInt8.toNat_ofNat']
   omega
  have aC : Aside0 ((wr.setCell ⟨w.heap.size, n, none⟩ (.int .u8 ((48 + v.tmod 10) % 256))).heap[w.heap.size]? = some (.cells (u8row (B.set n x)) 97 (0, 0))) := ⟨by rw [hxv]; exact blk_put BK.out n _ (u8row_set B n x)⟩
  have aA : ∀ W : World, W = wr.setCell ⟨w.heap.size, n, none⟩ (.int .u8 ((48 + v.tmod 10) % 256)) → (convert 65 9 (.slice (some ⟨w.heap.size, n, none⟩) (21 - n) (21 - n))).run Try.prog W = .ok (.string (strOfNums (((B.set n x).drop n).map fun y => (y.toNat : Int)))) W := fun W hW => by
   subst hW
   have hB := HL.out
   refine run_convert_bytes_arg (P := Try.prog) _ 65 5 (by kernel_rfl) (by kernel_rfl) w.heap.size n (21 - n) (21 - n) _ (by simp [hB]) (fun i hi => ?_) 9 (by kernel_rfl)
   rw [blk_cell aC.out]
   have hl : (B.set n x).length = 21 := by rw [List.length_set]; exact hB
   rw [List.getD_eq_getElem?_getD, List.getElem?_map, List.getElem?_drop, List.getElem?_eq_getElem (show n + i < (B.set n x).length by omega)]
   show (((B.set n x).map fun y => Value.int .u8 (y.toNat : Int)).toArray)[n + i]? = _
   rw [List.getElem?_toArray, List.getElem?_map, List.getElem?_eq_getElem (show n + i < (B.set n x).length by omega)]
   rfl
  have HX := ak hx
  have HXV := ak hxv
  obtain ⟨s, hs⟩ : ∃ s, s = strOfNums (((B.set n x).drop n).map fun y => (y.toNat : Int)) := ⟨_, rfl⟩
  have hcv := aA _ rfl
  clear aA
  rw [← hs] at hcv
  have HS := ak hs
  clear hs
  clear hx hxv
  go_wp2
  ·rename_i hz
   have hv := HV.out
   have hB := HL.out
   have hq : v.toNat / 10 = 0 := by
    have := beq_iff_eq.1 hz
    rw [u64_div v hv.1 hv.2] at this
    omega
   go_ret
   refine ⟨?_, HB.out.setCell (p := ⟨w.heap.size, n, none⟩) (Nat.le_refl _) _⟩
   have hd := D.out
   rw [dg, if_pos hq, ← HX.out] at hd
   show Ending.returned (Value.string s) = _
   rw [HS.out, numB, ← hd, u8str, drop_set_eq B n x (by omega)]
  ·rename_i hz
   have hv := HV.out
   have hB := HL.out
   have hq : ¬ v.toNat / 10 = 0 := by
    have := beq_eq_false_iff_ne.1 hz
    rw [u64_div v hv.1 hv.2] at this
    omega
   have aD : 1 ≤ n := by
    rcases Nat.eq_zero_or_pos n with e | e
    ·have := V.out
     rw [e] at this
     omega
    ·exact e
   go_roundg n
   case measure => omega
   case rel =>
    have hd := D.out
    rw [dg, if_neg hq, ← HX.out] at hd
    refine ⟨_, n - 1, B.set n x, rfl, by go_num, by omega, by omega, ⟨?_⟩, ⟨?_⟩, ⟨by rw [List.length_set]; exact hB⟩, aC, ⟨HB.out.setCell (p := ⟨w.heap.size, n, none⟩) (Nat.le_refl _) _⟩, ⟨?_⟩⟩
    ·rw [u64_div v hv.1 hv.2, Int.toNat_natCast, show n - 1 + 1 = n by omega]
     have := V.out
     rw [Nat.pow_succ] at this
     omega
    ·rw [u64_div v hv.1 hv.2]
     omega
    ·rw [u64_div v hv.1 hv.2, Int.toNat_natCast, show n - 1 + 1 = n by omega, drop_set_eq B n x (by omega)]
     exact hd

/-! ### dec_Text: function 31 -/
set_option maxHeartbeats 8000000 in
set_option maxRecDepth 100000 in
theorem dec_Text.calls (a0 : ByteArray) (r : ByteArray) (w : World) (h : dec_Text.f a0 = some r) :
  Calls Try.prog 31 #[.string a0] w fun e w' => e = .returned (.string r) ∧ Below w.heap.size w w' := by
 have HB := ak (Below.refl w.heap.size w)
 have H : ((dec_Num.f (IntKind.u64.wrap ((a0.size : Int)))).bind fun t106 => (if t106.size + a0.size ≤ 9223372036854775807 then (some (t106 ++ a0)) else (none))) = some r := h
 clear h
 replace H := Option.bind_eq_some_iff.mp H
 obtain ⟨t106, A20, H⟩ := H
 replace H : (if t106.size + a0.size ≤ 9223372036854775807 then (some (t106 ++ a0)) else (none)) = some r := H
 have A2 := ak A20
 clear A20
 have c3 : t106.size + a0.size ≤ 9223372036854775807 := Decidable.byContradiction fun q => by rw [if_neg q] at H; exact absurd H (by simp)
 rw [if_pos c3] at H
 have c3b0 := eq_true c3
 have c3b1 : decide (t106.size + a0.size ≤ 9223372036854775807) = true := decide_eq_true c3
 try have c3b2 : (9223372036854775807 < t106.size + a0.size) = False := eq_false (Nat.not_lt.2 c3)
 obtain rfl := Option.some.inj H
 go_enter Try.func31, Try.ntmps31
 go_wp2_with (first | ((with_reducible refine gate_callee (f := 30) rfl ?_); refine goesL_ (some 6) rfl rfl Try.func30 (by kernel_rfl) rfl #[.int .u64 (IntKind.u64.wrap ((a0.size : Int)))] rfl (by (try simp only [List.map_toArray, List.map_cons, List.map_nil]); first | done | rfl | (simp only [List.length_drop, List.length_take]; rfl) | (simp (disch := omega) only [IntWalk.u64_in]; first | done | rfl)) ?_; (with_reducible refine (dec_Num.calls (IntKind.u64.wrap ((a0.size : Int))) t106 _ A2.out).mono ?_); rintro e w4 ⟨rfl, hb⟩; refine ⟨_, rfl, ?_⟩; replace HB := ak (below_step (pB HB.out) hb); (try clear hb); (try clear hb2); (try clear hk); (try clear hi)))
 go_ret
 exact ⟨by first | rfl | (simp [errW_none, errW_some] <;> rfl) | (simp [*, errW_none, errW_some] <;> rfl), pB HB.out⟩

open Go.Proofs.Ytbhkopbalhhpgaa.Cp
/-! ### sum_Of: function 62 -/
set_option maxHeartbeats 8000000 in
set_option maxRecDepth 100000 in
theorem sum_add.calls (B : Nat) (a b : Int) (x : Int) (w0 w : World) (hB : Below w0.heap.size w0 w) (hge : w0.heap.size ≤ B) (hb : w.heap[B]? = some (.cells #[.int .u32 a, .int .u32 b] 127 (0, 0))) :
  Calls Try.prog 88 #[.int .u8 x, .pointer (some ⟨B, 0, none⟩)] w fun e w' => e = .returned (.tuple #[]) ∧ w'.heap[B]? = some (.cells #[.int .u32 (sumS (a, b) x).1, .int .u32 (sumS (a, b) x).2] 127 (0, 0)) ∧ Below w0.heap.size w0 w' := by
 have HB := ak hB
 have BK := ak hb
 have c0 : w.cell? ⟨B, 0, none⟩ = some (.int .u32 a) := (blk_cell hb 0).trans rfl
 have c1 : w.cell? ⟨B, 1, none⟩ = some (.int .u32 b) := (blk_cell hb 1).trans rfl
 have f0 := blk_frozen hb 0
 have f1 := blk_frozen hb 1
 clear hB hb
 go_enter Try.func88, Try.ntmps88
 go_wp2
 first | go_end0 | ((try simp only [Exit.inBlock, Exit.then]); refine bodyPost_ret (results_none rfl _ _ _) rfl ?_)
 exact ⟨rfl, blk_put (blk_put BK.out 0 _ rfl) 1 _ rfl, (HB.out.setCell (p := ⟨B, 0, none⟩) hge _).setCell (p := ⟨B, 1, none⟩) hge _⟩
set_option maxHeartbeats 8000000 in
set_option maxRecDepth 100000 in
theorem sum_Of.calls (a0 : ByteArray) (r : Int) (w : World) (h : sum_Of.f a0 = some r) :
  Calls Try.prog 62 #[.string a0] w fun e w' => e = .returned (.int .u32 r) ∧ Below w.heap.size w w' := by
 unfold sum_Of.f at h
 split at h
 case isFalse => cases h
 rename_i hsz
 obtain rfl := Option.some.inj h
 clear h
 go_enter Try.func62, Try.ntmps62
 go_wp2
 go_loopg [10] (a0.size + 1) (fun gg v10 wr => ∃ (n : Nat), v10 = .int .i64 (n : Int) ∧ n ≤ a0.size ∧ a0.size - n + 1 ≤ gg ∧ Aside0 (wr.heap[w.heap.size]? = some (.cells #[.int .u32 (sumT a0 n).1, .int .u32 (sumT a0 n).2] 127 (0, 0))) ∧ Aside0 (Below w.heap.size w wr))
 case atStart => exact ⟨0, rfl, by omega, by omega, ⟨blk_new w _⟩, ⟨(Below.refl _ _).alloc (Nat.le_refl _) _⟩⟩
 case round =>
  obtain ⟨n, rfl, hn, hg, BK, HB⟩ := hrel
  by_cases c2 : (n : Int) < (a0.size : Int)
  ·have c2b0 : decide ((n : Int) < (a0.size : Int)) = true := decide_eq_true c2
   have p5 := eq_true (show 0 ≤ (n : Int) by omega)
   have q5 := eq_true c2
   have hlt : n < a0.size := by omega
   have hx6 : ((a0[n]'hlt).toNat : Int) = bt a0 (n : Int) := by
    have := bt_at a0 (n : Int) (by simpa using hlt)
    simpa using this
   obtain ⟨k1, rfl⟩ : ∃ k1, gk = k1 + 1 := ⟨gk - 1, by omega⟩
   clear c2
   go_wp2_with (go_at_call 88; refine (sum_add.calls w.heap.size _ _ _ w _ HB.out (Nat.le_refl _) BK.out).mono ?_; rintro e w' ⟨rfl, hb, hB⟩)
   go_roundg k1
   case measure => omega
   case rel => exact ⟨n + 1, rfl, by omega, by omega, ⟨hb⟩, ⟨hB⟩⟩
  ·have c2b0 : decide ((n : Int) < (a0.size : Int)) = false := decide_eq_false c2
   have c0 : wr.cell? ⟨w.heap.size, 0, none⟩ = some (.int .u32 (sumT a0 n).1) := (blk_cell BK.out 0).trans rfl
   have c1 : wr.cell? ⟨w.heap.size, 1, none⟩ = some (.int .u32 (sumT a0 n).2) := (blk_cell BK.out 1).trans rfl
   obtain ⟨A, hA⟩ : ∃ A, A = (sumT a0 n).1 := ⟨_, rfl⟩
   obtain ⟨C, hC⟩ : ∃ C, C = (sumT a0 n).2 := ⟨_, rfl⟩
   have hz : n = a0.size := by omega
   subst hz
   rw [← hA] at c0
   rw [← hC] at c1
   have HA_ := ak hA
   have HC_ := ak hC
   clear c2 hA hC
   go_wp2
   go_ret
   refine ⟨?_, HB.out⟩
   show Ending.returned (Value.int .u32 (bits .or .u32 (C * 65536 % 4294967296) A)) = _
   rw [HA_.out, HC_.out]
   rfl

/-! ### sum_Seal: function 32 -/
set_option maxHeartbeats 8000000 in
set_option maxRecDepth 100000 in
theorem sum_Seal.calls (a0 : ByteArray) (r : ByteArray) (w : World) (h : sum_Seal.f a0 = some r) :
  Calls Try.prog 32 #[.string a0] w fun e w' => e = .returned (.string r) ∧ Below w.heap.size w w' := by
 have HB := ak (Below.refl w.heap.size w)
 have H : ((dec_Text.f a0).bind fun aB => ((sum_Of.f a0).bind fun aC => ((dec_Num.f (IntKind.u64.wrap (aC))).bind fun aA => (if aB.size + aA.size ≤ 9223372036854775807 then (some (aB ++ aA)) else (none))))) = some r := h
 clear h
 replace H := Option.bind_eq_some_iff.mp H
 obtain ⟨aB, aD, H⟩ := H
 replace H : ((sum_Of.f a0).bind fun aC => ((dec_Num.f (IntKind.u64.wrap (aC))).bind fun aA => (if aB.size + aA.size ≤ 9223372036854775807 then (some (aB ++ aA)) else (none)))) = some r := H
 have A2 := ak aD
 clear aD
 replace H := Option.bind_eq_some_iff.mp H
 obtain ⟨aC, aE, H⟩ := H
 replace H : ((dec_Num.f (IntKind.u64.wrap (aC))).bind fun aA => (if aB.size + aA.size ≤ 9223372036854775807 then (some (aB ++ aA)) else (none))) = some r := H
 have A3 := ak aE
 clear aE
 replace H := Option.bind_eq_some_iff.mp H
 obtain ⟨aA, aF, H⟩ := H
 replace H : (if aB.size + aA.size ≤ 9223372036854775807 then (some (aB ++ aA)) else (none)) = some r := H
 have A4 := ak aF
 clear aF
 have c5 : aB.size + aA.size ≤ 9223372036854775807 := Decidable.byContradiction fun q => by rw [if_neg q] at H; exact absurd H (by simp)
 rw [if_pos c5] at H
 have aG := eq_true c5
 have aH : decide (aB.size + aA.size ≤ 9223372036854775807) = true := decide_eq_true c5
 try have aI : (9223372036854775807 < aB.size + aA.size) = False := eq_false (Nat.not_lt.2 c5)
 obtain rfl := Option.some.inj H
 go_enter Try.func32, Try.ntmps32
 go_wp2_with (first | ((with_reducible refine gate_callee (f := 31) rfl ?_); refine goesL_ (some 4) rfl rfl Try.func31 (by kernel_rfl) rfl #[.string a0] rfl (by (try simp only [List.map_toArray, List.map_cons, List.map_nil]); first | done | rfl | (simp only [List.length_drop, List.length_take]; rfl) | (simp (disch := omega) only [IntWalk.u64_in]; first | done | rfl)) ?_; (with_reducible refine (dec_Text.calls a0 aB _ A2.out).mono ?_); rintro e w6 ⟨rfl, hb⟩; refine ⟨_, rfl, ?_⟩; replace HB := ak (below_step (pB HB.out) hb); (try clear hb); (try clear hb2); (try clear hk); (try clear hi)) | ((with_reducible refine gate_callee (f := 62) rfl ?_); refine goesL_ (some 6) rfl rfl Try.func62 (by kernel_rfl) rfl #[.string a0] rfl (by (try simp only [List.map_toArray, List.map_cons, List.map_nil]); first | done | rfl | (simp only [List.length_drop, List.length_take]; rfl) | (simp (disch := omega) only [IntWalk.u64_in]; first | done | rfl)) ?_; (with_reducible refine (sum_Of.calls a0 aC _ A3.out).mono ?_); rintro e w7 ⟨rfl, hb⟩; refine ⟨_, rfl, ?_⟩; replace HB := ak (below_step (pB HB.out) hb); (try clear hb); (try clear hb2); (try clear hk); (try clear hi)) | ((with_reducible refine gate_callee (f := 30) rfl ?_); refine goesL_ (some 8) rfl rfl Try.func30 (by kernel_rfl) rfl #[.int .u64 (IntKind.u64.wrap (aC))] rfl (by (try simp only [List.map_toArray, List.map_cons, List.map_nil]); first | done | rfl | (simp only [List.length_drop, List.length_take]; rfl) | (simp (disch := omega) only [IntWalk.u64_in]; first | done | rfl)) ?_; (with_reducible refine (dec_Num.calls (IntKind.u64.wrap (aC)) aA _ A4.out).mono ?_); rintro e w8 ⟨rfl, hb⟩; refine ⟨_, rfl, ?_⟩; replace HB := ak (below_step (pB HB.out) hb); (try clear hb); (try clear hb2); (try clear hk); (try clear hi)))
 go_ret
 exact ⟨by first | rfl | (simp [errW_none, errW_some] <;> rfl) | (simp [*, errW_none, errW_some] <;> rfl), pB HB.out⟩

-- NOT PRINTED: function 33 (strings_Builder_String)

end Go.Proofs.Ytbhkopbalhhpgaa.PY
