-- Made by a program of this workplace out of the translation (wip/tools in the repo). Not trusted: Lean checks it.
import Derived.Test.YthcdlgphabaidaaPRx0
import Derived.Test.YthcdlgphabaidaaPRx2
import Derived.Test.YthcdlgphabaidaaPRx5
namespace Go.Proofs.Ythcdlgphabaidaa.PR
open Go.RowKit Go.Proofs.YthcdlgphabaidaaW.PrintWords Go.Proofs.YthcdlgphabaidaaW.PrintLast Go.Proofs.YthcdlgphabaidaaW.PrintMore
attribute [local go_sem] max2_int min2_int max_two min_two max_three min_three max_four min_four   -- for this text's walks alone
set_option linter.unusedVariables false
set_option linter.unusedSimpArgs false

/-! ### stanchionlaw07_shown: function 11 -/
set_option maxHeartbeats 8000000 in
set_option maxRecDepth 100000 in
theorem stanchionlaw07_shown_t.calls (k : Nat)  (r : Bool) (w : World) (h : stanchionlaw07_shown.f k  = some r) (hr_ : r = true) :
    Calls Try.prog 11 #[] w fun e w' => e = .returned (.bool r) ∧ Below w.heap.size w w' := by
  have hu54 := Try.underlying54
  have hu37 := Try.underlying37
  have HB := Aside0.mk (Below.refl w.heap.size w)
  have H : ((batch_Bytes.f k 1 (⟨#[116]⟩ : ByteArray) (([(⟨(⟨#[97]⟩ : ByteArray), (⟨#[49]⟩ : ByteArray), false⟩ : S54)] : List (S54)))).bind fun bt123 => (if bt123.1.toList = ([49, 59, 49, 59, 116, 49, 59, 48, 59, 49, 59, 97, 49, 59, 49] : List UInt8) then (some (bt123.2 == 0)) else (some false))) = some r := h
  clear h
  obtain ⟨y120, hy120⟩ : ∃ y_ : List (S54), y_ = (([(⟨(⟨#[97]⟩ : ByteArray), (⟨#[49]⟩ : ByteArray), false⟩ : S54)] : List (S54))) := ⟨_, rfl⟩
  replace H : ((batch_Bytes.f k 1 (⟨#[116]⟩ : ByteArray) y120).bind fun bt123 => (if bt123.1.toList = ([49, 59, 49, 59, 116, 49, 59, 48, 59, 49, 59, 97, 49, 59, 49] : List UInt8) then (some (bt123.2 == 0)) else (some false))) = some r := by first | (rw [hy120]; with_reducible exact H) | (have H2_ := (Option.bind_some _ _).symm.trans H; rw [hy120]; with_reducible exact H2_) | (have H2_ := (Option.bind_some _ _).symm.trans H; with_reducible exact H2_) | with_reducible exact H | (rw [hy120]; exact H) | exact H
  have Ny120 := Aside0.mk hy120
  clear hy120
  replace H := Option.bind_eq_some_iff.mp H
  obtain ⟨⟨t123, t124⟩, A10, H⟩ := H
  replace H : (if t123.toList = ([49, 59, 49, 59, 116, 49, 59, 48, 59, 49, 59, 97, 49, 59, 49] : List UInt8) then (some (t124 == 0)) else (some false)) = some r := H
  have A1 := Aside0.mk A10
  clear A10
  by_cases c2 : t123.toList = ([49, 59, 49, 59, 116, 49, 59, 48, 59, 49, 59, 97, 49, 59, 49] : List UInt8)
  · rw [if_pos c2] at H
    have c2b0 : (t123.toList == ([49, 59, 49, 59, 116, 49, 59, 48, 59, 49, 59, 97, 49, 59, 49] : List UInt8)) = true := beq_iff_eq.mpr c2
    have c2b1 : (t123.toList != ([49, 59, 49, 59, 116, 49, 59, 48, 59, 49, 59, 97, 49, 59, 49] : List UInt8)) = false := bne_eq_false_iff_eq.mpr c2
    clear c2
    obtain rfl := Option.some.inj H
    have hbd_ : ∀ W : World, (Instr.build 54 #[(0, .string ⟨#[97]⟩), (1, .string ⟨#[49]⟩)]).run Try.prog W = .ok (.agg #[.string ⟨#[97]⟩, .string ⟨#[49]⟩, .bool false]) W := fun W => run_build W 54 _ _ (by kernel_rfl)
    go_enter Try.func11, Try.ntmps11
    go_wp2_with (first | ((with_reducible refine gate_dst (N := 5) rfl ?_); refine Kd.R_lit k54 _ 54 ?hg (N := 5) ?hd (xs := ([(⟨(⟨#[97]⟩ : ByteArray), (⟨#[49]⟩ : ByteArray), false⟩ : S54)] : List (S54))) (inner := [.string (⟨#[97]⟩ : ByteArray), .string (⟨#[49]⟩ : ByteArray), .bool false]) (ok := fun _ => True) (okp := fun _ => True) ?hr ?hp (fun _ hk => hk) trivial (Below.refl _ _) (Nat.le_refl _) (by simp) ?_; (case hd => rfl); (case hg => rfl); (case hr => first | (go_simp; done) | (go_simp; rfl)); (case hp => exact (Reps.c3 (show Kd.M k54 _ _ _ (⟨(⟨#[97]⟩ : ByteArray), (⟨#[49]⟩ : ByteArray), false⟩ : S54) [.string (⟨#[97]⟩ : ByteArray), .string (⟨#[49]⟩ : ByteArray), .bool false] from (k54_mkM _ _ _ (⟨(⟨#[97]⟩ : ByteArray), (⟨#[49]⟩ : ByteArray), false⟩ : S54) )) (Reps.none _ _))); intro v121 w3 ho4 hb hg_ hnew_; clear hg_ hnew_; (first | rw [← Ny120.out] at ho4 | (simp only [Int.reduceToNat] at ho4; rw [← Ny120.out] at ho4)); have n0_ := Aside0.mk (Kd.R_lower ho4 (below_size (by repeat (first | (with_reducible first | exact HB.out | apply below_alloc | apply pw_below_drewN | apply below_drew1) | exact HB.out)))); have n1_ := Aside0.mk (below_step (by repeat (first | (with_reducible first | exact HB.out | apply below_alloc | apply pw_below_drewN | apply below_drew1) | exact HB.out)) hb); clear HB; have HO122 := n0_; have HB := n1_; clear n0_ n1_; clear hb ho4; obtain ⟨Ao5, co5, eo5⟩ := Kd.R_slice HO122.out; subst eo5) | ((with_reducible refine gate_callee (f := 18) rfl ?_); refine goesL_ (some 7) rfl rfl Try.func18 (by kernel_rfl) rfl #[.agg #[.int .i64 1, .string (⟨#[116]⟩ : ByteArray), .slice Ao5 y120.length co5]] rfl (by (try simp only [List.map_toArray, List.map_cons, List.map_nil]); first | done | rfl | (simp only [List.length_drop, List.length_take]; rfl)) ?_; (with_reducible refine (batch_Bytes.calls k 1 (⟨#[116]⟩ : ByteArray) _ _ y120 t123 t124 _ ?side1 ?side2 A1.out).mono ?_); (case side1 => repeat (first | exact (Kd.R_reads' HO122.out).2.2 | (with_reducible refine Kd.C_alloc ?_ _) | (with_reducible refine Kd.C_drewN ?_ _) | (with_reducible refine Kd.C_drew ?_))); (case side2 => exact (Kd.R_reads' HO122.out).2.1); rintro e w6 ⟨rfl, hb⟩; refine ⟨_, rfl, ?_⟩; have n0_ := Aside0.mk (Kd.R_below (by (with_reducible repeat (first | apply Kd.R_alloc | apply Kd.R_drewN | apply Kd.R_drew)); exact HO122.out) hb); have n1_ := Aside0.mk (below_step (by repeat (first | (with_reducible first | exact HB.out | apply below_alloc | apply pw_below_drewN | apply below_drew1) | exact HB.out)) hb); clear HO122; clear HB; have HO122 := n0_; have HB := n1_; clear n0_ n1_; (try clear hb); (try clear hb2); (try clear hk); (try clear hi)))
    first | go_ret | ((try simp only [Exit.inBlock, Exit.then]); refine bodyPost_ret (results_tmp rfl _ _ _) ?hd_ ?hR_; (case hd_ => rfl))
    exact ⟨by first | rfl | (simp [errW_none, errW_some] <;> rfl) | (simp [*, errW_none, errW_some] <;> rfl), by repeat (first | (with_reducible first | exact HB.out | apply below_alloc | apply pw_below_drewN | apply below_drew1) | exact HB.out)⟩
  · rw [if_neg c2] at H
    have c2b0 : (t123.toList == ([49, 59, 49, 59, 116, 49, 59, 48, 59, 49, 59, 97, 49, 59, 49] : List UInt8)) = false := beq_eq_false_iff_ne.mpr c2
    have c2b1 : (t123.toList != ([49, 59, 49, 59, 116, 49, 59, 48, 59, 49, 59, 97, 49, 59, 49] : List UInt8)) = true := bne_iff_ne.mpr c2
    obtain rfl := Option.some.inj H
    exact absurd hr_ (by decide)

theorem stanchionlaw07_shown.now : stanchionlaw07_shown.f 100 = some true := by decide +kernel
theorem stanchionlaw07_shown.more : ∀ (n k : Nat) (r : Bool), stanchionlaw07_shown.f k = some r → stanchionlaw07_shown.f (k + n) = some r
  | 0, _, _, h => h
  | n + 1, k, r, h => stanchionlaw07_shown.mono (k + n) r (stanchionlaw07_shown.more n k r h)
theorem stanchionlaw07_shown.tells (k : Nat) (r : Bool) (h : stanchionlaw07_shown.f k  = some r) : r = true := by
  have h1 := stanchionlaw07_shown.more 100 k r h
  have h2 := stanchionlaw07_shown.more k 100 true stanchionlaw07_shown.now
  rw [Nat.add_comm] at h2
  exact Option.some.inj (h1.symm.trans h2)
theorem stanchionlaw07_shown.calls (k : Nat)  (r : Bool) (w : World) (h : stanchionlaw07_shown.f k  = some r) :
    Calls Try.prog 11 #[] w fun e w' => e = .returned (.bool r) ∧ Below w.heap.size w w' := stanchionlaw07_shown_t.calls k r w h (stanchionlaw07_shown.tells k r h)
/-! ### stanchionref01_Less: function 46 -/
end Go.Proofs.Ythcdlgphabaidaa.PR
