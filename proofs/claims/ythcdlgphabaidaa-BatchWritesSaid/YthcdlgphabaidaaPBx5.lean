-- Made by a program of this workplace out of the translation (wip/tools in the repo). Not trusted: Lean checks it.
import Derived.Test.YthcdlgphabaidaaPBx0
import Derived.Test.YthcdlgphabaidaaPBx1
import Derived.Test.YthcdlgphabaidaaPBx2
import Derived.Test.YthcdlgphabaidaaPBx4
namespace Go.Proofs.Ythcdlgphabaidaa.PB
open Go.RowKit Go.Proofs.YthcdlgphabaidaaW.PrintWords Go.Proofs.YthcdlgphabaidaaW.PrintLast Go.Proofs.YthcdlgphabaidaaW.PrintMore
attribute [local go_sem] max2_int min2_int max_two min_two max_three min_three max_four min_four   -- for this text's walks alone
set_option linter.unusedVariables false
set_option linter.unusedSimpArgs false

attribute [local go_sem high] eqA68
/-! ### stanchionlaw07_shown: function 11 -/
set_option maxHeartbeats 8000000 in
set_option maxRecDepth 100000 in
theorem stanchionlaw07_shown_t.calls (k : Nat)  (r : Bool) (w : World) (h : stanchionlaw07_shown.f k  = some r) (hr_ : r = true) :
    Calls Try.prog 11 #[] w fun e w' => e = .returned (.bool r) ∧ Below w.heap.size w w' := by
  have hu54 := Try.underlying54
  have hu37 := Try.underlying37
  have HB := Aside0.mk (Below.refl w.heap.size w)
  have H : ((batch_Bytes.f k 1 (⟨#[116]⟩ : ByteArray) (([(⟨(⟨#[97]⟩ : ByteArray), (⟨#[49]⟩ : ByteArray), false⟩ : S54)] : List (S54)))).bind fun bt123 => (if bt123.1.toList = ([49, 59, 49, 59, 116, 49, 59, 48, 59, 49, 59, 97, 49, 59, 49] : List UInt8) then (some (bt123.2 == 0)) else (some false))) = some r := h
  clear h
  obtain ⟨y120, hy120⟩ : ∃ y_ : List (S54), y_ = (([(⟨(⟨#[97]⟩ : ByteArray), (⟨#[49]⟩ : ByteArray), false⟩ : S54)] : List (S54))) := ⟨_, rfl⟩
  replace H : ((batch_Bytes.f k 1 (⟨#[116]⟩ : ByteArray) y120).bind fun bt123 => (if bt123.1.toList = ([49, 59, 49, 59, 116, 49, 59, 48, 59, 49, 59, 97, 49, 59, 49] : List UInt8) then (some (bt123.2 == 0)) else (some false))) = some r := by first | (rw [hy120]; with_reducible exact H) | (have H2_ := (Option.bind_some _ _).symm.trans H; rw [hy120]; with_reducible exact H2_) | (have H2_ := (Option.bind_some _ _).symm.trans H; with_reducible exact H2_) | with_reducible exact H | (rw [hy120]; exact H) | exact H
  have Ny120 := Aside0.mk hy120
  clear hy120
  replace H := Option.bind_eq_some_iff.mp H
  obtain ⟨⟨t123, t124⟩, A10, H⟩ := H
  replace H : (if t123.toList = ([49, 59, 49, 59, 116, 49, 59, 48, 59, 49, 59, 97, 49, 59, 49] : List UInt8) then (some (t124 == 0)) else (some false)) = some r := H
  have A1 := Aside0.mk A10
  clear A10
  by_cases c2 : t123.toList = ([49, 59, 49, 59, 116, 49, 59, 48, 59, 49, 59, 97, 49, 59, 49] : List UInt8)
  · rw [if_pos c2] at H
    have c2b0 : (t123.toList == ([49, 59, 49, 59, 116, 49, 59, 48, 59, 49, 59, 97, 49, 59, 49] : List UInt8)) = true := beq_iff_eq.mpr c2
    have c2b1 : (t123.toList != ([49, 59, 49, 59, 116, 49, 59, 48, 59, 49, 59, 97, 49, 59, 49] : List UInt8)) = false := bne_eq_false_iff_eq.mpr c2
    clear c2
    obtain rfl := Option.some.inj H
    have hbd_ : ∀ W : World, (Instr.build 54 #[(0, .string ⟨#[97]⟩), (1, .string ⟨#[49]⟩)]).run Try.prog W = .ok (.agg #[.string ⟨#[97]⟩, .string ⟨#[49]⟩, .bool false]) W := fun W => run_build W 54 _ _ (by kernel_rfl)
    go_enter Try.func11, Try.ntmps11
    go_wp2_with (first | ((with_reducible refine gate_dst (N := 5) rfl ?_); refine Kd.R_lit k54 _ 54 ?hg (N := 5) ?hd (xs := ([(⟨(⟨#[97]⟩ : ByteArray), (⟨#[49]⟩ : ByteArray), false⟩ : S54)] : List (S54))) (inner := [.string (⟨#[97]⟩ : ByteArray), .string (⟨#[49]⟩ : ByteArray), .bool false]) (ok := fun _ => True) (okp := fun _ => True) ?hr ?hp (fun _ hk => hk) trivial (Below.refl _ _) (Nat.le_refl _) (by simp) ?_; (case hd => rfl); (case hg => rfl); (case hr => first | (go_simp; done) | (go_simp; rfl)); (case hp => exact (Reps.c3 (show Kd.M k54 _ _ _ (⟨(⟨#[97]⟩ : ByteArray), (⟨#[49]⟩ : ByteArray), false⟩ : S54) [.string (⟨#[97]⟩ : ByteArray), .string (⟨#[49]⟩ : ByteArray), .bool false] from (k54_mkM _ _ _ (⟨(⟨#[97]⟩ : ByteArray), (⟨#[49]⟩ : ByteArray), false⟩ : S54) )) (Reps.none _ _))); intro v121 w3 ho4 hb hg_ hnew_; clear hg_ hnew_; (first | rw [← Ny120.out] at ho4 | (simp only [Int.reduceToNat] at ho4; rw [← Ny120.out] at ho4)); have n0_ := Aside0.mk (Kd.R_lower ho4 (below_size (by repeat (first | (with_reducible first | exact HB.out | apply below_alloc | apply pw_below_drewN | apply below_drew1) | exact HB.out)))); have n1_ := Aside0.mk (below_step (by repeat (first | (with_reducible first | exact HB.out | apply below_alloc | apply pw_below_drewN | apply below_drew1) | exact HB.out)) hb); clear HB; have HO122 := n0_; have HB := n1_; clear n0_ n1_; clear hb ho4; obtain ⟨Ao5, co5, eo5⟩ := Kd.R_slice HO122.out; subst eo5) | ((with_reducible refine gate_callee (f := 18) rfl ?_); refine goesL_ (some 7) rfl rfl Try.func18 (by kernel_rfl) rfl #[.agg #[.int .i64 1, .string (⟨#[116]⟩ : ByteArray), .slice Ao5 y120.length co5]] rfl (by (try simp only [List.map_toArray, List.map_cons, List.map_nil]); first | done | rfl | (simp only [List.length_drop, List.length_take]; rfl)) ?_; (with_reducible refine (batch_Bytes.calls k 1 (⟨#[116]⟩ : ByteArray) _ _ y120 t123 t124 _ ?side1 ?side2 A1.out).mono ?_); (case side1 => repeat (first | exact (Kd.R_reads' HO122.out).2.2 | (with_reducible refine Kd.C_alloc ?_ _) | (with_reducible refine Kd.C_drewN ?_ _) | (with_reducible refine Kd.C_drew ?_))); (case side2 => exact (Kd.R_reads' HO122.out).2.1); rintro e w6 ⟨rfl, hb⟩; refine ⟨_, rfl, ?_⟩; have n0_ := Aside0.mk (Kd.R_below (by (with_reducible repeat (first | apply Kd.R_alloc | apply Kd.R_drewN | apply Kd.R_drew)); exact HO122.out) hb); have n1_ := Aside0.mk (below_step (by repeat (first | (with_reducible first | exact HB.out | apply below_alloc | apply pw_below_drewN | apply below_drew1) | exact HB.out)) hb); clear HO122; clear HB; have HO122 := n0_; have HB := n1_; clear n0_ n1_; (try clear hb); (try clear hb2); (try clear hk); (try clear hi)))
    first | go_ret | ((try simp only [Exit.inBlock, Exit.then]); refine bodyPost_ret (results_tmp rfl _ _ _) ?hd_ ?hR_; (case hd_ => rfl))
    exact ⟨by first | rfl | (simp [errW_none, errW_some] <;> rfl) | (simp [*, errW_none, errW_some] <;> rfl), by repeat (first | (with_reducible first | exact HB.out | apply below_alloc | apply pw_below_drewN | apply below_drew1) | exact HB.out)⟩
  · rw [if_neg c2] at H
    have c2b0 : (t123.toList == ([49, 59, 49, 59, 116, 49, 59, 48, 59, 49, 59, 97, 49, 59, 49] : List UInt8)) = false := beq_eq_false_iff_ne.mpr c2
    have c2b1 : (t123.toList != ([49, 59, 49, 59, 116, 49, 59, 48, 59, 49, 59, 97, 49, 59, 49] : List UInt8)) = true := bne_iff_ne.mpr c2
    obtain rfl := Option.some.inj H
    exact absurd hr_ (by decide)

theorem stanchionlaw07_shown.now : stanchionlaw07_shown.f 100 = some true := by decide +kernel
theorem stanchionlaw07_shown.more : ∀ (n k : Nat) (r : Bool), stanchionlaw07_shown.f k = some r → stanchionlaw07_shown.f (k + n) = some r
  | 0, _, _, h => h
  | n + 1, k, r, h => stanchionlaw07_shown.mono (k + n) r (stanchionlaw07_shown.more n k r h)
theorem stanchionlaw07_shown.tells (k : Nat) (r : Bool) (h : stanchionlaw07_shown.f k  = some r) : r = true := by
  have h1 := stanchionlaw07_shown.more 100 k r h
  have h2 := stanchionlaw07_shown.more k 100 true stanchionlaw07_shown.now
  rw [Nat.add_comm] at h2
  exact Option.some.inj (h1.symm.trans h2)
theorem stanchionlaw07_shown.calls (k : Nat)  (r : Bool) (w : World) (h : stanchionlaw07_shown.f k  = some r) :
    Calls Try.prog 11 #[] w fun e w' => e = .returned (.bool r) ∧ Below w.heap.size w w' := stanchionlaw07_shown_t.calls k r w h (stanchionlaw07_shown.tells k r h)
/-! ### stanchionref05_Same: function 12 -/
/-! ### stanchionref07_Same: function 17 -/
open Go.Proofs.Ythcdlgphabaidaa.Cp
/-! ### api_Pair_62: function 62 -/
set_option maxHeartbeats 8000000 in
set_option maxRecDepth 100000 in
theorem api_Pair_62.calls (p : S68 → Bool) (g : Nat) (lb : Array Value) (eg : ∀ args w, (callFunc g args).run Try.prog w = .ok (.enter g args) w) (A0 : Option Addr) (c0 : Nat) (l0 : List (S68)) (w : World) (hr0 : Kd.C k68 w A0 l0.length l0)
    (hp : ∀ (W : World) (x : S68), Below w.heap.size w W → Calls Try.prog g (#[.agg #[.string x.f0, .string x.f1]] ++ lb) W fun e w' => e = .returned (.bool (p x)) ∧ Below W.heap.size W w') :
    Calls Try.prog 62 #[.slice A0 l0.length c0, .func (.func g) #[] lb] w fun e w' => e = .returned (.int .i64 (ixOf p l0)) ∧ Below w.heap.size w w' := by
  have hu68 := Try.underlying68
  have HR := Aside0.mk hr0
  have HP := Aside0.mk hp
  have hmx := hr0.2.1
  clear hr0 hp
  go_enter Try.func62, Try.ntmps62
  go_wp2
  go_loopg [5, 8] l0.length (fun gg _ s8 wr => ∃ kk : Nat, kk ≤ l0.length ∧ l0.length - kk ≤ gg ∧ s8 = .int .i64 kk ∧ Aside0 (Below w.heap.size w wr) ∧ Aside0 (∀ j, j < kk → p (l0.getD j z68) = false))
  case atStart => exact ⟨0, Nat.zero_le _, by omega, rfl, ⟨Below.refl _ w⟩, ⟨fun j hj => absurd hj (Nat.not_lt_zero _)⟩⟩
  case round =>
    obtain ⟨kk, hkk, hg, rfl, HB, A⟩ := hrel
    by_cases hlt : kk < l0.length
    · have hltz : (kk : Int) < (l0.length : Int) := by omega
      obtain ⟨ad, e, hx0, hx1⟩ := at_T68 (Kd.C_below HR.out HB.out) (kk : Int) (by omega) hltz
      cases e
      simp only [Int.toNat_natCast] at hx0 hx1
      have hcall := HP.out wr (l0.getD kk z68) HB.out
      have e0 : rd_T68 l0 (kk : Int) = l0.getD kk z68 := by simp [rd_T68]
      rw [e0] at hx0 hx1
      clear e0
      obtain ⟨y, hy⟩ : ∃ y, l0.getD kk z68 = y := ⟨_, rfl⟩
      rw [hy] at hx0 hx1 hcall
      have Y := Aside0.mk hy
      clear hy
      obtain ⟨q, hq⟩ : ∃ q, p y = q := ⟨_, rfl⟩
      rw [hq] at hcall
      have Q := Aside0.mk hq
      clear hq
      cases q with
      | true =>
        go_wp2_with (go_at_fn g; refine hcall.mono ?_; rintro e w' ⟨rfl, hb'⟩)
        go_ret
        exact ⟨by rw [ixOf_hit p l0 z68 kk hlt (by rw [Y.out]; exact Q.out) A.out]; rfl, below_step HB.out hb'⟩
      | false =>
        go_wp2_with (go_at_fn g; refine hcall.mono ?_; rintro e w' ⟨rfl, hb'⟩)
        go_roundg (l0.length - (kk + 1))
        case measure => omega
        case rel =>
          refine ⟨kk + 1, by omega, by omega, by go_num, ⟨below_step HB.out hb'⟩, ⟨fun j hj => ?_⟩⟩
          by_cases e : j = kk
          · subst e; rw [Y.out]; exact Q.out
          · exact A.out j (by omega)
    · have hltz : decide ((kk : Int) < (l0.length : Int)) = false := decide_eq_false (by omega)
      have hltn : decide (kk < l0.length) = false := decide_eq_false (by omega)
      have E := Aside0.mk (show kk = l0.length by omega)
      go_wp2
      go_ret
      exact ⟨by rw [ixOf_miss p l0 z68 (fun j hj => A.out j (by have := E.out; omega))]; rfl, HB.out⟩

open Go.Proofs.Ythcdlgphabaidaa.Cp
/-! ### table_at: function 61 -/
theorem enters70 : ∀ args w, (callFunc 70 args).run Try.prog w = .ok (.enter 70 args) w := enters_of Try.func70 (by kernel_rfl) rfl
set_option maxHeartbeats 8000000 in
theorem table_at_1.calls (x : S68) (key : ByteArray) (B : Nat) (W : World) (hc : W.cell? ⟨B, 0, none⟩ = some (.string key)) :
    Calls Try.prog 70 #[.agg #[.string x.f0, .string x.f1], .pointer (some ⟨B, 0, none⟩)] W fun e w' => e = .returned (.bool (x.f0.toList == key.toList)) ∧ Below W.heap.size W w' := by
  have hu68 := Try.underlying68
  have hB := World.block_lt_of_cell? W _ hc
  go_enter Try.func70, Try.ntmps70
  go_wp2
  go_ret
  exact ⟨rfl, (Below.refl _ _).alloc (Nat.le_refl _) _⟩
set_option maxHeartbeats 8000000 in
theorem table_at.calls (A0 : Option Addr) (c0 : Nat) (l0 : List (S68)) (a1 : ByteArray) (r : Int) (w : World) (hr0 : Kd.C k68 w A0 l0.length l0) (hc0 : l0.length ≤ c0) (h : table_at.f l0 a1 = some r) :
    Calls Try.prog 61 #[.slice A0 l0.length c0, .string a1] w fun e w' => e = .returned (.int .i64 r) ∧ Below w.heap.size w w' := by
  obtain rfl := Option.some.inj h
  have HR := Aside0.mk hr0
  clear hr0 h hc0
  go_enter Try.func61, Try.ntmps61
  go_wp2_with (go_at_call 62; (refine (api_Pair_62.calls (fun x => x.f0.toList == a1.toList) 70 #[.pointer (some ⟨w.heap.size, 0, none⟩)] enters70 A0 c0 l0 _ (Kd.C_alloc HR.out _) (fun W x hb => table_at_1.calls x a1 w.heap.size W ((hb.cell (p := ⟨w.heap.size, 0, none⟩) (by simp)).trans (by go_simp)))).mono ?_; rintro e w' ⟨rfl, hb⟩))
  go_ret
  exact ⟨rfl, ((Below.refl _ _).alloc (Nat.le_refl _) _).trans (hb.mono (by simp))⟩

/-! ### table_Find: function 49 -/
set_option maxHeartbeats 8000000 in
set_option maxRecDepth 100000 in
theorem table_Find.calls (A0 : Option Addr) (c0 : Nat) (l0 : List (S68)) (a1 : ByteArray) (r1 : ByteArray) (r2 : Bool) (w : World) (hr0 : Kd.C k68 w A0 l0.length l0) (hc0 : l0.length ≤ c0) (h : table_Find.f l0 a1 = some (r1, r2)) :
    Calls Try.prog 49 #[.slice A0 l0.length c0, .string a1] w fun e w' => e = .returned (.tuple #[.string r1, .bool r2]) ∧ Below w.heap.size w w' := by
  have HR0 := Aside0.mk hr0
  have HC0 := Aside0.mk hc0
  clear hr0 hc0
  have HB := Aside0.mk (Below.refl w.heap.size w)
  have H : ((table_at.f l0 a1).bind fun t131 => (if t131 < 0 then (some ((⟨#[]⟩ : ByteArray), false)) else (if 0 ≤ t131 then (if t131 < (l0.length : Int) then (some ((rd_T68 l0 t131).f1, true)) else (none)) else (none)))) = some (r1, r2) := h
  clear h
  replace H := Option.bind_eq_some_iff.mp H
  obtain ⟨t131, A30, H⟩ := H
  replace H : (if t131 < 0 then (some ((⟨#[]⟩ : ByteArray), false)) else (if 0 ≤ t131 then (if t131 < (l0.length : Int) then (some ((rd_T68 l0 t131).f1, true)) else (none)) else (none))) = some (r1, r2) := H
  have A3 := Aside0.mk A30
  clear A30
  by_cases c4 : t131 < 0
  · rw [if_pos c4] at H
    have c4b0 : decide (t131 < 0) = true := decide_eq_true c4
    clear c4
    simp only [Option.some.injEq, Prod.mk.injEq] at H
    obtain ⟨rfl, rfl⟩ := H
    go_enter Try.func49, Try.ntmps49
    go_wp2_with (first | ((with_reducible refine gate_callee (f := 61) rfl ?_); refine goesL_ (some 9) rfl rfl Try.func61 (by kernel_rfl) rfl #[.slice A0 l0.length c0, .string a1] rfl (by (try simp only [List.map_toArray, List.map_cons, List.map_nil]); first | done | rfl | (simp only [List.length_drop, List.length_take]; rfl)) ?_; (with_reducible refine (table_at.calls _ _ l0 a1 t131 _ ?side1 ?side2 A3.out).mono ?_); (case side1 => repeat (first | exact HR0.out | (with_reducible refine Kd.C_alloc ?_ _) | (with_reducible refine Kd.C_drewN ?_ _) | (with_reducible refine Kd.C_drew ?_))); (case side2 => exact HC0.out); rintro e w5 ⟨rfl, hb⟩; refine ⟨_, rfl, ?_⟩; have n0_ := Aside0.mk (below_step (by repeat (first | (with_reducible first | exact HB.out | apply below_alloc | apply pw_below_drewN | apply below_drew1) | exact HB.out)) hb); clear HB; have HB := n0_; clear n0_; (try clear hb); (try clear hb2); (try clear hk); (try clear hi)))
    go_ret2
    exact ⟨by first | rfl | (simp [errW_none, errW_some] <;> rfl) | (simp [*, errW_none, errW_some] <;> rfl), by repeat (first | (with_reducible first | exact HB.out | apply below_alloc | apply pw_below_drewN | apply below_drew1) | exact HB.out)⟩
  · rw [if_neg c4] at H
    have c4b0 : decide (t131 < 0) = false := decide_eq_false c4
    clear c4
    by_cases c6 : 0 ≤ t131
    · rw [if_pos c6] at H
      have c6b0 : decide (0 ≤ t131) = true := decide_eq_true c6
      clear c6
      by_cases c7 : t131 < (l0.length : Int)
      · rw [if_pos c7] at H
        have c7b0 : decide (t131 < (l0.length : Int)) = true := decide_eq_true c7
        clear c7
        simp only [Option.some.injEq, Prod.mk.injEq] at H
        obtain ⟨rfl, rfl⟩ := H
        go_enter Try.func49, Try.ntmps49
        go_wp2_with (first | ((with_reducible refine gate_callee (f := 61) rfl ?_); refine goesL_ (some 9) rfl rfl Try.func61 (by kernel_rfl) rfl #[.slice A0 l0.length c0, .string a1] rfl (by (try simp only [List.map_toArray, List.map_cons, List.map_nil]); first | done | rfl | (simp only [List.length_drop, List.length_take]; rfl)) ?_; (with_reducible refine (table_at.calls _ _ l0 a1 t131 _ ?side1 ?side2 A3.out).mono ?_); (case side1 => repeat (first | exact HR0.out | (with_reducible refine Kd.C_alloc ?_ _) | (with_reducible refine Kd.C_drewN ?_ _) | (with_reducible refine Kd.C_drew ?_))); (case side2 => exact HC0.out); rintro e w8 ⟨rfl, hb⟩; refine ⟨_, rfl, ?_⟩; have n0_ := Aside0.mk (below_step (by repeat (first | (with_reducible first | exact HB.out | apply below_alloc | apply pw_below_drewN | apply below_drew1) | exact HB.out)) hb); clear HB; have HB := n0_; clear n0_; (try clear hb); (try clear hb2); (try clear hk); (try clear hi); have p132 : 0 ≤ (t131 : Int) := of_decide_eq_true (by first | (with_reducible assumption) | assumption); have q132 : t131 < (l0.length : Int) := of_decide_eq_true (by first | (with_reducible assumption) | assumption); obtain ⟨ad132, e132, hx132_0, hx132_1⟩ := at_T68 HR0.out t131 p132 q132; cases e132; replace hx132_0 := (HB.out.cell (World.block_lt_of_cell? w _ hx132_0)).trans hx132_0; replace hx132_1 := (HB.out.cell (World.block_lt_of_cell? w _ hx132_1)).trans hx132_1; replace p132 := eq_true p132; replace q132 := eq_true q132))
        go_ret2
        exact ⟨by first | rfl | (simp [errW_none, errW_some] <;> rfl) | (simp [*, errW_none, errW_some] <;> rfl), by repeat (first | (with_reducible first | exact HB.out | apply below_alloc | apply pw_below_drewN | apply below_drew1) | exact HB.out)⟩
      · rw [if_neg c7] at H
        exact absurd H (by simp)
    · rw [if_neg c6] at H
      exact absurd H (by simp)

/-! ### batch_Decided: function 27 -/
set_option maxHeartbeats 8000000 in
set_option maxRecDepth 100000 in
theorem batch_Decided.calls (A0_0 : Option Addr) (c0_0 : Nat) (l0_0 : List (S68)) (A0_1 : Option Addr) (c0_1 : Nat) (l0_1 : List (S68)) (a1 : ByteArray) (r1 : ByteArray) (r2 : Bool) (w : World) (hr0_0 : Kd.C k68 w A0_0 l0_0.length l0_0) (hc0_0 : l0_0.length ≤ c0_0) (hr0_1 : Kd.C k68 w A0_1 l0_1.length l0_1) (hc0_1 : l0_1.length ≤ c0_1) (h : batch_Decided.f l0_0 l0_1 a1 = some (r1, r2)) :
    Calls Try.prog 27 #[.agg #[.slice A0_0 l0_0.length c0_0, .slice A0_1 l0_1.length c0_1], .string a1] w fun e w' => e = .returned (.tuple #[.string r1, .bool r2]) ∧ Below w.heap.size w w' := by
  have hu24 := Try.underlying24
  have HR0_0 := Aside0.mk hr0_0
  have HC0_0 := Aside0.mk hc0_0
  clear hr0_0 hc0_0
  have HR0_1 := Aside0.mk hr0_1
  have HC0_1 := Aside0.mk hc0_1
  clear hr0_1 hc0_1
  have HB := Aside0.mk (Below.refl w.heap.size w)
  have H : ((table_Find.f l0_1 a1).bind fun bt134 => (some (bt134.1, bt134.2))) = some (r1, r2) := h
  clear h
  replace H := Option.bind_eq_some_iff.mp H
  obtain ⟨⟨t134, t135⟩, A30, H⟩ := H
  replace H : (some (t134, t135)) = some (r1, r2) := H
  have A3 := Aside0.mk A30
  clear A30
  simp only [Option.some.injEq, Prod.mk.injEq] at H
  obtain ⟨rfl, rfl⟩ := H
  go_enter Try.func27, Try.ntmps27
  go_wp2_with (first | ((with_reducible refine gate_dst (N := 2) rfl ?_); refine box_event ?hg (N := 2) ?hd (cs := #[.slice A0_0 l0_0.length c0_0, .slice A0_1 l0_1.length c0_1]) (t := 24) ?hr ?_; (case hd => rfl); (case hg => rfl); (case hr => first | (go_simp; done) | (go_simp; rfl)); intro gb133 hg w4 hbox hb; have n0_ := Aside0.mk (below_step (by repeat (first | (with_reducible first | exact HB.out | apply below_alloc | apply pw_below_drewN | apply below_drew1) | exact HB.out)) hb); have n1_ := Aside0.mk (hbox); have n2_ := Aside0.mk ((by rw [hg]; exact (below_size (by repeat (first | (with_reducible first | exact HB.out | apply below_alloc | apply pw_below_drewN | apply below_drew1) | exact HB.out))) : w.heap.size ≤ gb133)); have n3_ := Aside0.mk ((by rw [hg]; exact (below_size (by repeat (first | (with_reducible first | exact HB.out | apply below_alloc | apply pw_below_drewN | apply below_drew1) | exact HB.out))) : w.heap.size ≤ gb133)); clear HB; have HB := n0_; have BK133 := n1_; have GW133 := n2_; have GE133 := n3_; clear n0_ n1_ n2_ n3_; clear hb hbox hg; have hcz5_0 : w4.cell? ⟨gb133, 0, none⟩ = some (.slice A0_0 l0_0.length c0_0) := (blk_cell BK133.out 0).trans rfl; have hcz5_1 : w4.cell? ⟨gb133, 1, none⟩ = some (.slice A0_1 l0_1.length c0_1) := (blk_cell BK133.out 1).trans rfl; have hfz5_0 := blk_frozen BK133.out 0; have hfz5_1 := blk_frozen BK133.out 1) | ((with_reducible refine gate_callee (f := 49) rfl ?_); refine goesL_ (some 9) rfl rfl Try.func49 (by kernel_rfl) rfl #[.slice A0_1 l0_1.length c0_1, .string a1] rfl (by (try simp only [List.map_toArray, List.map_cons, List.map_nil]); first | done | rfl | (simp only [List.length_drop, List.length_take]; rfl)) ?_; (with_reducible refine (table_Find.calls _ _ l0_1 a1 t134 t135 _ ?side1 ?side2 A3.out).mono ?_); (case side1 => repeat (first | exact (Kd.C_below HR0_1.out HB.out) | (with_reducible refine Kd.C_alloc ?_ _) | (with_reducible refine Kd.C_drewN ?_ _) | (with_reducible refine Kd.C_drew ?_))); (case side2 => exact HC0_1.out); rintro e w6 ⟨rfl, hb⟩; refine ⟨_, rfl, ?_⟩; have n0_ := Aside0.mk (blk_below (g := gb133) (o := .cells #[.slice A0_0 l0_0.length c0_0, .slice A0_1 l0_1.length c0_1] 24 (0, 0)) (by (with_reducible repeat (first | refine blk_drewN ?_ _ | refine blk_drew ?_ | refine blk_alloc ?_ _)); exact BK133.out) hb); have n1_ := Aside0.mk (below_step (by repeat (first | (with_reducible first | exact HB.out | apply below_alloc | apply pw_below_drewN | apply below_drew1 | refine below_set ?_ GE133.out) | exact HB.out)) hb); clear BK133; clear HB; have BK133 := n0_; have HB := n1_; clear n0_ n1_; (try clear hb); (try clear hb2); (try clear hk); (try clear hi)))
  go_ret2
  exact ⟨by first | rfl | (simp [errW_none, errW_some] <;> rfl) | (simp [*, errW_none, errW_some] <;> rfl), by repeat (first | (with_reducible first | exact HB.out | apply below_alloc | apply pw_below_drewN | apply below_drew1 | refine below_set ?_ GE133.out) | exact HB.out)⟩

/-! ### api_Pair_58: function 58 -/
set_option maxHeartbeats 8000000 in
set_option maxRecDepth 100000 in
theorem api_Pair_58.calls (A0 : Option Addr) (c0 : Nat) (l0 : List (S68)) (r : List (S68)) (w : World) (hr0 : Kd.C k68 w A0 l0.length l0) (hc0 : l0.length ≤ c0) (h : api_Pair_58.f l0 = some r) :
    Calls Try.prog 58 #[.slice A0 l0.length c0] w fun e w' => ∃ v0_ : Value, e = .returned (v0_) ∧ Kd.R k68 68 w' w.heap.size (fun _ => True) v0_ r ∧ Below w.heap.size w w' := by
  have HR0 := Aside0.mk hr0
  have HC0 := Aside0.mk hc0
  clear hr0 hc0
  have HB := Aside0.mk (Below.refl w.heap.size w)
  have H : ((some (([] : List (S68)) : List (S68))).bind fun y136 => (if y136.length + l0.length < 4398046511104 then (some (y136 ++ l0)) else (none))) = some r := h
  clear h
  obtain ⟨y136, hy136⟩ : ∃ y_ : List (S68), y_ = (([] : List (S68))) := ⟨_, rfl⟩
  replace H : (if y136.length + l0.length < 4398046511104 then (some (y136 ++ l0)) else (none)) = some r := by first | (rw [hy136]; with_reducible exact H) | (have H2_ := (Option.bind_some _ _).symm.trans H; rw [hy136]; with_reducible exact H2_) | (have H2_ := (Option.bind_some _ _).symm.trans H; with_reducible exact H2_) | with_reducible exact H | (rw [hy136]; exact H) | exact H
  have Ny136 := Aside0.mk hy136
  clear hy136
  by_cases c2 : y136.length + l0.length < 4398046511104
  · rw [if_pos c2] at H
    have LMc2 := Aside0.mk c2
    clear c2
    obtain ⟨y139, hy139⟩ : ∃ y_ : List (S68), y_ = (y136 ++ l0) := ⟨_, rfl⟩
    replace H : (some y139) = some r := by first | (rw [hy139]; with_reducible exact H) | (have H2_ := (Option.bind_some _ _).symm.trans H; rw [hy139]; with_reducible exact H2_) | (have H2_ := (Option.bind_some _ _).symm.trans H; with_reducible exact H2_) | with_reducible exact H | (rw [hy139]; exact H) | exact H
    have Ny139 := Aside0.mk hy139
    clear hy139
    obtain rfl := Option.some.inj H
    have qT := fun (w : World) (a : Option Addr) (l c : Nat) => Lib.run_eql_slice_nil (P := Try.prog) w 22 68 a l c 0 0 Try.underlying22
    rcases A0 with _ | ad0
    · have hl : l0 = [] := by
        rcases l0 with _ | ⟨x_, l_⟩
        · rfl
        · obtain ⟨_, h_, _⟩ := HR0.out.2.2 (by simp)
          cases h_
      have hy := Aside0.mk (show y139 = [] by rw [Ny139.out, Ny136.out, hl]; rfl)
      clear hl
      go_enter Try.func58, Try.ntmps58
      go_wp2
      go_ret
      exact ⟨_, rfl, by rw [hy.out]; exact Kd.R_nil _ _ _ _ _, HB.out⟩
    · go_enter Try.func58, Try.ntmps58
      go_wp2_with (first | ((with_reducible refine gate_dst (N := 5) rfl ?_); refine Kd.R_lit k68 _ 68 ?hg (N := 5) ?hd (xs := ([] : List (S68))) (inner := []) (ok := fun _ => True) (okp := fun _ => True) ?hr ?hp (fun _ hk => hk) trivial (Below.refl _ _) (Nat.le_refl _) (by simp) ?_; (case hd => rfl); (case hg => rfl); (case hr => first | (go_simp; done) | (go_simp; rfl)); (case hp => exact (Reps.none _ _)); intro v137 w3 ho4 hb hg_ hnew_; clear hg_ hnew_; (first | rw [← Ny136.out] at ho4 | (simp only [Int.reduceToNat] at ho4; rw [← Ny136.out] at ho4)); have n0_ := Aside0.mk (Kd.R_lower ho4 (below_size (by repeat (first | (with_reducible first | exact HB.out | apply below_alloc | apply pw_below_drewN | apply below_drew1) | exact HB.out)))); have n1_ := Aside0.mk (below_step (by repeat (first | (with_reducible first | exact HB.out | apply below_alloc | apply pw_below_drewN | apply below_drew1) | exact HB.out)) hb); clear HB; have HO138 := n0_; have HB := n1_; clear n0_ n1_; clear hb ho4) | ((with_reducible refine gate_builtin (b := .append) (xs := #[.tmp 5, .tmp 6]) rfl ?_); at_builtin; refine Kd.R_append_rows k68 (w0 := w) w.heap.size rfl (.tmp 5) (.tmp 6) 22 68 (.agg #[(.string ⟨#[]⟩), (.string ⟨#[]⟩)]) 32 rfl Try.underlying22 info68 rfl (by decide) (by omega) v137 y136 l0 _ _ _ (fun _ => True) (fun _ => False) rfl rfl ?aO ?aR (fun _ _ h => h) (fun _ h => h.elim) ?aF ?aB ?aS ?aL ?_; (case aR => repeat (first | exact (Kd.C_below HR0.out HB.out) | (with_reducible refine Kd.C_alloc ?_ _) | (with_reducible refine Kd.C_drewN ?_ _) | (with_reducible refine Kd.C_drew ?_))); (case aB => exact (by repeat (first | (with_reducible first | exact HB.out | apply below_alloc | apply pw_below_drewN | apply below_drew1) | exact HB.out))); (case aF => exact (fun _ _ => trivial)); (case aO => exact (by (with_reducible repeat (first | apply Kd.R_alloc | apply Kd.R_drewN | apply Kd.R_drew)); exact HO138.out)); (case aS => exact (below_size (by repeat (first | (with_reducible first | exact HB.out | apply below_alloc | apply pw_below_drewN | apply below_drew1) | exact HB.out)))); (case aL => have := LMc2.out; omega); intro v140 w5 ho hb hg hat; rw [← Ny139.out] at ho; have n0_ := Aside0.mk (hb); have n1_ := Aside0.mk (ho); clear HB; clear HO138; have HB := n0_; have HO141 := n1_; clear n0_ n1_; clear ho hb hg hat))
      go_ret
      exact ⟨_, by first | rfl | (simp [errW_none, errW_some] <;> rfl) | (simp [*, errW_none, errW_some] <;> rfl), by (with_reducible repeat (first | apply Kd.R_alloc | apply Kd.R_drewN | apply Kd.R_drew)); exact HO141.out, by repeat (first | (with_reducible first | exact HB.out | apply below_alloc | apply pw_below_drewN | apply below_drew1) | exact HB.out)⟩
  · rw [if_neg c2] at H
    exact absurd H (by simp)

-- function 71: no road meets it

-- function 76: no road meets it

-- function 75: no road meets it

-- function 72: no road meets it

open Go.Proofs.Ythcdlgphabaidaa.Cp
/-! ### api_Pair_64: function 64 -/
def flc68 (x : S68) : List Value := [.string x.f0, .string x.f1]
theorem flc68_len (x : S68) : (flc68 x).length = 2 := rfl
theorem flc68_one (xs : List S68) : ∀ v ∈ xs.flatMap flc68, v.oneCell' = true := by
  intro v hv
  obtain ⟨x, _, hx⟩ := List.mem_flatMap.1 hv
  simp only [flc68, List.mem_cons, List.not_mem_nil, or_false] at hx
  rcases hx with rfl | rfl <;> rfl
theorem own68 {w : World} {base : Nat} {ok : Nat → Prop} {v : Value} {xs : List S68} (h : Kd.R k68 68 w base ok v xs) : (∀ k, v.ownBlock = some k → ok k) ∧ w.ownsRow base 68 2 v xs.length (xs.flatMap flc68) := R_flat flc68 (fun _ _ h => k68_openM h) h
theorem row68 {w : World} {base : Nat} {ok : Nat → Prop} {v : Value} {xs : List S68} (h0 : ∀ k, v.ownBlock = some k → ok k) (h : w.ownsRow base 68 2 v xs.length (xs.flatMap flc68)) : Kd.R k68 68 w base ok v xs := flat_R flc68 (fun x => k68_mkM _ _ _ x) (fun _ => rfl) h0 h
theorem row_form68 {w : World} {base : Nat} {ok : Nat → Prop} {v : Value} {xs : List S68} (h : Kd.R k68 68 w base ok v xs) (hn : 0 < xs.length) : ∃ g c, v = .slice (some ⟨g, 0, none⟩) xs.length c ∧ xs.length ≤ c ∧ Kd.C k68 w (some ⟨g, 0, none⟩) xs.length xs := by
  obtain ⟨A, c, rfl, hc, hC⟩ := Kd.R_reads h
  obtain ⟨_, _, h2⟩ := own68 h
  rcases h2 with ⟨_, h0⟩ | ⟨g, c', cur, e, _⟩
  · omega
  · injection e with e1 e2 e3
    subst e1
    exact ⟨g, c, rfl, hc, hC⟩
theorem row_C68 {w : World} {base g n c : Nat} {ok : Nat → Prop} {xs : List S68} (h : Kd.R k68 68 w base ok (.slice (some ⟨g, 0, none⟩) n c) xs) : Kd.C k68 w (some ⟨g, 0, none⟩) n xs := by
  obtain ⟨A, c, e, hc, hC⟩ := Kd.R_reads h
  injection e with e1 e2 e3
  subst e1; subst e2
  exact hC
theorem row_old68 {w : World} {g n : Nat} {xs : List S68} (h : Kd.C k68 w (some ⟨g, 0, none⟩) n xs) (i : Nat) (hi : i < n) : ∃ c : List Value, c.length = 2 ∧ ∀ j u, c[j]? = some u → w.cell? ⟨g, (i : Int).toNat * 2 + j, none⟩ = some u := by
  obtain ⟨ad, c, e, _, hK, hc0⟩ := Kd.C_get h z68 (i : Int) (by omega) (by omega)
  cases e
  refine ⟨c, by rw [k68_open hK]; rfl, fun j u hj => ?_⟩
  have := hc0 j u hj
  rw [Addr.add_lit, Nat.zero_add] at this
  exact this
set_option maxHeartbeats 8000000 in
set_option maxRecDepth 100000 in
theorem api_Pair_64.room (g b i n c : Nat) (cur : Array Value) (vs : List Value) (w : World) (hi : i < n) (hroom : n + 1 ≤ c) (hc63 : c ≤ 9223372036854775807) (hcur : cur.size = c * 2) (hvl : vs.length = 2)
    (hg : w.heap[g]? = some (.cells cur 68 (0, 0))) (hb : w.heap[b]? = some (.cells vs.toArray 68 (0, 0))) (hne : b ≠ g) (h1c : ∀ v ∈ cur.toList.take (n * 2), v.oneCell' = true) (h1v : ∀ v ∈ vs, v.oneCell' = true) :
    Calls Try.prog 64 #[.slice (some ⟨g, 0, none⟩) n c, .int .i64 i, .slice (some ⟨b, 0, none⟩) 1 1] w fun e w' => ∃ cur2 : List Value,
      e = .returned (.slice (some ⟨g, 0, none⟩) (n + 1) c) ∧ w' = w.drew.setRow g cur2.toArray ∧ cur2.length = cur.size ∧ cur2.take ((n + 1) * 2) = (cur.toList.take (n * 2)).take (i * 2) ++ vs ++ (cur.toList.take (n * 2)).drop (i * 2) := by
  have hu68 := Try.underlying68
  have hsz : (Try.prog.info? 68).map (·.size) = some 2 := by
    obtain ⟨i0, hi0, h0, h1, h2⟩ := info_parts info68
    rw [hi0]; simp [h1]
  obtain ⟨cs, hcs⟩ : ∃ cs, cs = (cur.toList.drop (i * 2)).take ((n - i) * 2) := ⟨_, rfl⟩
  obtain ⟨cur1, hcur1⟩ : ∃ cur1, cur1 = cur.toList.take ((i + 1) * 2) ++ cs ++ cur.toList.drop ((i + 1) * 2 + cs.length) := ⟨_, rfl⟩
  obtain ⟨cur2, hcur2⟩ : ∃ cur2, cur2 = cur1.take (i * 2) ++ vs ++ cur1.drop (i * 2 + vs.length) := ⟨_, rfl⟩
  obtain ⟨lcs, l1, l2, hins⟩ := ins_room cur.toList vs i n 2 (by omega) hvl (by rw [Array.length_toList]; omega) cs cur1 cur2 hcs hcur1 hcur2
  have lt : cur.toList.length = cur.size := Array.length_toList
  have l1 : cur1.length = cur.size := l1.trans lt
  have l2 : cur2.length = cur.size := l2.trans lt
  clear lt
  have f1 : (i + 1) * 2 + (n - i) * 2 ≤ cur.size := by omega
  have f2 : i * 2 + 2 ≤ cur1.toArray.size := by rw [List.size_toArray, l1]; omega
  have hov : ∀ lb cb, (callFunc 71 #[.slice (some ⟨b, 0, none⟩) 1 1, .slice (some ⟨g, (i + 1) * 2, none⟩) lb cb]).run Try.prog w = .ok (.value (.bool false)) w := fun lb cb => by
    rw [run_callFunc_extern Try.func71 (by kernel_rfl) (by kernel_rfl) (by kernel_rfl) (e := Extern.SlicesOverlaps.overlaps #[22, 22] #[4]) (by kernel_rfl),
      Lib.run_overlaps_apart w 22 4 68 Try.underlying22 2 (fun _ => by kernel_rfl) ⟨b, 0, none⟩ ⟨g, (i + 1) * 2, none⟩ 1 1 lb cb hne 68 68 vs.toArray.size cur.size (shape_of_blk hb) (shape_of_blk hg) (by omega) (frozen_of_blk hb 0) (frozen_of_blk hb _)]
    rfl
  have hcp1 : ∀ ty dc sc, (Builtin.copy_ #[22, 22] ty #[.slice (some ⟨g, (i + 1) * 2, none⟩) (n - i) dc, .slice (some ⟨g, i * 2, none⟩) (n + 1 - i) sc]).run Try.prog w.drew = .ok (goInt (Nat.min (n + 1 - i) (n - i))) (w.drew.setRow g cur1.toArray) := fun ty dc sc => by
    have h := run_copy_rowK (P := Try.prog) w.drew 22 22 ty 68 g ((i + 1) * 2) (n - i) dc ⟨g, i * 2, none⟩ (n + 1 - i) sc cur 68 cs 2 Try.underlying22 hsz hg
      (by rw [lcs, show Nat.min (n + 1 - i) (n - i) = n - i by simp only [Nat.min_def]; split <;> omega])
      (fun j v hj => by
        rw [Addr.add_lit]
        show w.cell? _ = _
        rw [cell_of_blk hg, ← Array.getElem?_toList]
        rw [hcs, List.getElem?_take] at hj
        split at hj
        · rw [List.getElem?_drop] at hj; exact hj
        · cases hj)
      (by rw [lcs]; exact f1)
      (fun v hv => h1c v (by
        rw [hcs] at hv
        have h2 : (cur.toList.drop (i * 2)).take ((n - i) * 2) = (cur.toList.take (n * 2)).drop (i * 2) := by rw [List.drop_take]; congr 1; omega
        rw [h2] at hv
        exact List.mem_of_mem_drop hv))
    rw [← hcur1] at h
    exact h
  have hg1 : ∀ W : World, W = w.drew.setRow g cur1.toArray → W.heap[g]? = some (.cells cur1.toArray 68 (0, 0)) := fun W hW => by rw [hW]; exact setRow_heap w.drew g cur _ 68 _ hg
  have hb1 : ∀ W : World, W = w.drew.setRow g cur1.toArray → W.heap[b]? = some (.cells vs.toArray 68 (0, 0)) := fun W hW => by rw [hW, setRow_other w.drew g _ _ hne]; exact hb
  have hcp2 : ∀ ty dc, (Builtin.copy_ #[22, 22] ty #[.slice (some ⟨g, i * 2, none⟩) (n + 1 - i) dc, .slice (some ⟨b, 0, none⟩) 1 1]).run Try.prog (w.drew.setRow g cur1.toArray) = .ok (goInt (Nat.min 1 (n + 1 - i))) (w.drew.setRow g cur2.toArray) := fun ty dc => by
    have h := run_copy_rowK (P := Try.prog) (w.drew.setRow g cur1.toArray) 22 22 ty 68 g (i * 2) (n + 1 - i) dc ⟨b, 0, none⟩ 1 1 cur1.toArray 68 vs 2 Try.underlying22 hsz (hg1 _ rfl)
      (by rw [hvl, show Nat.min 1 (n + 1 - i) = 1 by simp only [Nat.min_def]; split <;> omega])
      (fun j v hj => by
        rw [Addr.add_lit, cell_of_blk (hb1 _ rfl)]
        simpa using hj)
      (by rw [hvl]; exact f2) h1v
    rw [setRow_setRow, List.toList_toArray, ← hcur2] at h
    exact h
  have hdn : n + 1 - (i + 1) = n - i := by omega
  have hw1 : IntKind.i64.wrap ((i : Int) + 1) = (i : Int) + 1 := by rw [IntKind.wrap_i64]; omega
  have hw2 : IntKind.i64.wrap ((n : Int) + 1) = (n : Int) + 1 := by rw [IntKind.wrap_i64]; omega
  have hb0 : (0 : Int) ≤ (i : Int) + 1 := by omega
  have hin : i ≤ n := by omega
  have htn : ((i : Int) + 1).toNat = i + 1 := by omega
  have htn2 : ((n : Int) + 1).toNat = n + 1 := by omega
  have hz2 : ((i : Int) == (n : Int)) = false := by simp; omega
  have hz3 : decide ((c : Int) < (n : Int) + 1) = false := decide_eq_false (by omega)
  have hb2 : ¬ (c = i + 1) := by omega
  have hb3 : (i : Int) + 1 ≤ (n : Int) + 1 := by omega
  have hb4 : ¬ (c = i) := by omega
  have hb5 : (n : Int) + 1 ≤ (c : Int) := by omega
  have hb6 : (0 : Int) ≤ (n : Int) + 1 := by omega
  have hb7 : (i : Int) ≤ (n : Int) + 1 := by omega
  have X1 := Aside0.mk hcur1
  have X2 := Aside0.mk hcur2
  have X3 := Aside0.mk hcs
  have X4 := Aside0.mk lcs
  have X5 := Aside0.mk l1
  have X6 := Aside0.mk l2
  have X7 := Aside0.mk hins
  have X8 := Aside0.mk hcur
  have X9 := Aside0.mk hdn
  clear f1 f2 hcur1 hcur2 hcs lcs l1 l2 hins hg1 hb1 hcur hdn
  go_enter Try.func64, Try.ntmps64
  go_wp2_with (simp only [hov])
  go_region_law (refine step_copy_run rfl _ _ 22 22 rfl _ _ (by simp [Act.eval, Act.put]) (by simp [Act.eval, Act.put]) (hcp1 _ _ _) ?_)
  go_wp2_with (at_builtin; refine wpList_copy_run _ rfl _ _ 22 22 rfl _ _ rfl rfl (hcp2 _ _) ?_)
  go_ret
  exact ⟨cur2, rfl, rfl, X6.out, X7.out⟩
set_option maxHeartbeats 8000000 in
set_option maxRecDepth 100000 in
theorem api_Pair_64.grow (g b i n c : Nat) (cur : Array Value) (vs : List Value) (w : World) (hi : i < n) (hnc : n ≤ c) (hroom : c < n + 1) (hbig : (n + 1) * 32 ≤ 140737488355328) (hcur : cur.size = c * 2) (hvl : vs.length = 2)
    (hg : w.heap[g]? = some (.cells cur 68 (0, 0))) (hb : w.heap[b]? = some (.cells vs.toArray 68 (0, 0))) (hne : b ≠ g) (h1c : ∀ v ∈ cur.toList.take (n * 2), v.oneCell' = true) (h1v : ∀ v ∈ vs, v.oneCell' = true) :
    Calls Try.prog 64 #[.slice (some ⟨g, 0, none⟩) n c, .int .i64 i, .slice (some ⟨b, 0, none⟩) 1 1] w fun e w' => ∃ (G : Nat) (cur2 : List Value),
      e = .returned (.slice (some ⟨w.heap.size, 0, none⟩) (n + 1) G) ∧ n + 1 ≤ G ∧ G ≤ maxLen ∧ (∃ W : World, W.heap.size = w.heap.size + 1 ∧ Below w.heap.size w W ∧ W.heap[w.heap.size]? = some (.cells cur2.toArray 68 (0, 0)) ∧ w' = W) ∧ cur2.length = G * 2 ∧ cur2.take ((n + 1) * 2) = (cur.toList.take (n * 2)).take (i * 2) ++ vs ++ (cur.toList.take (n * 2)).drop (i * 2) := by
  have hu68 := Try.underlying68
  obtain ⟨i0, hi0, hz0, hzs, hzb⟩ := info_parts info68
  have hsz : (Try.prog.info? 68).map (·.size) = some 2 := by rw [hi0]; simp [hzs]
  have hgw : g < w.heap.size := (Array.getElem?_eq_some_iff.1 hg).1
  have hbw : b < w.heap.size := (Array.getElem?_eq_some_iff.1 hb).1
  have hkk : (n : Int) + 1 - (i : Int) = ((n + 1 - i : Nat) : Int) := by omega
  have hik : i + (n + 1 - i) = n + 1 := by omega
  have hold : (Builtin.firstCells i0.size i (.slice (some ⟨g, 0, none⟩) i c)).run Try.prog w.drew = .ok (cur.toList.take (i * 2)).toArray w.drew := by
    rw [hzs]
    exact run_firstCells_some w.drew 2 i ⟨g, 0, none⟩ i c (cur.toList.take (i * 2)) (by rw [List.length_take, Array.length_toList]; omega) (fun j v hj => by
      rw [Addr.add_lit]
      show w.cell? _ = _
      rw [cell_of_blk hg, ← Array.getElem?_toList, Nat.zero_add]
      rw [List.getElem?_take] at hj
      split at hj
      · exact hj
      · cases hj)
  obtain ⟨G, hG⟩ : ∃ G, G = grownCap w (n + 1) c 68 := ⟨_, rfl⟩
  obtain ⟨Z, hZ⟩ : ∃ Z, Z = ((.agg #[(.string ⟨#[]⟩), (.string ⟨#[]⟩)]) : Value) := ⟨_, rfl⟩
  have hzc : Z.cells.size = 2 := by rw [hZ]; rfl
  rw [← hZ] at hz0
  obtain ⟨ROW, hROW⟩ : ∃ ROW : Array Value, ROW = (cur.toList.take (i * 2)).toArray ++ Builtin.zeroCells Z.cells (n + 1 - i) ++ Builtin.zeroCells Z.cells (G - (n + 1)) := ⟨_, rfl⟩
  have hrz : ∀ ty, (Builtin.append_ #[22, 3] ty #[.slice (some ⟨g, 0, none⟩) i c, .int .i64 ((n : Int) + 1 - (i : Int))]).run Try.prog w =
      .ok (.slice (some ⟨w.heap.size, 0, none⟩) (n + 1) G) (w.drew.alloc (.cells ROW 68)) := fun ty => by
    have h := Lib.run_append_grow_zeros w 22 3 ty 68 i0 Z .i64 .i64 Try.underlying22 Try.underlying3 hi0 hz0 (some ⟨g, 0, none⟩) i c (cur.toList.take (i * 2)) hold (n + 1 - i) (by omega) (by omega) (by omega) (by omega) (by rw [hzb]; omega) (by rw [hzb, hik]; exact growslice_fits hroom hbig)
    rw [hik, ← hG, ← hROW] at h
    rw [hkk]
    exact h
  have hGn : n + 1 ≤ G := by rw [hG]; exact grownCap_ge w _ _ _
  have hGm : G ≤ maxLen := by rw [hG]; exact grownCap_le_maxLen w _ _ _ (by unfold maxLen; omega)
  have hG63 : G ≤ 9223372036854775807 := by have := hGm; unfold maxLen at this; omega
  have hRsz : ROW.size = G * 2 := by
    rw [hROW, Array.size_append, Array.size_append, zero_size, zero_size, hzc, List.size_toArray, List.length_take, Array.length_toList]
    omega
  have hRA : ROW.toList.take (i * 2) = cur.toList.take (i * 2) := by
    rw [hROW, Array.toList_append, Array.toList_append, List.append_assoc]
    exact List.take_left' (by simp only [List.length_take, Array.length_toList]; omega)
  obtain ⟨RA, hcA⟩ : ∃ RA, RA = ROW.toList.take (i * 2) ++ vs ++ ROW.toList.drop (i * 2 + vs.length) := ⟨_, rfl⟩
  obtain ⟨cs, hcs⟩ : ∃ cs, cs = (cur.toList.drop (i * 2)).take ((n - i) * 2) := ⟨_, rfl⟩
  obtain ⟨RB, hcB⟩ : ∃ RB, RB = RA.take ((i + 1) * 2) ++ cs ++ RA.drop ((i + 1) * 2 + cs.length) := ⟨_, rfl⟩
  have lR : ROW.toList.length = G * 2 := Array.length_toList.trans hRsz
  obtain ⟨lcs, l1, l2, hins⟩ := ins_grow cur.toList vs ROW.toList i n 2 (by omega) hvl (by rw [Array.length_toList]; omega) (by rw [lR]; omega) hRA cs RA RB hcs hcA hcB
  have l1 : RA.length = G * 2 := l1.trans lR
  have l2 : RB.length = G * 2 := l2.trans lR
  have f1 : i * 2 + 2 ≤ ROW.size := by omega
  have f2 : (i + 1) * 2 + (n - i) * 2 ≤ RA.toArray.size := by
    rw [show RA.toArray.size = RA.length from rfl, l1]
    omega
  have hN : ∀ W : World, W.heap = (w.alloc (.cells ROW 68)).heap → W.heap[w.heap.size]? = some (.cells ROW 68 (0, 0)) := fun W hW => by rw [hW]; exact heap_alloc_new w _
  have hold2 : ∀ k, k < w.heap.size → (w.alloc (.cells ROW 68)).heap[k]? = w.heap[k]? := fun k hk => heap_alloc_old w _ hk
  have hcpA : ∀ (W : World), W.heap = (w.alloc (.cells ROW 68)).heap → ∀ ty dc, (Builtin.copy_ #[22, 22] ty #[.slice (some ⟨w.heap.size, i * 2, none⟩) (n + 1 - i) dc, .slice (some ⟨b, 0, none⟩) 1 1]).run Try.prog W = .ok (goInt (Nat.min 1 (n + 1 - i))) (W.setRow w.heap.size RA.toArray) := fun W hW ty dc => by
    have h := run_copy_rowK (P := Try.prog) W 22 22 ty 68 w.heap.size (i * 2) (n + 1 - i) dc ⟨b, 0, none⟩ 1 1 ROW 68 vs 2 Try.underlying22 hsz (hN W hW)
      (by rw [hvl, show Nat.min 1 (n + 1 - i) = 1 by simp only [Nat.min_def]; split <;> omega])
      (fun j v hj => by
        have hb2 : W.heap[b]? = some (.cells vs.toArray 68 (0, 0)) := by rw [hW, hold2 b hbw]; exact hb
        rw [Addr.add_lit, cell_of_blk hb2]
        simpa using hj)
      (by rw [hvl]; exact f1) h1v
    rw [← hcA] at h
    exact h
  have hcpB : ∀ (W : World), W.heap = ((w.alloc (.cells ROW 68)).setRow w.heap.size RA.toArray).heap → ∀ ty dc sc, (Builtin.copy_ #[22, 22] ty #[.slice (some ⟨w.heap.size, (i + 1) * 2, none⟩) (n - i) dc, .slice (some ⟨g, i * 2, none⟩) (n - i) sc]).run Try.prog W = .ok (goInt (Nat.min (n - i) (n - i))) (W.setRow w.heap.size RB.toArray) := fun W hW ty dc sc => by
    have hNW : W.heap[w.heap.size]? = some (.cells RA.toArray 68 (0, 0)) := by rw [hW]; exact setRow_heap _ _ ROW _ 68 _ (hN _ rfl)
    have hgW : W.heap[g]? = some (.cells cur 68 (0, 0)) := by rw [hW, setRow_other _ _ _ _ (by omega), hold2 g hgw]; exact hg
    have h := run_copy_rowK (P := Try.prog) W 22 22 ty 68 w.heap.size ((i + 1) * 2) (n - i) dc ⟨g, i * 2, none⟩ (n - i) sc RA.toArray 68 cs 2 Try.underlying22 hsz hNW
      (by rw [lcs]; congr 1; simp only [Nat.min_def]; split <;> rfl)
      (fun j v hj => by
        rw [Addr.add_lit, cell_of_blk hgW, ← Array.getElem?_toList]
        rw [hcs, List.getElem?_take] at hj
        split at hj
        · rw [List.getElem?_drop] at hj; exact hj
        · cases hj)
      (by rw [lcs]; exact f2)
      (fun v hv => h1c v (by
        rw [hcs] at hv
        have h2 : (cur.toList.drop (i * 2)).take ((n - i) * 2) = (cur.toList.take (n * 2)).drop (i * 2) := by rw [List.drop_take]; congr 1; omega
        rw [h2] at hv
        exact List.mem_of_mem_drop hv))
    rw [List.toList_toArray, ← hcB] at h
    exact h
  have hA2 := hcpA ((w.alloc (.cells ROW 68)).drew) rfl
  have hB2 := hcpB (((w.alloc (.cells ROW 68)).drew.setRow w.heap.size RA.toArray).drew) rfl
  clear hcpA hcpB
  have hw1 : IntKind.i64.wrap ((i : Int) + 1) = (i : Int) + 1 := by rw [IntKind.wrap_i64]; omega
  have hw2 : IntKind.i64.wrap ((n : Int) + 1) = (n : Int) + 1 := by rw [IntKind.wrap_i64]; omega
  have hb0 : (0 : Int) ≤ (i : Int) + 1 := by omega
  have hin : i ≤ n := by omega
  have htn : ((i : Int) + 1).toNat = i + 1 := by omega
  have hz2 : ((i : Int) == (n : Int)) = false := by simp; omega
  have hz3 : decide ((c : Int) < (n : Int) + 1) = true := decide_eq_true (by omega)
  have hb2 : ¬ (G = i + 1) := by omega
  have hb3 : (i : Int) + 1 ≤ (n : Int) + 1 := by omega
  have hb4 : ¬ (c = i) := by omega
  have hb5 : ¬ (G = i) := by omega
  have hb7 : (i : Int) ≤ (n : Int) + 1 := by omega
  have hb8 : (i : Int) ≤ (n : Int) := by omega
  have X1 := Aside0.mk hins
  have X2 := Aside0.mk l2
  have X3 := Aside0.mk hN
  have X4 := Aside0.mk hold2
  have X5 := Aside0.mk hGm
  clear hins l1 l2 lR lcs hcs hcA hcB hRA hRsz hROW hG hkk hik hold f1 f2 hN hold2 hzc hZ hz0 hGm hzs hzb
  go_enter Try.func64, Try.ntmps64
  go_wp2_with (first
    | (at_builtin; refine wpList_append_run _ rfl _ _ _ _ rfl _ _ rfl rfl (hrz _) ?_)
    | (at_builtin; refine wpList_copy_run _ rfl _ _ 22 22 rfl _ _ rfl rfl (hA2 _ _) ?_))
  go_region_law (refine step_copy_run rfl _ _ 22 22 rfl _ _ (by simp [Act.eval, Act.put]) (by simp [Act.eval, Act.put]) (hB2 _ _ _) ?_)
  go_wp2
  go_ret
  exact ⟨G, RB, rfl, hGn, X5.out, ⟨_, by simp [World.setRow], below_setRow (Below.drew (below_setRow (Below.drew (Below.alloc (Below.refl _ _) (Nat.le_refl _) _)) (Nat.le_refl _) _)) (Nat.le_refl _) _, setRow_heap _ _ RA.toArray _ 68 _ (setRow_heap (w.alloc (.cells ROW 68)).drew _ ROW _ 68 _ (heap_alloc_new w _)), rfl⟩, X2.out, X1.out⟩
theorem api_Pair_64.calls (base b i : Nat) (u : Value) (l0 : List S68) (x : S68) (w0 w : World) (hr : Kd.R k68 68 w base (fun _ => True) u l0) (hi : i < l0.length) (hbig : (l0.length + 1) * 32 ≤ 140737488355328)
    (hb : w.heap[b]? = some (.cells (flc68 x).toArray 68 (0, 0))) (hne : some b ≠ u.ownBlock) (HB : Below base w0 w) (hbase : base ≤ w.heap.size) :
    Calls Try.prog 64 #[u, .int .i64 i, .slice (some ⟨b, 0, none⟩) 1 1] w fun e w' => ∃ v', e = .returned v' ∧ Kd.R k68 68 w' base (fun _ => True) v' (l0.take i ++ x :: l0.drop i) ∧ Below base w0 w' := by
  obtain ⟨-, h1, h2⟩ := own68 hr
  have hlen : (l0.take i ++ x :: l0.drop i).length = l0.length + 1 := by simp only [List.length_append, List.length_cons, List.length_take, List.length_drop]; omega
  have hfl : (l0.take i ++ x :: l0.drop i).flatMap flc68 = ((l0.flatMap flc68).take (i * 2)) ++ flc68 x ++ ((l0.flatMap flc68).drop (i * 2)) := by
    rw [flat_take flc68 flc68_len, flat_drop flc68 flc68_len, List.flatMap_append, List.flatMap_cons, List.append_assoc]
  rcases h2 with ⟨_, h0⟩ | ⟨g, c, cur, rfl, hg, hh, hnc, hcm, hcs, htk⟩
  · omega
  have hcm' : c ≤ 9223372036854775807 := by unfold maxLen at hcm; omega
  have h1c : ∀ v ∈ cur.toList.take (l0.length * 2), v.oneCell' = true := by rw [htk]; exact flc68_one l0
  have h1v : ∀ v ∈ flc68 x, v.oneCell' = true := by have := flc68_one [x]; simpa using this
  have hbg : b ≠ g := fun e => hne (by rw [e]; rfl)
  have lt2 : l0.length * 2 = (l0.flatMap flc68).length := (flat_len flc68 flc68_len l0).symm
  by_cases hroom : l0.length + 1 ≤ c
  · refine (api_Pair_64.room g b i l0.length c cur (flc68 x) w hi hroom hcm' hcs rfl hh hb hbg h1c h1v).mono ?_
    rintro e w' ⟨cur2, rfl, rfl, hl2, ht2⟩
    refine ⟨_, rfl, row68 (fun _ _ => trivial) ⟨?_, .inr ⟨g, c, cur2.toArray, ?_, hg, setRow_heap w.drew g cur _ 68 _ hh, ?_, hcm, ?_, ?_⟩⟩, ?_⟩
    · exact flat_len flc68 flc68_len _
    · rw [hlen]
    · rw [hlen]; exact hroom
    · rw [List.size_toArray, hl2, hcs]
    · rw [hlen, List.toList_toArray, ht2, hfl, htk]
    · exact HB.trans (below_setRow (Below.drew (Below.refl _ _)) hg _)
  · refine (api_Pair_64.grow g b i l0.length c cur (flc68 x) w hi hnc (by omega) hbig hcs rfl hh hb hbg h1c h1v).mono ?_
    rintro e w' ⟨G, cur2, rfl, hG, hGm, ⟨W, hWs, hWb, hWh, rfl⟩, hl2, ht2⟩
    refine ⟨_, rfl, row68 (fun _ _ => trivial) ⟨?_, .inr ⟨w.heap.size, G, cur2.toArray, ?_, hbase, hWh, ?_, hGm, ?_, ?_⟩⟩, ?_⟩
    · exact flat_len flc68 flc68_len _
    · rw [hlen]
    · rw [hlen]; exact hG
    · rw [List.size_toArray, hl2]
    · rw [hlen, List.toList_toArray, ht2, hfl, htk]
    · exact HB.trans (hWb.mono hbase)

open Go.Proofs.Ythcdlgphabaidaa.Cp
/-! ### table_Put: function 48 -/
theorem cell_below_ {w w' : World} {a : Addr} {v : Value} (hb : Below w.heap.size w w') (h : w.cell? a = some v) : w'.cell? a = some v := (hb.cell (World.block_lt_of_cell? w a h)).trans h
theorem enters63 : ∀ args w, (callFunc 63 args).run Try.prog w = .ok (.enter 63 args) w := enters_of Try.func63 (by kernel_rfl) rfl
set_option maxHeartbeats 8000000 in
theorem table_Put_1.calls (x : S68) (key : ByteArray) (B : Nat) (W : World) (hc : W.cell? ⟨B, 0, none⟩ = some (.string key)) :
    Calls Try.prog 63 #[.agg #[.string x.f0, .string x.f1], .pointer (some ⟨B, 0, none⟩)] W fun e w' => e = .returned (.bool (gtK68 key x)) ∧ Below W.heap.size W w' := by
  have hu68 := Try.underlying68
  have hB := World.block_lt_of_cell? W _ hc
  go_enter Try.func63, Try.ntmps63
  go_wp2
  go_ret
  exact ⟨rfl, (Below.refl _ _).alloc (Nat.le_refl _) _⟩
set_option maxHeartbeats 8000000 in
set_option maxRecDepth 100000 in
theorem table_Put.calls (A0 : Option Addr) (c0 : Nat) (l0 : List (S68)) (a1 a2 : ByteArray) (r : List S68) (w : World) (hr0 : Kd.C k68 w A0 l0.length l0) (hc0 : l0.length ≤ c0) (h : table_Put.f l0 a1 a2 = some r) :
    Calls Try.prog 48 #[.slice A0 l0.length c0, .string a1, .string a2] w fun e w' => ∃ v0_ : Value, e = .returned (v0_) ∧ Kd.R k68 68 w' w.heap.size (fun _ => True) v0_ r ∧ Below w.heap.size w w' := by
  have hu68 := Try.underlying68
  obtain ⟨y, hy, h2⟩ := Option.bind_eq_some_iff.1 h
  clear h
  have hyl : y.length < 4398046511104 := by
    by_cases e : y.length < 4398046511104
    · exact e
    · rw [if_neg e] at h2; cases h2
  rw [if_pos hyl] at h2
  obtain rfl := Option.some.inj h2
  clear h2
  have HY := Aside0.mk hy
  have HR := Aside0.mk hr0
  have HC := Aside0.mk hc0
  clear hy hr0 hc0
  have hE := ixOf_cases (eqK68 a1) y
  have hG := ixOf_cases (gtK68 a1) y
  have body : ∀ (a : Int), ixOf (eqK68 a1) y = a → ∀ W : World, W = (w.alloc (.cells #[.string a1] 9)).alloc (.cells #[.string a1, .string a2] 68) → ∀ v0 w1, Kd.R k68 68 w1 W.heap.size (fun _ => True) v0 y → Below W.heap.size W w1 →
      w1.cell? ⟨w.heap.size, 0, none⟩ = some (.string a1) ∧ w1.heap[w.heap.size + 1]? = some (.cells #[.string a1, .string a2] 68 (0, 0)) ∧ Kd.R k68 68 w1 w.heap.size (fun k => k ≠ w.heap.size + 1) v0 y ∧ Below w.heap.size w w1 := by
    intro a _ W hW v0 w1 hR hB
    have hs : W.heap.size = w.heap.size + 2 := by rw [hW]; simp
    refine ⟨?_, ?_, ?_, ?_⟩
    · refine (hB.cell (p := ⟨w.heap.size, 0, none⟩) (by rw [hs]; show w.heap.size < _; omega)).trans ?_
      rw [hW]; go_simp
    · refine (hB.block _ (by omega)).trans ?_
      rw [hW]
      have := heap_alloc_new (w.alloc (.cells #[.string a1] 9)) (.cells #[.string a1, .string a2] 68)
      simpa using this
    · refine Kd.R_lower (Kd.R_mono (Kd.R_bound hR) (fun k hk => by have := hk.2.1; omega)) (by omega)
    · have h1 : Below w.heap.size w W := by rw [hW]; exact Below.alloc (Below.alloc (Below.refl _ _) (Nat.le_refl _) _) (by simp) _
      exact h1.trans (hB.mono (by omega))
  rcases hE with hE | ⟨i, hil, hE⟩
  · have hng : ¬ ((0 : Int) ≤ -1) := by decide
    rcases hG with hG | ⟨j, hjl, hG⟩
    · have hres : putL68 y a1 a2 = y ++ [⟨a1, a2⟩] := by unfold putL68; rw [hE, if_neg hng, hG]; rfl
      rw [hres]
      have B := Aside0.mk body
      have E := Aside0.mk hE
      have F := Aside0.mk hG
      clear body hres hG hE hng
      go_enter Try.func48, Try.ntmps48
      go_wp2_with (first
      | (go_at_call 58; refine (api_Pair_58.calls A0 c0 l0 y _ (Kd.C_alloc (Kd.C_alloc HR.out _) _) HC.out HY.out).mono ?_; rintro e w1 ⟨v0, rfl, hR, hB⟩;
         obtain ⟨k1, k2, k3, k4⟩ := B.out _ E.out _ rfl v0 w1 hR hB; clear hR hB;
         obtain ⟨A, c, rfl, hcc, hC⟩ := Kd.R_reads k3; have K3 := Aside0.mk k3; have K4 := Aside0.mk k4; have KC := Aside0.mk hC; have KL := Aside0.mk hcc; clear k3 k4 hC hcc)
      | (go_at_call 61; refine (table_at.calls A c y a1 _ _ KC.out KL.out rfl).mono ?_; rintro e w2 ⟨rfl, hb⟩;
         have e1 : ixOf (fun x : S68 => x.f0.toList == a1.toList) y = -1 := E.out; rw [e1]; clear e1;
         have n0 := Aside0.mk (blk_below k2 hb); have n1 := Aside0.mk (Kd.R_below K3.out hb); have n2 := Aside0.mk (below_step K4.out hb); have n3 := Aside0.mk (Kd.C_below KC.out hb);
         have n4 : w2.cell? ⟨w.heap.size, 0, none⟩ = some (.string a1) := cell_below_ hb k1; clear hb K3 K4 KC; clear k1 k2; have k1 := n4; have k2 := n0.out; have K3 := n1; have K4 := n2; have KC := n3; clear n0 n1 n2 n3 n4)
      | (go_at_call 62; refine (api_Pair_62.calls (gtK68 a1) 63 #[.pointer (some ⟨w.heap.size, 0, none⟩)] enters63 A c y _ KC.out (fun W x hb => table_Put_1.calls x a1 w.heap.size W (cell_below_ hb k1))).mono ?_; rintro e w3 ⟨rfl, hb⟩;
         rw [F.out];
         have k5 := blk_below k2 hb; have n1 := Aside0.mk (Kd.R_below K3.out hb); have n2 := Aside0.mk (below_step K4.out hb); clear hb K3 K4 KC; clear k1 k2;
         have k6 : w3.cell? ⟨w.heap.size + 1, 0, none⟩ = some (.string a1) := (blk_cell k5 0).trans rfl; have k7 : w3.cell? ⟨w.heap.size + 1, 1, none⟩ = some (.string a2) := (blk_cell k5 1).trans rfl)
      | ((with_reducible refine gate_builtin (b := .append) (xs := #[.tmp 30, .tmp 32]) rfl ?_); at_builtin;
         refine Kd.R_append k68 (w0 := w) w.heap.size rfl (.tmp 30) (.tmp 32) 22 68 (.agg #[(.string ⟨#[]⟩), (.string ⟨#[]⟩)]) 32 rfl Try.underlying22 info68 rfl (by decide) (by omega) (.slice A y.length c) y (⟨a1, a2⟩ : S68) [.string a1, .string a2] (fun _ => True) (fun _ => False) rfl (by first | (go_simp; done) | (go_simp; rfl)) (k68_mkM _ _ _ (⟨a1, a2⟩ : S68)) (fun _ hk => hk.elim) (fun _ _ => trivial) (Kd.R_mono n1.out (fun _ _ => trivial)) n2.out (below_size n2.out) (by omega) ?_;
         intro v5 w5 ho5 hb5 _ _))
      go_ret
      exact ⟨_, rfl, ho5, hb5⟩
    · have hnj : ¬ ((j : Int) < 0) := by omega
      have hres : putL68 y a1 a2 = y.take j ++ ⟨a1, a2⟩ :: y.drop j := by unfold putL68; rw [hE, if_neg hng, hG, if_neg hnj]; rfl
      rw [hres]
      have hz4 : decide ((j : Int) < 0) = false := decide_eq_false hnj
      have B := Aside0.mk body
      have E := Aside0.mk hE
      have F := Aside0.mk hG
      clear body hres hG hE hng
      go_enter Try.func48, Try.ntmps48
      go_wp2_with (first
      | (go_at_call 58; refine (api_Pair_58.calls A0 c0 l0 y _ (Kd.C_alloc (Kd.C_alloc HR.out _) _) HC.out HY.out).mono ?_; rintro e w1 ⟨v0, rfl, hR, hB⟩;
         obtain ⟨k1, k2, k3, k4⟩ := B.out _ E.out _ rfl v0 w1 hR hB; clear hR hB;
         obtain ⟨g, c, rfl, hcc, hC⟩ := row_form68 k3 (Nat.lt_of_le_of_lt (Nat.zero_le _) hjl); have K3 := Aside0.mk k3; have K4 := Aside0.mk k4; have KC := Aside0.mk hC; have KL := Aside0.mk hcc; clear k3 k4 hC hcc)
      | (go_at_call 61; refine (table_at.calls (some ⟨g, 0, none⟩) c y a1 _ _ KC.out KL.out rfl).mono ?_; rintro e w2 ⟨rfl, hb⟩;
         have e1 : ixOf (fun x : S68 => x.f0.toList == a1.toList) y = -1 := E.out; rw [e1]; clear e1;
         have n0 := Aside0.mk (blk_below k2 hb); have n1 := Aside0.mk (Kd.R_below K3.out hb); have n2 := Aside0.mk (below_step K4.out hb); have n3 := Aside0.mk (Kd.C_below KC.out hb);
         have n4 : w2.cell? ⟨w.heap.size, 0, none⟩ = some (.string a1) := cell_below_ hb k1; clear hb K3 K4 KC; clear k1 k2; have k1 := n4; have k2 := n0.out; have K3 := n1; have K4 := n2; have KC := n3; clear n0 n1 n2 n3 n4)
      | (go_at_call 62; refine (api_Pair_62.calls (gtK68 a1) 63 #[.pointer (some ⟨w.heap.size, 0, none⟩)] enters63 (some ⟨g, 0, none⟩) c y _ KC.out (fun W x hb => table_Put_1.calls x a1 w.heap.size W (cell_below_ hb k1))).mono ?_; rintro e w3 ⟨rfl, hb⟩;
         rw [F.out];
         have k5 := blk_below k2 hb; have n1 := Aside0.mk (Kd.R_below K3.out hb); have n2 := Aside0.mk (below_step K4.out hb); clear hb K3 K4 KC; clear k1 k2;
         have k6 : w3.cell? ⟨w.heap.size + 1, 0, none⟩ = some (.string a1) := (blk_cell k5 0).trans rfl; have k7 : w3.cell? ⟨w.heap.size + 1, 1, none⟩ = some (.string a2) := (blk_cell k5 1).trans rfl)
      | (go_at_call 64; refine (api_Pair_64.calls w.heap.size w3.heap.size j (.slice (some ⟨g, 0, none⟩) y.length c) y ⟨a1, a2⟩ w _ (Kd.R_mono (Kd.R_alloc n1.out _) (fun _ _ => trivial)) hjl (by omega) (heap_alloc_new _ _) ?s1 (below_alloc n2.out _) ?s2).mono ?_;
         (case s1 => intro h; injection h with h; subst h; have h9 : w3.heap.size < w3.heap.size := own_lt (own68 n1.out).2 _ rfl; omega);
         (case s2 => have := below_size n2.out; simp; omega);
         rintro e w5 ⟨v5, rfl, ho5, hb5⟩))
      go_ret
      exact ⟨_, rfl, ho5, hb5⟩
  · have hz1 : (0 : Int) ≤ (i : Int) := by omega
    have hz2 : (i : Int) < (y.length : Int) := by omega
    have hres : putL68 y a1 a2 = y.set i ⟨a1, a2⟩ := by unfold putL68; rw [hE, if_pos hz1]; rfl
    rw [hres]
    have B := Aside0.mk body
    have E := Aside0.mk hE
    clear body hres hG hE
    go_enter Try.func48, Try.ntmps48
    go_wp2_with (first
      | (go_at_call 58; refine (api_Pair_58.calls A0 c0 l0 y _ (Kd.C_alloc (Kd.C_alloc HR.out _) _) HC.out HY.out).mono ?_; rintro e w1 ⟨v0, rfl, hR, hB⟩;
         obtain ⟨k1, k2, k3, k4⟩ := B.out _ E.out _ rfl v0 w1 hR hB; clear hR hB;
         obtain ⟨g, c, rfl, hcc, hC⟩ := row_form68 k3 (Nat.lt_of_le_of_lt (Nat.zero_le _) hil); have K3 := Aside0.mk k3; have K4 := Aside0.mk k4; have KC := Aside0.mk hC; have KL := Aside0.mk hcc; clear k3 k4 hC hcc)
      | (go_at_call 61; refine (table_at.calls (some ⟨g, 0, none⟩) c y a1 _ _ KC.out KL.out rfl).mono ?_; rintro e w2 ⟨rfl, hb⟩;
         have e1 : ixOf (fun x : S68 => x.f0.toList == a1.toList) y = (i : Int) := E.out; rw [e1]; clear e1;
         have k5 := (blk_below k2 hb); have n1 := Aside0.mk (Kd.R_below K3.out hb); have n2 := Aside0.mk (below_step K4.out hb); clear hb K3 K4 KC; clear k1 k2;
         have k6 : w2.cell? ⟨w.heap.size + 1, 0, none⟩ = some (.string a1) := (blk_cell k5 0).trans rfl; have k7 : w2.cell? ⟨w.heap.size + 1, 1, none⟩ = some (.string a2) := (blk_cell k5 1).trans rfl)
      | ((with_reducible refine gate_ (.store 68 (.tmp 23) (.tmp 22)) rfl ?_);
         obtain ⟨cc, hcl, hcc⟩ := row_old68 (row_C68 n1.out) i hil;
         refine Kd.R_store k68 (w0 := w) w.heap.size rfl rfl 68 (.tmp 23) (.tmp 22) rfl 68 (i : Int) 0 y ⟨a1, a2⟩ (.agg #[.string a1, .string a2]) [.string a1, .string a2] cc (fun k => k ≠ w.heap.size + 1) (fun _ => False) rfl (by simp; rfl) rfl rfl (by kernel_rfl) ?s1 n1.out hz1 hz2 hcl hcc (by show 0 + 2 ≤ 2; decide) ?s2 (fun _ hk => hk.elim) n2.out ?_;
         (case s1 => intro q hq; simp only [List.mem_cons, List.not_mem_nil, or_false] at hq; rcases hq with rfl | rfl <;> rfl);
         (case s2 => rw [List.take_zero, List.nil_append, List.drop_of_length_le (by rw [hcl]; simp), List.append_nil]; exact k68_mkM _ _ _ (⟨a1, a2⟩ : S68));
         intro w3 hr3 hb3 _))
    go_ret
    exact ⟨_, rfl, Kd.R_mono hr3 (fun _ _ => trivial), hb3⟩

end Go.Proofs.Ythcdlgphabaidaa.PB
