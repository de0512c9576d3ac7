-- Made by a program of this workplace out of the translation (wip/tools in the repo). Not trusted: Lean checks it.
import Derived.Test.YtbkfmicnjnklnaaPBx0
import Derived.Test.YtbkfmicnjnklnaaPBx2
import Derived.Test.YtbkfmicnjnklnaaPBx3
namespace Go.Proofs.Ytbkfmicnjnklnaa.PB
open Go.RowKit Go.Proofs.YtbkfmicnjnklnaaW.PrintWords Go.Proofs.YtbkfmicnjnklnaaW.PrintLast Go.Proofs.YtbkfmicnjnklnaaW.PrintMore
attribute [local go_sem] max2_int min2_int max_two min_two max_three min_three max_four min_four   -- for this text's walks alone
set_option linter.unusedVariables false
set_option linter.unusedSimpArgs false

open Go.Proofs.Ytbkfmicnjnklnaa.Cp
/-! ### table_Apply: function 31 -/
set_option maxHeartbeats 8000000 in
theorem table_Apply_put.calls (f0 f1 : ByteArray) (f2 : Bool) (A0 : Option Addr) (c0 : Nat) (l0 : List (S43)) (r : List S43) (w : World) (hr0 : Kd.C k43 w A0 l0.length l0) (hc0 : l0.length ≤ c0) (h : table_Put.f l0 f0 f1 = some r) :
    Calls Try.prog 42 #[.agg #[.string f0, .string f1, .bool f2], .slice A0 l0.length c0] w fun e w' => ∃ v0_ : Value, e = .returned (v0_) ∧ Kd.R k43 43 w' w.heap.size (fun _ => True) v0_ r ∧ Below w.heap.size w w' := by
  obtain ⟨W1, hW1⟩ : ∃ W1, W1 = w.alloc (.cells #[.string f0, .string f1, .bool f2] 63) := ⟨_, rfl⟩
  have hB1 : Below w.heap.size w W1 := by rw [hW1]; exact Below.alloc (Below.refl _ _) (Nat.le_refl _) _
  have hs1 : W1.heap.size = w.heap.size + 1 := by rw [hW1]; simp
  have D := table_Put.calls A0 c0 l0 f0 f1 r W1 (by rw [hW1]; exact Kd.C_alloc hr0 _) hc0 h
  have DD := Aside0.mk D
  rw [hW1] at DD
  clear D hr0 hc0 h
  go_enter Try.func42, Try.ntmps42
  go_wp2_with (go_at_call 50; refine DD.out.mono ?_; rintro e w3 ⟨v', rfl, hr3, hb3⟩; rw [← hW1] at hr3 hb3; have R3 := Aside0.mk (Kd.R_lower hr3 (by omega : w.heap.size ≤ W1.heap.size)); have B3 := Aside0.mk (hB1.trans (hb3.mono (by omega))); clear hr3 hb3)
  go_ret
  exact ⟨_, rfl, R3.out, B3.out⟩
set_option maxHeartbeats 8000000 in
theorem table_Apply_drop.calls (f0 f1 : ByteArray) (f2 : Bool) (A0 : Option Addr) (c0 : Nat) (l0 : List (S43)) (r : List S43) (w : World) (hr0 : Kd.C k43 w A0 l0.length l0) (hc0 : l0.length ≤ c0) (h : table_Drop.f l0 f0 = some r) :
    Calls Try.prog 43 #[.agg #[.string f0, .string f1, .bool f2], .slice A0 l0.length c0] w fun e w' => ∃ v0_ : Value, e = .returned (v0_) ∧ Kd.R k43 43 w' w.heap.size (fun _ => True) v0_ r ∧ Below w.heap.size w w' := by
  obtain ⟨W1, hW1⟩ : ∃ W1, W1 = w.alloc (.cells #[.string f0, .string f1, .bool f2] 63) := ⟨_, rfl⟩
  have hB1 : Below w.heap.size w W1 := by rw [hW1]; exact Below.alloc (Below.refl _ _) (Nat.le_refl _) _
  have hs1 : W1.heap.size = w.heap.size + 1 := by rw [hW1]; simp
  have D := table_Drop.calls A0 c0 l0 f0 r W1 (by rw [hW1]; exact Kd.C_alloc hr0 _) hc0 h
  have DD := Aside0.mk D
  rw [hW1] at DD
  clear D hr0 hc0 h
  go_enter Try.func43, Try.ntmps43
  go_wp2_with (go_at_call 51; refine DD.out.mono ?_; rintro e w3 ⟨v', rfl, hr3, hb3⟩; rw [← hW1] at hr3 hb3; have R3 := Aside0.mk (Kd.R_lower hr3 (by omega : w.heap.size ≤ W1.heap.size)); have B3 := Aside0.mk (hB1.trans (hb3.mono (by omega))); clear hr3 hb3)
  go_ret
  exact ⟨_, rfl, R3.out, B3.out⟩
theorem enters42 : ∀ args w, (callFunc 42 args).run Try.prog w = .ok (.enter 42 args) w := enters_of Try.func42 (by kernel_rfl) rfl
theorem enters43 : ∀ args w, (callFunc 43 args).run Try.prog w = .ok (.enter 43 args) w := enters_of Try.func43 (by kernel_rfl) rfl
set_option maxHeartbeats 8000000 in
set_option maxRecDepth 100000 in
theorem table_Apply.calls (A0 : Option Addr) (c0 : Nat) (l0 : List S43) (A1 : Option Addr) (c1 : Nat) (l1 : List S33) (r : List S43) (w : World) (hr0 : Kd.C k43 w A0 l0.length l0) (hc0 : l0.length ≤ c0) (hr1 : Kd.C k33 w A1 l1.length l1) (hc1 : l1.length ≤ c1) (h : table_Apply.f l0 l1 = some r) :
    Calls Try.prog 31 #[.slice A0 l0.length c0, .slice A1 l1.length c1] w fun e w' => ∃ v0_ : Value, e = .returned (v0_) ∧ Kd.R k43 43 w' w.heap.size (fun _ => True) v0_ r ∧ Below w.heap.size w w' := by
  have hu43 := Try.underlying43
  obtain ⟨y, hy, h2⟩ := Option.bind_eq_some_iff.1 h
  have hmx := hr1.2.1
  have CL := Aside0.mk (api_Pair_41.calls A0 c0 l0 y w hr0 hc0 hy)
  have C1 := Aside0.mk hr1
  have RR := Aside0.mk h2
  clear hy hr0 hc0 h h2 hr1 hc1
  go_enter Try.func31, Try.ntmps31
  go_wp2_with (go_at_call 41; refine CL.out.mono ?_; rintro e w2 ⟨v, rfl, hR, hB⟩; have R2 := Aside0.mk hR; have B2 := Aside0.mk hB; clear hR hB)
  go_loopg [0, 12] l1.length (fun gg s0 s12 wr => ∃ (j : Nat) (M : List S43), j ≤ l1.length ∧ l1.length - j ≤ gg ∧ s12 = .int .i64 j ∧ Aside0 (applyF43 M (l1.drop j) = some r) ∧ Aside0 (Kd.R k43 43 wr w.heap.size (fun _ => True) s0 M) ∧ Aside0 (Below w.heap.size w wr))
  case atStart => exact ⟨0, y, Nat.zero_le _, by omega, rfl, RR, R2, B2⟩
  case round =>
    obtain ⟨j, M, hj, hgg, rfl, HA, HR, HB⟩ := hrel
    by_cases hlt : j < l1.length
    · have hltz : (j : Int) < (l1.length : Int) := by omega
      obtain ⟨ad, e, hx0, hx1, hx2⟩ := at_T33 (Kd.C_below C1.out HB.out) (j : Int) (by omega) hltz
      cases e
      have hh := HA.out
      rw [List.drop_eq_getElem_cons hlt] at hh
      have e0 : rd_T33 l1 (j : Int) = l1[j] := by simp [rd_T33, List.getD_eq_getElem?_getD, hlt]
      rw [e0] at hx0 hx1 hx2
      simp only [Int.toNat_natCast] at hx0 hx1 hx2
      clear e0
      obtain ⟨x, hx⟩ : ∃ x, l1[j] = x := ⟨_, rfl⟩
      rw [hx] at hh hx0 hx1 hx2
      obtain ⟨f0, f1, f2⟩ := x
      simp only at hx0 hx1 hx2
      simp only [applyF43] at hh
      obtain ⟨z, hz, hh2⟩ := Option.bind_eq_some_iff.1 hh
      obtain ⟨A, c, rfl, hc, hC⟩ := Kd.R_reads HR.out
      have Z := Aside0.mk hh2
      have CC := Aside0.mk hC
      have CM := Aside0.mk hc
      clear hh hh2 hC hc hx
      cases f2 with
      | true =>
        rw [if_pos rfl] at hz
        have HZ := Aside0.mk hz
        clear hz
        obtain ⟨W1, hW1⟩ : ∃ W1, W1 = wr.alloc (.cells #[.string f0, .string f1, .bool true] 33) := ⟨_, rfl⟩
        have hs1 : w.heap.size ≤ W1.heap.size := by have := below_size HB.out; rw [hW1]; simp; omega
        have hB1 := Aside0.mk (show Below w.heap.size w W1 by rw [hW1]; exact below_alloc HB.out _)
        have D := Aside0.mk (table_Apply_drop.calls f0 f1 true A c M z W1 (by rw [hW1]; exact Kd.C_alloc CC.out _) CM.out HZ.out)
        rw [hW1] at D
        go_wp2_with (refine D.out.mono ?_; rintro e w3 ⟨v', rfl, hr3, hb3⟩; rw [← hW1] at hr3 hb3; have R3 := Aside0.mk (Kd.R_lower hr3 hs1); have B3 := Aside0.mk (below_step hB1.out hb3); clear hr3 hb3)
        go_roundg (l1.length - (j + 1))
        case measure => omega
        case rel => exact ⟨j + 1, z, by omega, by omega, by go_num, Z, R3, B3⟩
      | false =>
        rw [if_neg (by decide)] at hz
        have HZ := Aside0.mk hz
        clear hz
        obtain ⟨W1, hW1⟩ : ∃ W1, W1 = wr.alloc (.cells #[.string f0, .string f1, .bool false] 33) := ⟨_, rfl⟩
        have hs1 : w.heap.size ≤ W1.heap.size := by have := below_size HB.out; rw [hW1]; simp; omega
        have hB1 := Aside0.mk (show Below w.heap.size w W1 by rw [hW1]; exact below_alloc HB.out _)
        have D := Aside0.mk (table_Apply_put.calls f0 f1 false A c M z W1 (by rw [hW1]; exact Kd.C_alloc CC.out _) CM.out HZ.out)
        rw [hW1] at D
        go_wp2_with (refine D.out.mono ?_; rintro e w3 ⟨v', rfl, hr3, hb3⟩; rw [← hW1] at hr3 hb3; have R3 := Aside0.mk (Kd.R_lower hr3 hs1); have B3 := Aside0.mk (below_step hB1.out hb3); clear hr3 hb3)
        go_roundg (l1.length - (j + 1))
        case measure => omega
        case rel => exact ⟨j + 1, z, by omega, by omega, by go_num, Z, R3, B3⟩
    · have hltz : decide ((j : Int) < (l1.length : Int)) = false := decide_eq_false (by omega)
      have hF : M = r := by
        have := HA.out
        rw [List.drop_of_length_le (by omega)] at this
        exact Option.some.inj this
      subst hF
      obtain ⟨A, c, rfl, hc, hC⟩ := Kd.R_reads HR.out
      clear hc hC
      go_wp2
      go_ret
      exact ⟨_, rfl, HR.out, HB.out⟩

/-! ### view_Scan: function 14 -/
set_option maxHeartbeats 8000000 in
set_option maxRecDepth 100000 in
theorem view_Scan.calls (k : Nat) (A0 : Option Addr) (c0 : Nat) (l0 : List (S33)) (A1 : Option Addr) (c1 : Nat) (l1 : List (S43)) (a2 : ByteArray) (a3 : ByteArray) (a4 : Int) (r : List (S43)) (w : World) (hr0 : Kd.C k33 w A0 l0.length l0) (hc0 : l0.length ≤ c0) (hr1 : Kd.C k43 w A1 l1.length l1) (hc1 : l1.length ≤ c1) (h : view_Scan.f k l0 l1 a2 a3 a4 = some r) :
    Calls Try.prog 14 #[.slice A0 l0.length c0, .slice A1 l1.length c1, .string a2, .string a3, .int .i64 a4] w fun e w' => ∃ v0_ : Value, e = .returned (v0_) ∧ Kd.R k43 43 w' w.heap.size (fun _ => True) v0_ r ∧ Below w.heap.size w w' := by
  have HR0 := Aside0.mk hr0
  have HC0 := Aside0.mk hc0
  clear hr0 hc0
  have HR1 := Aside0.mk hr1
  have HC1 := Aside0.mk hc1
  clear hr1 hc1
  have HB := Aside0.mk (Below.refl w.heap.size w)
  have H : ((table_Apply.f l1 l0).bind fun t115 => ((table_Range.f k t115 a2 a3 a4).bind fun t118 => (some t118))) = some r := h
  clear h
  replace H := Option.bind_eq_some_iff.mp H
  obtain ⟨t115, A60, H⟩ := H
  replace H : ((table_Range.f k t115 a2 a3 a4).bind fun t118 => (some t118)) = some r := H
  have A6 := Aside0.mk A60
  clear A60
  replace H := Option.bind_eq_some_iff.mp H
  obtain ⟨t118, A70, H⟩ := H
  replace H : (some t118) = some r := H
  have A7 := Aside0.mk A70
  clear A70
  obtain rfl := Option.some.inj H
  go_enter Try.func14, Try.ntmps14
  go_wp2_with (first | ((with_reducible refine gate_callee (f := 31) rfl ?_); refine goesL_ (some 13) rfl rfl Try.func31 (by kernel_rfl) rfl #[.slice A1 l1.length c1, .slice A0 l0.length c0] rfl (by (try simp only [List.map_toArray, List.map_cons, List.map_nil]); first | done | rfl | (simp only [List.length_drop, List.length_take]; rfl)) ?_; (with_reducible refine (table_Apply.calls _ _ l1 _ _ l0 t115 _ ?side1 ?side2 ?side3 ?side4 A6.out).mono ?_); (case side1 => repeat (first | exact HR1.out | (with_reducible refine Kd.C_alloc ?_ _) | (with_reducible refine Kd.C_drewN ?_ _) | (with_reducible refine Kd.C_drew ?_))); (case side2 => exact HC1.out); (case side3 => repeat (first | exact HR0.out | (with_reducible refine Kd.C_alloc ?_ _) | (with_reducible refine Kd.C_drewN ?_ _) | (with_reducible refine Kd.C_drew ?_))); (case side4 => exact HC0.out); rintro e w8 ⟨v116, rfl, ho0, hb⟩; refine ⟨_, rfl, ?_⟩; have n0_ := Aside0.mk (Kd.R_lower ho0 (below_size (by repeat (first | (with_reducible first | exact HB.out | apply below_alloc | apply pw_below_drewN | apply below_drew1) | exact HB.out)))); have n1_ := Aside0.mk (below_step (by repeat (first | (with_reducible first | exact HB.out | apply below_alloc | apply pw_below_drewN | apply below_drew1) | exact HB.out)) hb); clear HB; have HO117 := n0_; have HB := n1_; clear n0_ n1_; (try clear hb); (try clear hb2); (try clear hk); (try clear hi); (try clear ho0); obtain ⟨Ao9, co9, eo9⟩ := Kd.R_slice HO117.out; subst eo9) | ((with_reducible refine gate_callee (f := 30) rfl ?_); refine goesL_ (some 17) rfl rfl Try.func30 (by kernel_rfl) rfl #[.slice Ao9 t115.length co9, .string a2, .string a3, .int .i64 a4] rfl (by (try simp only [List.map_toArray, List.map_cons, List.map_nil]); first | done | rfl | (simp only [List.length_drop, List.length_take]; rfl)) ?_; (with_reducible refine (table_Range.calls k _ _ t115 a2 a3 a4 t118 _ ?side1 ?side2 A7.out).mono ?_); (case side1 => repeat (first | exact (Kd.R_reads' HO117.out).2.2 | (with_reducible refine Kd.C_alloc ?_ _) | (with_reducible refine Kd.C_drewN ?_ _) | (with_reducible refine Kd.C_drew ?_))); (case side2 => exact (Kd.R_reads' HO117.out).2.1); rintro e w10 ⟨v119, rfl, ho0, hb⟩; refine ⟨_, rfl, ?_⟩; have n0_ := Aside0.mk (Kd.R_elder' (by (with_reducible repeat (first | apply Kd.R_alloc | apply Kd.R_drewN | apply Kd.R_drew)); exact HO117.out) (Kd.R_base ho0) hb); have n1_ := Aside0.mk (Kd.R_lower (Kd.R_new' ho0 (Kd.R_lt (by (with_reducible repeat (first | apply Kd.R_alloc | apply Kd.R_drewN | apply Kd.R_drew)); exact HO117.out))) (below_size (by repeat (first | (with_reducible first | exact HB.out | apply below_alloc | apply pw_below_drewN | apply below_drew1) | exact HB.out)))); have n2_ := Aside0.mk (below_step (by repeat (first | (with_reducible first | exact HB.out | apply below_alloc | apply pw_below_drewN | apply below_drew1) | exact HB.out)) hb); clear HO117; clear HB; have HO117 := n0_; have HO120 := n1_; have HB := n2_; clear n0_ n1_ n2_; (try clear hb); (try clear hb2); (try clear hk); (try clear hi); (try clear ho0)))
  go_ret
  exact ⟨_, by first | rfl | (simp [errW_none, errW_some] <;> rfl) | (simp [*, errW_none, errW_some] <;> rfl), by (with_reducible repeat (first | apply Kd.R_alloc | apply Kd.R_drewN | apply Kd.R_drew)); exact Kd.R_mono HO120.out (fun _ hk => trivial), by repeat (first | (with_reducible first | exact HB.out | apply below_alloc | apply pw_below_drewN | apply below_drew1) | exact HB.out)⟩

/-! ### api_Write_34: function 34 -/
set_option maxHeartbeats 8000000 in
set_option maxRecDepth 100000 in
theorem api_Write_34.calls (A0 : Option Addr) (c0 : Nat) (l0 : List (S33)) (r : List (S33)) (w : World) (hr0 : Kd.C k33 w A0 l0.length l0) (hc0 : l0.length ≤ c0) (h : api_Write_34.f l0 = some r) :
    Calls Try.prog 34 #[.slice A0 l0.length c0] w fun e w' => ∃ v0_ : Value, e = .returned (v0_) ∧ Kd.R k33 33 w' w.heap.size (fun _ => True) v0_ r ∧ Below w.heap.size w w' := by
  have HR0 := Aside0.mk hr0
  have HC0 := Aside0.mk hc0
  clear hr0 hc0
  have HB := Aside0.mk (Below.refl w.heap.size w)
  have H : ((some (([] : List (S33)) : List (S33))).bind fun y121 => (if y121.length + l0.length < 3518437208883 then (some (y121 ++ l0)) else (none))) = some r := h
  clear h
  obtain ⟨y121, hy121⟩ : ∃ y_ : List (S33), y_ = (([] : List (S33))) := ⟨_, rfl⟩
  replace H : (if y121.length + l0.length < 3518437208883 then (some (y121 ++ l0)) else (none)) = some r := by first | (rw [hy121]; with_reducible exact H) | (have H2_ := (Option.bind_some _ _).symm.trans H; rw [hy121]; with_reducible exact H2_) | (have H2_ := (Option.bind_some _ _).symm.trans H; with_reducible exact H2_) | with_reducible exact H | (rw [hy121]; exact H) | exact H
  have Ny121 := Aside0.mk hy121
  clear hy121
  by_cases c2 : y121.length + l0.length < 3518437208883
  · rw [if_pos c2] at H
    have LMc2 := Aside0.mk c2
    clear c2
    obtain ⟨y124, hy124⟩ : ∃ y_ : List (S33), y_ = (y121 ++ l0) := ⟨_, rfl⟩
    replace H : (some y124) = some r := by first | (rw [hy124]; with_reducible exact H) | (have H2_ := (Option.bind_some _ _).symm.trans H; rw [hy124]; with_reducible exact H2_) | (have H2_ := (Option.bind_some _ _).symm.trans H; with_reducible exact H2_) | with_reducible exact H | (rw [hy124]; exact H) | exact H
    have Ny124 := Aside0.mk hy124
    clear hy124
    obtain rfl := Option.some.inj H
    have qT := fun (w : World) (a : Option Addr) (l c : Nat) => Lib.run_eql_slice_nil (P := Try.prog) w 22 33 a l c 0 0 Try.underlying22
    rcases A0 with _ | ad0
    · have hl : l0 = [] := by
        rcases l0 with _ | ⟨x_, l_⟩
        · rfl
        · obtain ⟨_, h_, _⟩ := HR0.out.2.2 (by simp)
          cases h_
      have hy := Aside0.mk (show y124 = [] by rw [Ny124.out, Ny121.out, hl]; rfl)
      clear hl
      go_enter Try.func34, Try.ntmps34
      go_wp2
      go_ret
      exact ⟨_, rfl, by rw [hy.out]; exact Kd.R_nil _ _ _ _ _, HB.out⟩
    · go_enter Try.func34, Try.ntmps34
      go_wp2_with (first | ((with_reducible refine gate_dst (N := 5) rfl ?_); refine Kd.R_lit k33 _ 33 ?hg (N := 5) ?hd (xs := ([] : List (S33))) (inner := []) (ok := fun _ => True) (okp := fun _ => True) ?hr ?hp (fun _ hk => hk) trivial (Below.refl _ _) (Nat.le_refl _) (by simp) ?_; (case hd => rfl); (case hg => rfl); (case hr => first | (go_simp; done) | (go_simp; rfl)); (case hp => exact (Reps.none _ _)); intro v122 w3 ho4 hb hg_ hnew_; clear hg_ hnew_; (first | rw [← Ny121.out] at ho4 | (simp only [Int.reduceToNat] at ho4; rw [← Ny121.out] at ho4)); have n0_ := Aside0.mk (Kd.R_lower ho4 (below_size (by repeat (first | (with_reducible first | exact HB.out | apply below_alloc | apply pw_below_drewN | apply below_drew1) | exact HB.out)))); have n1_ := Aside0.mk (below_step (by repeat (first | (with_reducible first | exact HB.out | apply below_alloc | apply pw_below_drewN | apply below_drew1) | exact HB.out)) hb); clear HB; have HO123 := n0_; have HB := n1_; clear n0_ n1_; clear hb ho4) | ((with_reducible refine gate_builtin (b := .append) (xs := #[.tmp 5, .tmp 6]) rfl ?_); at_builtin; refine Kd.R_append_rows k33 (w0 := w) w.heap.size rfl (.tmp 5) (.tmp 6) 22 33 (.agg #[(.string ⟨#[]⟩), (.string ⟨#[]⟩), (.bool false)]) 40 rfl Try.underlying22 info33 rfl (by decide) (by omega) v122 y121 l0 _ _ _ (fun _ => True) (fun _ => False) rfl rfl ?aO ?aR (fun _ _ h => h) (fun _ h => h.elim) ?aF ?aB ?aS ?aL ?_; (case aR => repeat (first | exact (Kd.C_below HR0.out HB.out) | (with_reducible refine Kd.C_alloc ?_ _) | (with_reducible refine Kd.C_drewN ?_ _) | (with_reducible refine Kd.C_drew ?_))); (case aB => exact (by repeat (first | (with_reducible first | exact HB.out | apply below_alloc | apply pw_below_drewN | apply below_drew1) | exact HB.out))); (case aF => exact (fun _ _ => trivial)); (case aO => exact (by (with_reducible repeat (first | apply Kd.R_alloc | apply Kd.R_drewN | apply Kd.R_drew)); exact HO123.out)); (case aS => exact (below_size (by repeat (first | (with_reducible first | exact HB.out | apply below_alloc | apply pw_below_drewN | apply below_drew1) | exact HB.out)))); (case aL => have := LMc2.out; omega); intro v125 w5 ho hb hg hat; rw [← Ny124.out] at ho; have n0_ := Aside0.mk (hb); have n1_ := Aside0.mk (ho); clear HB; clear HO123; have HB := n0_; have HO126 := n1_; clear n0_ n1_; clear ho hb hg hat))
      go_ret
      exact ⟨_, by first | rfl | (simp [errW_none, errW_some] <;> rfl) | (simp [*, errW_none, errW_some] <;> rfl), by (with_reducible repeat (first | apply Kd.R_alloc | apply Kd.R_drewN | apply Kd.R_drew)); exact HO126.out, by repeat (first | (with_reducible first | exact HB.out | apply below_alloc | apply pw_below_drewN | apply below_drew1) | exact HB.out)⟩
  · rw [if_neg c2] at H
    exact absurd H (by simp)

-- function 46: no road meets it

-- function 57: no road meets it

-- function 52: no road meets it

-- function 47: no road meets it

open Go.Proofs.Ytbkfmicnjnklnaa.Cp
/-! ### api_Write_36: function 36 -/
def flc33 (x : S33) : List Value := [.string x.f0, .string x.f1, .bool x.f2]
theorem flc33_len (x : S33) : (flc33 x).length = 3 := rfl
theorem flc33_one (xs : List S33) : ∀ v ∈ xs.flatMap flc33, v.oneCell' = true := by
  intro v hv
  obtain ⟨x, _, hx⟩ := List.mem_flatMap.1 hv
  simp only [flc33, List.mem_cons, List.not_mem_nil, or_false] at hx
  rcases hx with rfl | rfl | rfl <;> rfl
theorem own33 {w : World} {base : Nat} {ok : Nat → Prop} {v : Value} {xs : List S33} (h : Kd.R k33 33 w base ok v xs) : (∀ k, v.ownBlock = some k → ok k) ∧ w.ownsRow base 33 3 v xs.length (xs.flatMap flc33) := R_flat flc33 (fun _ _ h => k33_openM h) h
theorem row33 {w : World} {base : Nat} {ok : Nat → Prop} {v : Value} {xs : List S33} (h0 : ∀ k, v.ownBlock = some k → ok k) (h : w.ownsRow base 33 3 v xs.length (xs.flatMap flc33)) : Kd.R k33 33 w base ok v xs := flat_R flc33 (fun x => k33_mkM _ _ _ x) (fun _ => rfl) h0 h
theorem row_form33 {w : World} {base : Nat} {ok : Nat → Prop} {v : Value} {xs : List S33} (h : Kd.R k33 33 w base ok v xs) (hn : 0 < xs.length) : ∃ g c, v = .slice (some ⟨g, 0, none⟩) xs.length c ∧ xs.length ≤ c ∧ Kd.C k33 w (some ⟨g, 0, none⟩) xs.length xs := by
  obtain ⟨A, c, rfl, hc, hC⟩ := Kd.R_reads h
  obtain ⟨_, _, h2⟩ := own33 h
  rcases h2 with ⟨_, h0⟩ | ⟨g, c', cur, e, _⟩
  · omega
  · injection e with e1 e2 e3
    subst e1
    exact ⟨g, c, rfl, hc, hC⟩
theorem row_C33 {w : World} {base g n c : Nat} {ok : Nat → Prop} {xs : List S33} (h : Kd.R k33 33 w base ok (.slice (some ⟨g, 0, none⟩) n c) xs) : Kd.C k33 w (some ⟨g, 0, none⟩) n xs := by
  obtain ⟨A, c, e, hc, hC⟩ := Kd.R_reads h
  injection e with e1 e2 e3
  subst e1; subst e2
  exact hC
theorem row_old33 {w : World} {g n : Nat} {xs : List S33} (h : Kd.C k33 w (some ⟨g, 0, none⟩) n xs) (i : Nat) (hi : i < n) : ∃ c : List Value, c.length = 3 ∧ ∀ j u, c[j]? = some u → w.cell? ⟨g, (i : Int).toNat * 3 + j, none⟩ = some u := by
  obtain ⟨ad, c, e, _, hK, hc0⟩ := Kd.C_get h z33 (i : Int) (by omega) (by omega)
  cases e
  refine ⟨c, by rw [k33_open hK]; rfl, fun j u hj => ?_⟩
  have := hc0 j u hj
  rw [Addr.add_lit, Nat.zero_add] at this
  exact this
set_option maxHeartbeats 8000000 in
set_option maxRecDepth 100000 in
theorem api_Write_36.room (g b i n c : Nat) (cur : Array Value) (vs : List Value) (w : World) (hi : i < n) (hroom : n + 1 ≤ c) (hc63 : c ≤ 9223372036854775807) (hcur : cur.size = c * 3) (hvl : vs.length = 3)
    (hg : w.heap[g]? = some (.cells cur 33 (0, 0))) (hb : w.heap[b]? = some (.cells vs.toArray 33 (0, 0))) (hne : b ≠ g) (h1c : ∀ v ∈ cur.toList.take (n * 3), v.oneCell' = true) (h1v : ∀ v ∈ vs, v.oneCell' = true) :
    Calls Try.prog 36 #[.slice (some ⟨g, 0, none⟩) n c, .int .i64 i, .slice (some ⟨b, 0, none⟩) 1 1] w fun e w' => ∃ cur2 : List Value,
      e = .returned (.slice (some ⟨g, 0, none⟩) (n + 1) c) ∧ w' = w.drew.setRow g cur2.toArray ∧ cur2.length = cur.size ∧ cur2.take ((n + 1) * 3) = (cur.toList.take (n * 3)).take (i * 3) ++ vs ++ (cur.toList.take (n * 3)).drop (i * 3) := by
  have hu33 := Try.underlying33
  have hsz : (Try.prog.info? 33).map (·.size) = some 3 := by
    obtain ⟨i0, hi0, h0, h1, h2⟩ := info_parts info33
    rw [hi0]; simp [h1]
  obtain ⟨cs, hcs⟩ : ∃ cs, cs = (cur.toList.drop (i * 3)).take ((n - i) * 3) := ⟨_, rfl⟩
  obtain ⟨cur1, hcur1⟩ : ∃ cur1, cur1 = cur.toList.take ((i + 1) * 3) ++ cs ++ cur.toList.drop ((i + 1) * 3 + cs.length) := ⟨_, rfl⟩
  obtain ⟨cur2, hcur2⟩ : ∃ cur2, cur2 = cur1.take (i * 3) ++ vs ++ cur1.drop (i * 3 + vs.length) := ⟨_, rfl⟩
  obtain ⟨lcs, l1, l2, hins⟩ := ins_room cur.toList vs i n 3 (by omega) hvl (by rw [Array.length_toList]; omega) cs cur1 cur2 hcs hcur1 hcur2
  have lt : cur.toList.length = cur.size := Array.length_toList
  have l1 : cur1.length = cur.size := l1.trans lt
  have l2 : cur2.length = cur.size := l2.trans lt
  clear lt
  have f1 : (i + 1) * 3 + (n - i) * 3 ≤ cur.size := by omega
  have f2 : i * 3 + 3 ≤ cur1.toArray.size := by rw [List.size_toArray, l1]; omega
  have hov : ∀ lb cb, (callFunc 46 #[.slice (some ⟨b, 0, none⟩) 1 1, .slice (some ⟨g, (i + 1) * 3, none⟩) lb cb]).run Try.prog w = .ok (.value (.bool false)) w := fun lb cb => by
    rw [run_callFunc_extern Try.func46 (by kernel_rfl) (by kernel_rfl) (by kernel_rfl) (e := Extern.SlicesOverlaps.overlaps #[22, 22] #[4]) (by kernel_rfl),
      Lib.run_overlaps_apart w 22 4 33 Try.underlying22 3 (fun _ => by kernel_rfl) ⟨b, 0, none⟩ ⟨g, (i + 1) * 3, none⟩ 1 1 lb cb hne 33 33 vs.toArray.size cur.size (shape_of_blk hb) (shape_of_blk hg) (by omega) (frozen_of_blk hb 0) (frozen_of_blk hb _)]
    rfl
  have hcp1 : ∀ ty dc sc, (Builtin.copy_ #[22, 22] ty #[.slice (some ⟨g, (i + 1) * 3, none⟩) (n - i) dc, .slice (some ⟨g, i * 3, none⟩) (n + 1 - i) sc]).run Try.prog w.drew = .ok (goInt (Nat.min (n + 1 - i) (n - i))) (w.drew.setRow g cur1.toArray) := fun ty dc sc => by
    have h := run_copy_rowK (P := Try.prog) w.drew 22 22 ty 33 g ((i + 1) * 3) (n - i) dc ⟨g, i * 3, none⟩ (n + 1 - i) sc cur 33 cs 3 Try.underlying22 hsz hg
      (by rw [lcs, show Nat.min (n + 1 - i) (n - i) = n - i by simp only [Nat.min_def]; split <;> omega])
      (fun j v hj => by
        rw [Addr.add_lit]
        show w.cell? _ = _
        rw [cell_of_blk hg, ← Array.getElem?_toList]
        rw [hcs, List.getElem?_take] at hj
        split at hj
        · rw [List.getElem?_drop] at hj; exact hj
        · cases hj)
      (by rw [lcs]; exact f1)
      (fun v hv => h1c v (by
        rw [hcs] at hv
        have h2 : (cur.toList.drop (i * 3)).take ((n - i) * 3) = (cur.toList.take (n * 3)).drop (i * 3) := by rw [List.drop_take]; congr 1; omega
        rw [h2] at hv
        exact List.mem_of_mem_drop hv))
    rw [← hcur1] at h
    exact h
  have hg1 : ∀ W : World, W = w.drew.setRow g cur1.toArray → W.heap[g]? = some (.cells cur1.toArray 33 (0, 0)) := fun W hW => by rw [hW]; exact setRow_heap w.drew g cur _ 33 _ hg
  have hb1 : ∀ W : World, W = w.drew.setRow g cur1.toArray → W.heap[b]? = some (.cells vs.toArray 33 (0, 0)) := fun W hW => by rw [hW, setRow_other w.drew g _ _ hne]; exact hb
  have hcp2 : ∀ ty dc, (Builtin.copy_ #[22, 22] ty #[.slice (some ⟨g, i * 3, none⟩) (n + 1 - i) dc, .slice (some ⟨b, 0, none⟩) 1 1]).run Try.prog (w.drew.setRow g cur1.toArray) = .ok (goInt (Nat.min 1 (n + 1 - i))) (w.drew.setRow g cur2.toArray) := fun ty dc => by
    have h := run_copy_rowK (P := Try.prog) (w.drew.setRow g cur1.toArray) 22 22 ty 33 g (i * 3) (n + 1 - i) dc ⟨b, 0, none⟩ 1 1 cur1.toArray 33 vs 3 Try.underlying22 hsz (hg1 _ rfl)
      (by rw [hvl, show Nat.min 1 (n + 1 - i) = 1 by simp only [Nat.min_def]; split <;> omega])
      (fun j v hj => by
        rw [Addr.add_lit, cell_of_blk (hb1 _ rfl)]
        simpa using hj)
      (by rw [hvl]; exact f2) h1v
    rw [setRow_setRow, List.toList_toArray, ← hcur2] at h
    exact h
  have hdn : n + 1 - (i + 1) = n - i := by omega
  have hw1 : IntKind.i64.wrap ((i : Int) + 1) = (i : Int) + 1 := by rw [IntKind.wrap_i64]; omega
  have hw2 : IntKind.i64.wrap ((n : Int) + 1) = (n : Int) + 1 := by rw [IntKind.wrap_i64]; omega
  have hb0 : (0 : Int) ≤ (i : Int) + 1 := by omega
  have hin : i ≤ n := by omega
  have htn : ((i : Int) + 1).toNat = i + 1 := by omega
  have htn2 : ((n : Int) + 1).toNat = n + 1 := by omega
  have hz2 : ((i : Int) == (n : Int)) = false := by simp; omega
  have hz3 : decide ((c : Int) < (n : Int) + 1) = false := decide_eq_false (by omega)
  have hb2 : ¬ (c = i + 1) := by omega
  have hb3 : (i : Int) + 1 ≤ (n : Int) + 1 := by omega
  have hb4 : ¬ (c = i) := by omega
  have hb5 : (n : Int) + 1 ≤ (c : Int) := by omega
  have hb6 : (0 : Int) ≤ (n : Int) + 1 := by omega
  have hb7 : (i : Int) ≤ (n : Int) + 1 := by omega
  have X1 := Aside0.mk hcur1
  have X2 := Aside0.mk hcur2
  have X3 := Aside0.mk hcs
  have X4 := Aside0.mk lcs
  have X5 := Aside0.mk l1
  have X6 := Aside0.mk l2
  have X7 := Aside0.mk hins
  have X8 := Aside0.mk hcur
  have X9 := Aside0.mk hdn
  clear f1 f2 hcur1 hcur2 hcs lcs l1 l2 hins hg1 hb1 hcur hdn
  go_enter Try.func36, Try.ntmps36
  go_wp2_with (simp only [hov])
  go_region_law (refine step_copy_run rfl _ _ 22 22 rfl _ _ (by simp [Act.eval, Act.put]) (by simp [Act.eval, Act.put]) (hcp1 _ _ _) ?_)
  go_wp2_with (at_builtin; refine wpList_copy_run _ rfl _ _ 22 22 rfl _ _ rfl rfl (hcp2 _ _) ?_)
  go_ret
  exact ⟨cur2, rfl, rfl, X6.out, X7.out⟩
set_option maxHeartbeats 8000000 in
set_option maxRecDepth 100000 in
theorem api_Write_36.grow (g b i n c : Nat) (cur : Array Value) (vs : List Value) (w : World) (hi : i < n) (hnc : n ≤ c) (hroom : c < n + 1) (hbig : (n + 1) * 40 ≤ 140737488355328) (hcur : cur.size = c * 3) (hvl : vs.length = 3)
    (hg : w.heap[g]? = some (.cells cur 33 (0, 0))) (hb : w.heap[b]? = some (.cells vs.toArray 33 (0, 0))) (hne : b ≠ g) (h1c : ∀ v ∈ cur.toList.take (n * 3), v.oneCell' = true) (h1v : ∀ v ∈ vs, v.oneCell' = true) :
    Calls Try.prog 36 #[.slice (some ⟨g, 0, none⟩) n c, .int .i64 i, .slice (some ⟨b, 0, none⟩) 1 1] w fun e w' => ∃ (G : Nat) (cur2 : List Value),
      e = .returned (.slice (some ⟨w.heap.size, 0, none⟩) (n + 1) G) ∧ n + 1 ≤ G ∧ G ≤ maxLen ∧ (∃ W : World, W.heap.size = w.heap.size + 1 ∧ Below w.heap.size w W ∧ W.heap[w.heap.size]? = some (.cells cur2.toArray 33 (0, 0)) ∧ w' = W) ∧ cur2.length = G * 3 ∧ cur2.take ((n + 1) * 3) = (cur.toList.take (n * 3)).take (i * 3) ++ vs ++ (cur.toList.take (n * 3)).drop (i * 3) := by
  have hu33 := Try.underlying33
  obtain ⟨i0, hi0, hz0, hzs, hzb⟩ := info_parts info33
  have hsz : (Try.prog.info? 33).map (·.size) = some 3 := by rw [hi0]; simp [hzs]
  have hgw : g < w.heap.size := (Array.getElem?_eq_some_iff.1 hg).1
  have hbw : b < w.heap.size := (Array.getElem?_eq_some_iff.1 hb).1
  have hkk : (n : Int) + 1 - (i : Int) = ((n + 1 - i : Nat) : Int) := by omega
  have hik : i + (n + 1 - i) = n + 1 := by omega
  have hold : (Builtin.firstCells i0.size i (.slice (some ⟨g, 0, none⟩) i c)).run Try.prog w.drew = .ok (cur.toList.take (i * 3)).toArray w.drew := by
    rw [hzs]
    exact run_firstCells_some w.drew 3 i ⟨g, 0, none⟩ i c (cur.toList.take (i * 3)) (by rw [List.length_take, Array.length_toList]; omega) (fun j v hj => by
      rw [Addr.add_lit]
      show w.cell? _ = _
      rw [cell_of_blk hg, ← Array.getElem?_toList, Nat.zero_add]
      rw [List.getElem?_take] at hj
      split at hj
      · exact hj
      · cases hj)
  obtain ⟨G, hG⟩ : ∃ G, G = grownCap w (n + 1) c 33 := ⟨_, rfl⟩
  obtain ⟨Z, hZ⟩ : ∃ Z, Z = ((.agg #[(.string ⟨#[]⟩), (.string ⟨#[]⟩), (.bool false)]) : Value) := ⟨_, rfl⟩
  have hzc : Z.cells.size = 3 := by rw [hZ]; rfl
  rw [← hZ] at hz0
  obtain ⟨ROW, hROW⟩ : ∃ ROW : Array Value, ROW = (cur.toList.take (i * 3)).toArray ++ Builtin.zeroCells Z.cells (n + 1 - i) ++ Builtin.zeroCells Z.cells (G - (n + 1)) := ⟨_, rfl⟩
  have hrz : ∀ ty, (Builtin.append_ #[22, 3] ty #[.slice (some ⟨g, 0, none⟩) i c, .int .i64 ((n : Int) + 1 - (i : Int))]).run Try.prog w =
      .ok (.slice (some ⟨w.heap.size, 0, none⟩) (n + 1) G) (w.drew.alloc (.cells ROW 33)) := fun ty => by
    have h := Lib.run_append_grow_zeros w 22 3 ty 33 i0 Z .i64 .i64 Try.underlying22 Try.underlying3 hi0 hz0 (some ⟨g, 0, none⟩) i c (cur.toList.take (i * 3)) hold (n + 1 - i) (by omega) (by omega) (by omega) (by omega) (by rw [hzb]; omega) (by rw [hzb, hik]; exact growslice_fits hroom hbig)
    rw [hik, ← hG, ← hROW] at h
    rw [hkk]
    exact h
  have hGn : n + 1 ≤ G := by rw [hG]; exact grownCap_ge w _ _ _
  have hGm : G ≤ maxLen := by rw [hG]; exact grownCap_le_maxLen w _ _ _ (by unfold maxLen; omega)
  have hG63 : G ≤ 9223372036854775807 := by have := hGm; unfold maxLen at this; omega
  have hRsz : ROW.size = G * 3 := by
    rw [hROW, Array.size_append, Array.size_append, zero_size, zero_size, hzc, List.size_toArray, List.length_take, Array.length_toList]
    omega
  have hRA : ROW.toList.take (i * 3) = cur.toList.take (i * 3) := by
    rw [hROW, Array.toList_append, Array.toList_append, List.append_assoc]
    exact List.take_left' (by simp only [List.length_take, Array.length_toList]; omega)
  obtain ⟨RA, hcA⟩ : ∃ RA, RA = ROW.toList.take (i * 3) ++ vs ++ ROW.toList.drop (i * 3 + vs.length) := ⟨_, rfl⟩
  obtain ⟨cs, hcs⟩ : ∃ cs, cs = (cur.toList.drop (i * 3)).take ((n - i) * 3) := ⟨_, rfl⟩
  obtain ⟨RB, hcB⟩ : ∃ RB, RB = RA.take ((i + 1) * 3) ++ cs ++ RA.drop ((i + 1) * 3 + cs.length) := ⟨_, rfl⟩
  have lR : ROW.toList.length = G * 3 := Array.length_toList.trans hRsz
  obtain ⟨lcs, l1, l2, hins⟩ := ins_grow cur.toList vs ROW.toList i n 3 (by omega) hvl (by rw [Array.length_toList]; omega) (by rw [lR]; omega) hRA cs RA RB hcs hcA hcB
  have l1 : RA.length = G * 3 := l1.trans lR
  have l2 : RB.length = G * 3 := l2.trans lR
  have f1 : i * 3 + 3 ≤ ROW.size := by omega
  have f2 : (i + 1) * 3 + (n - i) * 3 ≤ RA.toArray.size := by
    rw [show RA.toArray.size = RA.length from rfl, l1]
    omega
  have hN : ∀ W : World, W.heap = (w.alloc (.cells ROW 33)).heap → W.heap[w.heap.size]? = some (.cells ROW 33 (0, 0)) := fun W hW => by rw [hW]; exact heap_alloc_new w _
  have hold2 : ∀ k, k < w.heap.size → (w.alloc (.cells ROW 33)).heap[k]? = w.heap[k]? := fun k hk => heap_alloc_old w _ hk
  have hcpA : ∀ (W : World), W.heap = (w.alloc (.cells ROW 33)).heap → ∀ ty dc, (Builtin.copy_ #[22, 22] ty #[.slice (some ⟨w.heap.size, i * 3, none⟩) (n + 1 - i) dc, .slice (some ⟨b, 0, none⟩) 1 1]).run Try.prog W = .ok (goInt (Nat.min 1 (n + 1 - i))) (W.setRow w.heap.size RA.toArray) := fun W hW ty dc => by
    have h := run_copy_rowK (P := Try.prog) W 22 22 ty 33 w.heap.size (i * 3) (n + 1 - i) dc ⟨b, 0, none⟩ 1 1 ROW 33 vs 3 Try.underlying22 hsz (hN W hW)
      (by rw [hvl, show Nat.min 1 (n + 1 - i) = 1 by simp only [Nat.min_def]; split <;> omega])
      (fun j v hj => by
        have hb2 : W.heap[b]? = some (.cells vs.toArray 33 (0, 0)) := by rw [hW, hold2 b hbw]; exact hb
        rw [Addr.add_lit, cell_of_blk hb2]
        simpa using hj)
      (by rw [hvl]; exact f1) h1v
    rw [← hcA] at h
    exact h
  have hcpB : ∀ (W : World), W.heap = ((w.alloc (.cells ROW 33)).setRow w.heap.size RA.toArray).heap → ∀ ty dc sc, (Builtin.copy_ #[22, 22] ty #[.slice (some ⟨w.heap.size, (i + 1) * 3, none⟩) (n - i) dc, .slice (some ⟨g, i * 3, none⟩) (n - i) sc]).run Try.prog W = .ok (goInt (Nat.min (n - i) (n - i))) (W.setRow w.heap.size RB.toArray) := fun W hW ty dc sc => by
    have hNW : W.heap[w.heap.size]? = some (.cells RA.toArray 33 (0, 0)) := by rw [hW]; exact setRow_heap _ _ ROW _ 33 _ (hN _ rfl)
    have hgW : W.heap[g]? = some (.cells cur 33 (0, 0)) := by rw [hW, setRow_other _ _ _ _ (by omega), hold2 g hgw]; exact hg
    have h := run_copy_rowK (P := Try.prog) W 22 22 ty 33 w.heap.size ((i + 1) * 3) (n - i) dc ⟨g, i * 3, none⟩ (n - i) sc RA.toArray 33 cs 3 Try.underlying22 hsz hNW
      (by rw [lcs]; congr 1; simp only [Nat.min_def]; split <;> rfl)
      (fun j v hj => by
        rw [Addr.add_lit, cell_of_blk hgW, ← Array.getElem?_toList]
        rw [hcs, List.getElem?_take] at hj
        split at hj
        · rw [List.getElem?_drop] at hj; exact hj
        · cases hj)
      (by rw [lcs]; exact f2)
      (fun v hv => h1c v (by
        rw [hcs] at hv
        have h2 : (cur.toList.drop (i * 3)).take ((n - i) * 3) = (cur.toList.take (n * 3)).drop (i * 3) := by rw [List.drop_take]; congr 1; omega
        rw [h2] at hv
        exact List.mem_of_mem_drop hv))
    rw [List.toList_toArray, ← hcB] at h
    exact h
  have hA2 := hcpA ((w.alloc (.cells ROW 33)).drew) rfl
  have hB2 := hcpB (((w.alloc (.cells ROW 33)).drew.setRow w.heap.size RA.toArray).drew) rfl
  clear hcpA hcpB
  have hw1 : IntKind.i64.wrap ((i : Int) + 1) = (i : Int) + 1 := by rw [IntKind.wrap_i64]; omega
  have hw2 : IntKind.i64.wrap ((n : Int) + 1) = (n : Int) + 1 := by rw [IntKind.wrap_i64]; omega
  have hb0 : (0 : Int) ≤ (i : Int) + 1 := by omega
  have hin : i ≤ n := by omega
  have htn : ((i : Int) + 1).toNat = i + 1 := by omega
  have hz2 : ((i : Int) == (n : Int)) = false := by simp; omega
  have hz3 : decide ((c : Int) < (n : Int) + 1) = true := decide_eq_true (by omega)
  have hb2 : ¬ (G = i + 1) := by omega
  have hb3 : (i : Int) + 1 ≤ (n : Int) + 1 := by omega
  have hb4 : ¬ (c = i) := by omega
  have hb5 : ¬ (G = i) := by omega
  have hb7 : (i : Int) ≤ (n : Int) + 1 := by omega
  have hb8 : (i : Int) ≤ (n : Int) := by omega
  have X1 := Aside0.mk hins
  have X2 := Aside0.mk l2
  have X3 := Aside0.mk hN
  have X4 := Aside0.mk hold2
  have X5 := Aside0.mk hGm
  clear hins l1 l2 lR lcs hcs hcA hcB hRA hRsz hROW hG hkk hik hold f1 f2 hN hold2 hzc hZ hz0 hGm hzs hzb
  go_enter Try.func36, Try.ntmps36
  go_wp2_with (first
    | (at_builtin; refine wpList_append_run _ rfl _ _ _ _ rfl _ _ rfl rfl (hrz _) ?_)
    | (at_builtin; refine wpList_copy_run _ rfl _ _ 22 22 rfl _ _ rfl rfl (hA2 _ _) ?_))
  go_region_law (refine step_copy_run rfl _ _ 22 22 rfl _ _ (by simp [Act.eval, Act.put]) (by simp [Act.eval, Act.put]) (hB2 _ _ _) ?_)
  go_wp2
  go_ret
  exact ⟨G, RB, rfl, hGn, X5.out, ⟨_, by simp [World.setRow], below_setRow (Below.drew (below_setRow (Below.drew (Below.alloc (Below.refl _ _) (Nat.le_refl _) _)) (Nat.le_refl _) _)) (Nat.le_refl _) _, setRow_heap _ _ RA.toArray _ 33 _ (setRow_heap (w.alloc (.cells ROW 33)).drew _ ROW _ 33 _ (heap_alloc_new w _)), rfl⟩, X2.out, X1.out⟩
theorem api_Write_36.calls (base b i : Nat) (u : Value) (l0 : List S33) (x : S33) (w0 w : World) (hr : Kd.R k33 33 w base (fun _ => True) u l0) (hi : i < l0.length) (hbig : (l0.length + 1) * 40 ≤ 140737488355328)
    (hb : w.heap[b]? = some (.cells (flc33 x).toArray 33 (0, 0))) (hne : some b ≠ u.ownBlock) (HB : Below base w0 w) (hbase : base ≤ w.heap.size) :
    Calls Try.prog 36 #[u, .int .i64 i, .slice (some ⟨b, 0, none⟩) 1 1] w fun e w' => ∃ v', e = .returned v' ∧ Kd.R k33 33 w' base (fun _ => True) v' (l0.take i ++ x :: l0.drop i) ∧ Below base w0 w' := by
  obtain ⟨-, h1, h2⟩ := own33 hr
  have hlen : (l0.take i ++ x :: l0.drop i).length = l0.length + 1 := by simp only [List.length_append, List.length_cons, List.length_take, List.length_drop]; omega
  have hfl : (l0.take i ++ x :: l0.drop i).flatMap flc33 = ((l0.flatMap flc33).take (i * 3)) ++ flc33 x ++ ((l0.flatMap flc33).drop (i * 3)) := by
    rw [flat_take flc33 flc33_len, flat_drop flc33 flc33_len, List.flatMap_append, List.flatMap_cons, List.append_assoc]
  rcases h2 with ⟨_, h0⟩ | ⟨g, c, cur, rfl, hg, hh, hnc, hcm, hcs, htk⟩
  · omega
  have hcm' : c ≤ 9223372036854775807 := by unfold maxLen at hcm; omega
  have h1c : ∀ v ∈ cur.toList.take (l0.length * 3), v.oneCell' = true := by rw [htk]; exact flc33_one l0
  have h1v : ∀ v ∈ flc33 x, v.oneCell' = true := by have := flc33_one [x]; simpa using this
  have hbg : b ≠ g := fun e => hne (by rw [e]; rfl)
  have lt2 : l0.length * 3 = (l0.flatMap flc33).length := (flat_len flc33 flc33_len l0).symm
  by_cases hroom : l0.length + 1 ≤ c
  · refine (api_Write_36.room g b i l0.length c cur (flc33 x) w hi hroom hcm' hcs rfl hh hb hbg h1c h1v).mono ?_
    rintro e w' ⟨cur2, rfl, rfl, hl2, ht2⟩
    refine ⟨_, rfl, row33 (fun _ _ => trivial) ⟨?_, .inr ⟨g, c, cur2.toArray, ?_, hg, setRow_heap w.drew g cur _ 33 _ hh, ?_, hcm, ?_, ?_⟩⟩, ?_⟩
    · exact flat_len flc33 flc33_len _
    · rw [hlen]
    · rw [hlen]; exact hroom
    · rw [List.size_toArray, hl2, hcs]
    · rw [hlen, List.toList_toArray, ht2, hfl, htk]
    · exact HB.trans (below_setRow (Below.drew (Below.refl _ _)) hg _)
  · refine (api_Write_36.grow g b i l0.length c cur (flc33 x) w hi hnc (by omega) hbig hcs rfl hh hb hbg h1c h1v).mono ?_
    rintro e w' ⟨G, cur2, rfl, hG, hGm, ⟨W, hWs, hWb, hWh, rfl⟩, hl2, ht2⟩
    refine ⟨_, rfl, row33 (fun _ _ => trivial) ⟨?_, .inr ⟨w.heap.size, G, cur2.toArray, ?_, hbase, hWh, ?_, hGm, ?_, ?_⟩⟩, ?_⟩
    · exact flat_len flc33 flc33_len _
    · rw [hlen]
    · rw [hlen]; exact hG
    · rw [List.size_toArray, hl2]
    · rw [hlen, List.toList_toArray, ht2, hfl, htk]
    · exact HB.trans (hWb.mono hbase)

open Go.Proofs.Ytbkfmicnjnklnaa.Cp
/-! ### view_Set: function 16 -/
set_option maxHeartbeats 8000000 in
set_option maxRecDepth 100000 in
theorem api_Write_36.growC (a : Addr) (b i n c : Nat) (cur : List Value) (vs : List Value) (w : World) (hi : i < n) (hnc : n ≤ c) (hroom : c < n + 1) (hbig : (n + 1) * 40 ≤ 140737488355328) (hcur : cur.length = n * 3) (hvl : vs.length = 3)
    (hsrc : ∀ j v, cur[j]? = some v → w.cell? (a.add j) = some v) (hb : w.heap[b]? = some (.cells vs.toArray 33 (0, 0))) (h1c : ∀ v ∈ cur.take (n * 3), v.oneCell' = true) (h1v : ∀ v ∈ vs, v.oneCell' = true) :
    Calls Try.prog 36 #[.slice (some a) n c, .int .i64 i, .slice (some ⟨b, 0, none⟩) 1 1] w fun e w' => ∃ (G : Nat) (cur2 : List Value),
      e = .returned (.slice (some ⟨w.heap.size, 0, none⟩) (n + 1) G) ∧ n + 1 ≤ G ∧ G ≤ maxLen ∧ (∃ W : World, W.heap.size = w.heap.size + 1 ∧ Below w.heap.size w W ∧ W.heap[w.heap.size]? = some (.cells cur2.toArray 33 (0, 0)) ∧ w' = W) ∧ cur2.length = G * 3 ∧ cur2.take ((n + 1) * 3) = (cur.take (n * 3)).take (i * 3) ++ vs ++ (cur.take (n * 3)).drop (i * 3) := by
  have hu33 := Try.underlying33
  obtain ⟨i0, hi0, hz0, hzs, hzb⟩ := info_parts info33
  have hsz : (Try.prog.info? 33).map (·.size) = some 3 := by rw [hi0]; simp [hzs]
  have hbw : b < w.heap.size := (Array.getElem?_eq_some_iff.1 hb).1
  have hkk : (n : Int) + 1 - (i : Int) = ((n + 1 - i : Nat) : Int) := by omega
  have hik : i + (n + 1 - i) = n + 1 := by omega
  have hold : (Builtin.firstCells i0.size i (.slice (some a) i c)).run Try.prog w.drew = .ok (cur.take (i * 3)).toArray w.drew := by
    rw [hzs]
    exact run_firstCells_some w.drew 3 i a i c (cur.take (i * 3)) (by rw [List.length_take]; omega) (fun j v hj => by
      show w.cell? _ = _
      rw [List.getElem?_take] at hj
      split at hj
      · exact hsrc j v hj
      · cases hj)
  obtain ⟨G, hG⟩ : ∃ G, G = grownCap w (n + 1) c 33 := ⟨_, rfl⟩
  obtain ⟨Z, hZ⟩ : ∃ Z, Z = ((.agg #[(.string ⟨#[]⟩), (.string ⟨#[]⟩), (.bool false)]) : Value) := ⟨_, rfl⟩
  have hzc : Z.cells.size = 3 := by rw [hZ]; rfl
  rw [← hZ] at hz0
  obtain ⟨ROW, hROW⟩ : ∃ ROW : Array Value, ROW = (cur.take (i * 3)).toArray ++ Builtin.zeroCells Z.cells (n + 1 - i) ++ Builtin.zeroCells Z.cells (G - (n + 1)) := ⟨_, rfl⟩
  have hrz : ∀ ty, (Builtin.append_ #[22, 3] ty #[.slice (some a) i c, .int .i64 ((n : Int) + 1 - (i : Int))]).run Try.prog w =
      .ok (.slice (some ⟨w.heap.size, 0, none⟩) (n + 1) G) (w.drew.alloc (.cells ROW 33)) := fun ty => by
    have h := Lib.run_append_grow_zeros w 22 3 ty 33 i0 Z .i64 .i64 Try.underlying22 Try.underlying3 hi0 hz0 (some a) i c (cur.take (i * 3)) hold (n + 1 - i) (by omega) (by omega) (by omega) (by omega) (by rw [hzb]; omega) (by rw [hzb, hik]; exact growslice_fits hroom hbig)
    rw [hik, ← hG, ← hROW] at h
    rw [hkk]
    exact h
  have hGn : n + 1 ≤ G := by rw [hG]; exact grownCap_ge w _ _ _
  have hGm : G ≤ maxLen := by rw [hG]; exact grownCap_le_maxLen w _ _ _ (by unfold maxLen; omega)
  have hG63 : G ≤ 9223372036854775807 := by have := hGm; unfold maxLen at this; omega
  have hRsz : ROW.size = G * 3 := by
    rw [hROW, Array.size_append, Array.size_append, zero_size, zero_size, hzc, List.size_toArray, List.length_take]
    omega
  have hRA : ROW.toList.take (i * 3) = cur.take (i * 3) := by
    rw [hROW, Array.toList_append, Array.toList_append, List.append_assoc]
    exact List.take_left' (by simp only [List.length_take]; omega)
  obtain ⟨RA, hcA⟩ : ∃ RA, RA = ROW.toList.take (i * 3) ++ vs ++ ROW.toList.drop (i * 3 + vs.length) := ⟨_, rfl⟩
  obtain ⟨cs, hcs⟩ : ∃ cs, cs = (cur.drop (i * 3)).take ((n - i) * 3) := ⟨_, rfl⟩
  obtain ⟨RB, hcB⟩ : ∃ RB, RB = RA.take ((i + 1) * 3) ++ cs ++ RA.drop ((i + 1) * 3 + cs.length) := ⟨_, rfl⟩
  have lR : ROW.toList.length = G * 3 := Array.length_toList.trans hRsz
  obtain ⟨lcs, l1, l2, hins⟩ := ins_grow cur vs ROW.toList i n 3 (by omega) hvl (by omega) (by rw [lR]; omega) hRA cs RA RB hcs hcA hcB
  have l1 : RA.length = G * 3 := l1.trans lR
  have l2 : RB.length = G * 3 := l2.trans lR
  have f1 : i * 3 + 3 ≤ ROW.size := by omega
  have f2 : (i + 1) * 3 + (n - i) * 3 ≤ RA.toArray.size := by
    rw [show RA.toArray.size = RA.length from rfl, l1]
    omega
  have hN : ∀ W : World, W.heap = (w.alloc (.cells ROW 33)).heap → W.heap[w.heap.size]? = some (.cells ROW 33 (0, 0)) := fun W hW => by rw [hW]; exact heap_alloc_new w _
  have hold2 : ∀ k, k < w.heap.size → (w.alloc (.cells ROW 33)).heap[k]? = w.heap[k]? := fun k hk => heap_alloc_old w _ hk
  have hcpA : ∀ (W : World), W.heap = (w.alloc (.cells ROW 33)).heap → ∀ ty dc, (Builtin.copy_ #[22, 22] ty #[.slice (some ⟨w.heap.size, i * 3, none⟩) (n + 1 - i) dc, .slice (some ⟨b, 0, none⟩) 1 1]).run Try.prog W = .ok (goInt (Nat.min 1 (n + 1 - i))) (W.setRow w.heap.size RA.toArray) := fun W hW ty dc => by
    have h := run_copy_rowK (P := Try.prog) W 22 22 ty 33 w.heap.size (i * 3) (n + 1 - i) dc ⟨b, 0, none⟩ 1 1 ROW 33 vs 3 Try.underlying22 hsz (hN W hW)
      (by rw [hvl, show Nat.min 1 (n + 1 - i) = 1 by simp only [Nat.min_def]; split <;> omega])
      (fun j v hj => by
        have hb2 : W.heap[b]? = some (.cells vs.toArray 33 (0, 0)) := by rw [hW, hold2 b hbw]; exact hb
        rw [Addr.add_lit, cell_of_blk hb2]
        simpa using hj)
      (by rw [hvl]; exact f1) h1v
    rw [← hcA] at h
    exact h
  have hcpB : ∀ (W : World), W.heap = ((w.alloc (.cells ROW 33)).setRow w.heap.size RA.toArray).heap → ∀ ty dc sc, (Builtin.copy_ #[22, 22] ty #[.slice (some ⟨w.heap.size, (i + 1) * 3, none⟩) (n - i) dc, .slice (some (a.add (i * 3))) (n - i) sc]).run Try.prog W = .ok (goInt (Nat.min (n - i) (n - i))) (W.setRow w.heap.size RB.toArray) := fun W hW ty dc sc => by
    have hNW : W.heap[w.heap.size]? = some (.cells RA.toArray 33 (0, 0)) := by rw [hW]; exact setRow_heap _ _ ROW _ 33 _ (hN _ rfl)
    have hcW : ∀ j v, cur[j]? = some v → W.cell? (a.add j) = some v := fun j v hj => by
      have h0 := hsrc j v hj
      have hlt := World.block_lt_of_cell? w _ h0
      exact (World.cell?_of_block (by rw [hW, setRow_other _ _ _ _ (by omega)]; exact hold2 _ hlt)).trans h0
    have h := run_copy_rowK (P := Try.prog) W 22 22 ty 33 w.heap.size ((i + 1) * 3) (n - i) dc (a.add (i * 3)) (n - i) sc RA.toArray 33 cs 3 Try.underlying22 hsz hNW
      (by rw [lcs]; congr 1; simp only [Nat.min_def]; split <;> rfl)
      (fun j v hj => by
        rw [hcs, List.getElem?_take] at hj
        split at hj
        · rw [List.getElem?_drop] at hj
          rw [add_add]
          exact hcW _ v hj
        · cases hj)
      (by rw [lcs]; exact f2)
      (fun v hv => h1c v (by
        rw [hcs] at hv
        have h2 : (cur.drop (i * 3)).take ((n - i) * 3) = (cur.take (n * 3)).drop (i * 3) := by rw [List.drop_take]; congr 1; omega
        rw [h2] at hv
        exact List.mem_of_mem_drop hv))
    rw [List.toList_toArray, ← hcB] at h
    exact h
  have hA2 := hcpA ((w.alloc (.cells ROW 33)).drew) rfl
  have hB2 := hcpB (((w.alloc (.cells ROW 33)).drew.setRow w.heap.size RA.toArray).drew) rfl
  clear hcpA hcpB
  have hw1 : IntKind.i64.wrap ((i : Int) + 1) = (i : Int) + 1 := by rw [IntKind.wrap_i64]; omega
  have hw2 : IntKind.i64.wrap ((n : Int) + 1) = (n : Int) + 1 := by rw [IntKind.wrap_i64]; omega
  have hb0 : (0 : Int) ≤ (i : Int) + 1 := by omega
  have hin : i ≤ n := by omega
  have htn : ((i : Int) + 1).toNat = i + 1 := by omega
  have hz2 : ((i : Int) == (n : Int)) = false := by simp; omega
  have hz3 : decide ((c : Int) < (n : Int) + 1) = true := decide_eq_true (by omega)
  have hb2 : ¬ (G = i + 1) := by omega
  have hb3 : (i : Int) + 1 ≤ (n : Int) + 1 := by omega
  have hb4 : ¬ (c = i) := by omega
  have hb5 : ¬ (G = i) := by omega
  have hb7 : (i : Int) ≤ (n : Int) + 1 := by omega
  have hb8 : (i : Int) ≤ (n : Int) := by omega
  have X1 := Aside0.mk hins
  have X2 := Aside0.mk l2
  have X3 := Aside0.mk hN
  have X4 := Aside0.mk hold2
  have X5 := Aside0.mk hGm
  clear hins l1 l2 lR lcs hcs hcA hcB hRA hRsz hROW hG hkk hik hold f1 f2 hN hold2 hzc hZ hz0 hGm hzs hzb
  go_enter Try.func36, Try.ntmps36
  go_wp2_with (first
    | (at_builtin; refine wpList_append_run _ rfl _ _ _ _ rfl _ _ rfl rfl (hrz _) ?_)
    | (at_builtin; refine wpList_copy_run _ rfl _ _ 22 22 rfl _ _ rfl rfl (hA2 _ _) ?_))
  go_region_law (refine step_copy_run rfl _ _ 22 22 rfl _ _ (by simp [Act.eval, Act.put]) (by simp [Act.eval, Act.put]) (hB2 _ _ _) ?_)
  go_wp2
  go_ret
  exact ⟨G, RB, rfl, hGn, X5.out, ⟨_, by simp [World.setRow], below_setRow (Below.drew (below_setRow (Below.drew (Below.alloc (Below.refl _ _) (Nat.le_refl _) _)) (Nat.le_refl _) _)) (Nat.le_refl _) _, setRow_heap _ _ RA.toArray _ 33 _ (setRow_heap (w.alloc (.cells ROW 33)).drew _ ROW _ 33 _ (heap_alloc_new w _)), rfl⟩, X2.out, X1.out⟩
theorem C_cells33 {w : World} {b : Addr} {n : Nat} {xs : List S33} (h : Kd.C k33 w (some b) n xs) : ∀ j u, (xs.flatMap flc33)[j]? = some u → w.cell? (b.add j) = some u := by
  intro j u hj
  have hlj : j < (xs.flatMap flc33).length := (List.getElem?_eq_some_iff.1 hj).1
  rw [flat_len flc33 flc33_len] at hlj
  have hq : j / 3 < xs.length := by omega
  have hxn : xs.length = n := h.1
  obtain ⟨ad, c, e, _, hK, hc0⟩ := Kd.C_get h z33 ((j / 3 : Nat) : Int) (by omega) (by omega)
  cases e
  have hcx : c = flc33 (xs[j / 3]) := by
    have := k33_open hK
    rw [this]
    rw [show xs.getD ((j / 3 : Nat) : Int).toNat z33 = xs[j / 3] by rw [Int.toNat_natCast, List.getD_eq_getElem?_getD, List.getElem?_eq_getElem hq]; rfl]
    rfl
  have hd : (xs.flatMap flc33)[j]? = (flc33 xs[j / 3])[j % 3]? := by
    have h1 : (xs.flatMap flc33)[j]? = ((xs.flatMap flc33).drop (j / 3 * 3))[j % 3]? := by
      rw [List.getElem?_drop]
      congr 1
      omega
    rw [h1, flat_drop flc33 flc33_len, List.drop_eq_getElem_cons hq, List.flatMap_cons, List.getElem?_append_left (by rw [flc33_len]; omega)]
  rw [hd, ← hcx] at hj
  have := hc0 _ u hj
  rw [show (((j / 3 : Nat) : Int)).toNat * k33.sz + j % 3 = j by show (((j / 3 : Nat) : Int)).toNat * 3 + j % 3 = j; omega] at this
  exact this
theorem enters33 : ∀ args w, (callFunc 33 args).run Try.prog w = .ok (.enter 33 args) w := enters_of Try.func33 (by kernel_rfl) rfl
theorem enters35 : ∀ args w, (callFunc 35 args).run Try.prog w = .ok (.enter 35 args) w := enters_of Try.func35 (by kernel_rfl) rfl
set_option maxHeartbeats 8000000 in
theorem view_Set_1.calls (x : S33) (key : ByteArray) (B : Nat) (W : World) (hc : W.cell? ⟨B, 0, none⟩ = some (.string key)) :
    Calls Try.prog 33 #[.agg #[.string x.f0, .string x.f1, .bool x.f2], .pointer (some ⟨B, 0, none⟩)] W fun e w' => e = .returned (.bool (seq33 key x)) ∧ Below W.heap.size W w' := by
  have hu33 := Try.underlying33
  have hB := World.block_lt_of_cell? W _ hc
  go_enter Try.func33, Try.ntmps33
  go_wp2
  go_ret
  exact ⟨rfl, (Below.refl _ _).alloc (Nat.le_refl _) _⟩
set_option maxHeartbeats 8000000 in
theorem view_Set_2.calls (x : S33) (key : ByteArray) (B : Nat) (W : World) (hc : W.cell? ⟨B, 0, none⟩ = some (.string key)) :
    Calls Try.prog 35 #[.agg #[.string x.f0, .string x.f1, .bool x.f2], .pointer (some ⟨B, 0, none⟩)] W fun e w' => e = .returned (.bool (sgt33 key x)) ∧ Below W.heap.size W w' := by
  have hu33 := Try.underlying33
  have hB := World.block_lt_of_cell? W _ hc
  go_enter Try.func35, Try.ntmps35
  go_wp2
  go_ret
  exact ⟨rfl, (Below.refl _ _).alloc (Nat.le_refl _) _⟩
theorem ixOf_two {α : Type} (p : α → Bool) (l : List α) : ixOf p l = -1 ∨ ∃ i : Nat, i < l.length ∧ ixOf p l = (i : Int) := by
  unfold ixOf
  split
  · exact .inr ⟨_, by assumption, rfl⟩
  · exact .inl rfl
set_option maxHeartbeats 8000000 in
set_option maxRecDepth 100000 in
theorem view_Set.calls (A0 : Option Addr) (c0 : Nat) (l0 : List (S33)) (a1_0 a1_1 : ByteArray) (a1_2 : Bool) (r : List S33) (w : World) (hr0 : Kd.C k33 w A0 l0.length l0) (hc0 : l0.length ≤ c0) (h : view_Set.f l0 a1_0 a1_1 a1_2 = some r) :
    Calls Try.prog 16 #[.slice A0 l0.length c0, .agg #[.string a1_0, .string a1_1, .bool a1_2]] w fun e w' => ∃ v0_ : Value, e = .returned (v0_) ∧ Kd.R k33 33 w' w.heap.size (fun _ => True) v0_ r ∧ Below w.heap.size w w' := by
  have hu33 := Try.underlying33
  obtain ⟨y, hy, h2⟩ := Option.bind_eq_some_iff.1 h
  have hlen : l0.length < 3518437208880 := by
    by_cases e : l0.length < 3518437208880
    · exact e
    · rw [if_neg e] at h2; cases h2
  rw [if_pos hlen] at h2
  obtain rfl := Option.some.inj h2
  have hyl : y = l0 := by
    have hy' := hy
    unfold api_Write_34.f at hy'
    simp only [Option.bind_some] at hy'
    split at hy'
    · cases hy'; simp
    · cases hy'
  subst hyl
  clear h h2
  obtain ⟨x, hx⟩ : ∃ x : S33, x = ⟨a1_0, a1_1, a1_2⟩ := ⟨_, rfl⟩
  rw [← hx]
  have hx0 : x.f0 = a1_0 := by rw [hx]
  have hcx : flc33 x = [.string a1_0, .string a1_1, .bool a1_2] := by rw [hx]; rfl
  obtain ⟨W1, hW1⟩ : ∃ W1, W1 = w.alloc (.cells #[.string a1_0, .string a1_1, .bool a1_2] 33) := ⟨_, rfl⟩
  have hs1 : W1.heap.size = w.heap.size + 1 := by rw [hW1]; simp
  have hB1 : Below w.heap.size w W1 := by rw [hW1]; exact Below.alloc (Below.refl _ _) (Nat.le_refl _) _
  have hbk : W1.heap[w.heap.size]? = some (.cells #[.string a1_0, .string a1_1, .bool a1_2] 33 (0, 0)) := by rw [hW1]; exact heap_alloc_new w _
  have hk1 : W1.cell? ⟨w.heap.size, 0, none⟩ = some (.string x.f0) := by rw [hx0]; exact (blk_cell hbk 0).trans rfl
  have hR1 : Kd.C k33 W1 A0 y.length y := by rw [hW1]; exact Kd.C_alloc hr0 _
  have hF : ∀ W2 : World, Below W1.heap.size W1 W2 → Calls Try.prog 26 #[.slice A0 y.length y.length, .func (.func 33) #[] #[.pointer (some ⟨w.heap.size, 0, none⟩)]] W2 fun e w' => e = .returned (.int .i64 (ixOf (seq33 x.f0) y)) ∧ Below W2.heap.size W2 w' := fun W2 hb =>
    api_Write_26.calls (seq33 x.f0) 33 _ enters33 A0 y.length y W2 (Kd.C_below hR1 hb) (fun W z hb2 => view_Set_1.calls z x.f0 w.heap.size W (((hb.trans (hb2.mono hb.size)).cell (World.block_lt_of_cell? W1 _ hk1)).trans hk1))
  have hG : ∀ W2 : World, Below W1.heap.size W1 W2 → Calls Try.prog 26 #[.slice A0 y.length y.length, .func (.func 35) #[] #[.pointer (some ⟨w.heap.size, 0, none⟩)]] W2 fun e w' => e = .returned (.int .i64 (ixOf (sgt33 x.f0) y)) ∧ Below W2.heap.size W2 w' := fun W2 hb =>
    api_Write_26.calls (sgt33 x.f0) 35 _ enters35 A0 y.length y W2 (Kd.C_below hR1 hb) (fun W z hb2 => view_Set_2.calls z x.f0 w.heap.size W (((hb.trans (hb2.mono hb.size)).cell (World.block_lt_of_cell? W1 _ hk1)).trans hk1))
  have hcz : (y.length : Int) ≤ (c0 : Int) := by omega
  have hc0z : (0 : Int) ≤ (y.length : Int) := by omega
  have hmx := hr0.2.1
  have hnone : A0 = none → y.length = 0 := fun e => by
    rcases Nat.eq_zero_or_pos y.length with h | h
    · exact h
    · obtain ⟨_, e2, _⟩ := hr0.2.2 h
      rw [e] at e2; cases e2
  have CELL : ∀ W2 : World, Below W1.heap.size W1 W2 → W2.heap[w.heap.size]? = some (.cells #[.string a1_0, .string a1_1, .bool a1_2] 33 (0, 0)) := fun W2 hb => (hb.block _ (by omega)).trans hbk
  rcases ixOf_two (seq33 x.f0) y with hE | ⟨i, hil, hE⟩
  · have hng : ¬ ((0 : Int) ≤ -1) := by decide
    rw [hE] at hF
    rcases ixOf_two (sgt33 x.f0) y with hT | ⟨j, hjl, hT⟩
    · have hres : setL33 y x = y ++ [x] := by unfold setL33; rw [hE, if_neg hng, hT]; rfl
      rw [hres]
      rw [hT] at hG
      obtain ⟨i0, hi0, hz0, hzs, hzb⟩ := info_parts info33
      have I0 := Aside0.mk hi0
      have I1 := Aside0.mk hz0
      have I2 := Aside0.mk hzs
      have I3 := Aside0.mk hzb
      have F0 := Aside0.mk (hF W1 (Below.refl _ _))
      rw [hW1] at F0
      have GG := Aside0.mk hG
      have CC := Aside0.mk CELL
      have B1 := Aside0.mk hB1
      have R1 := Aside0.mk hR1
      have NN := Aside0.mk hnone
      have CX := Aside0.mk hcx
      have S1 := Aside0.mk hs1
      have V1 := Aside0.mk (show ∀ v ∈ flc33 x, v.oneCell' = true by have := flc33_one [x]; simpa using this)
      have NB := Aside0.mk (show ∀ w3 : World, ∀ j u, (flc33 x)[j]? = some u → (w3.alloc (.cells #[.string a1_0, .string a1_1, .bool a1_2] 33)).cell? ((⟨w3.heap.size, 0, none⟩ : Addr).add j) = some u from fun w3 j u hj => by
        rw [hcx] at hj
        rw [Addr.add_lit, cell_of_blk (heap_alloc_new _ _), Nat.zero_add]
        simpa using hj)
      clear hF hG CELL hB1 hR1 hnone hcx hs1 hbk hk1 hr0 hE hT hres hng hx0 hy hi0 hz0 hzs hzb
      rcases A0 with _ | a
      all_goals
        go_enter Try.func16, Try.ntmps16
        go_wp2_with (first
          | (go_at_call 26; with_reducible refine F0.out.mono ?_; rintro e w2 ⟨rfl, hb⟩; rw [← hW1] at hb; have H2 := Aside0.mk hb; clear hb)
          | (go_at_call 26; refine (GG.out w2 H2.out).mono ?_; rintro e w3 ⟨rfl, hb⟩; have H3 := Aside0.mk (below_step H2.out hb); clear hb; have k5 := CC.out w3 H3.out; have k6 : w3.cell? ⟨w.heap.size, 0, none⟩ = some (.string a1_0) := (blk_cell k5 0).trans rfl; have k7 : w3.cell? ⟨w.heap.size, 1, none⟩ = some (.string a1_1) := (blk_cell k5 1).trans rfl; have k8 : w3.cell? ⟨w.heap.size, 2, none⟩ = some (.bool a1_2) := (blk_cell k5 2).trans rfl)
          | (at_builtin; refine wpList_append_grows _ rfl (.tmp 30) (.tmp 32) 22 rfl 33 i0 (.agg #[(.string ⟨#[]⟩), (.string ⟨#[]⟩), (.bool false)]) 3 40 Try.underlying22 I0.out I1.out I2.out I3.out rfl (by decide) _ y.length y.length (y.flatMap flc33) rfl ?n1 (flat_len flc33 flc33_len y) ?n3 ⟨w3.heap.size, 0, none⟩ 1 1 (flc33 x) (by first | (go_simp; done) | (go_simp; rfl) | rfl) rfl (NB.out w3) V1.out (Nat.lt_succ_self _) (by unfold maxLen; omega) (by omega) ?_; (case n1 => intro e; first | (cases e; done) | exact ⟨NN.out rfl, NN.out rfl⟩ | exact ⟨NN.out trivial, NN.out trivial⟩); (case n3 => intro b e j u hj; first | (cases e; done) | (cases e; exact C_cells33 (Kd.C_alloc (Kd.C_below R1.out H3.out) _) j u hj)); intro v5 w5 hown hgr; have O5 := Aside0.mk hown; have G5 := Aside0.mk hgr; clear hown hgr))
        go_ret
        have hB3 : Below w.heap.size w w3 := B1.out.trans (H3.out.mono (by have := S1.out; omega))
        have hB4 : Below w.heap.size w (w3.alloc (.cells #[.string a1_0, .string a1_1, .bool a1_2] 33)) := hB3.alloc hB3.size _
        refine ⟨_, rfl, row33 (fun _ _ => trivial) ?_, hB4.trans ⟨G5.out.os, G5.out.tape, G5.out.output, G5.out.size, fun k hk => G5.out.block k (Nat.lt_of_lt_of_le hk hB4.size) (by simp)⟩⟩
        have e1 : (y ++ [x]).length = y.length + 1 := by simp
        have e2 : (y ++ [x]).flatMap flc33 = y.flatMap flc33 ++ flc33 x := by simp
        rw [e1, e2]
        exact own_weaken O5.out hB4.size
    · have hnj : ¬ ((j : Int) < 0) := by omega
      have hres : setL33 y x = y.take j ++ x :: y.drop j := by unfold setL33; rw [hE, if_neg hng, hT, if_neg hnj]; rfl
      rw [hres]
      rw [hT] at hG
      have hz4 : decide ((j : Int) < 0) = false := decide_eq_false hnj
      have F0 := Aside0.mk (hF W1 (Below.refl _ _))
      rw [hW1] at F0
      have GG := Aside0.mk hG
      have CC := Aside0.mk CELL
      have B1 := Aside0.mk hB1
      have R1 := Aside0.mk hR1
      have NN := Aside0.mk hnone
      have CX := Aside0.mk hcx
      have S1 := Aside0.mk hs1
      have V1 := Aside0.mk (show ∀ v ∈ flc33 x, v.oneCell' = true by have := flc33_one [x]; simpa using this)
      have NB := Aside0.mk (show ∀ w3 : World, ∀ j u, (flc33 x)[j]? = some u → (w3.alloc (.cells #[.string a1_0, .string a1_1, .bool a1_2] 33)).cell? ((⟨w3.heap.size, 0, none⟩ : Addr).add j) = some u from fun w3 j u hj => by
        rw [hcx] at hj
        rw [Addr.add_lit, cell_of_blk (heap_alloc_new _ _), Nat.zero_add]
        simpa using hj)
      rcases A0 with _ | a
      · have := hnone rfl; omega
      · clear hF hG CELL hB1 hR1 hnone hcx hs1 hbk hk1 hr0 hE hT hres hng hx0 hy
        go_enter Try.func16, Try.ntmps16
        go_wp2_with (first
          | (go_at_call 26; with_reducible refine F0.out.mono ?_; rintro e w2 ⟨rfl, hb⟩; rw [← hW1] at hb; have H2 := Aside0.mk hb; clear hb)
          | (go_at_call 26; refine (GG.out w2 H2.out).mono ?_; rintro e w3 ⟨rfl, hb⟩; have H3 := Aside0.mk (below_step H2.out hb); clear hb; have k5 := CC.out w3 H3.out; have k6 : w3.cell? ⟨w.heap.size, 0, none⟩ = some (.string a1_0) := (blk_cell k5 0).trans rfl; have k7 : w3.cell? ⟨w.heap.size, 1, none⟩ = some (.string a1_1) := (blk_cell k5 1).trans rfl; have k8 : w3.cell? ⟨w.heap.size, 2, none⟩ = some (.bool a1_2) := (blk_cell k5 2).trans rfl)
          | (go_at_call 36; refine (api_Write_36.growC a w3.heap.size j y.length y.length (y.flatMap flc33) (flc33 x) _ hjl (Nat.le_refl _) (Nat.lt_succ_self _) (by omega) (flat_len flc33 flc33_len y) rfl (C_cells33 (Kd.C_alloc (Kd.C_below R1.out H3.out) _)) ?s1 (fun v hv => flc33_one y v (List.mem_of_mem_take hv)) V1.out).mono ?_; (case s1 => rw [CX.out]; exact heap_alloc_new _ _); rintro e w5 ⟨G, cur2, rfl, hG, hGm, ⟨W, hWs, hWb, hWh, rfl⟩, hl2, ht2⟩; have O1 := Aside0.mk hG; have O2 := Aside0.mk hGm; have O3 := Aside0.mk hWb; have O4 := Aside0.mk hWh; have O5 := Aside0.mk hl2; have O6 := Aside0.mk ht2; clear hG hGm hWs hWb hWh hl2 ht2))
        go_ret
        have hB3 : Below w.heap.size w w3 := B1.out.trans (H3.out.mono (by have := S1.out; omega))
        have hB4 : Below w.heap.size w (w3.alloc (.cells #[.string a1_0, .string a1_1, .bool a1_2] 33)) := hB3.alloc hB3.size _
        have hlen' : (y.take j ++ x :: y.drop j).length = y.length + 1 := by simp only [List.length_append, List.length_cons, List.length_take, List.length_drop]; omega
        have hfl : (y.take j ++ x :: y.drop j).flatMap flc33 = ((y.flatMap flc33).take (j * 3)) ++ flc33 x ++ ((y.flatMap flc33).drop (j * 3)) := by
          rw [flat_take flc33 flc33_len, flat_drop flc33 flc33_len, List.flatMap_append, List.flatMap_cons, List.append_assoc]
        have htk : (y.flatMap flc33).take (y.length * 3) = y.flatMap flc33 := List.take_of_length_le (by rw [flat_len flc33 flc33_len]; exact Nat.le_refl _)
        refine ⟨_, rfl, row33 (fun _ _ => trivial) ⟨flat_len flc33 flc33_len _, .inr ⟨(w3.alloc (.cells #[.string a1_0, .string a1_1, .bool a1_2] 33)).heap.size, G, cur2.toArray, by rw [hlen']; show Value.slice (some ⟨w3.heap.size + 1, 0, none⟩) _ _ = _; simp, hB4.size, O4.out, by rw [hlen']; exact O1.out, O2.out, by rw [List.size_toArray, O5.out], by rw [hlen', List.toList_toArray, O6.out, htk, hfl]⟩⟩, hB4.trans (O3.out.mono hB4.size)⟩
  · have hz1 : (0 : Int) ≤ (i : Int) := by omega
    have hz2 : (i : Int) < (y.length : Int) := by omega
    have hres : setL33 y x = y.set i x := by unfold setL33; rw [hE, if_pos hz1]; rfl
    rw [hres]
    rw [hE] at hF
    have F0 := Aside0.mk (hF W1 (Below.refl _ _))
    rw [hW1] at F0
    have GG := Aside0.mk hG
    have CC := Aside0.mk CELL
    have B1 := Aside0.mk hB1
    have R1 := Aside0.mk hR1
    have NN := Aside0.mk hnone
    have CX := Aside0.mk hcx
    have S1 := Aside0.mk hs1
    have V1 := Aside0.mk (show ∀ v ∈ flc33 x, v.oneCell' = true by have := flc33_one [x]; simpa using this)
    have NB := Aside0.mk (show ∀ w3 : World, ∀ j u, (flc33 x)[j]? = some u → (w3.alloc (.cells #[.string a1_0, .string a1_1, .bool a1_2] 33)).cell? ((⟨w3.heap.size, 0, none⟩ : Addr).add j) = some u from fun w3 j u hj => by
      rw [hcx] at hj
      rw [Addr.add_lit, cell_of_blk (heap_alloc_new _ _), Nat.zero_add]
      simpa using hj)
    have CLN := Aside0.mk (show ∀ w2 : World, Below W1.heap.size W1 w2 → Calls Try.prog 34 #[.slice A0 y.length y.length] w2 fun e w' => ∃ v0_ : Value, e = .returned (v0_) ∧ Kd.R k33 33 w' w2.heap.size (fun _ => True) v0_ y ∧ Below w2.heap.size w2 w' from fun w2 hb => api_Write_34.calls A0 y.length y y w2 (Kd.C_below R1.out hb) (Nat.le_refl _) hy)
    clear hF hG CELL hB1 hR1 hcx hs1 hbk hk1 hr0 hE hres hx0 hy
    rcases A0 with _ | a
    · have := NN.out rfl; omega
    · clear hnone
      go_enter Try.func16, Try.ntmps16
      go_wp2_with (first
        | (go_at_call 26; with_reducible refine F0.out.mono ?_; rintro e w2 ⟨rfl, hb⟩; rw [← hW1] at hb; have H2 := Aside0.mk hb; clear hb)
        | (go_at_call 34; refine (CLN.out w2 H2.out).mono ?_; rintro e w3 ⟨v0, rfl, hR, hb⟩; have H3 := Aside0.mk (below_step H2.out hb); have n1 := Aside0.mk (Kd.R_lower hR (below_size H2.out)); obtain ⟨g, c, rfl, hcc, hC⟩ := row_form33 hR (Nat.lt_of_le_of_lt (Nat.zero_le _) hil); have n3 := Aside0.mk (Kd.R_lower n1.out (by have := S1.out; omega : w.heap.size ≤ W1.heap.size)); have n4 := Aside0.mk (B1.out.trans (H3.out.mono (by have := S1.out; omega))); clear hR hb hcc hC n1; have k5 := CC.out w3 H3.out; have k6 : w3.cell? ⟨w.heap.size, 0, none⟩ = some (.string a1_0) := (blk_cell k5 0).trans rfl; have k7 : w3.cell? ⟨w.heap.size, 1, none⟩ = some (.string a1_1) := (blk_cell k5 1).trans rfl; have k8 : w3.cell? ⟨w.heap.size, 2, none⟩ = some (.bool a1_2) := (blk_cell k5 2).trans rfl)
        | ((with_reducible refine gate_ (.store 33 (.tmp 23) (.tmp 22)) rfl ?_); obtain ⟨cc, hcl, hcc⟩ := row_old33 (row_C33 n3.out) i hil; refine Kd.R_store k33 (w0 := w) w.heap.size rfl rfl 33 (.tmp 23) (.tmp 22) rfl 33 (i : Int) 0 y x (.agg #[.string a1_0, .string a1_1, .bool a1_2]) [.string a1_0, .string a1_1, .bool a1_2] cc (fun _ => True) (fun _ => False) rfl (by simp; rfl) rfl rfl (by kernel_rfl) ?s1 n3.out hz1 hz2 hcl hcc (by show 0 + 3 ≤ 3; decide) ?s2 (fun _ hk => hk.elim) n4.out ?_; (case s1 => intro q hq; simp only [List.mem_cons, List.not_mem_nil, or_false] at hq; rcases hq with rfl | rfl | rfl <;> rfl); (case s2 => rw [List.take_zero, List.nil_append, List.drop_of_length_le (by rw [hcl]; simp), List.append_nil, hx]; exact k33_mkM _ _ _ (⟨a1_0, a1_1, a1_2⟩ : S33)); intro w5 hr3 hb3 hg3; have K8 := Aside0.mk hr3; have K9 := Aside0.mk hb3; clear hr3 hb3 hg3))
      go_ret
      exact ⟨_, rfl, K8.out, K9.out⟩

/-! ### stanchionlaw12_shown: function 10 -/
set_option maxHeartbeats 8000000 in
set_option maxRecDepth 100000 in
theorem stanchionlaw12_shown_t.calls (k : Nat)  (r : Bool) (w : World) (h : stanchionlaw12_shown.f k  = some r) (hr_ : r = true) :
    Calls Try.prog 10 #[] w fun e w' => e = .returned (.bool r) ∧ Below w.heap.size w w' := by
  have hu43 := Try.underlying43
  have hu33 := Try.underlying33
  have HB := Aside0.mk (Below.refl w.heap.size w)
  have H : ((some (([(⟨(⟨#[97]⟩ : ByteArray), (⟨#[49]⟩ : ByteArray)⟩ : S43)] : List (S43)) : List (S43))).bind fun y127 => ((view_Set.f ([] : List (S33)) (⟨#[97]⟩ : ByteArray) (⟨#[]⟩ : ByteArray) true).bind fun t130 => ((view_Get.f t130 y127 (⟨#[97]⟩ : ByteArray)).bind fun bt133 => ((view_Set.f t130 (⟨#[98]⟩ : ByteArray) (⟨#[50]⟩ : ByteArray) false).bind fun t135 => ((view_Scan.f k t135 y127 (⟨#[]⟩ : ByteArray) (⟨#[]⟩ : ByteArray) 9).bind fun t138 => (if bt133.2 = true then (some false) else (if (t138.length : Int) = 1 then (if 0 < (t138.length : Int) then (some (((rd_T43 t138 0).f0).toList == ([98] : List UInt8))) else (none)) else (some false)))))))) = some r := h
  clear h
  obtain ⟨y127, hy127⟩ : ∃ y_ : List (S43), y_ = (([(⟨(⟨#[97]⟩ : ByteArray), (⟨#[49]⟩ : ByteArray)⟩ : S43)] : List (S43))) := ⟨_, rfl⟩
  replace H : ((view_Set.f ([] : List (S33)) (⟨#[97]⟩ : ByteArray) (⟨#[]⟩ : ByteArray) true).bind fun t130 => ((view_Get.f t130 y127 (⟨#[97]⟩ : ByteArray)).bind fun bt133 => ((view_Set.f t130 (⟨#[98]⟩ : ByteArray) (⟨#[50]⟩ : ByteArray) false).bind fun t135 => ((view_Scan.f k t135 y127 (⟨#[]⟩ : ByteArray) (⟨#[]⟩ : ByteArray) 9).bind fun t138 => (if bt133.2 = true then (some false) else (if (t138.length : Int) = 1 then (if 0 < (t138.length : Int) then (some (((rd_T43 t138 0).f0).toList == ([98] : List UInt8))) else (none)) else (some false))))))) = some r := by first | (rw [hy127]; with_reducible exact H) | (have H2_ := (Option.bind_some _ _).symm.trans H; rw [hy127]; with_reducible exact H2_) | (have H2_ := (Option.bind_some _ _).symm.trans H; with_reducible exact H2_) | with_reducible exact H | (rw [hy127]; exact H) | exact H
  have Ny127 := Aside0.mk hy127
  clear hy127
  replace H := Option.bind_eq_some_iff.mp H
  obtain ⟨t130, A10, H⟩ := H
  replace H : ((view_Get.f t130 y127 (⟨#[97]⟩ : ByteArray)).bind fun bt133 => ((view_Set.f t130 (⟨#[98]⟩ : ByteArray) (⟨#[50]⟩ : ByteArray) false).bind fun t135 => ((view_Scan.f k t135 y127 (⟨#[]⟩ : ByteArray) (⟨#[]⟩ : ByteArray) 9).bind fun t138 => (if bt133.2 = true then (some false) else (if (t138.length : Int) = 1 then (if 0 < (t138.length : Int) then (some (((rd_T43 t138 0).f0).toList == ([98] : List UInt8))) else (none)) else (some false)))))) = some r := H
  have A1 := Aside0.mk A10
  clear A10
  replace H := Option.bind_eq_some_iff.mp H
  obtain ⟨⟨t133, t134⟩, A20, H⟩ := H
  replace H : ((view_Set.f t130 (⟨#[98]⟩ : ByteArray) (⟨#[50]⟩ : ByteArray) false).bind fun t135 => ((view_Scan.f k t135 y127 (⟨#[]⟩ : ByteArray) (⟨#[]⟩ : ByteArray) 9).bind fun t138 => (if t134 = true then (some false) else (if (t138.length : Int) = 1 then (if 0 < (t138.length : Int) then (some (((rd_T43 t138 0).f0).toList == ([98] : List UInt8))) else (none)) else (some false))))) = some r := H
  have A2 := Aside0.mk A20
  clear A20
  replace H := Option.bind_eq_some_iff.mp H
  obtain ⟨t135, A30, H⟩ := H
  replace H : ((view_Scan.f k t135 y127 (⟨#[]⟩ : ByteArray) (⟨#[]⟩ : ByteArray) 9).bind fun t138 => (if t134 = true then (some false) else (if (t138.length : Int) = 1 then (if 0 < (t138.length : Int) then (some (((rd_T43 t138 0).f0).toList == ([98] : List UInt8))) else (none)) else (some false)))) = some r := H
  have A3 := Aside0.mk A30
  clear A30
  replace H := Option.bind_eq_some_iff.mp H
  obtain ⟨t138, A40, H⟩ := H
  replace H : (if t134 = true then (some false) else (if (t138.length : Int) = 1 then (if 0 < (t138.length : Int) then (some (((rd_T43 t138 0).f0).toList == ([98] : List UInt8))) else (none)) else (some false))) = some r := H
  have A4 := Aside0.mk A40
  clear A40
  by_cases c5 : t134 = true
  · subst c5
    have H1 : (some false) = some r := by rw [if_pos rfl] at H; exact H
    clear H
    have H := H1
    clear H1
    obtain rfl := Option.some.inj H
    exact absurd hr_ (by decide)
  · replace c5 := Bool.eq_false_iff.mpr c5
    subst c5
    have H1 : (if (t138.length : Int) = 1 then (if 0 < (t138.length : Int) then (some (((rd_T43 t138 0).f0).toList == ([98] : List UInt8))) else (none)) else (some false)) = some r := by rw [if_neg (show ¬ (false = true) by decide)] at H; exact H
    clear H
    have H := H1
    clear H1
    by_cases c15 : (t138.length : Int) = 1
    · rw [if_pos c15] at H
      have c15b0 : ((t138.length : Int) == 1) = true := beq_iff_eq.mpr c15
      have c15b1 : ((t138.length : Int) != 1) = false := bne_eq_false_iff_eq.mpr c15
      clear c15
      by_cases c16 : 0 < (t138.length : Int)
      · rw [if_pos c16] at H
        have c16b0 : decide (0 < (t138.length : Int)) = true := decide_eq_true c16
        have c16b1 : decide (0 < t138.length) = true := decide_eq_true (by omega)
        clear c16
        obtain rfl := Option.some.inj H
        go_enter Try.func10, Try.ntmps10
        go_wp2_with (first | ((with_reducible refine gate_dst (N := 7) rfl ?_); (try (refine gate_guard (by rfl) ?_; dsimp only)); refine Kd.R_lit k43 _ 43 ?hg (N := 7) ?hd (xs := ([(⟨(⟨#[97]⟩ : ByteArray), (⟨#[49]⟩ : ByteArray)⟩ : S43)] : List (S43))) (inner := [.string (⟨#[97]⟩ : ByteArray), .string (⟨#[49]⟩ : ByteArray)]) (ok := fun _ => True) (okp := fun _ => True) ?hr ?hp (fun _ hk => hk) trivial (Below.refl _ _) (Nat.le_refl _) (by simp) ?_; (case hd => rfl); (case hg => rfl); (case hr => first | (go_simp; done) | (go_simp; rfl)); (case hp => exact (Reps.c2 (show Kd.M k43 _ _ _ (⟨(⟨#[97]⟩ : ByteArray), (⟨#[49]⟩ : ByteArray)⟩ : S43) [.string (⟨#[97]⟩ : ByteArray), .string (⟨#[49]⟩ : ByteArray)] from (k43_mkM _ _ _ (⟨(⟨#[97]⟩ : ByteArray), (⟨#[49]⟩ : ByteArray)⟩ : S43) )) (Reps.none _ _))); intro v128 w17 ho18 hb hg_ hnew_; clear hg_ hnew_; (first | rw [← Ny127.out] at ho18 | (simp only [Int.reduceToNat] at ho18; rw [← Ny127.out] at ho18)); have n0_ := Aside0.mk (Kd.R_lower ho18 (below_size (by repeat (first | (with_reducible first | exact HB.out | apply below_alloc | apply pw_below_drewN | apply below_drew1) | exact HB.out)))); have n1_ := Aside0.mk (below_step (by repeat (first | (with_reducible first | exact HB.out | apply below_alloc | apply pw_below_drewN | apply below_drew1) | exact HB.out)) hb); clear HB; have HO129 := n0_; have HB := n1_; clear n0_ n1_; clear hb ho18) | ((with_reducible refine gate_callee (f := 16) rfl ?_); refine goesL_ (some 9) rfl rfl Try.func16 (by kernel_rfl) rfl #[.slice none 0 0, .agg #[.string (⟨#[97]⟩ : ByteArray), .string (⟨#[]⟩ : ByteArray), .bool true]] rfl (by (try simp only [List.map_toArray, List.map_cons, List.map_nil]); first | done | rfl | (simp only [List.length_drop, List.length_take]; rfl)) ?_; (refine (view_Set.calls _ _ ([] : List (S33)) (⟨#[97]⟩ : ByteArray) (⟨#[]⟩ : ByteArray) true t130 _ ?side1 ?side2 A1.out).mono ?_); (case side1 => exact Kd.C_nil _ _); (case side2 => exact Nat.le_refl _); rintro e w19 ⟨v131, rfl, ho0, hb⟩; refine ⟨_, rfl, ?_⟩; have n0_ := Aside0.mk (Kd.R_below (by (with_reducible repeat (first | apply Kd.R_alloc | apply Kd.R_drewN | apply Kd.R_drew)); exact HO129.out) hb); have n1_ := Aside0.mk (Kd.R_lower ho0 (below_size (by repeat (first | (with_reducible first | exact HB.out | apply below_alloc | apply pw_below_drewN | apply below_drew1) | exact HB.out)))); have n2_ := Aside0.mk (below_step (by repeat (first | (with_reducible first | exact HB.out | apply below_alloc | apply pw_below_drewN | apply below_drew1) | exact HB.out)) hb); clear HO129; clear HB; have HO129 := n0_; have HO132 := n1_; have HB := n2_; clear n0_ n1_ n2_; (try clear hb); (try clear hb2); (try clear hk); (try clear hi); (try clear ho0); obtain ⟨Ao20, co20, eo20⟩ := Kd.R_slice HO132.out; subst eo20; obtain ⟨Ao21, co21, eo21⟩ := Kd.R_slice HO129.out; subst eo21) | ((with_reducible refine gate_callee (f := 11) rfl ?_); refine goesL_ (some 13) rfl rfl Try.func11 (by kernel_rfl) rfl #[.slice Ao20 t130.length co20, .slice Ao21 y127.length co21, .string (⟨#[97]⟩ : ByteArray)] rfl (by (try simp only [List.map_toArray, List.map_cons, List.map_nil]); first | done | rfl | (simp only [List.length_drop, List.length_take]; rfl)) ?_; (with_reducible refine (view_Get.calls _ _ t130 _ _ y127 (⟨#[97]⟩ : ByteArray) t133 false _ ?side1 ?side2 ?side3 ?side4 A2.out).mono ?_); (case side1 => repeat (first | exact (Kd.R_reads' HO132.out).2.2 | (with_reducible refine Kd.C_alloc ?_ _) | (with_reducible refine Kd.C_drewN ?_ _) | (with_reducible refine Kd.C_drew ?_))); (case side2 => exact (Kd.R_reads' HO132.out).2.1); (case side3 => repeat (first | exact (Kd.R_reads' HO129.out).2.2 | (with_reducible refine Kd.C_alloc ?_ _) | (with_reducible refine Kd.C_drewN ?_ _) | (with_reducible refine Kd.C_drew ?_))); (case side4 => exact (Kd.R_reads' HO129.out).2.1); rintro e w22 ⟨rfl, hb⟩; refine ⟨_, rfl, ?_⟩; have n0_ := Aside0.mk (Kd.R_below (by (with_reducible repeat (first | apply Kd.R_alloc | apply Kd.R_drewN | apply Kd.R_drew)); exact HO129.out) hb); have n1_ := Aside0.mk (Kd.R_below (by (with_reducible repeat (first | apply Kd.R_alloc | apply Kd.R_drewN | apply Kd.R_drew)); exact HO132.out) hb); have n2_ := Aside0.mk (below_step (by repeat (first | (with_reducible first | exact HB.out | apply below_alloc | apply pw_below_drewN | apply below_drew1) | exact HB.out)) hb); clear HO129; clear HO132; clear HB; have HO129 := n0_; have HO132 := n1_; have HB := n2_; clear n0_ n1_ n2_; (try clear hb); (try clear hb2); (try clear hk); (try clear hi)) | ((with_reducible refine gate_callee (f := 16) rfl ?_); refine goesL_ (some 18) rfl rfl Try.func16 (by kernel_rfl) rfl #[.slice Ao20 t130.length co20, .agg #[.string (⟨#[98]⟩ : ByteArray), .string (⟨#[50]⟩ : ByteArray), .bool false]] rfl (by (try simp only [List.map_toArray, List.map_cons, List.map_nil]); first | done | rfl | (simp only [List.length_drop, List.length_take]; rfl)) ?_; (with_reducible refine (view_Set.calls _ _ t130 (⟨#[98]⟩ : ByteArray) (⟨#[50]⟩ : ByteArray) false t135 _ ?side1 ?side2 A3.out).mono ?_); (case side1 => repeat (first | exact (Kd.R_reads' HO132.out).2.2 | (with_reducible refine Kd.C_alloc ?_ _) | (with_reducible refine Kd.C_drewN ?_ _) | (with_reducible refine Kd.C_drew ?_))); (case side2 => exact (Kd.R_reads' HO132.out).2.1); rintro e w23 ⟨v136, rfl, ho0, hb⟩; refine ⟨_, rfl, ?_⟩; have n0_ := Aside0.mk (Kd.R_below (by (with_reducible repeat (first | apply Kd.R_alloc | apply Kd.R_drewN | apply Kd.R_drew)); exact HO129.out) hb); have n1_ := Aside0.mk (Kd.R_elder' (by (with_reducible repeat (first | apply Kd.R_alloc | apply Kd.R_drewN | apply Kd.R_drew)); exact HO132.out) (Kd.R_base ho0) hb); have n2_ := Aside0.mk (Kd.R_lower (Kd.R_new' ho0 (Kd.R_lt (by (with_reducible repeat (first | apply Kd.R_alloc | apply Kd.R_drewN | apply Kd.R_drew)); exact HO132.out))) (below_size (by repeat (first | (with_reducible first | exact HB.out | apply below_alloc | apply pw_below_drewN | apply below_drew1) | exact HB.out)))); have n3_ := Aside0.mk (below_step (by repeat (first | (with_reducible first | exact HB.out | apply below_alloc | apply pw_below_drewN | apply below_drew1) | exact HB.out)) hb); clear HO129; clear HO132; clear HB; have HO129 := n0_; have HO132 := n1_; have HO137 := n2_; have HB := n3_; clear n0_ n1_ n2_ n3_; (try clear hb); (try clear hb2); (try clear hk); (try clear hi); (try clear ho0); obtain ⟨Ao24, co24, eo24⟩ := Kd.R_slice HO137.out; subst eo24) | ((with_reducible refine gate_callee (f := 14) rfl ?_); refine goesL_ (some 21) rfl rfl Try.func14 (by kernel_rfl) rfl #[.slice Ao24 t135.length co24, .slice Ao21 y127.length co21, .string (⟨#[]⟩ : ByteArray), .string (⟨#[]⟩ : ByteArray), .int .i64 9] rfl (by (try simp only [List.map_toArray, List.map_cons, List.map_nil]); first | done | rfl | (simp only [List.length_drop, List.length_take]; rfl)) ?_; (with_reducible refine (view_Scan.calls k _ _ t135 _ _ y127 (⟨#[]⟩ : ByteArray) (⟨#[]⟩ : ByteArray) 9 t138 _ ?side1 ?side2 ?side3 ?side4 A4.out).mono ?_); (case side1 => repeat (first | exact (Kd.R_reads' HO137.out).2.2 | (with_reducible refine Kd.C_alloc ?_ _) | (with_reducible refine Kd.C_drewN ?_ _) | (with_reducible refine Kd.C_drew ?_))); (case side2 => exact (Kd.R_reads' HO137.out).2.1); (case side3 => repeat (first | exact (Kd.R_reads' HO129.out).2.2 | (with_reducible refine Kd.C_alloc ?_ _) | (with_reducible refine Kd.C_drewN ?_ _) | (with_reducible refine Kd.C_drew ?_))); (case side4 => exact (Kd.R_reads' HO129.out).2.1); rintro e w25 ⟨v139, rfl, ho0, hb⟩; refine ⟨_, rfl, ?_⟩; have n0_ := Aside0.mk (Kd.R_elder' (by (with_reducible repeat (first | apply Kd.R_alloc | apply Kd.R_drewN | apply Kd.R_drew)); exact HO129.out) (Kd.R_base ho0) hb); have n1_ := Aside0.mk (Kd.R_below (by (with_reducible repeat (first | apply Kd.R_alloc | apply Kd.R_drewN | apply Kd.R_drew)); exact HO132.out) hb); have n2_ := Aside0.mk (Kd.R_below (by (with_reducible repeat (first | apply Kd.R_alloc | apply Kd.R_drewN | apply Kd.R_drew)); exact HO137.out) hb); have n3_ := Aside0.mk (Kd.R_lower (Kd.R_new' ho0 (Kd.R_lt (by (with_reducible repeat (first | apply Kd.R_alloc | apply Kd.R_drewN | apply Kd.R_drew)); exact HO129.out))) (below_size (by repeat (first | (with_reducible first | exact HB.out | apply below_alloc | apply pw_below_drewN | apply below_drew1) | exact HB.out)))); have n4_ := Aside0.mk (below_step (by repeat (first | (with_reducible first | exact HB.out | apply below_alloc | apply pw_below_drewN | apply below_drew1) | exact HB.out)) hb); clear HO129; clear HO132; clear HO137; clear HB; have HO129 := n0_; have HO132 := n1_; have HO137 := n2_; have HO140 := n3_; have HB := n4_; clear n0_ n1_ n2_ n3_ n4_; (try clear hb); (try clear hb2); (try clear hk); (try clear hi); (try clear ho0); obtain ⟨Ao26, co26, eo26⟩ := Kd.R_slice HO140.out; subst eo26; have p141 : 0 ≤ (0 : Int) := (by omega); have q141 : 0 < (t138.length : Int) := of_decide_eq_true (by first | (with_reducible assumption) | assumption); obtain ⟨ad141, e141, hx141_0, hx141_1⟩ := at_T43 (Kd.R_reads' HO140.out).2.2 0 p141 q141; cases e141; have qi141 : (0 < t138.length) = True := eq_true (by omega); (try rw [show ((0 : Int)).toNat = 0 from rfl] at hx141_0); (try rw [show 0 * 2 = 0 from rfl] at hx141_0); (try rw [Addr.add_zero'] at hx141_0); (try rw [show ((0 : Int)).toNat = 0 from rfl] at hx141_1); (try rw [show 0 * 2 = 0 from rfl] at hx141_1); (try rw [Addr.add_zero'] at hx141_1); replace p141 := eq_true p141; replace q141 := eq_true q141))
        first | go_ret | ((try simp only [Exit.inBlock, Exit.then]); refine bodyPost_ret (results_tmp rfl _ _ _) ?hd_ ?hR_; (case hd_ => rfl))
        exact ⟨by first | rfl | (simp [errW_none, errW_some] <;> rfl) | (simp [*, errW_none, errW_some] <;> rfl), by repeat (first | (with_reducible first | exact HB.out | apply below_alloc | apply pw_below_drewN | apply below_drew1) | exact HB.out)⟩
      · rw [if_neg c16] at H
        exact absurd H (by simp)
    · rw [if_neg c15] at H
      have c15b0 : ((t138.length : Int) == 1) = false := beq_eq_false_iff_ne.mpr c15
      have c15b1 : ((t138.length : Int) != 1) = true := bne_iff_ne.mpr c15
      obtain rfl := Option.some.inj H
      exact absurd hr_ (by decide)

theorem stanchionlaw12_shown.now : stanchionlaw12_shown.f 100 = some true := by decide +kernel
theorem stanchionlaw12_shown.more : ∀ (n k : Nat) (r : Bool), stanchionlaw12_shown.f k = some r → stanchionlaw12_shown.f (k + n) = some r
  | 0, _, _, h => h
  | n + 1, k, r, h => stanchionlaw12_shown.mono (k + n) r (stanchionlaw12_shown.more n k r h)
theorem stanchionlaw12_shown.tells (k : Nat) (r : Bool) (h : stanchionlaw12_shown.f k  = some r) : r = true := by
  have h1 := stanchionlaw12_shown.more 100 k r h
  have h2 := stanchionlaw12_shown.more k 100 true stanchionlaw12_shown.now
  rw [Nat.add_comm] at h2
  exact Option.some.inj (h1.symm.trans h2)
theorem stanchionlaw12_shown.calls (k : Nat)  (r : Bool) (w : World) (h : stanchionlaw12_shown.f k  = some r) :
    Calls Try.prog 10 #[] w fun e w' => e = .returned (.bool r) ∧ Below w.heap.size w w' := stanchionlaw12_shown_t.calls k r w h (stanchionlaw12_shown.tells k r h)
end Go.Proofs.Ytbkfmicnjnklnaa.PB
