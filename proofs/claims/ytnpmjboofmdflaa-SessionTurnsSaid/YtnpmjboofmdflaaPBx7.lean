-- Made by a program of this workplace out of the translation (wip/tools in the repo). Not trusted: Lean checks it.
import Derived.Test.YtnpmjboofmdflaaPBx0
import Derived.Test.YtnpmjboofmdflaaCb
import Derived.Test.YtnpmjboofmdflaaPBx3
import Derived.Test.YtnpmjboofmdflaaPBx5
namespace Go.Proofs.Ytnpmjboofmdflaa.PB
open Go.RowKit Go.Proofs.YtnpmjboofmdflaaW.PrintWords Go.Proofs.YtnpmjboofmdflaaW.PrintLast Go.Proofs.YtnpmjboofmdflaaW.PrintMore Go.Proofs.Ytnpmjboofmdflaa
attribute [local go_sem] max2_int min2_int max_two min_two max_three min_three max_four min_four   -- for this text's walks alone
set_option linter.unusedVariables false
set_option linter.unusedSimpArgs false

/-! ### api_Session_48: function 48 -/
set_option maxHeartbeats 8000000 in
set_option maxRecDepth 100000 in
theorem api_Session_48.calls (A0 : Option Addr) (c0 : Nat) (l0 : List (S42)) (r : List (S42)) (w : World) (hr0 : Kd.C k42 w A0 l0.length l0) (hc0 : l0.length ≤ c0) (h : api_Session_48.f l0 = some r) :
    Calls Try.prog 48 #[.slice A0 l0.length c0] w fun e w' => ∃ v0_ : Value, e = .returned (v0_) ∧ Kd.R k42 42 w' w.heap.size (fun _ => True) v0_ r ∧ Below w.heap.size w w' := by
  have HR0 := Aside0.mk hr0
  have HC0 := Aside0.mk hc0
  clear hr0 hc0
  have HB := Aside0.mk (Below.refl w.heap.size w)
  have H : ((some (([] : List (S42)) : List (S42))).bind fun y127 => (if y127.length + l0.length < 2513169434916 then (some (y127 ++ l0)) else (none))) = some r := h
  clear h
  obtain ⟨y127, hy127⟩ : ∃ y_ : List (S42), y_ = (([] : List (S42))) := ⟨_, rfl⟩
  replace H : (if y127.length + l0.length < 2513169434916 then (some (y127 ++ l0)) else (none)) = some r := by first | (rw [hy127]; with_reducible exact H) | (have H2_ := (Option.bind_some _ _).symm.trans H; rw [hy127]; with_reducible exact H2_) | (have H2_ := (Option.bind_some _ _).symm.trans H; with_reducible exact H2_) | with_reducible exact H | (rw [hy127]; exact H) | exact H
  have Ny127 := Aside0.mk hy127
  clear hy127
  by_cases c2 : y127.length + l0.length < 2513169434916
  · rw [if_pos c2] at H
    have LMc2 := Aside0.mk c2
    clear c2
    obtain ⟨y130, hy130⟩ : ∃ y_ : List (S42), y_ = (y127 ++ l0) := ⟨_, rfl⟩
    replace H : (some y130) = some r := by first | (rw [hy130]; with_reducible exact H) | (have H2_ := (Option.bind_some _ _).symm.trans H; rw [hy130]; with_reducible exact H2_) | (have H2_ := (Option.bind_some _ _).symm.trans H; with_reducible exact H2_) | with_reducible exact H | (rw [hy130]; exact H) | exact H
    have Ny130 := Aside0.mk hy130
    clear hy130
    obtain rfl := Option.some.inj H
    have qT := fun (w : World) (a : Option Addr) (l c : Nat) => Lib.run_eql_slice_nil (P := Try.prog) w 22 42 a l c 0 0 Try.underlying22
    rcases A0 with _ | ad0
    · have hl : l0 = [] := by
        rcases l0 with _ | ⟨x_, l_⟩
        · rfl
        · obtain ⟨_, h_, _⟩ := HR0.out.2.2 (by simp)
          cases h_
      have hy := Aside0.mk (show y130 = [] by rw [Ny130.out, Ny127.out, hl]; rfl)
      clear hl
      go_enter Try.func48, Try.ntmps48
      go_wp2
      go_ret
      exact ⟨_, rfl, by rw [hy.out]; exact Kd.R_nil _ _ _ _ _, HB.out⟩
    · go_enter Try.func48, Try.ntmps48
      go_wp2_with (first | ((with_reducible refine gate_dst (N := 5) rfl ?_); refine Kd.R_lit k42 _ 42 ?hg (N := 5) ?hd (xs := ([] : List (S42))) (inner := []) (ok := fun _ => True) (okp := fun _ => True) ?hr ?hp (fun _ hk => hk) trivial (Below.refl _ _) (Nat.le_refl _) (by simp) ?_; (case hd => rfl); (case hg => rfl); (case hr => first | (go_simp; done) | (go_simp; rfl)); (case hp => exact (Reps.none _ _)); intro v128 w3 ho4 hb hg_ hnew_; clear hg_ hnew_; (first | rw [← Ny127.out] at ho4 | (simp only [Int.reduceToNat] at ho4; rw [← Ny127.out] at ho4)); have HO129 := Aside0.mk (Kd.R_lower ho4 (below_size (by repeat (first | (with_reducible first | exact HB.out | apply below_alloc | apply pw_below_drewN | apply below_drew1) | exact HB.out)))); replace HB := Aside0.mk (below_step (by repeat (first | (with_reducible first | exact HB.out | apply below_alloc | apply pw_below_drewN | apply below_drew1) | exact HB.out)) hb); clear hb ho4) | ((with_reducible refine gate_builtin (b := .append) (xs := #[.tmp 5, .tmp 6]) rfl ?_); at_builtin; refine Kd.R_append_rows k42 (w0 := w) w.heap.size rfl (.tmp 5) (.tmp 6) 22 42 (.agg #[(.int .i64 0), (.int .i64 0), (.bool false), (.string ⟨#[]⟩), (.int .i64 0), (.int .i64 0)]) 56 rfl Try.underlying22 info42 rfl (by decide) (by omega) v128 y127 l0 _ _ _ (fun _ => True) (fun _ => False) rfl rfl ?aO ?aR (fun _ _ h => h) (fun _ h => h.elim) ?aF ?aB ?aS ?aL ?_; (case aR => repeat (first | exact (Kd.C_below HR0.out HB.out) | (with_reducible refine Kd.C_alloc ?_ _) | (with_reducible refine Kd.C_drewN ?_ _) | (with_reducible refine Kd.C_drew ?_))); (case aB => exact (by repeat (first | (with_reducible first | exact HB.out | apply below_alloc | apply pw_below_drewN | apply below_drew1) | exact HB.out))); (case aF => exact (fun _ _ => trivial)); (case aO => exact (by (with_reducible repeat (first | apply Kd.R_alloc | apply Kd.R_drewN | apply Kd.R_drew)); exact HO129.out)); (case aS => exact (below_size (by repeat (first | (with_reducible first | exact HB.out | apply below_alloc | apply pw_below_drewN | apply below_drew1) | exact HB.out)))); (case aL => have := LMc2.out; omega); intro v131 w5 ho hb hg hat; rw [← Ny130.out] at ho; have n0_ := Aside0.mk (hb); have n1_ := Aside0.mk (ho); clear HB; clear HO129; have HB := n0_; have HO132 := n1_; clear n0_ n1_; clear ho hb hg hat))
      go_ret
      exact ⟨_, by first | rfl | (simp [errW_none, errW_some] <;> rfl) | (simp [*, errW_none, errW_some] <;> rfl), by (with_reducible repeat (first | apply Kd.R_alloc | apply Kd.R_drewN | apply Kd.R_drew)); exact HO132.out, by repeat (first | (with_reducible first | exact HB.out | apply below_alloc | apply pw_below_drewN | apply below_drew1) | exact HB.out)⟩
  · rw [if_neg c2] at H
    exact absurd H (by simp)

open Go.Proofs.Ytnpmjboofmdflaa.Cp
theorem kept_trans_ {w W W2 : World} {S : Nat → Prop} (h : Kept w W S) (k : Kept W W2 S) : Kept w W2 S := h.then_ k (fun _ hk => .inl hk)
def flc42 (x : S42) : List Value := [.int .i64 x.f0, .int .i64 x.f1, .bool x.f2, .string x.f3, .int .i64 x.f4, .int .i64 x.f5]
theorem own42 {w : World} {base : Nat} {ok : Nat → Prop} {v : Value} {xs : List S42} (h : Kd.R k42 42 w base ok v xs) : (∀ k, v.ownBlock = some k → ok k) ∧ w.ownsRow base 42 6 v xs.length (xs.flatMap flc42) := R_flat flc42 (fun _ _ h => k42_openM h) h
theorem row_form42 {w : World} {base : Nat} {ok : Nat → Prop} {v : Value} {xs : List S42} (h : Kd.R k42 42 w base ok v xs) (hn : 0 < xs.length) : ∃ g c, v = .slice (some ⟨g, 0, none⟩) xs.length c ∧ xs.length ≤ c ∧ Kd.C k42 w (some ⟨g, 0, none⟩) xs.length xs := by
  obtain ⟨A, c, rfl, hc, hC⟩ := Kd.R_reads h
  obtain ⟨_, _, h2⟩ := own42 h
  rcases h2 with ⟨_, h0⟩ | ⟨g, c', cur, e, _⟩
  · omega
  · injection e with e1 e2 e3
    subst e1
    exact ⟨g, c, rfl, hc, hC⟩
theorem row_cells42 {w : World} {g n : Nat} {xs : List S42} (h : Kd.C k42 w (some ⟨g, 0, none⟩) n xs) (i : Int) (h0 : 0 ≤ i) (hi : i < (n : Int)) : ∀ j u, (flc42 (rd_T42 xs i))[j]? = some u → w.cell? ⟨g, i.toNat * 6 + j, none⟩ = some u := by
  obtain ⟨ad, c, e, _, hK, hc0⟩ := Kd.C_get h z42 i h0 hi
  cases e
  intro j u hj
  have hc : c = flc42 (rd_T42 xs i) := k42_open hK
  have := hc0 j u (by rw [hc]; exact hj)
  rw [Addr.add_lit, Nat.zero_add] at this
  exact this
theorem R_store_k {P : Program} {ops : Array Oper} {o : Oper} {a : Act} {Q : Exit → Act → World → Prop} {K : Act → World → Prop} {α : Type} {E_ : Prop} (d : Kd α) {w0 W : World} (base : Nat) (hN : o.dst = none) (hgd : o.guard = none) (t : TypeId) (p x : Operand) (ho : o.op = .store t p x) (e : TypeId) {g n cap o' : Nat} (i : Int) (j : Nat) (xs : List α) (x' : α) (u : Value) (seg c : List Value) (ok okp : Nat → Prop)
    (haddr : a.eval p = .pointer (some ⟨g, o', none⟩)) (hoff : o' = i.toNat * d.sz + j) (hx : a.eval x = u) (hu : u.cells.toList = seg) (ht : (P.info? t).map (·.size) = some seg.length) (h1 : ∀ q ∈ seg, q.oneCell' = true)
    (HO : d.R e W base ok (.slice (some ⟨g, 0, none⟩) n cap) xs) (h0 : 0 ≤ i) (hi : i < n) (hcl : c.length = d.sz) (hcc : ∀ j u, c[j]? = some u → W.cell? ⟨g, i.toNat * d.sz + j, none⟩ = some u)
    (hj : j + seg.length ≤ d.sz) (hM : d.M W base okp x' (c.take j ++ seg ++ c.drop (j + seg.length))) (hokp : ∀ k, okp k → ok k ∧ k ≠ g) (HB : Below base w0 W)
    (h : ∀ w1, d.R e w1 base ok (.slice (some ⟨g, 0, none⟩) n cap) (xs.set i.toNat x') → Below base w0 w1 → W.grownBy w1 (some g) → K a w1) : if Region.wanted o (yielded ops a.tmps) = true then Oper.wp P o a W K Q else E_ := by
  have hw : Region.wanted o (yielded ops a.tmps) = true := by simp [Region.wanted, hgd]
  rw [if_pos hw]
  subst hoff
  obtain ⟨hrow, hg⟩ := Kd.R_seg HO i h0 hi hcl hcc hj hM hokp
  have hbg : base ≤ g := Kd.R_base HO g (by simp [Value.ownBlock])
  obtain ⟨_, inner, hown, hr⟩ := HO
  have hil : i.toNat < n := by omega
  have hB : Below base w0 (W.setCells g (i.toNat * d.sz + j) seg) := HB.trans ⟨hg.os, hg.tape, hg.output, hg.size, fun k hk => by
    have hlt : k < W.heap.size ∨ W.heap.size ≤ k := Nat.lt_or_ge _ _
    rcases hlt with hlt | hge
    · exact hg.block k hlt (fun he => by injection he with he; omega)
    · exact setCells_far seg _ k (by omega)⟩
  have hrun : (Instr.storeAt t (.pointer (some ⟨g, i.toNat * d.sz + j, none⟩)) u).run P W = .ok () (W.setCells g (i.toNat * d.sz + j) seg) := by
    rcases hown.2 with ⟨hv, _⟩ | ⟨g', cap', cur, hv, hb, hh, hnc, hcm, hcs, _⟩
    · cases hv
    injection hv with ha _ hc
    injection ha with ha
    injection ha with hg'
    subst hg'; subst hc
    refine run_store_run t u seg hh hu ht ?_ h1
    have h2 : i.toNat * d.sz + d.sz ≤ n * d.sz := by rw [← Nat.succ_mul]; exact Nat.mul_le_mul_right _ hil
    have h3 : n * d.sz ≤ cap * d.sz := Nat.mul_le_mul_right _ (by omega)
    omega
  unfold Oper.wp execOp
  simp only [ho, haddr, hx, Sem.run_bind, Sem.run_pure, Result.andThen_ok, hrun]
  show K (a.put o.dst undef) _
  rw [hN]
  exact h _ hrow hB hg
theorem kept_grown_ {W W1 : World} {g : Nat} {S : Nat → Prop} (hg : W.grownBy W1 (some g)) (hS : S g) : Kept W W1 S := ⟨hg.size, fun i hi hn => hg.block i hi (fun e => hn (by injection e with e; subst e; exact hS))⟩
theorem set_at_42 (xs : List S42) (i : Int) (x : S42) (h0 : 0 ≤ i) (h1 : i < (xs.length : Int)) : rd_T42 (xs.set i.toNat x) i = x := by
  unfold rd_T42
  rw [List.getD_eq_getElem?_getD, List.getElem?_set_self (by omega)]
  rfl
/-! ### session_with_Take: function 38 -/
set_option maxHeartbeats 8000000 in
set_option maxRecDepth 100000 in
theorem session_with_Take_at.calls {B n cap : Nat} {ad : Addr} {w0 : World} {u9000_ : Value} {a2 : Int} (hcap : w0.cell? ⟨B, 0, none⟩ = some (.int .i64 a2)) (hu : u9000_ = .slice (some ad) n cap) (P0_ : Nat → Prop) (l0 : List S42) (a1 : Int) (r : List S42) (w : World) (hB : Below w0.heap.size w0 w) (ho0 : Kd.R k42 42 w w0.heap.size P0_ u9000_ l0) (h : session_with_Take_at.f l0 a1 a2 = some r) :
    Calls Try.prog 39 #[.pointer (some (ad.add (a1.toNat * 6))), .pointer (some ⟨B, 0, none⟩)] w fun e w' => e = .returned (.tuple #[]) ∧ Kd.R k42 42 w' w0.heap.size (fun k_ => (P0_ k_ ∨ w.heap.size ≤ k_)) u9000_ r ∧ Below w0.heap.size w0 w' ∧ Kept w w' (fun k_ => P0_ k_) := by
  have hu42 := Try.underlying42
  unfold session_with_Take_at.f at h
  by_cases h0 : 0 ≤ a1
  rotate_left
  · rw [if_neg h0] at h; exact absurd h (by simp)
  rw [if_pos h0] at h
  by_cases h1 : a1 < (l0.length : Int)
  rotate_left
  · rw [if_neg h1] at h; exact absurd h (by simp)
  rw [if_pos h1] at h
  obtain rfl := Option.some.inj h
  clear h
  subst hu
  obtain ⟨g, c_, eg, _, _⟩ := row_form42 ho0 (by omega)
  injection eg with eg _ ec
  subst ec
  injection eg with eg
  subst eg
  obtain ⟨rfl, _, hC⟩ := Kd.R_reads' ho0
  rw [show (⟨g, 0, none⟩ : Addr).add (a1.toNat * 6) = ⟨g, a1.toNat * 6, none⟩ from by rw [Addr.add_lit, Nat.zero_add]]
  have HC := Aside0.mk (row_cells42 hC a1 h0 h1)
  have hlt := World.block_lt_of_cell? w0 _ hcap
  have hge : w0.heap.size ≤ g := Kd.R_base ho0 g (by simp [Value.ownBlock])
  have HS := Aside0.mk (ho0.1 g (by simp [Value.ownBlock]))
  have hk0 : w.cell? ⟨B, 0, none⟩ = some (.int .i64 a2) := (hB.cell hlt).trans hcap
  have R0 := Aside0.mk ho0
  have HB := Aside0.mk hB
  have HCAP := Aside0.mk hcap
  have hx1 : w.cell? ⟨g, a1.toNat * 6 + 1, none⟩ = some (.int .i64 (rd_T42 l0 a1).f1) := HC.out 1 _ rfl
  clear ho0 hB hcap hC
  go_enter Try.func39, Try.ntmps39
  go_wp2_with ((with_reducible refine gate_ (.store 3 (.tmp 9) (.tmp 7)) rfl ?_); refine Kd.R_store k42 (w0 := w0) w0.heap.size rfl rfl 3 (.tmp 9) (.tmp 7) rfl 42 a1 1 l0 (⟨(rd_T42 l0 a1).f0, (wrap64 ((rd_T42 l0 a1).f1 + 1)), (rd_T42 l0 a1).f2, (rd_T42 l0 a1).f3, (rd_T42 l0 a1).f4, (rd_T42 l0 a1).f5⟩ : S42) (.int .i64 (wrap64 ((rd_T42 l0 a1).f1 + 1))) [.int .i64 (wrap64 ((rd_T42 l0 a1).f1 + 1))] (flc42 (rd_T42 l0 a1)) P0_ (fun _ => False) rfl ?so ?sx rfl (by kernel_rfl) ?s1 R0.out h0 ?sl rfl HC.out (by show 1 + 1 ≤ 6; decide) ?s2 (fun _ hk => hk.elim) HB.out ?_; (case sx => first | rfl | (simp only [Act.eval, i64_w]; rfl) | (show Value.int _ _ = _; rw [← i64_w])); (case so => first | rfl | simp); (case s1 => intro q hq; simp only [List.mem_cons, List.not_mem_nil, or_false] at hq; subst hq; rfl); (case sl => first | exact h1 | (simp only [List.length_set]; exact h1)); (case s2 => exact k42_mkM _ _ _ _); intro w3 hr3 hb3 hg3; have K8w3 := Aside0.mk hr3; have K9w3 := Aside0.mk hb3; have K10w3 := Aside0.mk hg3; clear hr3 hb3 hg3)
  have hk3 : w3.cell? ⟨B, 0, none⟩ = some (.int .i64 a2) := (K9w3.out.cell hlt).trans HCAP.out
  clear hx1
  have hCw3 := row_cells42 (Kd.R_reads' K8w3.out).2.2 a1 h0 (by first | exact h1 | (simp only [List.length_set]; exact h1))
  rw [set_at_42 _ _ _ h0 (by first | exact h1 | (simp only [List.length_set]; exact h1))] at hCw3
  have HCw3 := Aside0.mk hCw3
  clear hCw3
  refine start_ (n := 13) (S := fun w' => w'.cell? ⟨B, 0, none⟩ = some (.int .i64 a2)) (ds := []) #[false, false, false, false, false, false, false, false, false, false, false, false, false] (by kernel_rfl) rfl rfl hk3 (fun hHeld => ?_)
  have R1 := Aside0.mk (Kd.R_drew K8w3.out)
  have B1 := Aside0.mk (below_drew1 K9w3.out)
  have KD := Aside0.mk (show Kept w w3.drew (fun k_ => P0_ k_) from kept_trans_ (kept_grown_ K10w3.out HS.out) ⟨Nat.le_refl _, fun _ _ _ => rfl⟩)
  have HC1 : Aside0 (∀ j u, (flc42 (⟨(rd_T42 l0 a1).f0, (wrap64 ((rd_T42 l0 a1).f1 + 1)), (rd_T42 l0 a1).f2, (rd_T42 l0 a1).f3, (rd_T42 l0 a1).f4, (rd_T42 l0 a1).f5⟩ : S42))[j]? = some u → w3.drew.cell? ⟨g, a1.toNat * 6 + j, none⟩ = some u) := ⟨HCw3.out⟩
  clear R0 HB HC hk0 hk3 K8w3 K9w3 K10w3 HCw3
  generalize w3.drew = wd at R1 B1 KD HC1 hHeld ⊢
  refine pure_ (i := 0) (N := some 10) (v := ?_) (a' := ?_) #[true, false, false, false, false, false, false, false, false, false, false, false, false] rfl rfl (by kernel_rfl) (fun _ _ _ h => h) (Or.inl ⟨by rfl, ?_⟩) ?_ ?_
  rotate_left
  · intro w'
    go_simp
    with_reducible rfl
  rotate_left
  · simp only [Act.put, List.setIfInBounds_toArray, List.set_cons_zero, List.set_cons_succ, i64_w, i32_w]
    rfl
  refine pure_ (i := 1) (N := some 11) (v := ?_) (a' := ?_) #[true, true, false, false, false, false, false, false, false, false, false, false, false] rfl rfl (by kernel_rfl) (fun _ _ _ h => h) (Or.inl ⟨by rfl, ?_⟩) ?_ ?_
  rotate_left
  · intro w'
    go_simp
    with_reducible rfl
  rotate_left
  · simp only [Act.put, List.setIfInBounds_toArray, List.set_cons_zero, List.set_cons_succ, i64_w, i32_w]
    rfl
  refine pure_ (i := 2) (N := some 12) (v := ?_) (a' := ?_) #[true, true, true, false, false, false, false, false, false, false, false, false, false] rfl rfl (by kernel_rfl) (fun _ _ _ h => h) (Or.inl ⟨by rfl, ?_⟩) ?_ ?_
  rotate_left
  · intro w'
    go_simp
    with_reducible rfl
  rotate_left
  · simp only [Act.put, List.setIfInBounds_toArray, List.set_cons_zero, List.set_cons_succ, i64_w, i32_w]
    rfl
  refine take_ (i := 3) (N := some 13) (v := ?_) (a' := ?_) #[true, true, true, true, false, false, false, false, false, false, false, false, false] rfl rfl (by kernel_rfl) (fun _ _ _ h => h) (Or.inl ⟨by rfl, ?_⟩) hHeld ?_ ?_
  rotate_left
  · intro w' s0
    go_simp
    with_reducible rfl
  rotate_left
  · simp only [Act.put, List.setIfInBounds_toArray, List.set_cons_zero, List.set_cons_succ, i64_w, i32_w]
    rfl
  refine pure_ (i := 4) (N := some 14) (v := ?_) (a' := ?_) #[true, true, true, true, true, false, false, false, false, false, false, false, false] rfl rfl (by kernel_rfl) (fun _ _ _ h => h) (Or.inl ⟨by rfl, ?_⟩) ?_ ?_
  rotate_left
  · intro w'
    go_simp
    with_reducible rfl
  rotate_left
  · simp only [Act.put, List.setIfInBounds_toArray, List.set_cons_zero, List.set_cons_succ, i64_w, i32_w]
    rfl
  refine pure_ (i := 5) (N := some 15) (v := ?_) (a' := ?_) #[true, true, true, true, true, true, false, false, false, false, false, false, false] rfl rfl (by kernel_rfl) (fun _ _ _ h => h) (Or.inl ⟨by rfl, ?_⟩) ?_ ?_
  rotate_left
  · intro w'
    go_simp
    with_reducible rfl
  rotate_left
  · simp only [Act.put, List.setIfInBounds_toArray, List.set_cons_zero, List.set_cons_succ, i64_w, i32_w]
    rfl
  refine one_ (i := 6) (N := none) #[true, true, true, true, true, true, true, false, false, false, false, false, false] rfl rfl (by kernel_rfl) (by decide) (fun K hK => ?_)
  (refine R_store_k k42 (w0 := w0) w0.heap.size rfl rfl 4 (.tmp 15) (.const (.bool true)) rfl 42 a1 2 (l0.set a1.toNat (⟨(rd_T42 l0 a1).f0, (wrap64 ((rd_T42 l0 a1).f1 + 1)), (rd_T42 l0 a1).f2, (rd_T42 l0 a1).f3, (rd_T42 l0 a1).f4, (rd_T42 l0 a1).f5⟩ : S42)) (⟨(rd_T42 l0 a1).f0, (wrap64 ((rd_T42 l0 a1).f1 + 1)), true, (rd_T42 l0 a1).f3, (rd_T42 l0 a1).f4, (rd_T42 l0 a1).f5⟩ : S42) (.bool true) [.bool true] (flc42 (⟨(rd_T42 l0 a1).f0, (wrap64 ((rd_T42 l0 a1).f1 + 1)), (rd_T42 l0 a1).f2, (rd_T42 l0 a1).f3, (rd_T42 l0 a1).f4, (rd_T42 l0 a1).f5⟩ : S42)) P0_ (fun _ => False) rfl ?so rfl rfl (by kernel_rfl) ?s1 R1.out h0 ?sl rfl HC1.out (by show 2 + 1 ≤ 6; decide) ?s2 (fun _ hk => hk.elim) B1.out ?_; (case so => first | rfl | simp); (case s1 => intro q hq; simp only [List.mem_cons, List.not_mem_nil, or_false] at hq; subst hq; rfl); (case sl => first | exact h1 | (simp only [List.length_set]; exact h1)); (case s2 => exact k42_mkM _ _ _ _); intro w4 hr3 hb3 hg3; have K8w4 := Aside0.mk hr3; have K9w4 := Aside0.mk hb3; have K10w4 := Aside0.mk hg3; clear hr3 hb3 hg3)
  have hk1 : w4.cell? ⟨B, 0, none⟩ = some (.int .i64 a2) := (K9w4.out.cell hlt).trans HCAP.out
  refine hK.out _ _ hk1 (fun hHeld => ?_)
  clear hK K
  have hCw4 := row_cells42 (Kd.R_reads' K8w4.out).2.2 a1 h0 (by first | exact h1 | (simp only [List.length_set]; exact h1))
  rw [set_at_42 _ _ _ h0 (by first | exact h1 | (simp only [List.length_set]; exact h1))] at hCw4
  have HCw4 := Aside0.mk hCw4
  clear hCw4
  refine pure_ (i := 7) (N := some 16) (v := ?_) (a' := ?_) #[true, true, true, true, true, true, true, true, false, false, false, false, false] rfl rfl (by kernel_rfl) (fun _ _ _ h => h) (Or.inl ⟨by rfl, ?_⟩) ?_ ?_
  rotate_left
  · intro w'
    go_simp
    with_reducible rfl
  rotate_left
  · simp only [Act.put, List.setIfInBounds_toArray, List.set_cons_zero, List.set_cons_succ, i64_w, i32_w]
    rfl
  refine pure_ (i := 8) (N := some 17) (v := ?_) (a' := ?_) #[true, true, true, true, true, true, true, true, true, false, false, false, false] rfl rfl (by kernel_rfl) (fun _ _ _ h => h) (Or.inl ⟨by rfl, ?_⟩) ?_ ?_
  rotate_left
  · intro w'
    go_simp
    with_reducible rfl
  rotate_left
  · simp only [Act.put, List.setIfInBounds_toArray, List.set_cons_zero, List.set_cons_succ, i64_w, i32_w]
    rfl
  refine one_ (i := 9) (N := none) #[true, true, true, true, true, true, true, true, true, true, false, false, false] rfl rfl (by kernel_rfl) (by decide) (fun K hK => ?_)
  (refine R_store_k k42 (w0 := w0) w0.heap.size rfl rfl 9 (.tmp 17) (.const (.string ⟨#[]⟩)) rfl 42 a1 3 ((l0.set a1.toNat (⟨(rd_T42 l0 a1).f0, (wrap64 ((rd_T42 l0 a1).f1 + 1)), (rd_T42 l0 a1).f2, (rd_T42 l0 a1).f3, (rd_T42 l0 a1).f4, (rd_T42 l0 a1).f5⟩ : S42)).set a1.toNat (⟨(rd_T42 l0 a1).f0, (wrap64 ((rd_T42 l0 a1).f1 + 1)), true, (rd_T42 l0 a1).f3, (rd_T42 l0 a1).f4, (rd_T42 l0 a1).f5⟩ : S42)) (⟨(rd_T42 l0 a1).f0, (wrap64 ((rd_T42 l0 a1).f1 + 1)), true, (⟨#[]⟩ : ByteArray), (rd_T42 l0 a1).f4, (rd_T42 l0 a1).f5⟩ : S42) (.string (⟨#[]⟩ : ByteArray)) [.string (⟨#[]⟩ : ByteArray)] (flc42 (⟨(rd_T42 l0 a1).f0, (wrap64 ((rd_T42 l0 a1).f1 + 1)), true, (rd_T42 l0 a1).f3, (rd_T42 l0 a1).f4, (rd_T42 l0 a1).f5⟩ : S42)) P0_ (fun _ => False) rfl ?so rfl rfl (by kernel_rfl) ?s1 K8w4.out h0 ?sl rfl HCw4.out (by show 3 + 1 ≤ 6; decide) ?s2 (fun _ hk => hk.elim) K9w4.out ?_; (case so => first | rfl | simp); (case s1 => intro q hq; simp only [List.mem_cons, List.not_mem_nil, or_false] at hq; subst hq; rfl); (case sl => first | exact h1 | (simp only [List.length_set]; exact h1)); (case s2 => exact k42_mkM _ _ _ _); intro w5 hr3 hb3 hg3; have K8w5 := Aside0.mk hr3; have K9w5 := Aside0.mk hb3; have K10w5 := Aside0.mk hg3; clear hr3 hb3 hg3)
  have hk1 : w5.cell? ⟨B, 0, none⟩ = some (.int .i64 a2) := (K9w5.out.cell hlt).trans HCAP.out
  refine hK.out _ _ hk1 (fun hHeld => ?_)
  clear hK K
  have hCw5 := row_cells42 (Kd.R_reads' K8w5.out).2.2 a1 h0 (by first | exact h1 | (simp only [List.length_set]; exact h1))
  rw [set_at_42 _ _ _ h0 (by first | exact h1 | (simp only [List.length_set]; exact h1))] at hCw5
  have HCw5 := Aside0.mk hCw5
  clear hCw5
  refine pure_ (i := 10) (N := some 18) (v := ?_) (a' := ?_) #[true, true, true, true, true, true, true, true, true, true, true, false, false] rfl rfl (by kernel_rfl) (fun _ _ _ h => h) (Or.inl ⟨by rfl, ?_⟩) ?_ ?_
  rotate_left
  · intro w'
    go_simp
    with_reducible rfl
  rotate_left
  · simp only [Act.put, List.setIfInBounds_toArray, List.set_cons_zero, List.set_cons_succ, i64_w, i32_w]
    rfl
  refine pure_ (i := 11) (N := some 19) (v := ?_) (a' := ?_) #[true, true, true, true, true, true, true, true, true, true, true, true, false] rfl rfl (by kernel_rfl) (fun _ _ _ h => h) (Or.inl ⟨by rfl, ?_⟩) ?_ ?_
  rotate_left
  · intro w'
    go_simp
    with_reducible rfl
  rotate_left
  · simp only [Act.put, List.setIfInBounds_toArray, List.set_cons_zero, List.set_cons_succ, i64_w, i32_w]
    rfl
  refine one_ (i := 12) (N := none) #[true, true, true, true, true, true, true, true, true, true, true, true, true] rfl rfl (by kernel_rfl) (by decide) (fun K hK => ?_)
  (refine R_store_k k42 (w0 := w0) w0.heap.size rfl rfl 3 (.tmp 19) (.tmp 13) rfl 42 a1 5 (((l0.set a1.toNat (⟨(rd_T42 l0 a1).f0, (wrap64 ((rd_T42 l0 a1).f1 + 1)), (rd_T42 l0 a1).f2, (rd_T42 l0 a1).f3, (rd_T42 l0 a1).f4, (rd_T42 l0 a1).f5⟩ : S42)).set a1.toNat (⟨(rd_T42 l0 a1).f0, (wrap64 ((rd_T42 l0 a1).f1 + 1)), true, (rd_T42 l0 a1).f3, (rd_T42 l0 a1).f4, (rd_T42 l0 a1).f5⟩ : S42)).set a1.toNat (⟨(rd_T42 l0 a1).f0, (wrap64 ((rd_T42 l0 a1).f1 + 1)), true, (⟨#[]⟩ : ByteArray), (rd_T42 l0 a1).f4, (rd_T42 l0 a1).f5⟩ : S42)) (⟨(rd_T42 l0 a1).f0, (wrap64 ((rd_T42 l0 a1).f1 + 1)), true, (⟨#[]⟩ : ByteArray), (rd_T42 l0 a1).f4, a2⟩ : S42) (.int .i64 a2) [.int .i64 a2] (flc42 (⟨(rd_T42 l0 a1).f0, (wrap64 ((rd_T42 l0 a1).f1 + 1)), true, (⟨#[]⟩ : ByteArray), (rd_T42 l0 a1).f4, (rd_T42 l0 a1).f5⟩ : S42)) P0_ (fun _ => False) rfl ?so rfl rfl (by kernel_rfl) ?s1 K8w5.out h0 ?sl rfl HCw5.out (by show 5 + 1 ≤ 6; decide) ?s2 (fun _ hk => hk.elim) K9w5.out ?_; (case so => first | rfl | simp); (case s1 => intro q hq; simp only [List.mem_cons, List.not_mem_nil, or_false] at hq; subst hq; rfl); (case sl => first | exact h1 | (simp only [List.length_set]; exact h1)); (case s2 => exact k42_mkM _ _ _ _); intro w6 hr3 hb3 hg3; have K8w6 := Aside0.mk hr3; have K9w6 := Aside0.mk hb3; have K10w6 := Aside0.mk hg3; clear hr3 hb3 hg3)
  have hk1 : w6.cell? ⟨B, 0, none⟩ = some (.int .i64 a2) := (K9w6.out.cell hlt).trans HCAP.out
  refine hK.out _ _ hk1 (fun hHeld => ?_)
  clear hK K
  refine done_ (by kernel_rfl) ?_
  try go_wp2
  first | go_end0 | ((try simp only [Exit.inBlock, Exit.then]); refine bodyPost_ret (results_none rfl _ _ _) rfl ?_)
  refine ⟨rfl, ?_, K9w6.out, kept_trans_ KD.out (kept_trans_ (kept_grown_ K10w4.out HS.out) (kept_trans_ (kept_grown_ K10w5.out HS.out) (kept_grown_ K10w6.out HS.out)))⟩
  have hr := Kd.R_mono K8w6.out (ok' := fun k_ => P0_ k_ ∨ w.heap.size ≤ k_) (fun _ hk => .inl hk)
  simp only [List.set_set] at hr
  exact hr
set_option maxHeartbeats 8000000 in
set_option maxRecDepth 100000 in
theorem session_with_Take.calls {B : Nat} (a0_0 : Int) (P0_1_ : Nat → Prop) (A0_1 : Option Addr) (c0_1 : Nat) (l0_1 : List (S42)) (P0_2_ : Nat → Prop) (A0_2 : Option Addr) (c0_2 : Nat) (l0_2 : List (S85)) (a0_3 : Int) (a0_4 : Int) (a1 : Int) (a2 : Int) (r1 : Int) (r2 : List (S42)) (r3 : List (S85)) (r4 : Int) (r5 : Int) (r6 : Int) (w : World) (hcap : w.cell? ⟨B, 0, none⟩ = some (.int .i64 a2)) (hs0_1 : Kd.V k42 42 w w.heap.size (fun k_ => P0_1_ k_) (.slice A0_1 l0_1.length c0_1) l0_1) (hs0_2 : Kd.V k85 85 w w.heap.size (fun k_ => P0_2_ k_) (.slice A0_2 l0_2.length c0_2) l0_2) (h : session_with_Take.f a0_0 l0_1 l0_2 a0_3 a0_4 a1 a2 = some (r1, r2, r3, r4, r5, r6)) :
    Calls Try.prog 38 #[.agg #[.int .i64 a0_0, .slice A0_1 l0_1.length c0_1, .slice A0_2 l0_2.length c0_2, .int .i64 a0_3, .int .u64 a0_4], .int .i64 a1, .func (.func 39) #[] #[.pointer (some ⟨B, 0, none⟩)]] w fun e w' => ∃ v1_ v2_ : Value, e = .returned (.tuple #[.agg #[.int .i64 r1, v1_, v2_, .int .i64 r4, .int .u64 r5], .int .i64 r6]) ∧ Kd.V k42 42 w' w.heap.size (fun k_ => ((P0_1_ k_ ∨ P0_2_ k_) ∨ w.heap.size ≤ k_)) v1_ r2 ∧ Kd.V k85 85 w' w.heap.size (fun k_ => ((P0_1_ k_ ∨ P0_2_ k_) ∨ w.heap.size ≤ k_)) v2_ r3 ∧ Below w.heap.size w w' := by
  have hu26 := Try.underlying26
  have HO0_1 := Aside0.mk (show Kd.V k42 42 w w.heap.size (fun k_ => ((P0_1_ k_ ∨ P0_2_ k_) ∨ w.heap.size ≤ k_)) (.slice A0_1 l0_1.length c0_1) l0_1 from Kd.V_mono hs0_1 (fun k_ hk => .inl (.inl hk)))
  have HO0_2 := Aside0.mk (show Kd.V k85 85 w w.heap.size (fun k_ => ((P0_1_ k_ ∨ P0_2_ k_) ∨ w.heap.size ≤ k_)) (.slice A0_2 l0_2.length c0_2) l0_2 from Kd.V_mono hs0_2 (fun k_ hk => .inl (.inr hk)))
  have HB := Aside0.mk (Below.refl w.heap.size w)
  have HCAP := Aside0.mk hcap
  clear hcap
  have H : ((session_at.f a0_0 l0_1 l0_2 a0_3 a0_4 a1).bind fun t135 => (if t135 < 0 then (some (a0_0, l0_1, l0_2, a0_3, a0_4, 7)) else ((api_Session_48.f l0_1).bind fun t136 => (if 0 ≤ t135 then (if t135 < (t136.length : Int) then ((session_with_Take_at.f t136 t135 a2).bind fun t140 => (some (a0_0, t140, l0_2, a0_3, a0_4, 0))) else (none)) else (none))))) = some (r1, r2, r3, r4, r5, r6) := h
  clear h
  replace H := Option.bind_eq_some_iff.mp H
  obtain ⟨t135, A40, H⟩ := H
  replace H : (if t135 < 0 then (some (a0_0, l0_1, l0_2, a0_3, a0_4, 7)) else ((api_Session_48.f l0_1).bind fun t136 => (if 0 ≤ t135 then (if t135 < (t136.length : Int) then ((session_with_Take_at.f t136 t135 a2).bind fun t140 => (some (a0_0, t140, l0_2, a0_3, a0_4, 0))) else (none)) else (none)))) = some (r1, r2, r3, r4, r5, r6) := H
  have A4 := Aside0.mk A40
  clear A40
  by_cases c5 : t135 < 0
  · rw [if_pos c5] at H
    have c5b0 : decide (t135 < 0) = true := decide_eq_true c5
    clear c5
    simp only [Option.some.injEq, Prod.mk.injEq] at H
    obtain ⟨rfl, rfl, rfl, rfl, rfl, rfl⟩ := H
    go_enter Try.func38, Try.ntmps38
    go_wp2_with (first | ((with_reducible refine gate_dst (N := 3) rfl ?_); refine box_event ?hg (N := 3) ?hd (cs := #[.int .i64 a0_0, .slice A0_1 l0_1.length c0_1, .slice A0_2 l0_2.length c0_2, .int .i64 a0_3, .int .u64 a0_4]) (t := 26) ?hr ?_; (case hd => rfl); (case hg => rfl); (case hr => first | (go_simp; done) | (go_simp; rfl)); intro gb133 hg w6 hbox hb; obtain ⟨n_, GE133⟩ := Cb.bx (by repeat (first | (with_reducible first | exact HB.out | apply below_alloc | apply pw_below_drewN | apply below_drew1) | exact HB.out)) hg hb; have GW133 := GE133; have BK133 := Aside0.mk (hbox); replace HO0_1 := Aside0.mk (Kd.V_below (Kd.V_elderB (by (with_reducible repeat (first | apply Kd.V_alloc | apply Kd.V_drewN | apply Kd.V_drew)); exact HO0_1.out) gb133 (Nat.le_of_eq hg.symm)) hb); replace HO0_2 := Aside0.mk (Kd.V_below (Kd.V_elderB (by (with_reducible repeat (first | apply Kd.V_alloc | apply Kd.V_drewN | apply Kd.V_drew)); exact HO0_2.out) gb133 (Nat.le_of_eq hg.symm)) hb); replace HB := n_; clear n_; clear hb hbox hg) | ((with_reducible refine gate_dst (N := 6) rfl ?_); refine box_event ?hg (N := 6) ?hd (cs := #[.int .i64 0, .slice none 0 0, .slice none 0 0, .int .i64 0, .int .u64 0]) (t := 26) ?hr ?_; (case hd => rfl); (case hg => rfl); (case hr => first | (go_simp; done) | (go_simp; rfl)); intro gb134 hg w7 hbox hb; obtain ⟨n_, GE134⟩ := Cb.bx (by repeat (first | (with_reducible first | exact HB.out | apply below_alloc | apply pw_below_drewN | apply below_drew1 | refine below_set ?_ GE133.out) | exact HB.out)) hg hb; have GW134 := GE134; obtain ⟨NB133_134, NB134_133⟩ := Cb.nb hg BK133.out; have BK134 := Aside0.mk (hbox); replace HO0_1 := Aside0.mk (Kd.V_below (Kd.V_elderB (by (with_reducible repeat (first | apply Kd.V_alloc | apply Kd.V_drewN | apply Kd.V_drew)); exact HO0_1.out) gb134 (Nat.le_of_eq hg.symm)) hb); replace HO0_2 := Aside0.mk (Kd.V_below (Kd.V_elderB (by (with_reducible repeat (first | apply Kd.V_alloc | apply Kd.V_drewN | apply Kd.V_drew)); exact HO0_2.out) gb134 (Nat.le_of_eq hg.symm)) hb); replace BK133 := Aside0.mk (blk_below BK133.out hb); replace HB := n_; clear n_; clear hb hbox hg; have hnb8 := NB133_134.out; have hnc8 := NB134_133.out; obtain ⟨hcz9_0, hcz9_1, hcz9_2, hcz9_3, hcz9_4⟩ := Cb.c5 BK133.out; obtain ⟨hfz9_0, hfz9_1, hfz9_2, hfz9_3, hfz9_4⟩ := Cb.f5 BK133.out) | ((with_reducible refine gate_callee (f := 43) rfl ?_); refine goesL_ (some 11) rfl rfl Try.func43 (by kernel_rfl) rfl #[.agg #[.int .i64 a0_0, .slice A0_1 l0_1.length c0_1, .slice A0_2 l0_2.length c0_2, .int .i64 a0_3, .int .u64 a0_4], .int .i64 a1] rfl (by (try simp only [List.map_toArray, List.map_cons, List.map_nil]); first | done | rfl | (simp only [List.length_drop, List.length_take]; rfl)) ?_; (with_reducible refine (session_at.calls a0_0 _ _ l0_1 _ _ l0_2 a0_3 a0_4 a1 t135 _ ?side1 ?side2 ?side3 ?side4 A4.out).mono ?_); (case side1 => repeat (first | exact (Kd.V_reads' HO0_1.out).2.2 | (with_reducible refine Kd.C_alloc ?_ _) | (with_reducible refine Kd.C_drewN ?_ _) | (with_reducible refine Kd.C_drew ?_))); (case side2 => exact (Kd.V_reads' HO0_1.out).2.1); (case side3 => repeat (first | exact (Kd.V_reads' HO0_2.out).2.2 | (with_reducible refine Kd.C_alloc ?_ _) | (with_reducible refine Kd.C_drewN ?_ _) | (with_reducible refine Kd.C_drew ?_))); (case side4 => exact (Kd.V_reads' HO0_2.out).2.1); rintro e w10 ⟨rfl, hb⟩; refine ⟨_, rfl, ?_⟩; replace HO0_1 := Aside0.mk (Kd.V_below (by (with_reducible repeat (first | apply Kd.V_alloc | apply Kd.V_drewN | apply Kd.V_drew)); exact HO0_1.out) hb); replace HO0_2 := Aside0.mk (Kd.V_below (by (with_reducible repeat (first | apply Kd.V_alloc | apply Kd.V_drewN | apply Kd.V_drew)); exact HO0_2.out) hb); replace BK133 := Aside0.mk (blk_below BK133.out hb); replace BK134 := Aside0.mk (blk_below BK134.out hb); replace HB := Aside0.mk (below_step (by repeat (first | (with_reducible first | exact HB.out | apply below_alloc | apply pw_below_drewN | apply below_drew1 | refine below_set ?_ GE133.out | refine below_set ?_ GE134.out) | exact HB.out)) hb); (try clear hb); (try clear hb2); (try clear hk); (try clear hi); obtain ⟨hcz11_0, hcz11_1, hcz11_2, hcz11_3, hcz11_4⟩ := Cb.c5 BK133.out; obtain ⟨hfz11_0, hfz11_1, hfz11_2, hfz11_3, hfz11_4⟩ := Cb.f5 BK133.out; obtain ⟨hcz12_0, hcz12_1, hcz12_2, hcz12_3, hcz12_4⟩ := Cb.c5 BK134.out; obtain ⟨hfz12_0, hfz12_1, hfz12_2, hfz12_3, hfz12_4⟩ := Cb.f5 BK134.out))
    refine bodyPost_ret (results_ct rfl _ _ gb134 26 #[.int .i64 a0_0, .slice A0_1 l0_1.length c0_1, .slice A0_2 l0_2.length c0_2, .int .i64 a0_3, .int .u64 a0_4] (0, 0) _ rfl (by (with_reducible repeat (first | refine blk_drewN ?_ _ | refine blk_drew ?_ | refine blk_alloc ?_ _)); refine blk_put (cs := #[.int .i64 a0_0, .slice A0_1 l0_1.length c0_1, .slice A0_2 l0_2.length c0_2, .int .i64 a0_3, .int .u64 0]) ?_ 4 _ rfl; refine blk_put (cs := #[.int .i64 a0_0, .slice A0_1 l0_1.length c0_1, .slice A0_2 l0_2.length c0_2, .int .i64 0, .int .u64 0]) ?_ 3 _ rfl; refine blk_put (cs := #[.int .i64 a0_0, .slice A0_1 l0_1.length c0_1, .slice none 0 0, .int .i64 0, .int .u64 0]) ?_ 2 _ rfl; refine blk_put (cs := #[.int .i64 a0_0, .slice none 0 0, .slice none 0 0, .int .i64 0, .int .u64 0]) ?_ 1 _ rfl; refine blk_put (cs := #[.int .i64 0, .slice none 0 0, .slice none 0 0, .int .i64 0, .int .u64 0]) ?_ 0 _ rfl; (with_reducible repeat (first | refine blk_drewN ?_ _ | refine blk_drew ?_ | refine blk_alloc ?_ _)); exact BK134.out) Try.underlying26 rfl (by kernel_rfl)) rfl ?_
    exact ⟨_, _, by first | rfl | (simp [errW_none, errW_some] <;> rfl) | (simp [*, errW_none, errW_some] <;> rfl), by (with_reducible repeat (first | apply Kd.V_alloc | apply Kd.V_drewN | apply Kd.V_drew)); exact Kd.V_mono (Kd.V_far (p := ⟨gb134, 4, none⟩) (Kd.V_far (p := ⟨gb134, 3, none⟩) (Kd.V_far (p := ⟨gb134, 2, none⟩) (Kd.V_far (p := ⟨gb134, 1, none⟩) (Kd.V_far (p := ⟨gb134, 0, none⟩) (Kd.V_mono HO0_1.out (fun k_ hk => (⟨hk, hk.2⟩ : _ ∧ k_ ≠ gb134))) (fun _ hk => hk.2) (.int .i64 a0_0)) (fun _ hk => hk.2) (.slice A0_1 l0_1.length c0_1)) (fun _ hk => hk.2) (.slice A0_2 l0_2.length c0_2)) (fun _ hk => hk.2) (.int .i64 a0_3)) (fun _ hk => hk.2) (.int .u64 a0_4)) (fun _ hk => hk.1.1.1), by (with_reducible repeat (first | apply Kd.V_alloc | apply Kd.V_drewN | apply Kd.V_drew)); exact Kd.V_mono (Kd.V_far (p := ⟨gb134, 4, none⟩) (Kd.V_far (p := ⟨gb134, 3, none⟩) (Kd.V_far (p := ⟨gb134, 2, none⟩) (Kd.V_far (p := ⟨gb134, 1, none⟩) (Kd.V_far (p := ⟨gb134, 0, none⟩) (Kd.V_mono HO0_2.out (fun k_ hk => (⟨hk, hk.2⟩ : _ ∧ k_ ≠ gb134))) (fun _ hk => hk.2) (.int .i64 a0_0)) (fun _ hk => hk.2) (.slice A0_1 l0_1.length c0_1)) (fun _ hk => hk.2) (.slice A0_2 l0_2.length c0_2)) (fun _ hk => hk.2) (.int .i64 a0_3)) (fun _ hk => hk.2) (.int .u64 a0_4)) (fun _ hk => hk.1.1.1), by repeat (first | (with_reducible first | exact HB.out | apply below_alloc | apply pw_below_drewN | apply below_drew1 | refine below_set ?_ GE133.out | refine below_set ?_ GE134.out) | exact HB.out)⟩
  · rw [if_neg c5] at H
    have c5b0 : decide (t135 < 0) = false := decide_eq_false c5
    clear c5
    replace H := Option.bind_eq_some_iff.mp H
    obtain ⟨t136, A130, H⟩ := H
    replace H : (if 0 ≤ t135 then (if t135 < (t136.length : Int) then ((session_with_Take_at.f t136 t135 a2).bind fun t140 => (some (a0_0, t140, l0_2, a0_3, a0_4, 0))) else (none)) else (none)) = some (r1, r2, r3, r4, r5, r6) := H
    have A13 := Aside0.mk A130
    clear A130
    by_cases c14 : 0 ≤ t135
    · rw [if_pos c14] at H
      have c14b0 : decide (0 ≤ t135) = true := decide_eq_true c14
      clear c14
      by_cases c15 : t135 < (t136.length : Int)
      · rw [if_pos c15] at H
        have c15b0 : decide (t135 < (t136.length : Int)) = true := decide_eq_true c15
        clear c15
        replace H := Option.bind_eq_some_iff.mp H
        obtain ⟨t140, A160, H⟩ := H
        replace H : (some (a0_0, t140, l0_2, a0_3, a0_4, 0)) = some (r1, r2, r3, r4, r5, r6) := H
        have A16 := Aside0.mk A160
        clear A160
        simp only [Option.some.injEq, Prod.mk.injEq] at H
        obtain ⟨rfl, rfl, rfl, rfl, rfl, rfl⟩ := H
        go_enter Try.func38, Try.ntmps38
        go_wp2_with (first | ((with_reducible refine gate_dst (N := 3) rfl ?_); refine box_event ?hg (N := 3) ?hd (cs := #[.int .i64 a0_0, .slice A0_1 l0_1.length c0_1, .slice A0_2 l0_2.length c0_2, .int .i64 a0_3, .int .u64 a0_4]) (t := 26) ?hr ?_; (case hd => rfl); (case hg => rfl); (case hr => first | (go_simp; done) | (go_simp; rfl)); intro gb133 hg w17 hbox hb; obtain ⟨n_, GE133⟩ := Cb.bx (by repeat (first | (with_reducible first | exact HB.out | apply below_alloc | apply pw_below_drewN | apply below_drew1) | exact HB.out)) hg hb; have GW133 := GE133; have BK133 := Aside0.mk (hbox); replace HO0_1 := Aside0.mk (Kd.V_below (Kd.V_elderB (by (with_reducible repeat (first | apply Kd.V_alloc | apply Kd.V_drewN | apply Kd.V_drew)); exact HO0_1.out) gb133 (Nat.le_of_eq hg.symm)) hb); replace HO0_2 := Aside0.mk (Kd.V_below (Kd.V_elderB (by (with_reducible repeat (first | apply Kd.V_alloc | apply Kd.V_drewN | apply Kd.V_drew)); exact HO0_2.out) gb133 (Nat.le_of_eq hg.symm)) hb); replace HB := n_; clear n_; clear hb hbox hg) | ((with_reducible refine gate_dst (N := 6) rfl ?_); refine box_event ?hg (N := 6) ?hd (cs := #[.int .i64 0, .slice none 0 0, .slice none 0 0, .int .i64 0, .int .u64 0]) (t := 26) ?hr ?_; (case hd => rfl); (case hg => rfl); (case hr => first | (go_simp; done) | (go_simp; rfl)); intro gb134 hg w18 hbox hb; obtain ⟨n_, GE134⟩ := Cb.bx (by repeat (first | (with_reducible first | exact HB.out | apply below_alloc | apply pw_below_drewN | apply below_drew1 | refine below_set ?_ GE133.out) | exact HB.out)) hg hb; have GW134 := GE134; obtain ⟨NB133_134, NB134_133⟩ := Cb.nb hg BK133.out; have BK134 := Aside0.mk (hbox); replace HO0_1 := Aside0.mk (Kd.V_below (Kd.V_elderB (by (with_reducible repeat (first | apply Kd.V_alloc | apply Kd.V_drewN | apply Kd.V_drew)); exact HO0_1.out) gb134 (Nat.le_of_eq hg.symm)) hb); replace HO0_2 := Aside0.mk (Kd.V_below (Kd.V_elderB (by (with_reducible repeat (first | apply Kd.V_alloc | apply Kd.V_drewN | apply Kd.V_drew)); exact HO0_2.out) gb134 (Nat.le_of_eq hg.symm)) hb); replace BK133 := Aside0.mk (blk_below BK133.out hb); replace HB := n_; clear n_; clear hb hbox hg; have hnb19 := NB133_134.out; have hnc19 := NB134_133.out; obtain ⟨hcz20_0, hcz20_1, hcz20_2, hcz20_3, hcz20_4⟩ := Cb.c5 BK133.out; obtain ⟨hfz20_0, hfz20_1, hfz20_2, hfz20_3, hfz20_4⟩ := Cb.f5 BK133.out) | ((with_reducible refine gate_callee (f := 43) rfl ?_); refine goesL_ (some 11) rfl rfl Try.func43 (by kernel_rfl) rfl #[.agg #[.int .i64 a0_0, .slice A0_1 l0_1.length c0_1, .slice A0_2 l0_2.length c0_2, .int .i64 a0_3, .int .u64 a0_4], .int .i64 a1] rfl (by (try simp only [List.map_toArray, List.map_cons, List.map_nil]); first | done | rfl | (simp only [List.length_drop, List.length_take]; rfl)) ?_; (with_reducible refine (session_at.calls a0_0 _ _ l0_1 _ _ l0_2 a0_3 a0_4 a1 t135 _ ?side1 ?side2 ?side3 ?side4 A4.out).mono ?_); (case side1 => repeat (first | exact (Kd.V_reads' HO0_1.out).2.2 | (with_reducible refine Kd.C_alloc ?_ _) | (with_reducible refine Kd.C_drewN ?_ _) | (with_reducible refine Kd.C_drew ?_))); (case side2 => exact (Kd.V_reads' HO0_1.out).2.1); (case side3 => repeat (first | exact (Kd.V_reads' HO0_2.out).2.2 | (with_reducible refine Kd.C_alloc ?_ _) | (with_reducible refine Kd.C_drewN ?_ _) | (with_reducible refine Kd.C_drew ?_))); (case side4 => exact (Kd.V_reads' HO0_2.out).2.1); rintro e w21 ⟨rfl, hb⟩; refine ⟨_, rfl, ?_⟩; replace HO0_1 := Aside0.mk (Kd.V_below (by (with_reducible repeat (first | apply Kd.V_alloc | apply Kd.V_drewN | apply Kd.V_drew)); exact HO0_1.out) hb); replace HO0_2 := Aside0.mk (Kd.V_below (by (with_reducible repeat (first | apply Kd.V_alloc | apply Kd.V_drewN | apply Kd.V_drew)); exact HO0_2.out) hb); replace BK133 := Aside0.mk (blk_below BK133.out hb); replace BK134 := Aside0.mk (blk_below BK134.out hb); replace HB := Aside0.mk (below_step (by repeat (first | (with_reducible first | exact HB.out | apply below_alloc | apply pw_below_drewN | apply below_drew1 | refine below_set ?_ GE133.out | refine below_set ?_ GE134.out) | exact HB.out)) hb); (try clear hb); (try clear hb2); (try clear hk); (try clear hi); obtain ⟨hcz22_0, hcz22_1, hcz22_2, hcz22_3, hcz22_4⟩ := Cb.c5 BK133.out; obtain ⟨hfz22_0, hfz22_1, hfz22_2, hfz22_3, hfz22_4⟩ := Cb.f5 BK133.out) | ((with_reducible refine gate_callee (f := 48) rfl ?_); refine goesL_ (some 17) rfl rfl Try.func48 (by kernel_rfl) rfl #[.slice A0_1 l0_1.length c0_1] rfl (by (try simp only [List.map_toArray, List.map_cons, List.map_nil]); first | done | rfl | (simp only [List.length_drop, List.length_take]; rfl)) ?_; (with_reducible refine (api_Session_48.calls _ _ l0_1 t136 _ ?side1 ?side2 A13.out).mono ?_); (case side1 => repeat (first | exact (Kd.V_reads' HO0_1.out).2.2 | (with_reducible refine Kd.C_alloc ?_ _) | (with_reducible refine Kd.C_drewN ?_ _) | (with_reducible refine Kd.C_drew ?_))); (case side2 => exact (Kd.V_reads' HO0_1.out).2.1); rintro e w23 ⟨v137, rfl, ho0, hb⟩; refine ⟨_, rfl, ?_⟩; have HO138 := Aside0.mk (Kd.R_lower (Kd.R_newM (M := fun k_ => (w.heap.size ≤ k_)) ho0 (below_size (by repeat (first | (with_reducible first | exact HB.out | apply below_alloc | apply pw_below_drewN | apply below_drew1 | refine below_set ?_ GE133.out | refine below_set ?_ GE134.out) | exact HB.out))) (fun k_ h_ => h_)) (below_size (by repeat (first | (with_reducible first | exact HB.out | apply below_alloc | apply pw_below_drewN | apply below_drew1 | refine below_set ?_ GE133.out | refine below_set ?_ GE134.out) | exact HB.out)))); replace HO0_1 := Aside0.mk (Kd.V_elder' (by (with_reducible repeat (first | apply Kd.V_alloc | apply Kd.V_drewN | apply Kd.V_drew)); exact HO0_1.out) (Kd.R_base ho0) hb); replace HO0_2 := Aside0.mk (Kd.V_elder' (by (with_reducible repeat (first | apply Kd.V_alloc | apply Kd.V_drewN | apply Kd.V_drew)); exact HO0_2.out) (Kd.R_base ho0) hb); replace BK133 := Aside0.mk (blk_below BK133.out hb); replace BK134 := Aside0.mk (blk_below BK134.out hb); replace HB := Aside0.mk (below_step (by repeat (first | (with_reducible first | exact HB.out | apply below_alloc | apply pw_below_drewN | apply below_drew1 | refine below_set ?_ GE133.out | refine below_set ?_ GE134.out) | exact HB.out)) hb); (try clear hb); (try clear hb2); (try clear hk); (try clear hi); (try clear ho0); obtain ⟨Ao24, co24, eo24⟩ := Kd.R_slice HO138.out; subst eo24; obtain ⟨hcz25_0, hcz25_1, hcz25_2, hcz25_3, hcz25_4⟩ := Cb.c5 BK133.out; obtain ⟨hfz25_0, hfz25_1, hfz25_2, hfz25_3, hfz25_4⟩ := Cb.f5 BK133.out) | ((with_reducible refine gate_store (t := 22) (p := 18) rfl ?_); refine store_event (t := 22) (p := 18) (v := ?vo_w26) (w1 := (w23.setCell ⟨gb133, 1, none⟩ (.slice Ao24 t136.length co24))) ?hg ?ho ?hn ?hr ?_; (case ho => rfl); (case hg => rfl); (case hn => rfl); (case hr => first | (go_simp; done) | (go_simp; rfl)); intro w26 hw; have n0_ : Aside0 (Kd.V k42 42 w26 w.heap.size (fun k_ => ((P0_1_ k_ ∨ P0_2_ k_) ∨ w.heap.size ≤ k_) ∧ some k_ ≠ (.slice Ao24 t136.length co24 : Value).ownBlock ∧ k_ ≠ gb133 ∧ k_ ≠ gb134) (.slice A0_1 l0_1.length c0_1) l0_1) := ⟨(by rw [hw]; exact (by (with_reducible repeat (first | apply Kd.V_alloc | apply Kd.V_drewN | apply Kd.V_drew)); exact Kd.V_mono (Kd.V_far (p := ⟨gb133, 1, none⟩) (Kd.V_mono HO0_1.out (fun k_ hk => (⟨hk, hk.1.1.2⟩ : _ ∧ k_ ≠ gb133))) (fun _ hk => hk.2) (.slice Ao24 t136.length co24)) (fun _ hk => ⟨hk.1.1.1.1, ⟨hk.1.2, ⟨hk.1.1.1.2, hk.1.1.2⟩⟩⟩)))⟩; have n1_ : Aside0 (Kd.V k85 85 w26 w.heap.size (fun k_ => ((P0_1_ k_ ∨ P0_2_ k_) ∨ w.heap.size ≤ k_) ∧ some k_ ≠ (.slice Ao24 t136.length co24 : Value).ownBlock ∧ k_ ≠ gb133 ∧ k_ ≠ gb134) (.slice A0_2 l0_2.length c0_2) l0_2) := ⟨(by rw [hw]; exact (by (with_reducible repeat (first | apply Kd.V_alloc | apply Kd.V_drewN | apply Kd.V_drew)); exact Kd.V_mono (Kd.V_far (p := ⟨gb133, 1, none⟩) (Kd.V_mono HO0_2.out (fun k_ hk => (⟨hk, hk.1.1.2⟩ : _ ∧ k_ ≠ gb133))) (fun _ hk => hk.2) (.slice Ao24 t136.length co24)) (fun _ hk => ⟨hk.1.1.1.1, ⟨hk.1.2, ⟨hk.1.1.1.2, hk.1.1.2⟩⟩⟩)))⟩; have n2_ : Aside0 (Kd.R k42 42 w26 w.heap.size (fun k_ => (w.heap.size ≤ k_)) (.slice Ao24 t136.length co24) t136) := ⟨(by rw [hw]; exact (by (with_reducible repeat (first | apply Kd.R_alloc | apply Kd.R_drewN | apply Kd.R_drew)); exact Kd.R_mono (Kd.R_far (p := ⟨gb133, 1, none⟩) (Kd.R_types HO138.out BK133.out (by decide)) (fun _ hk => hk.2) (.slice Ao24 t136.length co24)) (fun _ hk => hk.1.1)))⟩; have n3_ : Aside0 (w26.heap[gb133]? = some (.cells #[.int .i64 a0_0, .slice Ao24 t136.length co24, .slice A0_2 l0_2.length c0_2, .int .i64 a0_3, .int .u64 a0_4] 26 (0, 0))) := ⟨(by rw [hw]; exact (by (with_reducible repeat (first | refine blk_drewN ?_ _ | refine blk_drew ?_ | refine blk_alloc ?_ _)); refine blk_put (cs := #[.int .i64 a0_0, .slice A0_1 l0_1.length c0_1, .slice A0_2 l0_2.length c0_2, .int .i64 a0_3, .int .u64 a0_4]) ?_ 1 _ rfl; (with_reducible repeat (first | refine blk_drewN ?_ _ | refine blk_drew ?_ | refine blk_alloc ?_ _)); exact BK133.out))⟩; have n4_ : Aside0 (w26.heap[gb134]? = some (.cells #[.int .i64 0, .slice none 0 0, .slice none 0 0, .int .i64 0, .int .u64 0] 26 (0, 0))) := ⟨(by rw [hw]; exact (by (with_reducible repeat (first | refine blk_drewN ?_ _ | refine blk_drew ?_ | refine blk_alloc ?_ _)); refine blk_far ?_ NB134_133.out _; (with_reducible repeat (first | refine blk_drewN ?_ _ | refine blk_drew ?_ | refine blk_alloc ?_ _)); exact BK134.out))⟩; have n5_ : Aside0 (Below w.heap.size w w26) := ⟨(by rw [hw]; exact (by repeat (first | (with_reducible first | exact HB.out | apply below_alloc | apply pw_below_drewN | apply below_drew1 | refine below_set ?_ GE133.out | refine below_set ?_ GE134.out) | exact HB.out)))⟩; clear hw; clear HO0_1; clear HO0_2; clear HO138; clear BK133; clear BK134; clear HB; have HO0_1 := n0_; have HO0_2 := n1_; have HO138 := n2_; have BK133 := n3_; have BK134 := n4_; have HB := n5_; clear n0_ n1_ n2_ n3_ n4_ n5_; obtain ⟨hcz27_0, hcz27_1, hcz27_2, hcz27_3, hcz27_4⟩ := Cb.c5 BK133.out; obtain ⟨hfz27_0, hfz27_1, hfz27_2, hfz27_3, hfz27_4⟩ := Cb.f5 BK133.out; have p139 : 0 ≤ (t135 : Int) := of_decide_eq_true (by first | (with_reducible assumption) | assumption); have q139 : t135 < (t136.length : Int) := of_decide_eq_true (by first | (with_reducible assumption) | assumption); obtain ⟨ad139, e139, hx139_0, hx139_1, hx139_2, hx139_3, hx139_4, hx139_5⟩ := at_T42 (Kd.R_reads' HO138.out).2.2 t135 p139 q139; cases e139; replace p139 := eq_true p139; replace q139 := eq_true q139) | ((refine (session_with_Take_at.calls HCAP.out (rfl : (.slice (some ad139) t136.length co24 : Value) = _) (fun k_ => some k_ = (.slice (some ad139) t136.length co24 : Value).ownBlock) t136 t135 t140 _ ?side1 ?side2 A16.out).mono ?_); (case side1 => repeat (first | (with_reducible first | exact HB.out | apply below_alloc | apply pw_below_drewN | apply below_drew1 | refine below_set ?_ GE133.out | refine below_set ?_ GE134.out) | exact HB.out)); (case side2 => exact Kd.R_tight rfl HO138.out); rintro e w28 ⟨rfl, hy0, hb, hkp⟩; replace HO0_1 := Aside0.mk (Kd.V_mono (ok' := fun k_ => ((P0_1_ k_ ∨ P0_2_ k_) ∨ w.heap.size ≤ k_) ∧ some k_ ≠ (.slice (some ad139) t136.length co24 : Value).ownBlock ∧ k_ ≠ gb133 ∧ k_ ≠ gb134) (Kd.V_keptB (HO0_1.out) hkp (fun k_ hk_ hs_ => (hk_.2.1) hs_)) (fun k_ hk_ => ⟨hk_.1.1, hk_.1.2.1, hk_.1.2.2.1, hk_.1.2.2.2⟩)); replace HO0_2 := Aside0.mk (Kd.V_mono (ok' := fun k_ => ((P0_1_ k_ ∨ P0_2_ k_) ∨ w.heap.size ≤ k_) ∧ some k_ ≠ (.slice (some ad139) t136.length co24 : Value).ownBlock ∧ k_ ≠ gb133 ∧ k_ ≠ gb134) (Kd.V_keptB (HO0_2.out) hkp (fun k_ hk_ hs_ => (hk_.2.1) hs_)) (fun k_ hk_ => ⟨hk_.1.1, hk_.1.2.1, hk_.1.2.2.1, hk_.1.2.2.2⟩)); replace BK133 := Aside0.mk (blk_kept (by (with_reducible repeat (first | refine blk_drewN ?_ _ | refine blk_drew ?_ | refine blk_alloc ?_ _)); exact BK133.out) hkp (fun hs_ => (fun e_ => (Kd.R_ne HO138.out BK133.out (by decide)) e_) hs_)); replace BK134 := Aside0.mk (blk_kept (by (with_reducible repeat (first | refine blk_drewN ?_ _ | refine blk_drew ?_ | refine blk_alloc ?_ _)); exact BK134.out) hkp (fun hs_ => (fun e_ => (Kd.R_ne HO138.out BK134.out (by decide)) e_) hs_)); replace HO138 := Aside0.mk (Kd.R_reok rfl hy0 (fun k_ e_ => HO138.out.1 k_ e_)); replace HB := Aside0.mk (hb); (try clear hb); (try clear hkp); (try clear hy0); obtain ⟨hcz29_0, hcz29_1, hcz29_2, hcz29_3, hcz29_4⟩ := Cb.c5 BK133.out; obtain ⟨hfz29_0, hfz29_1, hfz29_2, hfz29_3, hfz29_4⟩ := Cb.f5 BK133.out; obtain ⟨hcz30_0, hcz30_1, hcz30_2, hcz30_3, hcz30_4⟩ := Cb.c5 BK134.out; obtain ⟨hfz30_0, hfz30_1, hfz30_2, hfz30_3, hfz30_4⟩ := Cb.f5 BK134.out))
        refine bodyPost_ret (results_ct rfl _ _ gb134 26 #[.int .i64 a0_0, .slice (some ad139) t136.length co24, .slice A0_2 l0_2.length c0_2, .int .i64 a0_3, .int .u64 a0_4] (0, 0) _ rfl (by (with_reducible repeat (first | refine blk_drewN ?_ _ | refine blk_drew ?_ | refine blk_alloc ?_ _)); refine blk_put (cs := #[.int .i64 a0_0, .slice (some ad139) t136.length co24, .slice A0_2 l0_2.length c0_2, .int .i64 a0_3, .int .u64 0]) ?_ 4 _ rfl; refine blk_put (cs := #[.int .i64 a0_0, .slice (some ad139) t136.length co24, .slice A0_2 l0_2.length c0_2, .int .i64 0, .int .u64 0]) ?_ 3 _ rfl; refine blk_put (cs := #[.int .i64 a0_0, .slice (some ad139) t136.length co24, .slice none 0 0, .int .i64 0, .int .u64 0]) ?_ 2 _ rfl; refine blk_put (cs := #[.int .i64 a0_0, .slice none 0 0, .slice none 0 0, .int .i64 0, .int .u64 0]) ?_ 1 _ rfl; refine blk_put (cs := #[.int .i64 0, .slice none 0 0, .slice none 0 0, .int .i64 0, .int .u64 0]) ?_ 0 _ rfl; (with_reducible repeat (first | refine blk_drewN ?_ _ | refine blk_drew ?_ | refine blk_alloc ?_ _)); exact BK134.out) Try.underlying26 rfl (by kernel_rfl)) rfl ?_
        exact ⟨_, _, by first | rfl | (simp [errW_none, errW_some] <;> rfl) | (simp [*, errW_none, errW_some] <;> rfl), Kd.V_mono (Kd.R_V (by (with_reducible repeat (first | apply Kd.R_alloc | apply Kd.R_drewN | apply Kd.R_drew)); exact Kd.R_mono (Kd.R_far (p := ⟨gb134, 4, none⟩) (Kd.R_far (p := ⟨gb134, 3, none⟩) (Kd.R_far (p := ⟨gb134, 2, none⟩) (Kd.R_far (p := ⟨gb134, 1, none⟩) (Kd.R_far (p := ⟨gb134, 0, none⟩) (Kd.R_types HO138.out BK134.out (by decide)) (fun _ hk => hk.2) (.int .i64 a0_0)) (fun _ hk => hk.2) (.slice (some ad139) t136.length co24)) (fun _ hk => hk.2) (.slice A0_2 l0_2.length c0_2)) (fun _ hk => hk.2) (.int .i64 a0_3)) (fun _ hk => hk.2) (.int .u64 a0_4)) (fun _ hk => hk.1))) (fun k_ hk => by first | exact ⟨(.inr (hk.1)), hk.2⟩ | exact (.inr (hk))), by (with_reducible repeat (first | apply Kd.V_alloc | apply Kd.V_drewN | apply Kd.V_drew)); exact Kd.V_mono (Kd.V_far (p := ⟨gb134, 4, none⟩) (Kd.V_far (p := ⟨gb134, 3, none⟩) (Kd.V_far (p := ⟨gb134, 2, none⟩) (Kd.V_far (p := ⟨gb134, 1, none⟩) (Kd.V_far (p := ⟨gb134, 0, none⟩) (Kd.V_mono HO0_2.out (fun k_ hk => (⟨hk, hk.2.2.2⟩ : _ ∧ k_ ≠ gb134))) (fun _ hk => hk.2) (.int .i64 a0_0)) (fun _ hk => hk.2) (.slice (some ad139) t136.length co24)) (fun _ hk => hk.2) (.slice A0_2 l0_2.length c0_2)) (fun _ hk => hk.2) (.int .i64 a0_3)) (fun _ hk => hk.2) (.int .u64 a0_4)) (fun _ hk => hk.1.1), by repeat (first | (with_reducible first | exact HB.out | apply below_alloc | apply pw_below_drewN | apply below_drew1 | refine below_set ?_ GE133.out | refine below_set ?_ GE134.out) | exact HB.out)⟩
      · rw [if_neg c15] at H
        exact absurd H (by simp)
    · rw [if_neg c14] at H
      exact absurd H (by simp)
/-! ### session_with_Answer: function 38 -/
set_option maxHeartbeats 8000000 in
set_option maxRecDepth 100000 in
theorem session_with_Answer_at.calls {B n cap : Nat} {ad : Addr} {w0 : World} {u9000_ : Value} {a2 : ByteArray} (hcap : w0.cell? ⟨B, 0, none⟩ = some (.string a2)) (hu : u9000_ = .slice (some ad) n cap) (P0_ : Nat → Prop) (l0 : List S42) (a1 : Int) (r : List S42) (w : World) (hB : Below w0.heap.size w0 w) (ho0 : Kd.R k42 42 w w0.heap.size P0_ u9000_ l0) (h : session_with_Answer_at.f l0 a1 a2 = some r) :
    Calls Try.prog 41 #[.pointer (some (ad.add (a1.toNat * 6))), .pointer (some ⟨B, 0, none⟩)] w fun e w' => e = .returned (.tuple #[]) ∧ Kd.R k42 42 w' w0.heap.size (fun k_ => (P0_ k_ ∨ w.heap.size ≤ k_)) u9000_ r ∧ Below w0.heap.size w0 w' ∧ Kept w w' (fun k_ => P0_ k_) := by
  have hu42 := Try.underlying42
  unfold session_with_Answer_at.f at h
  by_cases h0 : 0 ≤ a1
  rotate_left
  · rw [if_neg h0] at h; exact absurd h (by simp)
  rw [if_pos h0] at h
  by_cases h1 : a1 < (l0.length : Int)
  rotate_left
  · rw [if_neg h1] at h; exact absurd h (by simp)
  rw [if_pos h1] at h
  obtain rfl := Option.some.inj h
  clear h
  subst hu
  obtain ⟨g, c_, eg, _, _⟩ := row_form42 ho0 (by omega)
  injection eg with eg _ ec
  subst ec
  injection eg with eg
  subst eg
  obtain ⟨rfl, _, hC⟩ := Kd.R_reads' ho0
  rw [show (⟨g, 0, none⟩ : Addr).add (a1.toNat * 6) = ⟨g, a1.toNat * 6, none⟩ from by rw [Addr.add_lit, Nat.zero_add]]
  have HC := Aside0.mk (row_cells42 hC a1 h0 h1)
  have hlt := World.block_lt_of_cell? w0 _ hcap
  have hge : w0.heap.size ≤ g := Kd.R_base ho0 g (by simp [Value.ownBlock])
  have HS := Aside0.mk (ho0.1 g (by simp [Value.ownBlock]))
  have hk0 : w.cell? ⟨B, 0, none⟩ = some (.string a2) := (hB.cell hlt).trans hcap
  have R0 := Aside0.mk ho0
  have HB := Aside0.mk hB
  have HCAP := Aside0.mk hcap
  clear ho0 hB hcap hC
  go_enter Try.func41, Try.ntmps41
  refine start_ (n := 9) (S := fun w' => w'.cell? ⟨B, 0, none⟩ = some (.string a2)) (ds := []) #[false, false, false, false, false, false, false, false, false] (by kernel_rfl) rfl rfl hk0 (fun hHeld => ?_)
  have R1 := Aside0.mk (Kd.R_drew R0.out)
  have B1 := Aside0.mk (below_drew1 HB.out)
  have KD := Aside0.mk (show Kept w w.drew (fun k_ => P0_ k_) from ⟨Nat.le_refl _, fun _ _ _ => rfl⟩)
  have HC1 : Aside0 (∀ j u, (flc42 (rd_T42 l0 a1))[j]? = some u → w.drew.cell? ⟨g, a1.toNat * 6 + j, none⟩ = some u) := ⟨HC.out⟩
  clear R0 HB HC hk0
  generalize w.drew = wd at R1 B1 KD HC1 hHeld ⊢
  refine pure_ (i := 0) (N := some 3) (v := ?_) (a' := ?_) #[true, false, false, false, false, false, false, false, false] rfl rfl (by kernel_rfl) (fun _ _ _ h => h) (Or.inl ⟨by rfl, ?_⟩) ?_ ?_
  rotate_left
  · intro w'
    go_simp
    with_reducible rfl
  rotate_left
  · simp only [Act.put, List.setIfInBounds_toArray, List.set_cons_zero, List.set_cons_succ, i64_w, i32_w]
    rfl
  refine pure_ (i := 1) (N := some 4) (v := ?_) (a' := ?_) #[true, true, false, false, false, false, false, false, false] rfl rfl (by kernel_rfl) (fun _ _ _ h => h) (Or.inl ⟨by rfl, ?_⟩) ?_ ?_
  rotate_left
  · intro w'
    go_simp
    with_reducible rfl
  rotate_left
  · simp only [Act.put, List.setIfInBounds_toArray, List.set_cons_zero, List.set_cons_succ, i64_w, i32_w]
    rfl
  refine take_ (i := 2) (N := some 5) (v := ?_) (a' := ?_) #[true, true, true, false, false, false, false, false, false] rfl rfl (by kernel_rfl) (fun _ _ _ h => h) (Or.inl ⟨by rfl, ?_⟩) hHeld ?_ ?_
  rotate_left
  · intro w' s0
    go_simp
    with_reducible rfl
  rotate_left
  · simp only [Act.put, List.setIfInBounds_toArray, List.set_cons_zero, List.set_cons_succ, i64_w, i32_w]
    rfl
  refine pure_ (i := 3) (N := some 6) (v := ?_) (a' := ?_) #[true, true, true, true, false, false, false, false, false] rfl rfl (by kernel_rfl) (fun _ _ _ h => h) (Or.inl ⟨by rfl, ?_⟩) ?_ ?_
  rotate_left
  · intro w'
    go_simp
    with_reducible rfl
  rotate_left
  · simp only [Act.put, List.setIfInBounds_toArray, List.set_cons_zero, List.set_cons_succ, i64_w, i32_w]
    rfl
  refine pure_ (i := 4) (N := some 7) (v := ?_) (a' := ?_) #[true, true, true, true, true, false, false, false, false] rfl rfl (by kernel_rfl) (fun _ _ _ h => h) (Or.inl ⟨by rfl, ?_⟩) ?_ ?_
  rotate_left
  · intro w'
    go_simp
    with_reducible rfl
  rotate_left
  · simp only [Act.put, List.setIfInBounds_toArray, List.set_cons_zero, List.set_cons_succ, i64_w, i32_w]
    rfl
  refine one_ (i := 5) (N := none) #[true, true, true, true, true, true, false, false, false] rfl rfl (by kernel_rfl) (by decide) (fun K hK => ?_)
  (refine R_store_k k42 (w0 := w0) w0.heap.size rfl rfl 4 (.tmp 7) (.const (.bool false)) rfl 42 a1 2 l0 (⟨(rd_T42 l0 a1).f0, (rd_T42 l0 a1).f1, false, (rd_T42 l0 a1).f3, (rd_T42 l0 a1).f4, (rd_T42 l0 a1).f5⟩ : S42) (.bool false) [.bool false] (flc42 (rd_T42 l0 a1)) P0_ (fun _ => False) rfl ?so rfl rfl (by kernel_rfl) ?s1 R1.out h0 ?sl rfl HC1.out (by show 2 + 1 ≤ 6; decide) ?s2 (fun _ hk => hk.elim) B1.out ?_; (case so => first | rfl | simp); (case s1 => intro q hq; simp only [List.mem_cons, List.not_mem_nil, or_false] at hq; subst hq; rfl); (case sl => first | exact h1 | (simp only [List.length_set]; exact h1)); (case s2 => exact k42_mkM _ _ _ _); intro w3 hr3 hb3 hg3; have K8w3 := Aside0.mk hr3; have K9w3 := Aside0.mk hb3; have K10w3 := Aside0.mk hg3; clear hr3 hb3 hg3)
  have hk1 : w3.cell? ⟨B, 0, none⟩ = some (.string a2) := (K9w3.out.cell hlt).trans HCAP.out
  refine hK.out _ _ hk1 (fun hHeld => ?_)
  clear hK K
  have hCw3 := row_cells42 (Kd.R_reads' K8w3.out).2.2 a1 h0 (by first | exact h1 | (simp only [List.length_set]; exact h1))
  rw [set_at_42 _ _ _ h0 (by first | exact h1 | (simp only [List.length_set]; exact h1))] at hCw3
  have HCw3 := Aside0.mk hCw3
  clear hCw3
  refine pure_ (i := 6) (N := some 8) (v := ?_) (a' := ?_) #[true, true, true, true, true, true, true, false, false] rfl rfl (by kernel_rfl) (fun _ _ _ h => h) (Or.inl ⟨by rfl, ?_⟩) ?_ ?_
  rotate_left
  · intro w'
    go_simp
    with_reducible rfl
  rotate_left
  · simp only [Act.put, List.setIfInBounds_toArray, List.set_cons_zero, List.set_cons_succ, i64_w, i32_w]
    rfl
  refine pure_ (i := 7) (N := some 9) (v := ?_) (a' := ?_) #[true, true, true, true, true, true, true, true, false] rfl rfl (by kernel_rfl) (fun _ _ _ h => h) (Or.inl ⟨by rfl, ?_⟩) ?_ ?_
  rotate_left
  · intro w'
    go_simp
    with_reducible rfl
  rotate_left
  · simp only [Act.put, List.setIfInBounds_toArray, List.set_cons_zero, List.set_cons_succ, i64_w, i32_w]
    rfl
  refine one_ (i := 8) (N := none) #[true, true, true, true, true, true, true, true, true] rfl rfl (by kernel_rfl) (by decide) (fun K hK => ?_)
  (refine R_store_k k42 (w0 := w0) w0.heap.size rfl rfl 9 (.tmp 9) (.tmp 5) rfl 42 a1 3 (l0.set a1.toNat (⟨(rd_T42 l0 a1).f0, (rd_T42 l0 a1).f1, false, (rd_T42 l0 a1).f3, (rd_T42 l0 a1).f4, (rd_T42 l0 a1).f5⟩ : S42)) (⟨(rd_T42 l0 a1).f0, (rd_T42 l0 a1).f1, false, a2, (rd_T42 l0 a1).f4, (rd_T42 l0 a1).f5⟩ : S42) (.string a2) [.string a2] (flc42 (⟨(rd_T42 l0 a1).f0, (rd_T42 l0 a1).f1, false, (rd_T42 l0 a1).f3, (rd_T42 l0 a1).f4, (rd_T42 l0 a1).f5⟩ : S42)) P0_ (fun _ => False) rfl ?so rfl rfl (by kernel_rfl) ?s1 K8w3.out h0 ?sl rfl HCw3.out (by show 3 + 1 ≤ 6; decide) ?s2 (fun _ hk => hk.elim) K9w3.out ?_; (case so => first | rfl | simp); (case s1 => intro q hq; simp only [List.mem_cons, List.not_mem_nil, or_false] at hq; subst hq; rfl); (case sl => first | exact h1 | (simp only [List.length_set]; exact h1)); (case s2 => exact k42_mkM _ _ _ _); intro w4 hr3 hb3 hg3; have K8w4 := Aside0.mk hr3; have K9w4 := Aside0.mk hb3; have K10w4 := Aside0.mk hg3; clear hr3 hb3 hg3)
  have hk1 : w4.cell? ⟨B, 0, none⟩ = some (.string a2) := (K9w4.out.cell hlt).trans HCAP.out
  refine hK.out _ _ hk1 (fun hHeld => ?_)
  clear hK K
  refine done_ (by kernel_rfl) ?_
  try go_wp2
  first | go_end0 | ((try simp only [Exit.inBlock, Exit.then]); refine bodyPost_ret (results_none rfl _ _ _) rfl ?_)
  refine ⟨rfl, ?_, K9w4.out, kept_trans_ KD.out (kept_trans_ (kept_grown_ K10w3.out HS.out) (kept_grown_ K10w4.out HS.out))⟩
  have hr := Kd.R_mono K8w4.out (ok' := fun k_ => P0_ k_ ∨ w.heap.size ≤ k_) (fun _ hk => .inl hk)
  rw [List.set_set] at hr
  exact hr
set_option maxHeartbeats 8000000 in
set_option maxRecDepth 100000 in
theorem session_with_Answer.calls {B : Nat} (a0_0 : Int) (P0_1_ : Nat → Prop) (A0_1 : Option Addr) (c0_1 : Nat) (l0_1 : List (S42)) (P0_2_ : Nat → Prop) (A0_2 : Option Addr) (c0_2 : Nat) (l0_2 : List (S85)) (a0_3 : Int) (a0_4 : Int) (a1 : Int) (a2 : ByteArray) (r1 : Int) (r2 : List (S42)) (r3 : List (S85)) (r4 : Int) (r5 : Int) (r6 : Int) (w : World) (hcap : w.cell? ⟨B, 0, none⟩ = some (.string a2)) (hs0_1 : Kd.V k42 42 w w.heap.size (fun k_ => P0_1_ k_) (.slice A0_1 l0_1.length c0_1) l0_1) (hs0_2 : Kd.V k85 85 w w.heap.size (fun k_ => P0_2_ k_) (.slice A0_2 l0_2.length c0_2) l0_2) (h : session_with_Answer.f a0_0 l0_1 l0_2 a0_3 a0_4 a1 a2 = some (r1, r2, r3, r4, r5, r6)) :
    Calls Try.prog 38 #[.agg #[.int .i64 a0_0, .slice A0_1 l0_1.length c0_1, .slice A0_2 l0_2.length c0_2, .int .i64 a0_3, .int .u64 a0_4], .int .i64 a1, .func (.func 41) #[] #[.pointer (some ⟨B, 0, none⟩)]] w fun e w' => ∃ v1_ v2_ : Value, e = .returned (.tuple #[.agg #[.int .i64 r1, v1_, v2_, .int .i64 r4, .int .u64 r5], .int .i64 r6]) ∧ Kd.V k42 42 w' w.heap.size (fun k_ => ((P0_1_ k_ ∨ P0_2_ k_) ∨ w.heap.size ≤ k_)) v1_ r2 ∧ Kd.V k85 85 w' w.heap.size (fun k_ => ((P0_1_ k_ ∨ P0_2_ k_) ∨ w.heap.size ≤ k_)) v2_ r3 ∧ Below w.heap.size w w' := by
  have hu26 := Try.underlying26
  have HO0_1 := Aside0.mk (show Kd.V k42 42 w w.heap.size (fun k_ => ((P0_1_ k_ ∨ P0_2_ k_) ∨ w.heap.size ≤ k_)) (.slice A0_1 l0_1.length c0_1) l0_1 from Kd.V_mono hs0_1 (fun k_ hk => .inl (.inl hk)))
  have HO0_2 := Aside0.mk (show Kd.V k85 85 w w.heap.size (fun k_ => ((P0_1_ k_ ∨ P0_2_ k_) ∨ w.heap.size ≤ k_)) (.slice A0_2 l0_2.length c0_2) l0_2 from Kd.V_mono hs0_2 (fun k_ hk => .inl (.inr hk)))
  have HB := Aside0.mk (Below.refl w.heap.size w)
  have HCAP := Aside0.mk hcap
  clear hcap
  have H : ((session_at.f a0_0 l0_1 l0_2 a0_3 a0_4 a1).bind fun t143 => (if t143 < 0 then (some (a0_0, l0_1, l0_2, a0_3, a0_4, 7)) else ((api_Session_48.f l0_1).bind fun t144 => (if 0 ≤ t143 then (if t143 < (t144.length : Int) then ((session_with_Answer_at.f t144 t143 a2).bind fun t148 => (some (a0_0, t148, l0_2, a0_3, a0_4, 0))) else (none)) else (none))))) = some (r1, r2, r3, r4, r5, r6) := h
  clear h
  replace H := Option.bind_eq_some_iff.mp H
  obtain ⟨t143, A40, H⟩ := H
  replace H : (if t143 < 0 then (some (a0_0, l0_1, l0_2, a0_3, a0_4, 7)) else ((api_Session_48.f l0_1).bind fun t144 => (if 0 ≤ t143 then (if t143 < (t144.length : Int) then ((session_with_Answer_at.f t144 t143 a2).bind fun t148 => (some (a0_0, t148, l0_2, a0_3, a0_4, 0))) else (none)) else (none)))) = some (r1, r2, r3, r4, r5, r6) := H
  have A4 := Aside0.mk A40
  clear A40
  by_cases c5 : t143 < 0
  · rw [if_pos c5] at H
    have c5b0 : decide (t143 < 0) = true := decide_eq_true c5
    clear c5
    simp only [Option.some.injEq, Prod.mk.injEq] at H
    obtain ⟨rfl, rfl, rfl, rfl, rfl, rfl⟩ := H
    go_enter Try.func38, Try.ntmps38
    go_wp2_with (first | ((with_reducible refine gate_dst (N := 3) rfl ?_); refine box_event ?hg (N := 3) ?hd (cs := #[.int .i64 a0_0, .slice A0_1 l0_1.length c0_1, .slice A0_2 l0_2.length c0_2, .int .i64 a0_3, .int .u64 a0_4]) (t := 26) ?hr ?_; (case hd => rfl); (case hg => rfl); (case hr => first | (go_simp; done) | (go_simp; rfl)); intro gb141 hg w6 hbox hb; obtain ⟨n_, GE141⟩ := Cb.bx (by repeat (first | (with_reducible first | exact HB.out | apply below_alloc | apply pw_below_drewN | apply below_drew1) | exact HB.out)) hg hb; have GW141 := GE141; have BK141 := Aside0.mk (hbox); replace HO0_1 := Aside0.mk (Kd.V_below (Kd.V_elderB (by (with_reducible repeat (first | apply Kd.V_alloc | apply Kd.V_drewN | apply Kd.V_drew)); exact HO0_1.out) gb141 (Nat.le_of_eq hg.symm)) hb); replace HO0_2 := Aside0.mk (Kd.V_below (Kd.V_elderB (by (with_reducible repeat (first | apply Kd.V_alloc | apply Kd.V_drewN | apply Kd.V_drew)); exact HO0_2.out) gb141 (Nat.le_of_eq hg.symm)) hb); replace HB := n_; clear n_; clear hb hbox hg) | ((with_reducible refine gate_dst (N := 6) rfl ?_); refine box_event ?hg (N := 6) ?hd (cs := #[.int .i64 0, .slice none 0 0, .slice none 0 0, .int .i64 0, .int .u64 0]) (t := 26) ?hr ?_; (case hd => rfl); (case hg => rfl); (case hr => first | (go_simp; done) | (go_simp; rfl)); intro gb142 hg w7 hbox hb; obtain ⟨n_, GE142⟩ := Cb.bx (by repeat (first | (with_reducible first | exact HB.out | apply below_alloc | apply pw_below_drewN | apply below_drew1 | refine below_set ?_ GE141.out) | exact HB.out)) hg hb; have GW142 := GE142; obtain ⟨NB141_142, NB142_141⟩ := Cb.nb hg BK141.out; have BK142 := Aside0.mk (hbox); replace HO0_1 := Aside0.mk (Kd.V_below (Kd.V_elderB (by (with_reducible repeat (first | apply Kd.V_alloc | apply Kd.V_drewN | apply Kd.V_drew)); exact HO0_1.out) gb142 (Nat.le_of_eq hg.symm)) hb); replace HO0_2 := Aside0.mk (Kd.V_below (Kd.V_elderB (by (with_reducible repeat (first | apply Kd.V_alloc | apply Kd.V_drewN | apply Kd.V_drew)); exact HO0_2.out) gb142 (Nat.le_of_eq hg.symm)) hb); replace BK141 := Aside0.mk (blk_below BK141.out hb); replace HB := n_; clear n_; clear hb hbox hg; have hnb8 := NB141_142.out; have hnc8 := NB142_141.out; obtain ⟨hcz9_0, hcz9_1, hcz9_2, hcz9_3, hcz9_4⟩ := Cb.c5 BK141.out; obtain ⟨hfz9_0, hfz9_1, hfz9_2, hfz9_3, hfz9_4⟩ := Cb.f5 BK141.out) | ((with_reducible refine gate_callee (f := 43) rfl ?_); refine goesL_ (some 11) rfl rfl Try.func43 (by kernel_rfl) rfl #[.agg #[.int .i64 a0_0, .slice A0_1 l0_1.length c0_1, .slice A0_2 l0_2.length c0_2, .int .i64 a0_3, .int .u64 a0_4], .int .i64 a1] rfl (by (try simp only [List.map_toArray, List.map_cons, List.map_nil]); first | done | rfl | (simp only [List.length_drop, List.length_take]; rfl)) ?_; (with_reducible refine (session_at.calls a0_0 _ _ l0_1 _ _ l0_2 a0_3 a0_4 a1 t143 _ ?side1 ?side2 ?side3 ?side4 A4.out).mono ?_); (case side1 => repeat (first | exact (Kd.V_reads' HO0_1.out).2.2 | (with_reducible refine Kd.C_alloc ?_ _) | (with_reducible refine Kd.C_drewN ?_ _) | (with_reducible refine Kd.C_drew ?_))); (case side2 => exact (Kd.V_reads' HO0_1.out).2.1); (case side3 => repeat (first | exact (Kd.V_reads' HO0_2.out).2.2 | (with_reducible refine Kd.C_alloc ?_ _) | (with_reducible refine Kd.C_drewN ?_ _) | (with_reducible refine Kd.C_drew ?_))); (case side4 => exact (Kd.V_reads' HO0_2.out).2.1); rintro e w10 ⟨rfl, hb⟩; refine ⟨_, rfl, ?_⟩; replace HO0_1 := Aside0.mk (Kd.V_below (by (with_reducible repeat (first | apply Kd.V_alloc | apply Kd.V_drewN | apply Kd.V_drew)); exact HO0_1.out) hb); replace HO0_2 := Aside0.mk (Kd.V_below (by (with_reducible repeat (first | apply Kd.V_alloc | apply Kd.V_drewN | apply Kd.V_drew)); exact HO0_2.out) hb); replace BK141 := Aside0.mk (blk_below BK141.out hb); replace BK142 := Aside0.mk (blk_below BK142.out hb); replace HB := Aside0.mk (below_step (by repeat (first | (with_reducible first | exact HB.out | apply below_alloc | apply pw_below_drewN | apply below_drew1 | refine below_set ?_ GE141.out | refine below_set ?_ GE142.out) | exact HB.out)) hb); (try clear hb); (try clear hb2); (try clear hk); (try clear hi); obtain ⟨hcz11_0, hcz11_1, hcz11_2, hcz11_3, hcz11_4⟩ := Cb.c5 BK141.out; obtain ⟨hfz11_0, hfz11_1, hfz11_2, hfz11_3, hfz11_4⟩ := Cb.f5 BK141.out; obtain ⟨hcz12_0, hcz12_1, hcz12_2, hcz12_3, hcz12_4⟩ := Cb.c5 BK142.out; obtain ⟨hfz12_0, hfz12_1, hfz12_2, hfz12_3, hfz12_4⟩ := Cb.f5 BK142.out))
    refine bodyPost_ret (results_ct rfl _ _ gb142 26 #[.int .i64 a0_0, .slice A0_1 l0_1.length c0_1, .slice A0_2 l0_2.length c0_2, .int .i64 a0_3, .int .u64 a0_4] (0, 0) _ rfl (by (with_reducible repeat (first | refine blk_drewN ?_ _ | refine blk_drew ?_ | refine blk_alloc ?_ _)); refine blk_put (cs := #[.int .i64 a0_0, .slice A0_1 l0_1.length c0_1, .slice A0_2 l0_2.length c0_2, .int .i64 a0_3, .int .u64 0]) ?_ 4 _ rfl; refine blk_put (cs := #[.int .i64 a0_0, .slice A0_1 l0_1.length c0_1, .slice A0_2 l0_2.length c0_2, .int .i64 0, .int .u64 0]) ?_ 3 _ rfl; refine blk_put (cs := #[.int .i64 a0_0, .slice A0_1 l0_1.length c0_1, .slice none 0 0, .int .i64 0, .int .u64 0]) ?_ 2 _ rfl; refine blk_put (cs := #[.int .i64 a0_0, .slice none 0 0, .slice none 0 0, .int .i64 0, .int .u64 0]) ?_ 1 _ rfl; refine blk_put (cs := #[.int .i64 0, .slice none 0 0, .slice none 0 0, .int .i64 0, .int .u64 0]) ?_ 0 _ rfl; (with_reducible repeat (first | refine blk_drewN ?_ _ | refine blk_drew ?_ | refine blk_alloc ?_ _)); exact BK142.out) Try.underlying26 rfl (by kernel_rfl)) rfl ?_
    exact ⟨_, _, by first | rfl | (simp [errW_none, errW_some] <;> rfl) | (simp [*, errW_none, errW_some] <;> rfl), by (with_reducible repeat (first | apply Kd.V_alloc | apply Kd.V_drewN | apply Kd.V_drew)); exact Kd.V_mono (Kd.V_far (p := ⟨gb142, 4, none⟩) (Kd.V_far (p := ⟨gb142, 3, none⟩) (Kd.V_far (p := ⟨gb142, 2, none⟩) (Kd.V_far (p := ⟨gb142, 1, none⟩) (Kd.V_far (p := ⟨gb142, 0, none⟩) (Kd.V_mono HO0_1.out (fun k_ hk => (⟨hk, hk.2⟩ : _ ∧ k_ ≠ gb142))) (fun _ hk => hk.2) (.int .i64 a0_0)) (fun _ hk => hk.2) (.slice A0_1 l0_1.length c0_1)) (fun _ hk => hk.2) (.slice A0_2 l0_2.length c0_2)) (fun _ hk => hk.2) (.int .i64 a0_3)) (fun _ hk => hk.2) (.int .u64 a0_4)) (fun _ hk => hk.1.1.1), by (with_reducible repeat (first | apply Kd.V_alloc | apply Kd.V_drewN | apply Kd.V_drew)); exact Kd.V_mono (Kd.V_far (p := ⟨gb142, 4, none⟩) (Kd.V_far (p := ⟨gb142, 3, none⟩) (Kd.V_far (p := ⟨gb142, 2, none⟩) (Kd.V_far (p := ⟨gb142, 1, none⟩) (Kd.V_far (p := ⟨gb142, 0, none⟩) (Kd.V_mono HO0_2.out (fun k_ hk => (⟨hk, hk.2⟩ : _ ∧ k_ ≠ gb142))) (fun _ hk => hk.2) (.int .i64 a0_0)) (fun _ hk => hk.2) (.slice A0_1 l0_1.length c0_1)) (fun _ hk => hk.2) (.slice A0_2 l0_2.length c0_2)) (fun _ hk => hk.2) (.int .i64 a0_3)) (fun _ hk => hk.2) (.int .u64 a0_4)) (fun _ hk => hk.1.1.1), by repeat (first | (with_reducible first | exact HB.out | apply below_alloc | apply pw_below_drewN | apply below_drew1 | refine below_set ?_ GE141.out | refine below_set ?_ GE142.out) | exact HB.out)⟩
  · rw [if_neg c5] at H
    have c5b0 : decide (t143 < 0) = false := decide_eq_false c5
    clear c5
    replace H := Option.bind_eq_some_iff.mp H
    obtain ⟨t144, A130, H⟩ := H
    replace H : (if 0 ≤ t143 then (if t143 < (t144.length : Int) then ((session_with_Answer_at.f t144 t143 a2).bind fun t148 => (some (a0_0, t148, l0_2, a0_3, a0_4, 0))) else (none)) else (none)) = some (r1, r2, r3, r4, r5, r6) := H
    have A13 := Aside0.mk A130
    clear A130
    by_cases c14 : 0 ≤ t143
    · rw [if_pos c14] at H
      have c14b0 : decide (0 ≤ t143) = true := decide_eq_true c14
      clear c14
      by_cases c15 : t143 < (t144.length : Int)
      · rw [if_pos c15] at H
        have c15b0 : decide (t143 < (t144.length : Int)) = true := decide_eq_true c15
        clear c15
        replace H := Option.bind_eq_some_iff.mp H
        obtain ⟨t148, A160, H⟩ := H
        replace H : (some (a0_0, t148, l0_2, a0_3, a0_4, 0)) = some (r1, r2, r3, r4, r5, r6) := H
        have A16 := Aside0.mk A160
        clear A160
        simp only [Option.some.injEq, Prod.mk.injEq] at H
        obtain ⟨rfl, rfl, rfl, rfl, rfl, rfl⟩ := H
        go_enter Try.func38, Try.ntmps38
        go_wp2_with (first | ((with_reducible refine gate_dst (N := 3) rfl ?_); refine box_event ?hg (N := 3) ?hd (cs := #[.int .i64 a0_0, .slice A0_1 l0_1.length c0_1, .slice A0_2 l0_2.length c0_2, .int .i64 a0_3, .int .u64 a0_4]) (t := 26) ?hr ?_; (case hd => rfl); (case hg => rfl); (case hr => first | (go_simp; done) | (go_simp; rfl)); intro gb141 hg w17 hbox hb; obtain ⟨n_, GE141⟩ := Cb.bx (by repeat (first | (with_reducible first | exact HB.out | apply below_alloc | apply pw_below_drewN | apply below_drew1) | exact HB.out)) hg hb; have GW141 := GE141; have BK141 := Aside0.mk (hbox); replace HO0_1 := Aside0.mk (Kd.V_below (Kd.V_elderB (by (with_reducible repeat (first | apply Kd.V_alloc | apply Kd.V_drewN | apply Kd.V_drew)); exact HO0_1.out) gb141 (Nat.le_of_eq hg.symm)) hb); replace HO0_2 := Aside0.mk (Kd.V_below (Kd.V_elderB (by (with_reducible repeat (first | apply Kd.V_alloc | apply Kd.V_drewN | apply Kd.V_drew)); exact HO0_2.out) gb141 (Nat.le_of_eq hg.symm)) hb); replace HB := n_; clear n_; clear hb hbox hg) | ((with_reducible refine gate_dst (N := 6) rfl ?_); refine box_event ?hg (N := 6) ?hd (cs := #[.int .i64 0, .slice none 0 0, .slice none 0 0, .int .i64 0, .int .u64 0]) (t := 26) ?hr ?_; (case hd => rfl); (case hg => rfl); (case hr => first | (go_simp; done) | (go_simp; rfl)); intro gb142 hg w18 hbox hb; obtain ⟨n_, GE142⟩ := Cb.bx (by repeat (first | (with_reducible first | exact HB.out | apply below_alloc | apply pw_below_drewN | apply below_drew1 | refine below_set ?_ GE141.out) | exact HB.out)) hg hb; have GW142 := GE142; obtain ⟨NB141_142, NB142_141⟩ := Cb.nb hg BK141.out; have BK142 := Aside0.mk (hbox); replace HO0_1 := Aside0.mk (Kd.V_below (Kd.V_elderB (by (with_reducible repeat (first | apply Kd.V_alloc | apply Kd.V_drewN | apply Kd.V_drew)); exact HO0_1.out) gb142 (Nat.le_of_eq hg.symm)) hb); replace HO0_2 := Aside0.mk (Kd.V_below (Kd.V_elderB (by (with_reducible repeat (first | apply Kd.V_alloc | apply Kd.V_drewN | apply Kd.V_drew)); exact HO0_2.out) gb142 (Nat.le_of_eq hg.symm)) hb); replace BK141 := Aside0.mk (blk_below BK141.out hb); replace HB := n_; clear n_; clear hb hbox hg; have hnb19 := NB141_142.out; have hnc19 := NB142_141.out; obtain ⟨hcz20_0, hcz20_1, hcz20_2, hcz20_3, hcz20_4⟩ := Cb.c5 BK141.out; obtain ⟨hfz20_0, hfz20_1, hfz20_2, hfz20_3, hfz20_4⟩ := Cb.f5 BK141.out) | ((with_reducible refine gate_callee (f := 43) rfl ?_); refine goesL_ (some 11) rfl rfl Try.func43 (by kernel_rfl) rfl #[.agg #[.int .i64 a0_0, .slice A0_1 l0_1.length c0_1, .slice A0_2 l0_2.length c0_2, .int .i64 a0_3, .int .u64 a0_4], .int .i64 a1] rfl (by (try simp only [List.map_toArray, List.map_cons, List.map_nil]); first | done | rfl | (simp only [List.length_drop, List.length_take]; rfl)) ?_; (with_reducible refine (session_at.calls a0_0 _ _ l0_1 _ _ l0_2 a0_3 a0_4 a1 t143 _ ?side1 ?side2 ?side3 ?side4 A4.out).mono ?_); (case side1 => repeat (first | exact (Kd.V_reads' HO0_1.out).2.2 | (with_reducible refine Kd.C_alloc ?_ _) | (with_reducible refine Kd.C_drewN ?_ _) | (with_reducible refine Kd.C_drew ?_))); (case side2 => exact (Kd.V_reads' HO0_1.out).2.1); (case side3 => repeat (first | exact (Kd.V_reads' HO0_2.out).2.2 | (with_reducible refine Kd.C_alloc ?_ _) | (with_reducible refine Kd.C_drewN ?_ _) | (with_reducible refine Kd.C_drew ?_))); (case side4 => exact (Kd.V_reads' HO0_2.out).2.1); rintro e w21 ⟨rfl, hb⟩; refine ⟨_, rfl, ?_⟩; replace HO0_1 := Aside0.mk (Kd.V_below (by (with_reducible repeat (first | apply Kd.V_alloc | apply Kd.V_drewN | apply Kd.V_drew)); exact HO0_1.out) hb); replace HO0_2 := Aside0.mk (Kd.V_below (by (with_reducible repeat (first | apply Kd.V_alloc | apply Kd.V_drewN | apply Kd.V_drew)); exact HO0_2.out) hb); replace BK141 := Aside0.mk (blk_below BK141.out hb); replace BK142 := Aside0.mk (blk_below BK142.out hb); replace HB := Aside0.mk (below_step (by repeat (first | (with_reducible first | exact HB.out | apply below_alloc | apply pw_below_drewN | apply below_drew1 | refine below_set ?_ GE141.out | refine below_set ?_ GE142.out) | exact HB.out)) hb); (try clear hb); (try clear hb2); (try clear hk); (try clear hi); obtain ⟨hcz22_0, hcz22_1, hcz22_2, hcz22_3, hcz22_4⟩ := Cb.c5 BK141.out; obtain ⟨hfz22_0, hfz22_1, hfz22_2, hfz22_3, hfz22_4⟩ := Cb.f5 BK141.out) | ((with_reducible refine gate_callee (f := 48) rfl ?_); refine goesL_ (some 17) rfl rfl Try.func48 (by kernel_rfl) rfl #[.slice A0_1 l0_1.length c0_1] rfl (by (try simp only [List.map_toArray, List.map_cons, List.map_nil]); first | done | rfl | (simp only [List.length_drop, List.length_take]; rfl)) ?_; (with_reducible refine (api_Session_48.calls _ _ l0_1 t144 _ ?side1 ?side2 A13.out).mono ?_); (case side1 => repeat (first | exact (Kd.V_reads' HO0_1.out).2.2 | (with_reducible refine Kd.C_alloc ?_ _) | (with_reducible refine Kd.C_drewN ?_ _) | (with_reducible refine Kd.C_drew ?_))); (case side2 => exact (Kd.V_reads' HO0_1.out).2.1); rintro e w23 ⟨v145, rfl, ho0, hb⟩; refine ⟨_, rfl, ?_⟩; have HO146 := Aside0.mk (Kd.R_lower (Kd.R_newM (M := fun k_ => (w.heap.size ≤ k_)) ho0 (below_size (by repeat (first | (with_reducible first | exact HB.out | apply below_alloc | apply pw_below_drewN | apply below_drew1 | refine below_set ?_ GE141.out | refine below_set ?_ GE142.out) | exact HB.out))) (fun k_ h_ => h_)) (below_size (by repeat (first | (with_reducible first | exact HB.out | apply below_alloc | apply pw_below_drewN | apply below_drew1 | refine below_set ?_ GE141.out | refine below_set ?_ GE142.out) | exact HB.out)))); replace HO0_1 := Aside0.mk (Kd.V_elder' (by (with_reducible repeat (first | apply Kd.V_alloc | apply Kd.V_drewN | apply Kd.V_drew)); exact HO0_1.out) (Kd.R_base ho0) hb); replace HO0_2 := Aside0.mk (Kd.V_elder' (by (with_reducible repeat (first | apply Kd.V_alloc | apply Kd.V_drewN | apply Kd.V_drew)); exact HO0_2.out) (Kd.R_base ho0) hb); replace BK141 := Aside0.mk (blk_below BK141.out hb); replace BK142 := Aside0.mk (blk_below BK142.out hb); replace HB := Aside0.mk (below_step (by repeat (first | (with_reducible first | exact HB.out | apply below_alloc | apply pw_below_drewN | apply below_drew1 | refine below_set ?_ GE141.out | refine below_set ?_ GE142.out) | exact HB.out)) hb); (try clear hb); (try clear hb2); (try clear hk); (try clear hi); (try clear ho0); obtain ⟨Ao24, co24, eo24⟩ := Kd.R_slice HO146.out; subst eo24; obtain ⟨hcz25_0, hcz25_1, hcz25_2, hcz25_3, hcz25_4⟩ := Cb.c5 BK141.out; obtain ⟨hfz25_0, hfz25_1, hfz25_2, hfz25_3, hfz25_4⟩ := Cb.f5 BK141.out) | ((with_reducible refine gate_store (t := 22) (p := 18) rfl ?_); refine store_event (t := 22) (p := 18) (v := ?vo_w26) (w1 := (w23.setCell ⟨gb141, 1, none⟩ (.slice Ao24 t144.length co24))) ?hg ?ho ?hn ?hr ?_; (case ho => rfl); (case hg => rfl); (case hn => rfl); (case hr => first | (go_simp; done) | (go_simp; rfl)); intro w26 hw; have n0_ : Aside0 (Kd.V k42 42 w26 w.heap.size (fun k_ => ((P0_1_ k_ ∨ P0_2_ k_) ∨ w.heap.size ≤ k_) ∧ some k_ ≠ (.slice Ao24 t144.length co24 : Value).ownBlock ∧ k_ ≠ gb141 ∧ k_ ≠ gb142) (.slice A0_1 l0_1.length c0_1) l0_1) := ⟨(by rw [hw]; exact (by (with_reducible repeat (first | apply Kd.V_alloc | apply Kd.V_drewN | apply Kd.V_drew)); exact Kd.V_mono (Kd.V_far (p := ⟨gb141, 1, none⟩) (Kd.V_mono HO0_1.out (fun k_ hk => (⟨hk, hk.1.1.2⟩ : _ ∧ k_ ≠ gb141))) (fun _ hk => hk.2) (.slice Ao24 t144.length co24)) (fun _ hk => ⟨hk.1.1.1.1, ⟨hk.1.2, ⟨hk.1.1.1.2, hk.1.1.2⟩⟩⟩)))⟩; have n1_ : Aside0 (Kd.V k85 85 w26 w.heap.size (fun k_ => ((P0_1_ k_ ∨ P0_2_ k_) ∨ w.heap.size ≤ k_) ∧ some k_ ≠ (.slice Ao24 t144.length co24 : Value).ownBlock ∧ k_ ≠ gb141 ∧ k_ ≠ gb142) (.slice A0_2 l0_2.length c0_2) l0_2) := ⟨(by rw [hw]; exact (by (with_reducible repeat (first | apply Kd.V_alloc | apply Kd.V_drewN | apply Kd.V_drew)); exact Kd.V_mono (Kd.V_far (p := ⟨gb141, 1, none⟩) (Kd.V_mono HO0_2.out (fun k_ hk => (⟨hk, hk.1.1.2⟩ : _ ∧ k_ ≠ gb141))) (fun _ hk => hk.2) (.slice Ao24 t144.length co24)) (fun _ hk => ⟨hk.1.1.1.1, ⟨hk.1.2, ⟨hk.1.1.1.2, hk.1.1.2⟩⟩⟩)))⟩; have n2_ : Aside0 (Kd.R k42 42 w26 w.heap.size (fun k_ => (w.heap.size ≤ k_)) (.slice Ao24 t144.length co24) t144) := ⟨(by rw [hw]; exact (by (with_reducible repeat (first | apply Kd.R_alloc | apply Kd.R_drewN | apply Kd.R_drew)); exact Kd.R_mono (Kd.R_far (p := ⟨gb141, 1, none⟩) (Kd.R_types HO146.out BK141.out (by decide)) (fun _ hk => hk.2) (.slice Ao24 t144.length co24)) (fun _ hk => hk.1.1)))⟩; have n3_ : Aside0 (w26.heap[gb141]? = some (.cells #[.int .i64 a0_0, .slice Ao24 t144.length co24, .slice A0_2 l0_2.length c0_2, .int .i64 a0_3, .int .u64 a0_4] 26 (0, 0))) := ⟨(by rw [hw]; exact (by (with_reducible repeat (first | refine blk_drewN ?_ _ | refine blk_drew ?_ | refine blk_alloc ?_ _)); refine blk_put (cs := #[.int .i64 a0_0, .slice A0_1 l0_1.length c0_1, .slice A0_2 l0_2.length c0_2, .int .i64 a0_3, .int .u64 a0_4]) ?_ 1 _ rfl; (with_reducible repeat (first | refine blk_drewN ?_ _ | refine blk_drew ?_ | refine blk_alloc ?_ _)); exact BK141.out))⟩; have n4_ : Aside0 (w26.heap[gb142]? = some (.cells #[.int .i64 0, .slice none 0 0, .slice none 0 0, .int .i64 0, .int .u64 0] 26 (0, 0))) := ⟨(by rw [hw]; exact (by (with_reducible repeat (first | refine blk_drewN ?_ _ | refine blk_drew ?_ | refine blk_alloc ?_ _)); refine blk_far ?_ NB142_141.out _; (with_reducible repeat (first | refine blk_drewN ?_ _ | refine blk_drew ?_ | refine blk_alloc ?_ _)); exact BK142.out))⟩; have n5_ : Aside0 (Below w.heap.size w w26) := ⟨(by rw [hw]; exact (by repeat (first | (with_reducible first | exact HB.out | apply below_alloc | apply pw_below_drewN | apply below_drew1 | refine below_set ?_ GE141.out | refine below_set ?_ GE142.out) | exact HB.out)))⟩; clear hw; clear HO0_1; clear HO0_2; clear HO146; clear BK141; clear BK142; clear HB; have HO0_1 := n0_; have HO0_2 := n1_; have HO146 := n2_; have BK141 := n3_; have BK142 := n4_; have HB := n5_; clear n0_ n1_ n2_ n3_ n4_ n5_; obtain ⟨hcz27_0, hcz27_1, hcz27_2, hcz27_3, hcz27_4⟩ := Cb.c5 BK141.out; obtain ⟨hfz27_0, hfz27_1, hfz27_2, hfz27_3, hfz27_4⟩ := Cb.f5 BK141.out; have p147 : 0 ≤ (t143 : Int) := of_decide_eq_true (by first | (with_reducible assumption) | assumption); have q147 : t143 < (t144.length : Int) := of_decide_eq_true (by first | (with_reducible assumption) | assumption); obtain ⟨ad147, e147, hx147_0, hx147_1, hx147_2, hx147_3, hx147_4, hx147_5⟩ := at_T42 (Kd.R_reads' HO146.out).2.2 t143 p147 q147; cases e147; replace p147 := eq_true p147; replace q147 := eq_true q147) | ((refine (session_with_Answer_at.calls HCAP.out (rfl : (.slice (some ad147) t144.length co24 : Value) = _) (fun k_ => some k_ = (.slice (some ad147) t144.length co24 : Value).ownBlock) t144 t143 t148 _ ?side1 ?side2 A16.out).mono ?_); (case side1 => repeat (first | (with_reducible first | exact HB.out | apply below_alloc | apply pw_below_drewN | apply below_drew1 | refine below_set ?_ GE141.out | refine below_set ?_ GE142.out) | exact HB.out)); (case side2 => exact Kd.R_tight rfl HO146.out); rintro e w28 ⟨rfl, hy0, hb, hkp⟩; replace HO0_1 := Aside0.mk (Kd.V_mono (ok' := fun k_ => ((P0_1_ k_ ∨ P0_2_ k_) ∨ w.heap.size ≤ k_) ∧ some k_ ≠ (.slice (some ad147) t144.length co24 : Value).ownBlock ∧ k_ ≠ gb141 ∧ k_ ≠ gb142) (Kd.V_keptB (HO0_1.out) hkp (fun k_ hk_ hs_ => (hk_.2.1) hs_)) (fun k_ hk_ => ⟨hk_.1.1, hk_.1.2.1, hk_.1.2.2.1, hk_.1.2.2.2⟩)); replace HO0_2 := Aside0.mk (Kd.V_mono (ok' := fun k_ => ((P0_1_ k_ ∨ P0_2_ k_) ∨ w.heap.size ≤ k_) ∧ some k_ ≠ (.slice (some ad147) t144.length co24 : Value).ownBlock ∧ k_ ≠ gb141 ∧ k_ ≠ gb142) (Kd.V_keptB (HO0_2.out) hkp (fun k_ hk_ hs_ => (hk_.2.1) hs_)) (fun k_ hk_ => ⟨hk_.1.1, hk_.1.2.1, hk_.1.2.2.1, hk_.1.2.2.2⟩)); replace BK141 := Aside0.mk (blk_kept (by (with_reducible repeat (first | refine blk_drewN ?_ _ | refine blk_drew ?_ | refine blk_alloc ?_ _)); exact BK141.out) hkp (fun hs_ => (fun e_ => (Kd.R_ne HO146.out BK141.out (by decide)) e_) hs_)); replace BK142 := Aside0.mk (blk_kept (by (with_reducible repeat (first | refine blk_drewN ?_ _ | refine blk_drew ?_ | refine blk_alloc ?_ _)); exact BK142.out) hkp (fun hs_ => (fun e_ => (Kd.R_ne HO146.out BK142.out (by decide)) e_) hs_)); replace HO146 := Aside0.mk (Kd.R_reok rfl hy0 (fun k_ e_ => HO146.out.1 k_ e_)); replace HB := Aside0.mk (hb); (try clear hb); (try clear hkp); (try clear hy0); obtain ⟨hcz29_0, hcz29_1, hcz29_2, hcz29_3, hcz29_4⟩ := Cb.c5 BK141.out; obtain ⟨hfz29_0, hfz29_1, hfz29_2, hfz29_3, hfz29_4⟩ := Cb.f5 BK141.out; obtain ⟨hcz30_0, hcz30_1, hcz30_2, hcz30_3, hcz30_4⟩ := Cb.c5 BK142.out; obtain ⟨hfz30_0, hfz30_1, hfz30_2, hfz30_3, hfz30_4⟩ := Cb.f5 BK142.out))
        refine bodyPost_ret (results_ct rfl _ _ gb142 26 #[.int .i64 a0_0, .slice (some ad147) t144.length co24, .slice A0_2 l0_2.length c0_2, .int .i64 a0_3, .int .u64 a0_4] (0, 0) _ rfl (by (with_reducible repeat (first | refine blk_drewN ?_ _ | refine blk_drew ?_ | refine blk_alloc ?_ _)); refine blk_put (cs := #[.int .i64 a0_0, .slice (some ad147) t144.length co24, .slice A0_2 l0_2.length c0_2, .int .i64 a0_3, .int .u64 0]) ?_ 4 _ rfl; refine blk_put (cs := #[.int .i64 a0_0, .slice (some ad147) t144.length co24, .slice A0_2 l0_2.length c0_2, .int .i64 0, .int .u64 0]) ?_ 3 _ rfl; refine blk_put (cs := #[.int .i64 a0_0, .slice (some ad147) t144.length co24, .slice none 0 0, .int .i64 0, .int .u64 0]) ?_ 2 _ rfl; refine blk_put (cs := #[.int .i64 a0_0, .slice none 0 0, .slice none 0 0, .int .i64 0, .int .u64 0]) ?_ 1 _ rfl; refine blk_put (cs := #[.int .i64 0, .slice none 0 0, .slice none 0 0, .int .i64 0, .int .u64 0]) ?_ 0 _ rfl; (with_reducible repeat (first | refine blk_drewN ?_ _ | refine blk_drew ?_ | refine blk_alloc ?_ _)); exact BK142.out) Try.underlying26 rfl (by kernel_rfl)) rfl ?_
        exact ⟨_, _, by first | rfl | (simp [errW_none, errW_some] <;> rfl) | (simp [*, errW_none, errW_some] <;> rfl), Kd.V_mono (Kd.R_V (by (with_reducible repeat (first | apply Kd.R_alloc | apply Kd.R_drewN | apply Kd.R_drew)); exact Kd.R_mono (Kd.R_far (p := ⟨gb142, 4, none⟩) (Kd.R_far (p := ⟨gb142, 3, none⟩) (Kd.R_far (p := ⟨gb142, 2, none⟩) (Kd.R_far (p := ⟨gb142, 1, none⟩) (Kd.R_far (p := ⟨gb142, 0, none⟩) (Kd.R_types HO146.out BK142.out (by decide)) (fun _ hk => hk.2) (.int .i64 a0_0)) (fun _ hk => hk.2) (.slice (some ad147) t144.length co24)) (fun _ hk => hk.2) (.slice A0_2 l0_2.length c0_2)) (fun _ hk => hk.2) (.int .i64 a0_3)) (fun _ hk => hk.2) (.int .u64 a0_4)) (fun _ hk => hk.1))) (fun k_ hk => by first | exact ⟨(.inr (hk.1)), hk.2⟩ | exact (.inr (hk))), by (with_reducible repeat (first | apply Kd.V_alloc | apply Kd.V_drewN | apply Kd.V_drew)); exact Kd.V_mono (Kd.V_far (p := ⟨gb142, 4, none⟩) (Kd.V_far (p := ⟨gb142, 3, none⟩) (Kd.V_far (p := ⟨gb142, 2, none⟩) (Kd.V_far (p := ⟨gb142, 1, none⟩) (Kd.V_far (p := ⟨gb142, 0, none⟩) (Kd.V_mono HO0_2.out (fun k_ hk => (⟨hk, hk.2.2.2⟩ : _ ∧ k_ ≠ gb142))) (fun _ hk => hk.2) (.int .i64 a0_0)) (fun _ hk => hk.2) (.slice (some ad147) t144.length co24)) (fun _ hk => hk.2) (.slice A0_2 l0_2.length c0_2)) (fun _ hk => hk.2) (.int .i64 a0_3)) (fun _ hk => hk.2) (.int .u64 a0_4)) (fun _ hk => hk.1.1), by repeat (first | (with_reducible first | exact HB.out | apply below_alloc | apply pw_below_drewN | apply below_drew1 | refine below_set ?_ GE141.out | refine below_set ?_ GE142.out) | exact HB.out)⟩
      · rw [if_neg c15] at H
        exact absurd H (by simp)
    · rw [if_neg c14] at H
      exact absurd H (by simp)
/-! ### session_with_Bind: function 38 -/
set_option maxHeartbeats 8000000 in
set_option maxRecDepth 100000 in
theorem session_with_Bind_at.calls {B n cap : Nat} {ad : Addr} {w0 : World} {u9000_ : Value} {a2 : Int} (hcap : w0.cell? ⟨B, 0, none⟩ = some (.int .i64 a2)) (hu : u9000_ = .slice (some ad) n cap) (P0_ : Nat → Prop) (l0 : List S42) (a1 : Int) (r : List S42) (w : World) (hB : Below w0.heap.size w0 w) (ho0 : Kd.R k42 42 w w0.heap.size P0_ u9000_ l0) (h : session_with_Bind_at.f l0 a1 a2 = some r) :
    Calls Try.prog 46 #[.pointer (some (ad.add (a1.toNat * 6))), .pointer (some ⟨B, 0, none⟩)] w fun e w' => e = .returned (.tuple #[]) ∧ Kd.R k42 42 w' w0.heap.size (fun k_ => (P0_ k_ ∨ w.heap.size ≤ k_)) u9000_ r ∧ Below w0.heap.size w0 w' ∧ Kept w w' (fun k_ => P0_ k_) := by
  have hu42 := Try.underlying42
  unfold session_with_Bind_at.f at h
  by_cases h0 : 0 ≤ a1
  rotate_left
  · rw [if_neg h0] at h; exact absurd h (by simp)
  rw [if_pos h0] at h
  by_cases h1 : a1 < (l0.length : Int)
  rotate_left
  · rw [if_neg h1] at h; exact absurd h (by simp)
  rw [if_pos h1] at h
  obtain rfl := Option.some.inj h
  clear h
  subst hu
  obtain ⟨g, c_, eg, _, _⟩ := row_form42 ho0 (by omega)
  injection eg with eg _ ec
  subst ec
  injection eg with eg
  subst eg
  obtain ⟨rfl, _, hC⟩ := Kd.R_reads' ho0
  rw [show (⟨g, 0, none⟩ : Addr).add (a1.toNat * 6) = ⟨g, a1.toNat * 6, none⟩ from by rw [Addr.add_lit, Nat.zero_add]]
  have HC := Aside0.mk (row_cells42 hC a1 h0 h1)
  have hlt := World.block_lt_of_cell? w0 _ hcap
  have hge : w0.heap.size ≤ g := Kd.R_base ho0 g (by simp [Value.ownBlock])
  have HS := Aside0.mk (ho0.1 g (by simp [Value.ownBlock]))
  have hk0 : w.cell? ⟨B, 0, none⟩ = some (.int .i64 a2) := (hB.cell hlt).trans hcap
  have R0 := Aside0.mk ho0
  have HB := Aside0.mk hB
  clear ho0 hB hcap hC
  go_enter Try.func46, Try.ntmps46
  go_wp2_with ((with_reducible refine gate_ (.store 3 (.tmp 6) (.tmp 4)) rfl ?_); refine Kd.R_store k42 (w0 := w0) w0.heap.size rfl rfl 3 (.tmp 6) (.tmp 4) rfl 42 a1 4 l0 (⟨(rd_T42 l0 a1).f0, (rd_T42 l0 a1).f1, (rd_T42 l0 a1).f2, (rd_T42 l0 a1).f3, a2, (rd_T42 l0 a1).f5⟩ : S42) (.int .i64 a2) [.int .i64 a2] (flc42 (rd_T42 l0 a1)) P0_ (fun _ => False) rfl ?so rfl rfl (by kernel_rfl) ?s1 R0.out h0 ?sl rfl HC.out (by show 4 + 1 ≤ 6; decide) ?s2 (fun _ hk => hk.elim) HB.out ?_; (case so => first | rfl | simp); (case s1 => intro q hq; simp only [List.mem_cons, List.not_mem_nil, or_false] at hq; subst hq; rfl); (case sl => first | exact h1 | (simp only [List.length_set]; exact h1)); (case s2 => exact k42_mkM _ _ _ _); intro w3 hr3 hb3 hg3; have K8w3 := Aside0.mk hr3; have K9w3 := Aside0.mk hb3; have K10w3 := Aside0.mk hg3; clear hr3 hb3 hg3)
  first | go_end0 | ((try simp only [Exit.inBlock, Exit.then]); refine bodyPost_ret (results_none rfl _ _ _) rfl ?_)
  exact ⟨rfl, Kd.R_mono K8w3.out (fun _ hk => .inl hk), K9w3.out, kept_grown_ K10w3.out HS.out⟩
set_option maxHeartbeats 8000000 in
set_option maxRecDepth 100000 in
theorem session_with_Bind.calls {B : Nat} (a0_0 : Int) (P0_1_ : Nat → Prop) (A0_1 : Option Addr) (c0_1 : Nat) (l0_1 : List (S42)) (P0_2_ : Nat → Prop) (A0_2 : Option Addr) (c0_2 : Nat) (l0_2 : List (S85)) (a0_3 : Int) (a0_4 : Int) (a1 : Int) (a2 : Int) (r1 : Int) (r2 : List (S42)) (r3 : List (S85)) (r4 : Int) (r5 : Int) (r6 : Int) (w : World) (hcap : w.cell? ⟨B, 0, none⟩ = some (.int .i64 a2)) (hs0_1 : Kd.V k42 42 w w.heap.size (fun k_ => P0_1_ k_) (.slice A0_1 l0_1.length c0_1) l0_1) (hs0_2 : Kd.V k85 85 w w.heap.size (fun k_ => P0_2_ k_) (.slice A0_2 l0_2.length c0_2) l0_2) (h : session_with_Bind.f a0_0 l0_1 l0_2 a0_3 a0_4 a1 a2 = some (r1, r2, r3, r4, r5, r6)) :
    Calls Try.prog 38 #[.agg #[.int .i64 a0_0, .slice A0_1 l0_1.length c0_1, .slice A0_2 l0_2.length c0_2, .int .i64 a0_3, .int .u64 a0_4], .int .i64 a1, .func (.func 46) #[] #[.pointer (some ⟨B, 0, none⟩)]] w fun e w' => ∃ v1_ v2_ : Value, e = .returned (.tuple #[.agg #[.int .i64 r1, v1_, v2_, .int .i64 r4, .int .u64 r5], .int .i64 r6]) ∧ Kd.V k42 42 w' w.heap.size (fun k_ => ((P0_1_ k_ ∨ P0_2_ k_) ∨ w.heap.size ≤ k_)) v1_ r2 ∧ Kd.V k85 85 w' w.heap.size (fun k_ => ((P0_1_ k_ ∨ P0_2_ k_) ∨ w.heap.size ≤ k_)) v2_ r3 ∧ Below w.heap.size w w' := by
  have hu26 := Try.underlying26
  have HO0_1 := Aside0.mk (show Kd.V k42 42 w w.heap.size (fun k_ => ((P0_1_ k_ ∨ P0_2_ k_) ∨ w.heap.size ≤ k_)) (.slice A0_1 l0_1.length c0_1) l0_1 from Kd.V_mono hs0_1 (fun k_ hk => .inl (.inl hk)))
  have HO0_2 := Aside0.mk (show Kd.V k85 85 w w.heap.size (fun k_ => ((P0_1_ k_ ∨ P0_2_ k_) ∨ w.heap.size ≤ k_)) (.slice A0_2 l0_2.length c0_2) l0_2 from Kd.V_mono hs0_2 (fun k_ hk => .inl (.inr hk)))
  have HB := Aside0.mk (Below.refl w.heap.size w)
  have HCAP := Aside0.mk hcap
  clear hcap
  have H : ((session_at.f a0_0 l0_1 l0_2 a0_3 a0_4 a1).bind fun t151 => (if t151 < 0 then (some (a0_0, l0_1, l0_2, a0_3, a0_4, 7)) else ((api_Session_48.f l0_1).bind fun t152 => (if 0 ≤ t151 then (if t151 < (t152.length : Int) then ((session_with_Bind_at.f t152 t151 a2).bind fun t156 => (some (a0_0, t156, l0_2, a0_3, a0_4, 0))) else (none)) else (none))))) = some (r1, r2, r3, r4, r5, r6) := h
  clear h
  replace H := Option.bind_eq_some_iff.mp H
  obtain ⟨t151, A40, H⟩ := H
  replace H : (if t151 < 0 then (some (a0_0, l0_1, l0_2, a0_3, a0_4, 7)) else ((api_Session_48.f l0_1).bind fun t152 => (if 0 ≤ t151 then (if t151 < (t152.length : Int) then ((session_with_Bind_at.f t152 t151 a2).bind fun t156 => (some (a0_0, t156, l0_2, a0_3, a0_4, 0))) else (none)) else (none)))) = some (r1, r2, r3, r4, r5, r6) := H
  have A4 := Aside0.mk A40
  clear A40
  by_cases c5 : t151 < 0
  · rw [if_pos c5] at H
    have c5b0 : decide (t151 < 0) = true := decide_eq_true c5
    clear c5
    simp only [Option.some.injEq, Prod.mk.injEq] at H
    obtain ⟨rfl, rfl, rfl, rfl, rfl, rfl⟩ := H
    go_enter Try.func38, Try.ntmps38
    go_wp2_with (first | ((with_reducible refine gate_dst (N := 3) rfl ?_); refine box_event ?hg (N := 3) ?hd (cs := #[.int .i64 a0_0, .slice A0_1 l0_1.length c0_1, .slice A0_2 l0_2.length c0_2, .int .i64 a0_3, .int .u64 a0_4]) (t := 26) ?hr ?_; (case hd => rfl); (case hg => rfl); (case hr => first | (go_simp; done) | (go_simp; rfl)); intro gb149 hg w6 hbox hb; obtain ⟨n_, GE149⟩ := Cb.bx (by repeat (first | (with_reducible first | exact HB.out | apply below_alloc | apply pw_below_drewN | apply below_drew1) | exact HB.out)) hg hb; have GW149 := GE149; have BK149 := Aside0.mk (hbox); replace HO0_1 := Aside0.mk (Kd.V_below (Kd.V_elderB (by (with_reducible repeat (first | apply Kd.V_alloc | apply Kd.V_drewN | apply Kd.V_drew)); exact HO0_1.out) gb149 (Nat.le_of_eq hg.symm)) hb); replace HO0_2 := Aside0.mk (Kd.V_below (Kd.V_elderB (by (with_reducible repeat (first | apply Kd.V_alloc | apply Kd.V_drewN | apply Kd.V_drew)); exact HO0_2.out) gb149 (Nat.le_of_eq hg.symm)) hb); replace HB := n_; clear n_; clear hb hbox hg) | ((with_reducible refine gate_dst (N := 6) rfl ?_); refine box_event ?hg (N := 6) ?hd (cs := #[.int .i64 0, .slice none 0 0, .slice none 0 0, .int .i64 0, .int .u64 0]) (t := 26) ?hr ?_; (case hd => rfl); (case hg => rfl); (case hr => first | (go_simp; done) | (go_simp; rfl)); intro gb150 hg w7 hbox hb; obtain ⟨n_, GE150⟩ := Cb.bx (by repeat (first | (with_reducible first | exact HB.out | apply below_alloc | apply pw_below_drewN | apply below_drew1 | refine below_set ?_ GE149.out) | exact HB.out)) hg hb; have GW150 := GE150; obtain ⟨NB149_150, NB150_149⟩ := Cb.nb hg BK149.out; have BK150 := Aside0.mk (hbox); replace HO0_1 := Aside0.mk (Kd.V_below (Kd.V_elderB (by (with_reducible repeat (first | apply Kd.V_alloc | apply Kd.V_drewN | apply Kd.V_drew)); exact HO0_1.out) gb150 (Nat.le_of_eq hg.symm)) hb); replace HO0_2 := Aside0.mk (Kd.V_below (Kd.V_elderB (by (with_reducible repeat (first | apply Kd.V_alloc | apply Kd.V_drewN | apply Kd.V_drew)); exact HO0_2.out) gb150 (Nat.le_of_eq hg.symm)) hb); replace BK149 := Aside0.mk (blk_below BK149.out hb); replace HB := n_; clear n_; clear hb hbox hg; have hnb8 := NB149_150.out; have hnc8 := NB150_149.out; obtain ⟨hcz9_0, hcz9_1, hcz9_2, hcz9_3, hcz9_4⟩ := Cb.c5 BK149.out; obtain ⟨hfz9_0, hfz9_1, hfz9_2, hfz9_3, hfz9_4⟩ := Cb.f5 BK149.out) | ((with_reducible refine gate_callee (f := 43) rfl ?_); refine goesL_ (some 11) rfl rfl Try.func43 (by kernel_rfl) rfl #[.agg #[.int .i64 a0_0, .slice A0_1 l0_1.length c0_1, .slice A0_2 l0_2.length c0_2, .int .i64 a0_3, .int .u64 a0_4], .int .i64 a1] rfl (by (try simp only [List.map_toArray, List.map_cons, List.map_nil]); first | done | rfl | (simp only [List.length_drop, List.length_take]; rfl)) ?_; (with_reducible refine (session_at.calls a0_0 _ _ l0_1 _ _ l0_2 a0_3 a0_4 a1 t151 _ ?side1 ?side2 ?side3 ?side4 A4.out).mono ?_); (case side1 => repeat (first | exact (Kd.V_reads' HO0_1.out).2.2 | (with_reducible refine Kd.C_alloc ?_ _) | (with_reducible refine Kd.C_drewN ?_ _) | (with_reducible refine Kd.C_drew ?_))); (case side2 => exact (Kd.V_reads' HO0_1.out).2.1); (case side3 => repeat (first | exact (Kd.V_reads' HO0_2.out).2.2 | (with_reducible refine Kd.C_alloc ?_ _) | (with_reducible refine Kd.C_drewN ?_ _) | (with_reducible refine Kd.C_drew ?_))); (case side4 => exact (Kd.V_reads' HO0_2.out).2.1); rintro e w10 ⟨rfl, hb⟩; refine ⟨_, rfl, ?_⟩; replace HO0_1 := Aside0.mk (Kd.V_below (by (with_reducible repeat (first | apply Kd.V_alloc | apply Kd.V_drewN | apply Kd.V_drew)); exact HO0_1.out) hb); replace HO0_2 := Aside0.mk (Kd.V_below (by (with_reducible repeat (first | apply Kd.V_alloc | apply Kd.V_drewN | apply Kd.V_drew)); exact HO0_2.out) hb); replace BK149 := Aside0.mk (blk_below BK149.out hb); replace BK150 := Aside0.mk (blk_below BK150.out hb); replace HB := Aside0.mk (below_step (by repeat (first | (with_reducible first | exact HB.out | apply below_alloc | apply pw_below_drewN | apply below_drew1 | refine below_set ?_ GE149.out | refine below_set ?_ GE150.out) | exact HB.out)) hb); (try clear hb); (try clear hb2); (try clear hk); (try clear hi); obtain ⟨hcz11_0, hcz11_1, hcz11_2, hcz11_3, hcz11_4⟩ := Cb.c5 BK149.out; obtain ⟨hfz11_0, hfz11_1, hfz11_2, hfz11_3, hfz11_4⟩ := Cb.f5 BK149.out; obtain ⟨hcz12_0, hcz12_1, hcz12_2, hcz12_3, hcz12_4⟩ := Cb.c5 BK150.out; obtain ⟨hfz12_0, hfz12_1, hfz12_2, hfz12_3, hfz12_4⟩ := Cb.f5 BK150.out))
    refine bodyPost_ret (results_ct rfl _ _ gb150 26 #[.int .i64 a0_0, .slice A0_1 l0_1.length c0_1, .slice A0_2 l0_2.length c0_2, .int .i64 a0_3, .int .u64 a0_4] (0, 0) _ rfl (by (with_reducible repeat (first | refine blk_drewN ?_ _ | refine blk_drew ?_ | refine blk_alloc ?_ _)); refine blk_put (cs := #[.int .i64 a0_0, .slice A0_1 l0_1.length c0_1, .slice A0_2 l0_2.length c0_2, .int .i64 a0_3, .int .u64 0]) ?_ 4 _ rfl; refine blk_put (cs := #[.int .i64 a0_0, .slice A0_1 l0_1.length c0_1, .slice A0_2 l0_2.length c0_2, .int .i64 0, .int .u64 0]) ?_ 3 _ rfl; refine blk_put (cs := #[.int .i64 a0_0, .slice A0_1 l0_1.length c0_1, .slice none 0 0, .int .i64 0, .int .u64 0]) ?_ 2 _ rfl; refine blk_put (cs := #[.int .i64 a0_0, .slice none 0 0, .slice none 0 0, .int .i64 0, .int .u64 0]) ?_ 1 _ rfl; refine blk_put (cs := #[.int .i64 0, .slice none 0 0, .slice none 0 0, .int .i64 0, .int .u64 0]) ?_ 0 _ rfl; (with_reducible repeat (first | refine blk_drewN ?_ _ | refine blk_drew ?_ | refine blk_alloc ?_ _)); exact BK150.out) Try.underlying26 rfl (by kernel_rfl)) rfl ?_
    exact ⟨_, _, by first | rfl | (simp [errW_none, errW_some] <;> rfl) | (simp [*, errW_none, errW_some] <;> rfl), by (with_reducible repeat (first | apply Kd.V_alloc | apply Kd.V_drewN | apply Kd.V_drew)); exact Kd.V_mono (Kd.V_far (p := ⟨gb150, 4, none⟩) (Kd.V_far (p := ⟨gb150, 3, none⟩) (Kd.V_far (p := ⟨gb150, 2, none⟩) (Kd.V_far (p := ⟨gb150, 1, none⟩) (Kd.V_far (p := ⟨gb150, 0, none⟩) (Kd.V_mono HO0_1.out (fun k_ hk => (⟨hk, hk.2⟩ : _ ∧ k_ ≠ gb150))) (fun _ hk => hk.2) (.int .i64 a0_0)) (fun _ hk => hk.2) (.slice A0_1 l0_1.length c0_1)) (fun _ hk => hk.2) (.slice A0_2 l0_2.length c0_2)) (fun _ hk => hk.2) (.int .i64 a0_3)) (fun _ hk => hk.2) (.int .u64 a0_4)) (fun _ hk => hk.1.1.1), by (with_reducible repeat (first | apply Kd.V_alloc | apply Kd.V_drewN | apply Kd.V_drew)); exact Kd.V_mono (Kd.V_far (p := ⟨gb150, 4, none⟩) (Kd.V_far (p := ⟨gb150, 3, none⟩) (Kd.V_far (p := ⟨gb150, 2, none⟩) (Kd.V_far (p := ⟨gb150, 1, none⟩) (Kd.V_far (p := ⟨gb150, 0, none⟩) (Kd.V_mono HO0_2.out (fun k_ hk => (⟨hk, hk.2⟩ : _ ∧ k_ ≠ gb150))) (fun _ hk => hk.2) (.int .i64 a0_0)) (fun _ hk => hk.2) (.slice A0_1 l0_1.length c0_1)) (fun _ hk => hk.2) (.slice A0_2 l0_2.length c0_2)) (fun _ hk => hk.2) (.int .i64 a0_3)) (fun _ hk => hk.2) (.int .u64 a0_4)) (fun _ hk => hk.1.1.1), by repeat (first | (with_reducible first | exact HB.out | apply below_alloc | apply pw_below_drewN | apply below_drew1 | refine below_set ?_ GE149.out | refine below_set ?_ GE150.out) | exact HB.out)⟩
  · rw [if_neg c5] at H
    have c5b0 : decide (t151 < 0) = false := decide_eq_false c5
    clear c5
    replace H := Option.bind_eq_some_iff.mp H
    obtain ⟨t152, A130, H⟩ := H
    replace H : (if 0 ≤ t151 then (if t151 < (t152.length : Int) then ((session_with_Bind_at.f t152 t151 a2).bind fun t156 => (some (a0_0, t156, l0_2, a0_3, a0_4, 0))) else (none)) else (none)) = some (r1, r2, r3, r4, r5, r6) := H
    have A13 := Aside0.mk A130
    clear A130
    by_cases c14 : 0 ≤ t151
    · rw [if_pos c14] at H
      have c14b0 : decide (0 ≤ t151) = true := decide_eq_true c14
      clear c14
      by_cases c15 : t151 < (t152.length : Int)
      · rw [if_pos c15] at H
        have c15b0 : decide (t151 < (t152.length : Int)) = true := decide_eq_true c15
        clear c15
        replace H := Option.bind_eq_some_iff.mp H
        obtain ⟨t156, A160, H⟩ := H
        replace H : (some (a0_0, t156, l0_2, a0_3, a0_4, 0)) = some (r1, r2, r3, r4, r5, r6) := H
        have A16 := Aside0.mk A160
        clear A160
        simp only [Option.some.injEq, Prod.mk.injEq] at H
        obtain ⟨rfl, rfl, rfl, rfl, rfl, rfl⟩ := H
        go_enter Try.func38, Try.ntmps38
        go_wp2_with (first | ((with_reducible refine gate_dst (N := 3) rfl ?_); refine box_event ?hg (N := 3) ?hd (cs := #[.int .i64 a0_0, .slice A0_1 l0_1.length c0_1, .slice A0_2 l0_2.length c0_2, .int .i64 a0_3, .int .u64 a0_4]) (t := 26) ?hr ?_; (case hd => rfl); (case hg => rfl); (case hr => first | (go_simp; done) | (go_simp; rfl)); intro gb149 hg w17 hbox hb; obtain ⟨n_, GE149⟩ := Cb.bx (by repeat (first | (with_reducible first | exact HB.out | apply below_alloc | apply pw_below_drewN | apply below_drew1) | exact HB.out)) hg hb; have GW149 := GE149; have BK149 := Aside0.mk (hbox); replace HO0_1 := Aside0.mk (Kd.V_below (Kd.V_elderB (by (with_reducible repeat (first | apply Kd.V_alloc | apply Kd.V_drewN | apply Kd.V_drew)); exact HO0_1.out) gb149 (Nat.le_of_eq hg.symm)) hb); replace HO0_2 := Aside0.mk (Kd.V_below (Kd.V_elderB (by (with_reducible repeat (first | apply Kd.V_alloc | apply Kd.V_drewN | apply Kd.V_drew)); exact HO0_2.out) gb149 (Nat.le_of_eq hg.symm)) hb); replace HB := n_; clear n_; clear hb hbox hg) | ((with_reducible refine gate_dst (N := 6) rfl ?_); refine box_event ?hg (N := 6) ?hd (cs := #[.int .i64 0, .slice none 0 0, .slice none 0 0, .int .i64 0, .int .u64 0]) (t := 26) ?hr ?_; (case hd => rfl); (case hg => rfl); (case hr => first | (go_simp; done) | (go_simp; rfl)); intro gb150 hg w18 hbox hb; obtain ⟨n_, GE150⟩ := Cb.bx (by repeat (first | (with_reducible first | exact HB.out | apply below_alloc | apply pw_below_drewN | apply below_drew1 | refine below_set ?_ GE149.out) | exact HB.out)) hg hb; have GW150 := GE150; obtain ⟨NB149_150, NB150_149⟩ := Cb.nb hg BK149.out; have BK150 := Aside0.mk (hbox); replace HO0_1 := Aside0.mk (Kd.V_below (Kd.V_elderB (by (with_reducible repeat (first | apply Kd.V_alloc | apply Kd.V_drewN | apply Kd.V_drew)); exact HO0_1.out) gb150 (Nat.le_of_eq hg.symm)) hb); replace HO0_2 := Aside0.mk (Kd.V_below (Kd.V_elderB (by (with_reducible repeat (first | apply Kd.V_alloc | apply Kd.V_drewN | apply Kd.V_drew)); exact HO0_2.out) gb150 (Nat.le_of_eq hg.symm)) hb); replace BK149 := Aside0.mk (blk_below BK149.out hb); replace HB := n_; clear n_; clear hb hbox hg; have hnb19 := NB149_150.out; have hnc19 := NB150_149.out; obtain ⟨hcz20_0, hcz20_1, hcz20_2, hcz20_3, hcz20_4⟩ := Cb.c5 BK149.out; obtain ⟨hfz20_0, hfz20_1, hfz20_2, hfz20_3, hfz20_4⟩ := Cb.f5 BK149.out) | ((with_reducible refine gate_callee (f := 43) rfl ?_); refine goesL_ (some 11) rfl rfl Try.func43 (by kernel_rfl) rfl #[.agg #[.int .i64 a0_0, .slice A0_1 l0_1.length c0_1, .slice A0_2 l0_2.length c0_2, .int .i64 a0_3, .int .u64 a0_4], .int .i64 a1] rfl (by (try simp only [List.map_toArray, List.map_cons, List.map_nil]); first | done | rfl | (simp only [List.length_drop, List.length_take]; rfl)) ?_; (with_reducible refine (session_at.calls a0_0 _ _ l0_1 _ _ l0_2 a0_3 a0_4 a1 t151 _ ?side1 ?side2 ?side3 ?side4 A4.out).mono ?_); (case side1 => repeat (first | exact (Kd.V_reads' HO0_1.out).2.2 | (with_reducible refine Kd.C_alloc ?_ _) | (with_reducible refine Kd.C_drewN ?_ _) | (with_reducible refine Kd.C_drew ?_))); (case side2 => exact (Kd.V_reads' HO0_1.out).2.1); (case side3 => repeat (first | exact (Kd.V_reads' HO0_2.out).2.2 | (with_reducible refine Kd.C_alloc ?_ _) | (with_reducible refine Kd.C_drewN ?_ _) | (with_reducible refine Kd.C_drew ?_))); (case side4 => exact (Kd.V_reads' HO0_2.out).2.1); rintro e w21 ⟨rfl, hb⟩; refine ⟨_, rfl, ?_⟩; replace HO0_1 := Aside0.mk (Kd.V_below (by (with_reducible repeat (first | apply Kd.V_alloc | apply Kd.V_drewN | apply Kd.V_drew)); exact HO0_1.out) hb); replace HO0_2 := Aside0.mk (Kd.V_below (by (with_reducible repeat (first | apply Kd.V_alloc | apply Kd.V_drewN | apply Kd.V_drew)); exact HO0_2.out) hb); replace BK149 := Aside0.mk (blk_below BK149.out hb); replace BK150 := Aside0.mk (blk_below BK150.out hb); replace HB := Aside0.mk (below_step (by repeat (first | (with_reducible first | exact HB.out | apply below_alloc | apply pw_below_drewN | apply below_drew1 | refine below_set ?_ GE149.out | refine below_set ?_ GE150.out) | exact HB.out)) hb); (try clear hb); (try clear hb2); (try clear hk); (try clear hi); obtain ⟨hcz22_0, hcz22_1, hcz22_2, hcz22_3, hcz22_4⟩ := Cb.c5 BK149.out; obtain ⟨hfz22_0, hfz22_1, hfz22_2, hfz22_3, hfz22_4⟩ := Cb.f5 BK149.out) | ((with_reducible refine gate_callee (f := 48) rfl ?_); refine goesL_ (some 17) rfl rfl Try.func48 (by kernel_rfl) rfl #[.slice A0_1 l0_1.length c0_1] rfl (by (try simp only [List.map_toArray, List.map_cons, List.map_nil]); first | done | rfl | (simp only [List.length_drop, List.length_take]; rfl)) ?_; (with_reducible refine (api_Session_48.calls _ _ l0_1 t152 _ ?side1 ?side2 A13.out).mono ?_); (case side1 => repeat (first | exact (Kd.V_reads' HO0_1.out).2.2 | (with_reducible refine Kd.C_alloc ?_ _) | (with_reducible refine Kd.C_drewN ?_ _) | (with_reducible refine Kd.C_drew ?_))); (case side2 => exact (Kd.V_reads' HO0_1.out).2.1); rintro e w23 ⟨v153, rfl, ho0, hb⟩; refine ⟨_, rfl, ?_⟩; have HO154 := Aside0.mk (Kd.R_lower (Kd.R_newM (M := fun k_ => (w.heap.size ≤ k_)) ho0 (below_size (by repeat (first | (with_reducible first | exact HB.out | apply below_alloc | apply pw_below_drewN | apply below_drew1 | refine below_set ?_ GE149.out | refine below_set ?_ GE150.out) | exact HB.out))) (fun k_ h_ => h_)) (below_size (by repeat (first | (with_reducible first | exact HB.out | apply below_alloc | apply pw_below_drewN | apply below_drew1 | refine below_set ?_ GE149.out | refine below_set ?_ GE150.out) | exact HB.out)))); replace HO0_1 := Aside0.mk (Kd.V_elder' (by (with_reducible repeat (first | apply Kd.V_alloc | apply Kd.V_drewN | apply Kd.V_drew)); exact HO0_1.out) (Kd.R_base ho0) hb); replace HO0_2 := Aside0.mk (Kd.V_elder' (by (with_reducible repeat (first | apply Kd.V_alloc | apply Kd.V_drewN | apply Kd.V_drew)); exact HO0_2.out) (Kd.R_base ho0) hb); replace BK149 := Aside0.mk (blk_below BK149.out hb); replace BK150 := Aside0.mk (blk_below BK150.out hb); replace HB := Aside0.mk (below_step (by repeat (first | (with_reducible first | exact HB.out | apply below_alloc | apply pw_below_drewN | apply below_drew1 | refine below_set ?_ GE149.out | refine below_set ?_ GE150.out) | exact HB.out)) hb); (try clear hb); (try clear hb2); (try clear hk); (try clear hi); (try clear ho0); obtain ⟨Ao24, co24, eo24⟩ := Kd.R_slice HO154.out; subst eo24; obtain ⟨hcz25_0, hcz25_1, hcz25_2, hcz25_3, hcz25_4⟩ := Cb.c5 BK149.out; obtain ⟨hfz25_0, hfz25_1, hfz25_2, hfz25_3, hfz25_4⟩ := Cb.f5 BK149.out) | ((with_reducible refine gate_store (t := 22) (p := 18) rfl ?_); refine store_event (t := 22) (p := 18) (v := ?vo_w26) (w1 := (w23.setCell ⟨gb149, 1, none⟩ (.slice Ao24 t152.length co24))) ?hg ?ho ?hn ?hr ?_; (case ho => rfl); (case hg => rfl); (case hn => rfl); (case hr => first | (go_simp; done) | (go_simp; rfl)); intro w26 hw; have n0_ : Aside0 (Kd.V k42 42 w26 w.heap.size (fun k_ => ((P0_1_ k_ ∨ P0_2_ k_) ∨ w.heap.size ≤ k_) ∧ some k_ ≠ (.slice Ao24 t152.length co24 : Value).ownBlock ∧ k_ ≠ gb149 ∧ k_ ≠ gb150) (.slice A0_1 l0_1.length c0_1) l0_1) := ⟨(by rw [hw]; exact (by (with_reducible repeat (first | apply Kd.V_alloc | apply Kd.V_drewN | apply Kd.V_drew)); exact Kd.V_mono (Kd.V_far (p := ⟨gb149, 1, none⟩) (Kd.V_mono HO0_1.out (fun k_ hk => (⟨hk, hk.1.1.2⟩ : _ ∧ k_ ≠ gb149))) (fun _ hk => hk.2) (.slice Ao24 t152.length co24)) (fun _ hk => ⟨hk.1.1.1.1, ⟨hk.1.2, ⟨hk.1.1.1.2, hk.1.1.2⟩⟩⟩)))⟩; have n1_ : Aside0 (Kd.V k85 85 w26 w.heap.size (fun k_ => ((P0_1_ k_ ∨ P0_2_ k_) ∨ w.heap.size ≤ k_) ∧ some k_ ≠ (.slice Ao24 t152.length co24 : Value).ownBlock ∧ k_ ≠ gb149 ∧ k_ ≠ gb150) (.slice A0_2 l0_2.length c0_2) l0_2) := ⟨(by rw [hw]; exact (by (with_reducible repeat (first | apply Kd.V_alloc | apply Kd.V_drewN | apply Kd.V_drew)); exact Kd.V_mono (Kd.V_far (p := ⟨gb149, 1, none⟩) (Kd.V_mono HO0_2.out (fun k_ hk => (⟨hk, hk.1.1.2⟩ : _ ∧ k_ ≠ gb149))) (fun _ hk => hk.2) (.slice Ao24 t152.length co24)) (fun _ hk => ⟨hk.1.1.1.1, ⟨hk.1.2, ⟨hk.1.1.1.2, hk.1.1.2⟩⟩⟩)))⟩; have n2_ : Aside0 (Kd.R k42 42 w26 w.heap.size (fun k_ => (w.heap.size ≤ k_)) (.slice Ao24 t152.length co24) t152) := ⟨(by rw [hw]; exact (by (with_reducible repeat (first | apply Kd.R_alloc | apply Kd.R_drewN | apply Kd.R_drew)); exact Kd.R_mono (Kd.R_far (p := ⟨gb149, 1, none⟩) (Kd.R_types HO154.out BK149.out (by decide)) (fun _ hk => hk.2) (.slice Ao24 t152.length co24)) (fun _ hk => hk.1.1)))⟩; have n3_ : Aside0 (w26.heap[gb149]? = some (.cells #[.int .i64 a0_0, .slice Ao24 t152.length co24, .slice A0_2 l0_2.length c0_2, .int .i64 a0_3, .int .u64 a0_4] 26 (0, 0))) := ⟨(by rw [hw]; exact (by (with_reducible repeat (first | refine blk_drewN ?_ _ | refine blk_drew ?_ | refine blk_alloc ?_ _)); refine blk_put (cs := #[.int .i64 a0_0, .slice A0_1 l0_1.length c0_1, .slice A0_2 l0_2.length c0_2, .int .i64 a0_3, .int .u64 a0_4]) ?_ 1 _ rfl; (with_reducible repeat (first | refine blk_drewN ?_ _ | refine blk_drew ?_ | refine blk_alloc ?_ _)); exact BK149.out))⟩; have n4_ : Aside0 (w26.heap[gb150]? = some (.cells #[.int .i64 0, .slice none 0 0, .slice none 0 0, .int .i64 0, .int .u64 0] 26 (0, 0))) := ⟨(by rw [hw]; exact (by (with_reducible repeat (first | refine blk_drewN ?_ _ | refine blk_drew ?_ | refine blk_alloc ?_ _)); refine blk_far ?_ NB150_149.out _; (with_reducible repeat (first | refine blk_drewN ?_ _ | refine blk_drew ?_ | refine blk_alloc ?_ _)); exact BK150.out))⟩; have n5_ : Aside0 (Below w.heap.size w w26) := ⟨(by rw [hw]; exact (by repeat (first | (with_reducible first | exact HB.out | apply below_alloc | apply pw_below_drewN | apply below_drew1 | refine below_set ?_ GE149.out | refine below_set ?_ GE150.out) | exact HB.out)))⟩; clear hw; clear HO0_1; clear HO0_2; clear HO154; clear BK149; clear BK150; clear HB; have HO0_1 := n0_; have HO0_2 := n1_; have HO154 := n2_; have BK149 := n3_; have BK150 := n4_; have HB := n5_; clear n0_ n1_ n2_ n3_ n4_ n5_; obtain ⟨hcz27_0, hcz27_1, hcz27_2, hcz27_3, hcz27_4⟩ := Cb.c5 BK149.out; obtain ⟨hfz27_0, hfz27_1, hfz27_2, hfz27_3, hfz27_4⟩ := Cb.f5 BK149.out; have p155 : 0 ≤ (t151 : Int) := of_decide_eq_true (by first | (with_reducible assumption) | assumption); have q155 : t151 < (t152.length : Int) := of_decide_eq_true (by first | (with_reducible assumption) | assumption); obtain ⟨ad155, e155, hx155_0, hx155_1, hx155_2, hx155_3, hx155_4, hx155_5⟩ := at_T42 (Kd.R_reads' HO154.out).2.2 t151 p155 q155; cases e155; replace p155 := eq_true p155; replace q155 := eq_true q155) | ((refine (session_with_Bind_at.calls HCAP.out (rfl : (.slice (some ad155) t152.length co24 : Value) = _) (fun k_ => some k_ = (.slice (some ad155) t152.length co24 : Value).ownBlock) t152 t151 t156 _ ?side1 ?side2 A16.out).mono ?_); (case side1 => repeat (first | (with_reducible first | exact HB.out | apply below_alloc | apply pw_below_drewN | apply below_drew1 | refine below_set ?_ GE149.out | refine below_set ?_ GE150.out) | exact HB.out)); (case side2 => exact Kd.R_tight rfl HO154.out); rintro e w28 ⟨rfl, hy0, hb, hkp⟩; replace HO0_1 := Aside0.mk (Kd.V_mono (ok' := fun k_ => ((P0_1_ k_ ∨ P0_2_ k_) ∨ w.heap.size ≤ k_) ∧ some k_ ≠ (.slice (some ad155) t152.length co24 : Value).ownBlock ∧ k_ ≠ gb149 ∧ k_ ≠ gb150) (Kd.V_keptB (HO0_1.out) hkp (fun k_ hk_ hs_ => (hk_.2.1) hs_)) (fun k_ hk_ => ⟨hk_.1.1, hk_.1.2.1, hk_.1.2.2.1, hk_.1.2.2.2⟩)); replace HO0_2 := Aside0.mk (Kd.V_mono (ok' := fun k_ => ((P0_1_ k_ ∨ P0_2_ k_) ∨ w.heap.size ≤ k_) ∧ some k_ ≠ (.slice (some ad155) t152.length co24 : Value).ownBlock ∧ k_ ≠ gb149 ∧ k_ ≠ gb150) (Kd.V_keptB (HO0_2.out) hkp (fun k_ hk_ hs_ => (hk_.2.1) hs_)) (fun k_ hk_ => ⟨hk_.1.1, hk_.1.2.1, hk_.1.2.2.1, hk_.1.2.2.2⟩)); replace BK149 := Aside0.mk (blk_kept (by (with_reducible repeat (first | refine blk_drewN ?_ _ | refine blk_drew ?_ | refine blk_alloc ?_ _)); exact BK149.out) hkp (fun hs_ => (fun e_ => (Kd.R_ne HO154.out BK149.out (by decide)) e_) hs_)); replace BK150 := Aside0.mk (blk_kept (by (with_reducible repeat (first | refine blk_drewN ?_ _ | refine blk_drew ?_ | refine blk_alloc ?_ _)); exact BK150.out) hkp (fun hs_ => (fun e_ => (Kd.R_ne HO154.out BK150.out (by decide)) e_) hs_)); replace HO154 := Aside0.mk (Kd.R_reok rfl hy0 (fun k_ e_ => HO154.out.1 k_ e_)); replace HB := Aside0.mk (hb); (try clear hb); (try clear hkp); (try clear hy0); obtain ⟨hcz29_0, hcz29_1, hcz29_2, hcz29_3, hcz29_4⟩ := Cb.c5 BK149.out; obtain ⟨hfz29_0, hfz29_1, hfz29_2, hfz29_3, hfz29_4⟩ := Cb.f5 BK149.out; obtain ⟨hcz30_0, hcz30_1, hcz30_2, hcz30_3, hcz30_4⟩ := Cb.c5 BK150.out; obtain ⟨hfz30_0, hfz30_1, hfz30_2, hfz30_3, hfz30_4⟩ := Cb.f5 BK150.out))
        refine bodyPost_ret (results_ct rfl _ _ gb150 26 #[.int .i64 a0_0, .slice (some ad155) t152.length co24, .slice A0_2 l0_2.length c0_2, .int .i64 a0_3, .int .u64 a0_4] (0, 0) _ rfl (by (with_reducible repeat (first | refine blk_drewN ?_ _ | refine blk_drew ?_ | refine blk_alloc ?_ _)); refine blk_put (cs := #[.int .i64 a0_0, .slice (some ad155) t152.length co24, .slice A0_2 l0_2.length c0_2, .int .i64 a0_3, .int .u64 0]) ?_ 4 _ rfl; refine blk_put (cs := #[.int .i64 a0_0, .slice (some ad155) t152.length co24, .slice A0_2 l0_2.length c0_2, .int .i64 0, .int .u64 0]) ?_ 3 _ rfl; refine blk_put (cs := #[.int .i64 a0_0, .slice (some ad155) t152.length co24, .slice none 0 0, .int .i64 0, .int .u64 0]) ?_ 2 _ rfl; refine blk_put (cs := #[.int .i64 a0_0, .slice none 0 0, .slice none 0 0, .int .i64 0, .int .u64 0]) ?_ 1 _ rfl; refine blk_put (cs := #[.int .i64 0, .slice none 0 0, .slice none 0 0, .int .i64 0, .int .u64 0]) ?_ 0 _ rfl; (with_reducible repeat (first | refine blk_drewN ?_ _ | refine blk_drew ?_ | refine blk_alloc ?_ _)); exact BK150.out) Try.underlying26 rfl (by kernel_rfl)) rfl ?_
        exact ⟨_, _, by first | rfl | (simp [errW_none, errW_some] <;> rfl) | (simp [*, errW_none, errW_some] <;> rfl), Kd.V_mono (Kd.R_V (by (with_reducible repeat (first | apply Kd.R_alloc | apply Kd.R_drewN | apply Kd.R_drew)); exact Kd.R_mono (Kd.R_far (p := ⟨gb150, 4, none⟩) (Kd.R_far (p := ⟨gb150, 3, none⟩) (Kd.R_far (p := ⟨gb150, 2, none⟩) (Kd.R_far (p := ⟨gb150, 1, none⟩) (Kd.R_far (p := ⟨gb150, 0, none⟩) (Kd.R_types HO154.out BK150.out (by decide)) (fun _ hk => hk.2) (.int .i64 a0_0)) (fun _ hk => hk.2) (.slice (some ad155) t152.length co24)) (fun _ hk => hk.2) (.slice A0_2 l0_2.length c0_2)) (fun _ hk => hk.2) (.int .i64 a0_3)) (fun _ hk => hk.2) (.int .u64 a0_4)) (fun _ hk => hk.1))) (fun k_ hk => by first | exact ⟨(.inr (hk.1)), hk.2⟩ | exact (.inr (hk))), by (with_reducible repeat (first | apply Kd.V_alloc | apply Kd.V_drewN | apply Kd.V_drew)); exact Kd.V_mono (Kd.V_far (p := ⟨gb150, 4, none⟩) (Kd.V_far (p := ⟨gb150, 3, none⟩) (Kd.V_far (p := ⟨gb150, 2, none⟩) (Kd.V_far (p := ⟨gb150, 1, none⟩) (Kd.V_far (p := ⟨gb150, 0, none⟩) (Kd.V_mono HO0_2.out (fun k_ hk => (⟨hk, hk.2.2.2⟩ : _ ∧ k_ ≠ gb150))) (fun _ hk => hk.2) (.int .i64 a0_0)) (fun _ hk => hk.2) (.slice (some ad155) t152.length co24)) (fun _ hk => hk.2) (.slice A0_2 l0_2.length c0_2)) (fun _ hk => hk.2) (.int .i64 a0_3)) (fun _ hk => hk.2) (.int .u64 a0_4)) (fun _ hk => hk.1.1), by repeat (first | (with_reducible first | exact HB.out | apply below_alloc | apply pw_below_drewN | apply below_drew1 | refine below_set ?_ GE149.out | refine below_set ?_ GE150.out) | exact HB.out)⟩
      · rw [if_neg c15] at H
        exact absurd H (by simp)
    · rw [if_neg c14] at H
      exact absurd H (by simp)

-- NOT PRINTED: function 39 (session_Take_1)

/-! ### api_Alarm_68: function 68 -/
set_option maxHeartbeats 8000000 in
set_option maxRecDepth 100000 in
theorem api_Alarm_68.calls (A0 : Option Addr) (c0 : Nat) (l0 : List (S85)) (r : List (S85)) (w : World) (hr0 : Kd.C k85 w A0 l0.length l0) (hc0 : l0.length ≤ c0) (h : api_Alarm_68.f l0 = some r) :
    Calls Try.prog 68 #[.slice A0 l0.length c0] w fun e w' => ∃ v0_ : Value, e = .returned (v0_) ∧ Kd.R k85 85 w' w.heap.size (fun _ => True) v0_ r ∧ Below w.heap.size w w' := by
  have HR0 := Aside0.mk hr0
  have HC0 := Aside0.mk hc0
  clear hr0 hc0
  have HB := Aside0.mk (Below.refl w.heap.size w)
  have H : ((some (([] : List (S85)) : List (S85))).bind fun y157 => (if y157.length + l0.length < 8796093022208 then (some (y157 ++ l0)) else (none))) = some r := h
  clear h
  obtain ⟨y157, hy157⟩ : ∃ y_ : List (S85), y_ = (([] : List (S85))) := ⟨_, rfl⟩
  replace H : (if y157.length + l0.length < 8796093022208 then (some (y157 ++ l0)) else (none)) = some r := by first | (rw [hy157]; with_reducible exact H) | (have H2_ := (Option.bind_some _ _).symm.trans H; rw [hy157]; with_reducible exact H2_) | (have H2_ := (Option.bind_some _ _).symm.trans H; with_reducible exact H2_) | with_reducible exact H | (rw [hy157]; exact H) | exact H
  have Ny157 := Aside0.mk hy157
  clear hy157
  by_cases c2 : y157.length + l0.length < 8796093022208
  · rw [if_pos c2] at H
    have LMc2 := Aside0.mk c2
    clear c2
    obtain ⟨y160, hy160⟩ : ∃ y_ : List (S85), y_ = (y157 ++ l0) := ⟨_, rfl⟩
    replace H : (some y160) = some r := by first | (rw [hy160]; with_reducible exact H) | (have H2_ := (Option.bind_some _ _).symm.trans H; rw [hy160]; with_reducible exact H2_) | (have H2_ := (Option.bind_some _ _).symm.trans H; with_reducible exact H2_) | with_reducible exact H | (rw [hy160]; exact H) | exact H
    have Ny160 := Aside0.mk hy160
    clear hy160
    obtain rfl := Option.some.inj H
    have qT := fun (w : World) (a : Option Addr) (l c : Nat) => Lib.run_eql_slice_nil (P := Try.prog) w 23 85 a l c 0 0 Try.underlying23
    rcases A0 with _ | ad0
    · have hl : l0 = [] := by
        rcases l0 with _ | ⟨x_, l_⟩
        · rfl
        · obtain ⟨_, h_, _⟩ := HR0.out.2.2 (by simp)
          cases h_
      have hy := Aside0.mk (show y160 = [] by rw [Ny160.out, Ny157.out, hl]; rfl)
      clear hl
      go_enter Try.func68, Try.ntmps68
      go_wp2
      go_ret
      exact ⟨_, rfl, by rw [hy.out]; exact Kd.R_nil _ _ _ _ _, HB.out⟩
    · go_enter Try.func68, Try.ntmps68
      go_wp2_with (first | ((with_reducible refine gate_dst (N := 5) rfl ?_); refine Kd.R_lit k85 _ 85 ?hg (N := 5) ?hd (xs := ([] : List (S85))) (inner := []) (ok := fun _ => True) (okp := fun _ => True) ?hr ?hp (fun _ hk => hk) trivial (Below.refl _ _) (Nat.le_refl _) (by simp) ?_; (case hd => rfl); (case hg => rfl); (case hr => first | (go_simp; done) | (go_simp; rfl)); (case hp => exact (Reps.none _ _)); intro v158 w3 ho4 hb hg_ hnew_; clear hg_ hnew_; (first | rw [← Ny157.out] at ho4 | (simp only [Int.reduceToNat] at ho4; rw [← Ny157.out] at ho4)); have HO159 := Aside0.mk (Kd.R_lower ho4 (below_size (by repeat (first | (with_reducible first | exact HB.out | apply below_alloc | apply pw_below_drewN | apply below_drew1) | exact HB.out)))); replace HB := Aside0.mk (below_step (by repeat (first | (with_reducible first | exact HB.out | apply below_alloc | apply pw_below_drewN | apply below_drew1) | exact HB.out)) hb); clear hb ho4) | ((with_reducible refine gate_builtin (b := .append) (xs := #[.tmp 5, .tmp 6]) rfl ?_); at_builtin; refine Kd.R_append_rows k85 (w0 := w) w.heap.size rfl (.tmp 5) (.tmp 6) 23 85 (.agg #[(.int .u64 0), (.int .i64 0)]) 16 rfl Try.underlying23 info85 rfl (by decide) (by omega) v158 y157 l0 _ _ _ (fun _ => True) (fun _ => False) rfl rfl ?aO ?aR (fun _ _ h => h) (fun _ h => h.elim) ?aF ?aB ?aS ?aL ?_; (case aR => repeat (first | exact (Kd.C_below HR0.out HB.out) | (with_reducible refine Kd.C_alloc ?_ _) | (with_reducible refine Kd.C_drewN ?_ _) | (with_reducible refine Kd.C_drew ?_))); (case aB => exact (by repeat (first | (with_reducible first | exact HB.out | apply below_alloc | apply pw_below_drewN | apply below_drew1) | exact HB.out))); (case aF => exact (fun _ _ => trivial)); (case aO => exact (by (with_reducible repeat (first | apply Kd.R_alloc | apply Kd.R_drewN | apply Kd.R_drew)); exact HO159.out)); (case aS => exact (below_size (by repeat (first | (with_reducible first | exact HB.out | apply below_alloc | apply pw_below_drewN | apply below_drew1) | exact HB.out)))); (case aL => have := LMc2.out; omega); intro v161 w5 ho hb hg hat; rw [← Ny160.out] at ho; have n0_ := Aside0.mk (hb); have n1_ := Aside0.mk (ho); clear HB; clear HO159; have HB := n0_; have HO162 := n1_; clear n0_ n1_; clear ho hb hg hat))
      go_ret
      exact ⟨_, by first | rfl | (simp [errW_none, errW_some] <;> rfl) | (simp [*, errW_none, errW_some] <;> rfl), by (with_reducible repeat (first | apply Kd.R_alloc | apply Kd.R_drewN | apply Kd.R_drew)); exact HO162.out, by repeat (first | (with_reducible first | exact HB.out | apply below_alloc | apply pw_below_drewN | apply below_drew1) | exact HB.out)⟩
  · rw [if_neg c2] at H
    exact absurd H (by simp)

/-! ### alarm_Less: function 69 -/
set_option maxHeartbeats 8000000 in
set_option maxRecDepth 100000 in
theorem alarm_Less.calls (a0_0 : Int) (a0_1 : Int) (a1_0 : Int) (a1_1 : Int) (r : Bool) (w : World) (h : alarm_Less.f a0_0 a0_1 a1_0 a1_1 = some r) :
    Calls Try.prog 69 #[.agg #[.int .u64 a0_0, .int .i64 a0_1], .agg #[.int .u64 a1_0, .int .i64 a1_1]] w fun e w' => e = .returned (.bool r) ∧ Below w.heap.size w w' := by
  have hu85 := Try.underlying85
  have HB := Aside0.mk (Below.refl w.heap.size w)
  have H : (if a0_0 < a1_0 then (some true) else (if a0_0 = a1_0 then (some (decide (a0_1 < a1_1))) else (some false))) = some r := h
  clear h
  by_cases c3 : a0_0 < a1_0
  · rw [if_pos c3] at H
    have c3b0 : decide (a0_0 < a1_0) = true := decide_eq_true c3
    clear c3
    obtain rfl := Option.some.inj H
    go_enter Try.func69, Try.ntmps69
    go_wp2_with (first | ((with_reducible refine gate_dst (N := 2) rfl ?_); refine box_event ?hg (N := 2) ?hd (cs := #[.int .u64 a0_0, .int .i64 a0_1]) (t := 85) ?hr ?_; (case hd => rfl); (case hg => rfl); (case hr => first | (go_simp; done) | (go_simp; rfl)); intro gb163 hg w4 hbox hb; obtain ⟨n_, GE163⟩ := Cb.bx (by repeat (first | (with_reducible first | exact HB.out | apply below_alloc | apply pw_below_drewN | apply below_drew1) | exact HB.out)) hg hb; have GW163 := GE163; have BK163 := Aside0.mk (hbox); replace HB := n_; clear n_; clear hb hbox hg) | ((with_reducible refine gate_dst (N := 3) rfl ?_); refine box_event ?hg (N := 3) ?hd (cs := #[.int .u64 a1_0, .int .i64 a1_1]) (t := 85) ?hr ?_; (case hd => rfl); (case hg => rfl); (case hr => first | (go_simp; done) | (go_simp; rfl)); intro gb164 hg w5 hbox hb; obtain ⟨n_, GE164⟩ := Cb.bx (by repeat (first | (with_reducible first | exact HB.out | apply below_alloc | apply pw_below_drewN | apply below_drew1 | refine below_set ?_ GE163.out) | exact HB.out)) hg hb; have GW164 := GE164; obtain ⟨NB163_164, NB164_163⟩ := Cb.nb hg BK163.out; have BK164 := Aside0.mk (hbox); replace BK163 := Aside0.mk (blk_below BK163.out hb); replace HB := n_; clear n_; clear hb hbox hg; have hnb6 := NB163_164.out; have hnc6 := NB164_163.out; obtain ⟨hcz7_0, hcz7_1⟩ := Cb.c2 BK163.out; obtain ⟨hfz7_0, hfz7_1⟩ := Cb.f2 BK163.out; obtain ⟨hcz8_0, hcz8_1⟩ := Cb.c2 BK164.out; obtain ⟨hfz8_0, hfz8_1⟩ := Cb.f2 BK164.out))
    go_ret
    exact ⟨by first | rfl | (simp [errW_none, errW_some] <;> rfl) | (simp [*, errW_none, errW_some] <;> rfl), by repeat (first | (with_reducible first | exact HB.out | apply below_alloc | apply pw_below_drewN | apply below_drew1 | refine below_set ?_ GE163.out | refine below_set ?_ GE164.out) | exact HB.out)⟩
  · rw [if_neg c3] at H
    have c3b0 : decide (a0_0 < a1_0) = false := decide_eq_false c3
    clear c3
    by_cases c9 : a0_0 = a1_0
    · rw [if_pos c9] at H
      have c9b0 : (a0_0 == a1_0) = true := beq_iff_eq.mpr c9
      have c9b1 : (a0_0 != a1_0) = false := bne_eq_false_iff_eq.mpr c9
      clear c9
      obtain rfl := Option.some.inj H
      go_enter Try.func69, Try.ntmps69
      go_wp2_with (first | ((with_reducible refine gate_dst (N := 2) rfl ?_); refine box_event ?hg (N := 2) ?hd (cs := #[.int .u64 a0_0, .int .i64 a0_1]) (t := 85) ?hr ?_; (case hd => rfl); (case hg => rfl); (case hr => first | (go_simp; done) | (go_simp; rfl)); intro gb163 hg w10 hbox hb; obtain ⟨n_, GE163⟩ := Cb.bx (by repeat (first | (with_reducible first | exact HB.out | apply below_alloc | apply pw_below_drewN | apply below_drew1) | exact HB.out)) hg hb; have GW163 := GE163; have BK163 := Aside0.mk (hbox); replace HB := n_; clear n_; clear hb hbox hg) | ((with_reducible refine gate_dst (N := 3) rfl ?_); refine box_event ?hg (N := 3) ?hd (cs := #[.int .u64 a1_0, .int .i64 a1_1]) (t := 85) ?hr ?_; (case hd => rfl); (case hg => rfl); (case hr => first | (go_simp; done) | (go_simp; rfl)); intro gb164 hg w11 hbox hb; obtain ⟨n_, GE164⟩ := Cb.bx (by repeat (first | (with_reducible first | exact HB.out | apply below_alloc | apply pw_below_drewN | apply below_drew1 | refine below_set ?_ GE163.out) | exact HB.out)) hg hb; have GW164 := GE164; obtain ⟨NB163_164, NB164_163⟩ := Cb.nb hg BK163.out; have BK164 := Aside0.mk (hbox); replace BK163 := Aside0.mk (blk_below BK163.out hb); replace HB := n_; clear n_; clear hb hbox hg; have hnb12 := NB163_164.out; have hnc12 := NB164_163.out; obtain ⟨hcz13_0, hcz13_1⟩ := Cb.c2 BK163.out; obtain ⟨hfz13_0, hfz13_1⟩ := Cb.f2 BK163.out; obtain ⟨hcz14_0, hcz14_1⟩ := Cb.c2 BK164.out; obtain ⟨hfz14_0, hfz14_1⟩ := Cb.f2 BK164.out))
      go_ret
      exact ⟨by first | rfl | (simp [errW_none, errW_some] <;> rfl) | (simp [*, errW_none, errW_some] <;> rfl), by repeat (first | (with_reducible first | exact HB.out | apply below_alloc | apply pw_below_drewN | apply below_drew1 | refine below_set ?_ GE163.out | refine below_set ?_ GE164.out) | exact HB.out)⟩
    · rw [if_neg c9] at H
      have c9b0 : (a0_0 == a1_0) = false := beq_eq_false_iff_ne.mpr c9
      have c9b1 : (a0_0 != a1_0) = true := bne_iff_ne.mpr c9
      obtain rfl := Option.some.inj H
      go_enter Try.func69, Try.ntmps69
      go_wp2_with (first | ((with_reducible refine gate_dst (N := 2) rfl ?_); refine box_event ?hg (N := 2) ?hd (cs := #[.int .u64 a0_0, .int .i64 a0_1]) (t := 85) ?hr ?_; (case hd => rfl); (case hg => rfl); (case hr => first | (go_simp; done) | (go_simp; rfl)); intro gb163 hg w15 hbox hb; obtain ⟨n_, GE163⟩ := Cb.bx (by repeat (first | (with_reducible first | exact HB.out | apply below_alloc | apply pw_below_drewN | apply below_drew1) | exact HB.out)) hg hb; have GW163 := GE163; have BK163 := Aside0.mk (hbox); replace HB := n_; clear n_; clear hb hbox hg) | ((with_reducible refine gate_dst (N := 3) rfl ?_); refine box_event ?hg (N := 3) ?hd (cs := #[.int .u64 a1_0, .int .i64 a1_1]) (t := 85) ?hr ?_; (case hd => rfl); (case hg => rfl); (case hr => first | (go_simp; done) | (go_simp; rfl)); intro gb164 hg w16 hbox hb; obtain ⟨n_, GE164⟩ := Cb.bx (by repeat (first | (with_reducible first | exact HB.out | apply below_alloc | apply pw_below_drewN | apply below_drew1 | refine below_set ?_ GE163.out) | exact HB.out)) hg hb; have GW164 := GE164; obtain ⟨NB163_164, NB164_163⟩ := Cb.nb hg BK163.out; have BK164 := Aside0.mk (hbox); replace BK163 := Aside0.mk (blk_below BK163.out hb); replace HB := n_; clear n_; clear hb hbox hg; have hnb17 := NB163_164.out; have hnc17 := NB164_163.out; obtain ⟨hcz18_0, hcz18_1⟩ := Cb.c2 BK163.out; obtain ⟨hfz18_0, hfz18_1⟩ := Cb.f2 BK163.out; obtain ⟨hcz19_0, hcz19_1⟩ := Cb.c2 BK164.out; obtain ⟨hfz19_0, hfz19_1⟩ := Cb.f2 BK164.out))
      go_ret
      exact ⟨by first | rfl | (simp [errW_none, errW_some] <;> rfl) | (simp [*, errW_none, errW_some] <;> rfl), by repeat (first | (with_reducible first | exact HB.out | apply below_alloc | apply pw_below_drewN | apply below_drew1 | refine below_set ?_ GE163.out | refine below_set ?_ GE164.out) | exact HB.out)⟩

end Go.Proofs.Ytnpmjboofmdflaa.PB
