-- Made by a program of this workplace out of the translation (wip/tools in the repo). Not trusted: Lean checks it.
import Derived.Test.YtnpmjboofmdflaaPAx0
import Derived.Test.YtnpmjboofmdflaaCb
import Derived.Test.YtnpmjboofmdflaaSq
import Derived.Test.YtnpmjboofmdflaaTq
import Derived.Test.YtnpmjboofmdflaaPAx3
import Derived.Test.YtnpmjboofmdflaaPAx4
namespace Go.Proofs.Ytnpmjboofmdflaa.PA
open Go.RowKit Go.Proofs.YtnpmjboofmdflaaW.PrintWords Go.Proofs.YtnpmjboofmdflaaW.PrintLast Go.Proofs.YtnpmjboofmdflaaW.PrintMore Go.Proofs.Ytnpmjboofmdflaa
attribute [local go_sem] max2_int min2_int max_two min_two max_three min_three max_four min_four   -- for this text's walks alone
set_option linter.unusedVariables false
set_option linter.unusedSimpArgs false

/-! ### api_Session_48: function 48 -/
set_option maxHeartbeats 8000000 in
set_option maxRecDepth 100000 in
theorem api_Session_48.calls (A0 : Option Addr) (c0 : Nat) (l0 : List (S42)) (r : List (S42)) (w : World) (aK : Kd.C k42 w A0 l0.length l0) (aM : l0.length ≤ c0) (h : api_Session_48.f l0 = some r) :
  Calls Try.prog 48 #[.slice A0 l0.length c0] w fun e w' => ∃ v0_ : Value, e = .returned (v0_) ∧ Kd.R k42 42 w' w.heap.size (fun _ => True) v0_ r ∧ Below w.heap.size w w' := by
 have aN := ak aK
 have aQ := ak aM
 clear aK aM
 have HB := ak (Below.refl w.heap.size w)
 have H : ((some (([] : List (S42)) : List (S42))).bind fun y127 => (if y127.length + l0.length < 2513169434916 then (some (y127 ++ l0)) else (none))) = some r := h
 clear h
 obtain ⟨y127, hy127⟩ : ∃ y_ : List (S42), y_ = (([] : List (S42))) := ⟨_, rfl⟩
 replace H : (if y127.length + l0.length < 2513169434916 then (some (y127 ++ l0)) else (none)) = some r := by first | (rw [hy127]; with_reducible exact H) | (have aE := (Option.bind_some _ _).symm.trans H; rw [hy127]; with_reducible exact aE) | (have aE := (Option.bind_some _ _).symm.trans H; with_reducible exact aE) | with_reducible exact H | (rw [hy127]; exact H) | exact H
 have aA := ak hy127
 clear hy127
 have c2 : y127.length + l0.length < 2513169434916 := Decidable.byContradiction fun q => by rw [if_neg q] at H; exact absurd H (by simp)
 rw [if_pos c2] at H
 have aI := ak c2
 clear c2
 obtain ⟨y130, hy130⟩ : ∃ y_ : List (S42), y_ = (y127 ++ l0) := ⟨_, rfl⟩
 replace H : (some y130) = some r := by first | (rw [hy130]; with_reducible exact H) | (have aE := (Option.bind_some _ _).symm.trans H; rw [hy130]; with_reducible exact aE) | (have aE := (Option.bind_some _ _).symm.trans H; with_reducible exact aE) | with_reducible exact H | (rw [hy130]; exact H) | exact H
 have aC := ak hy130
 clear hy130
 obtain rfl := Option.some.inj H
 have qT := fun (w : World) (a : Option Addr) (l c : Nat) => Lib.run_eql_slice_nil (P := Try.prog) w 22 42 a l c 0 0 Try.underlying22
 rcases A0 with _ | aT
 ·have hl : l0 = [] := by
   rcases l0 with _ | ⟨x_, l_⟩
   ·rfl
   ·obtain ⟨_, h_, _⟩ := aN.out.2.2 (by simp)
    cases h_
  have hy := ak (show y130 = [] by rw [aC.out, aA.out, hl]; rfl)
  clear hl
  go_enter Try.func48, Try.ntmps48
  go_wp2
  go_ret
  exact ⟨_, rfl, by rw [hy.out]; exact Kd.R_nil _ _ _ _ _, HB.out⟩
 ·go_enter Try.func48, Try.ntmps48
  go_wp2_with (first | ((with_reducible refine gate_dst (N := 5) rfl ?_); refine Kd.R_lit k42 _ 42 ?hg (N := 5) ?hd (xs := ([] : List (S42))) (inner := []) (ok := fun _ => True) (okp := fun _ => True) ?hr ?hp (fun _ hk => hk) trivial (Below.refl _ _) (Nat.le_refl _) (by simp) ?_; (case hd => rfl); (case hg => rfl); (case hr => first | (go_simp; done) | (go_simp; rfl)); (case hp => exact (Reps.none _ _)); intro aJ w3 aG hb hg_ hnew_; clear hg_ hnew_; (first | rw [← aA.out] at aG | (simp only [Int.reduceToNat] at aG; rw [← aA.out] at aG)); have aD := ak (Kd.R_lower aG (below_size (pB HB.out))); replace HB := ak (below_step (pB HB.out) hb); clear hb aG) | ((with_reducible refine gate_builtin (b := .append) (xs := #[.tmp 5, .tmp 6]) rfl ?_); at_builtin; refine Kd.R_append_rows k42 (w0 := w) w.heap.size rfl (.tmp 5) (.tmp 6) 22 42 (.agg #[(.int .i64 0), (.int .i64 0), (.bool false), (.string ⟨#[]⟩), (.int .i64 0), (.int .i64 0)]) 56 rfl Try.underlying22 info42 rfl (by decide) (by omega) aJ y127 l0 _ _ _ (fun _ => True) (fun _ => False) rfl rfl ?aO ?aR (fun _ _ h => h) (fun _ h => h.elim) ?aF ?aB ?aS ?aL ?_; (case aR => exact pc (Kd.C_below aN.out HB.out)); (case aB => exact (pB HB.out)); (case aF => exact (fun _ _ => trivial)); (case aO => exact (pR aD.out)); (case aS => exact (below_size (pB HB.out))); (case aL => have := aI.out; omega); intro aP w5 ho hb hg hat; rw [← aC.out] at ho; have n0_ := ak (hb); have n1_ := ak (ho); clear HB; clear aD; have HB := n0_; have aH := n1_; clear n0_ n1_; clear ho hb hg hat))
  go_ret
  exact ⟨_, by first | rfl | (simp [errW_none, errW_some] <;> rfl) | (simp [*, errW_none, errW_some] <;> rfl), pR aH.out, pB HB.out⟩

open Go.Proofs.Ytnpmjboofmdflaa.Cp
theorem kept_trans_ {w W W2 : World} {S : Nat → Prop} (h : Kept w W S) (k : Kept W W2 S) : Kept w W2 S := h.then_ k (fun _ hk => .inl hk)
def flc42 (x : S42) : List Value := [.int .i64 x.f0, .int .i64 x.f1, .bool x.f2, .string x.f3, .int .i64 x.f4, .int .i64 x.f5]
theorem flc42_len (x : S42) : (flc42 x).length = 6 := rfl
theorem own42 {w : World} {base : Nat} {ok : Nat → Prop} {v : Value} {xs : List S42} (h : Kd.R k42 42 w base ok v xs) : (∀ k, v.ownBlock = some k → ok k) ∧ w.ownsRow base 42 6 v xs.length (xs.flatMap flc42) := R_flat flc42 (fun _ _ h => k42_openM h) h
theorem row42 {w : World} {base : Nat} {ok : Nat → Prop} {v : Value} {xs : List S42} (h0 : ∀ k, v.ownBlock = some k → ok k) (h : w.ownsRow base 42 6 v xs.length (xs.flatMap flc42)) : Kd.R k42 42 w base ok v xs := flat_R flc42 (fun x => k42_mkM _ _ _ x) (fun _ => rfl) h0 h
theorem row_form42 {w : World} {base : Nat} {ok : Nat → Prop} {v : Value} {xs : List S42} (h : Kd.R k42 42 w base ok v xs) (hn : 0 < xs.length) : ∃ g c, v = .slice (some ⟨g, 0, none⟩) xs.length c ∧ xs.length ≤ c ∧ Kd.C k42 w (some ⟨g, 0, none⟩) xs.length xs := by
 obtain ⟨A, c, rfl, hc, hC⟩ := Kd.R_reads h
 obtain ⟨_, _, h2⟩ := own42 h
 rcases h2 with ⟨_, h0⟩ | ⟨g, c', cur, e, _⟩
 ·omega
 ·injection e with e1 e2 e3
  subst e1
  exact ⟨g, c, rfl, hc, hC⟩
theorem row_C42 {w : World} {base g n c : Nat} {ok : Nat → Prop} {xs : List S42} (h : Kd.R k42 42 w base ok (.slice (some ⟨g, 0, none⟩) n c) xs) : Kd.C k42 w (some ⟨g, 0, none⟩) n xs := by
 obtain ⟨A, c, e, hc, hC⟩ := Kd.R_reads h
 injection e with e1 e2 e3
 subst e1; subst e2
 exact hC
theorem row_old42 {w : World} {g n : Nat} {xs : List S42} (h : Kd.C k42 w (some ⟨g, 0, none⟩) n xs) (i : Nat) (hi : i < n) : ∃ c : List Value, c.length = 6 ∧ ∀ j u, c[j]? = some u → w.cell? ⟨g, (i : Int).toNat * 6 + j, none⟩ = some u := by
 obtain ⟨ad, c, e, _, hK, hc0⟩ := Kd.C_get h z42 (i : Int) (by omega) (by omega)
 cases e
 refine ⟨c, by rw [k42_open hK]; rfl, fun j u hj => ?_⟩
 have := hc0 j u hj
 rw [Addr.add_lit, Nat.zero_add] at this
 exact this
theorem row_cells42 {w : World} {g n : Nat} {xs : List S42} (h : Kd.C k42 w (some ⟨g, 0, none⟩) n xs) (i : Int) (h0 : 0 ≤ i) (hi : i < (n : Int)) : ∀ j u, (flc42 (rd_T42 xs i))[j]? = some u → w.cell? ⟨g, i.toNat * 6 + j, none⟩ = some u := by
 obtain ⟨ad, c, e, _, hK, hc0⟩ := Kd.C_get h z42 i h0 hi
 cases e
 intro j u hj
 have hc : c = flc42 (rd_T42 xs i) := k42_open hK
 have := hc0 j u (by rw [hc]; exact hj)
 rw [Addr.add_lit, Nat.zero_add] at this
 exact this
theorem R_store_k {P : Program} {ops : Array Oper} {o : Oper} {a : Act} {Q : Exit → Act → World → Prop} {K : Act → World → Prop} {α : Type} {E_ : Prop} (d : Kd α) {w0 W : World} (base : Nat) (hN : o.dst = none) (hgd : o.guard = none) (t : TypeId) (p x : Operand) (ho : o.op = .store t p x) (e : TypeId) {g n cap o' : Nat} (i : Int) (j : Nat) (xs : List α) (x' : α) (u : Value) (seg c : List Value) (ok okp : Nat → Prop)
  (haddr : a.eval p = .pointer (some ⟨g, o', none⟩)) (hoff : o' = i.toNat * d.sz + j) (hx : a.eval x = u) (hu : u.cells.toList = seg) (ht : (P.info? t).map (·.size) = some seg.length) (h1 : ∀ q ∈ seg, q.oneCell' = true)
  (HO : d.R e W base ok (.slice (some ⟨g, 0, none⟩) n cap) xs) (h0 : 0 ≤ i) (hi : i < n) (hcl : c.length = d.sz) (hcc : ∀ j u, c[j]? = some u → W.cell? ⟨g, i.toNat * d.sz + j, none⟩ = some u)
  (hj : j + seg.length ≤ d.sz) (hM : d.M W base okp x' (c.take j ++ seg ++ c.drop (j + seg.length))) (hokp : ∀ k, okp k → ok k ∧ k ≠ g) (HB : Below base w0 W)
  (h : ∀ w1, d.R e w1 base ok (.slice (some ⟨g, 0, none⟩) n cap) (xs.set i.toNat x') → Below base w0 w1 → W.grownBy w1 (some g) → K a w1) : if Region.wanted o (yielded ops a.tmps) = true then Oper.wp P o a W K Q else E_ := by
 have hw : Region.wanted o (yielded ops a.tmps) = true := by simp [Region.wanted, hgd]
 rw [if_pos hw]
 subst hoff
 obtain ⟨hrow, hg⟩ := Kd.R_seg HO i h0 hi hcl hcc hj hM hokp
 have hbg : base ≤ g := Kd.R_base HO g (by simp [Value.ownBlock])
 obtain ⟨_, inner, hown, hr⟩ := HO
 have hil : i.toNat < n := by omega
 have hB : Below base w0 (W.setCells g (i.toNat * d.sz + j) seg) := HB.trans ⟨hg.os, hg.tape, hg.output, hg.size, fun k hk => by
  have hlt : k < W.heap.size ∨ W.heap.size ≤ k := Nat.lt_or_ge _ _
  rcases hlt with hlt | hge
  ·exact hg.block k hlt (fun he => by injection he with he; omega)
  ·exact setCells_far seg _ k (by omega)⟩
 have hrun : (Instr.storeAt t (.pointer (some ⟨g, i.toNat * d.sz + j, none⟩)) u).run P W = .ok () (W.setCells g (i.toNat * d.sz + j) seg) := by
  rcases hown.2 with ⟨hv, _⟩ | ⟨g', cap', cur, hv, hb, hh, hnc, hcm, hcs, _⟩
  ·cases hv
  injection hv with ha _ hc
  injection ha with ha
  injection ha with hg'
  subst hg'; subst hc
  refine run_store_run t u seg hh hu ht ?_ h1
  have h2 : i.toNat * d.sz + d.sz ≤ n * d.sz := by rw [← Nat.succ_mul]; exact Nat.mul_le_mul_right _ hil
  have h3 : n * d.sz ≤ cap * d.sz := Nat.mul_le_mul_right _ (by omega)
  omega
 unfold Oper.wp execOp
 simp only [ho, haddr, hx, Sem.run_bind, Sem.run_pure, Result.andThen_ok, hrun]
 show K (a.put o.dst undef) _
 rw [hN]
 exact h _ hrow hB hg
theorem kept_grown_ {W W1 : World} {g : Nat} {S : Nat → Prop} (hg : W.grownBy W1 (some g)) (hS : S g) : Kept W W1 S := ⟨hg.size, fun i hi hn => hg.block i hi (fun e => hn (by injection e with e; subst e; exact hS))⟩
theorem set_at_42 (xs : List S42) (i : Int) (x : S42) (h0 : 0 ≤ i) (h1 : i < (xs.length : Int)) : rd_T42 (xs.set i.toNat x) i = x := by
 unfold rd_T42
 rw [List.getD_eq_getElem?_getD, List.getElem?_set_self (by omega)]
 rfl
/-! ### session_with_Take: function 38 -/
set_option maxHeartbeats 8000000 in
set_option maxRecDepth 100000 in
theorem session_with_Take_at.calls {B n cap : Nat} {ad : Addr} {w0 : World} {u9000_ : Value} {a2 : Int} (hcap : w0.cell? ⟨B, 0, none⟩ = some (.int .i64 a2)) (hu : u9000_ = .slice (some ad) n cap) (aE : Nat → Prop) (l0 : List S42) (a1 : Int) (r : List S42) (w : World) (hB : Below w0.heap.size w0 w) (aN : Kd.R k42 42 w w0.heap.size aE u9000_ l0) (h : session_with_Take_at.f l0 a1 a2 = some r) :
  Calls Try.prog 39 #[.pointer (some (ad.add (a1.toNat * 6))), .pointer (some ⟨B, 0, none⟩)] w fun e w' => e = .returned (.tuple #[]) ∧ Kd.R k42 42 w' w0.heap.size (fun k_ => (aE k_ ∨ w.heap.size ≤ k_)) u9000_ r ∧ Below w0.heap.size w0 w' ∧ Kept w w' (fun k_ => aE k_) := by
 have a8 := Try.underlying42
 unfold session_with_Take_at.f at h
 by_cases h0 : 0 ≤ a1
 rotate_left
 ·rw [if_neg h0] at h; exact absurd h (by simp)
 rw [if_pos h0] at h
 by_cases h1 : a1 < (l0.length : Int)
 rotate_left
 ·rw [if_neg h1] at h; exact absurd h (by simp)
 rw [if_pos h1] at h
 obtain rfl := Option.some.inj h
 clear h
 subst hu
 obtain ⟨g, c_, eg, _, _⟩ := row_form42 aN (by omega)
 injection eg with eg _ ec
 subst ec
 injection eg with eg
 subst eg
 obtain ⟨rfl, _, hC⟩ := Kd.R_reads' aN
 rw [show (⟨g, 0, none⟩ : Addr).add (a1.toNat * 6) = ⟨g, a1.toNat * 6, none⟩ from by rw [Addr.add_lit, Nat.zero_add]]
 have HC := ak (row_cells42 hC a1 h0 h1)
 have hlt := World.block_lt_of_cell? w0 _ hcap
 have hge : w0.heap.size ≤ g := Kd.R_base aN g (by simp [Value.ownBlock])
 have HS := ak (aN.1 g (by simp [Value.ownBlock]))
 have a9 : w.cell? ⟨B, 0, none⟩ = some (.int .i64 a2) := (hB.cell hlt).trans hcap
 have R0 := ak aN
 have HB := ak hB
 have HCAP := ak hcap
 have bA : w.cell? ⟨g, a1.toNat * 6 + 1, none⟩ = some (.int .i64 (rd_T42 l0 a1).f1) := HC.out 1 _ rfl
 clear aN hB hcap hC
 go_enter Try.func39, Try.ntmps39
 go_wp2_with ((with_reducible refine gate_ (.store 3 (.tmp 9) (.tmp 7)) rfl ?_); refine Kd.R_store k42 (w0 := w0) w0.heap.size rfl rfl 3 (.tmp 9) (.tmp 7) rfl 42 a1 1 l0 (⟨(rd_T42 l0 a1).f0, (wrap64 ((rd_T42 l0 a1).f1 + 1)), (rd_T42 l0 a1).f2, (rd_T42 l0 a1).f3, (rd_T42 l0 a1).f4, (rd_T42 l0 a1).f5⟩ : S42) (.int .i64 (wrap64 ((rd_T42 l0 a1).f1 + 1))) [.int .i64 (wrap64 ((rd_T42 l0 a1).f1 + 1))] (flc42 (rd_T42 l0 a1)) aE (fun _ => False) rfl ?so ?sx rfl (by kernel_rfl) ?s1 R0.out h0 ?sl rfl HC.out (by show 1 + 1 ≤ 6; decide) ?s2 (fun _ hk => hk.elim) HB.out ?_; (case sx => first | rfl | (simp only [Act.eval, i64_w]; rfl) | (show Value.int _ _ = _; rw [← i64_w])); (case so => first | rfl | simp); (case s1 => intro q hq; simp only [List.mem_cons, List.not_mem_nil, or_false] at hq; subst hq; rfl); (case sl => first | exact h1 | (simp only [List.length_set]; exact h1)); (case s2 => exact k42_mkM _ _ _ _); intro w3 aA aC aD; have aH := ak aA; have aI := ak aC; have aG := ak aD; clear aA aC aD)
 have a6 : w3.cell? ⟨B, 0, none⟩ = some (.int .i64 a2) := (aI.out.cell hlt).trans HCAP.out
 clear bA
 have aJ := row_cells42 (Kd.R_reads' aH.out).2.2 a1 h0 (by first | exact h1 | (simp only [List.length_set]; exact h1))
 rw [set_at_42 _ _ _ h0 (by first | exact h1 | (simp only [List.length_set]; exact h1))] at aJ
 have aP := ak aJ
 clear aJ
 refine start_ (n := 13) (S := fun w' => w'.cell? ⟨B, 0, none⟩ = some (.int .i64 a2)) (ds := []) #[false, false, false, false, false, false, false, false, false, false, false, false, false] (by kernel_rfl) rfl rfl a6 (fun hHeld => ?_)
 have R1 := ak (Kd.R_drew aH.out)
 have B1 := ak (below_drew1 aI.out)
 have KD := ak (show Kept w w3.drew (fun k_ => aE k_) from kept_trans_ (kept_grown_ aG.out HS.out) ⟨Nat.le_refl _, fun _ _ _ => rfl⟩)
 have a7 : Aside0 (∀ j u, (flc42 (⟨(rd_T42 l0 a1).f0, (wrap64 ((rd_T42 l0 a1).f1 + 1)), (rd_T42 l0 a1).f2, (rd_T42 l0 a1).f3, (rd_T42 l0 a1).f4, (rd_T42 l0 a1).f5⟩ : S42))[j]? = some u → w3.drew.cell? ⟨g, a1.toNat * 6 + j, none⟩ = some u) := ⟨aP.out⟩
 clear R0 HB HC a9 a6 aH aI aG aP
 generalize w3.drew = wd at R1 B1 KD a7 hHeld ⊢
 refine qa 0 10 (tb 13 1) (by kernel_rfl) ?_
 refine qa 1 11 (tb 13 3) (by kernel_rfl) ?_
 refine qa 2 12 (tb 13 7) (by kernel_rfl) ?_
 refine ka 3 13 (tb 13 15) (by kernel_rfl) hHeld ?_
 refine qa 4 14 (tb 13 31) (by kernel_rfl) ?_
 refine qa 5 15 (tb 13 63) (by kernel_rfl) ?_
 refine one_ (i := 6) (N := none) (tb 13 127) rfl rfl (by kernel_rfl) (by decide) (fun K hK => ?_)
 (refine R_store_k k42 (w0 := w0) w0.heap.size rfl rfl 4 (.tmp 15) (.const (.bool true)) rfl 42 a1 2 (l0.set a1.toNat (⟨(rd_T42 l0 a1).f0, (wrap64 ((rd_T42 l0 a1).f1 + 1)), (rd_T42 l0 a1).f2, (rd_T42 l0 a1).f3, (rd_T42 l0 a1).f4, (rd_T42 l0 a1).f5⟩ : S42)) (⟨(rd_T42 l0 a1).f0, (wrap64 ((rd_T42 l0 a1).f1 + 1)), true, (rd_T42 l0 a1).f3, (rd_T42 l0 a1).f4, (rd_T42 l0 a1).f5⟩ : S42) (.bool true) [.bool true] (flc42 (⟨(rd_T42 l0 a1).f0, (wrap64 ((rd_T42 l0 a1).f1 + 1)), (rd_T42 l0 a1).f2, (rd_T42 l0 a1).f3, (rd_T42 l0 a1).f4, (rd_T42 l0 a1).f5⟩ : S42)) aE (fun _ => False) rfl ?so rfl rfl (by kernel_rfl) ?s1 R1.out h0 ?sl rfl a7.out (by show 2 + 1 ≤ 6; decide) ?s2 (fun _ hk => hk.elim) B1.out ?_; (case so => first | rfl | simp); (case s1 => intro q hq; simp only [List.mem_cons, List.not_mem_nil, or_false] at hq; subst hq; rfl); (case sl => first | exact h1 | (simp only [List.length_set]; exact h1)); (case s2 => exact k42_mkM _ _ _ _); intro w4 aA aC aD; have aQ := ak aA; have aT := ak aC; have aU := ak aD; clear aA aC aD)
 have aV : w4.cell? ⟨B, 0, none⟩ = some (.int .i64 a2) := (aT.out.cell hlt).trans HCAP.out
 refine hK.out _ _ aV (fun hHeld => ?_)
 clear hK K
 have aK := row_cells42 (Kd.R_reads' aQ.out).2.2 a1 h0 (by first | exact h1 | (simp only [List.length_set]; exact h1))
 rw [set_at_42 _ _ _ h0 (by first | exact h1 | (simp only [List.length_set]; exact h1))] at aK
 have a3 := ak aK
 clear aK
 refine qa 7 16 (tb 13 255) (by kernel_rfl) ?_
 refine qa 8 17 (tb 13 511) (by kernel_rfl) ?_
 refine one_ (i := 9) (N := none) (tb 13 1023) rfl rfl (by kernel_rfl) (by decide) (fun K hK => ?_)
 (refine R_store_k k42 (w0 := w0) w0.heap.size rfl rfl 9 (.tmp 17) (.const (.string ⟨#[]⟩)) rfl 42 a1 3 ((l0.set a1.toNat (⟨(rd_T42 l0 a1).f0, (wrap64 ((rd_T42 l0 a1).f1 + 1)), (rd_T42 l0 a1).f2, (rd_T42 l0 a1).f3, (rd_T42 l0 a1).f4, (rd_T42 l0 a1).f5⟩ : S42)).set a1.toNat (⟨(rd_T42 l0 a1).f0, (wrap64 ((rd_T42 l0 a1).f1 + 1)), true, (rd_T42 l0 a1).f3, (rd_T42 l0 a1).f4, (rd_T42 l0 a1).f5⟩ : S42)) (⟨(rd_T42 l0 a1).f0, (wrap64 ((rd_T42 l0 a1).f1 + 1)), true, (⟨#[]⟩ : ByteArray), (rd_T42 l0 a1).f4, (rd_T42 l0 a1).f5⟩ : S42) (.string (⟨#[]⟩ : ByteArray)) [.string (⟨#[]⟩ : ByteArray)] (flc42 (⟨(rd_T42 l0 a1).f0, (wrap64 ((rd_T42 l0 a1).f1 + 1)), true, (rd_T42 l0 a1).f3, (rd_T42 l0 a1).f4, (rd_T42 l0 a1).f5⟩ : S42)) aE (fun _ => False) rfl ?so rfl rfl (by kernel_rfl) ?s1 aQ.out h0 ?sl rfl a3.out (by show 3 + 1 ≤ 6; decide) ?s2 (fun _ hk => hk.elim) aT.out ?_; (case so => first | rfl | simp); (case s1 => intro q hq; simp only [List.mem_cons, List.not_mem_nil, or_false] at hq; subst hq; rfl); (case sl => first | exact h1 | (simp only [List.length_set]; exact h1)); (case s2 => exact k42_mkM _ _ _ _); intro w5 aA aC aD; have aW := ak aA; have aX := ak aC; have aY := ak aD; clear aA aC aD)
 have aV : w5.cell? ⟨B, 0, none⟩ = some (.int .i64 a2) := (aX.out.cell hlt).trans HCAP.out
 refine hK.out _ _ aV (fun hHeld => ?_)
 clear hK K
 have aM := row_cells42 (Kd.R_reads' aW.out).2.2 a1 h0 (by first | exact h1 | (simp only [List.length_set]; exact h1))
 rw [set_at_42 _ _ _ h0 (by first | exact h1 | (simp only [List.length_set]; exact h1))] at aM
 have a4 := ak aM
 clear aM
 refine qa 10 18 (tb 13 2047) (by kernel_rfl) ?_
 refine qa 11 19 (tb 13 4095) (by kernel_rfl) ?_
 refine one_ (i := 12) (N := none) (tb 13 8191) rfl rfl (by kernel_rfl) (by decide) (fun K hK => ?_)
 (refine R_store_k k42 (w0 := w0) w0.heap.size rfl rfl 3 (.tmp 19) (.tmp 13) rfl 42 a1 5 (((l0.set a1.toNat (⟨(rd_T42 l0 a1).f0, (wrap64 ((rd_T42 l0 a1).f1 + 1)), (rd_T42 l0 a1).f2, (rd_T42 l0 a1).f3, (rd_T42 l0 a1).f4, (rd_T42 l0 a1).f5⟩ : S42)).set a1.toNat (⟨(rd_T42 l0 a1).f0, (wrap64 ((rd_T42 l0 a1).f1 + 1)), true, (rd_T42 l0 a1).f3, (rd_T42 l0 a1).f4, (rd_T42 l0 a1).f5⟩ : S42)).set a1.toNat (⟨(rd_T42 l0 a1).f0, (wrap64 ((rd_T42 l0 a1).f1 + 1)), true, (⟨#[]⟩ : ByteArray), (rd_T42 l0 a1).f4, (rd_T42 l0 a1).f5⟩ : S42)) (⟨(rd_T42 l0 a1).f0, (wrap64 ((rd_T42 l0 a1).f1 + 1)), true, (⟨#[]⟩ : ByteArray), (rd_T42 l0 a1).f4, a2⟩ : S42) (.int .i64 a2) [.int .i64 a2] (flc42 (⟨(rd_T42 l0 a1).f0, (wrap64 ((rd_T42 l0 a1).f1 + 1)), true, (⟨#[]⟩ : ByteArray), (rd_T42 l0 a1).f4, (rd_T42 l0 a1).f5⟩ : S42)) aE (fun _ => False) rfl ?so rfl rfl (by kernel_rfl) ?s1 aW.out h0 ?sl rfl a4.out (by show 5 + 1 ≤ 6; decide) ?s2 (fun _ hk => hk.elim) aX.out ?_; (case so => first | rfl | simp); (case s1 => intro q hq; simp only [List.mem_cons, List.not_mem_nil, or_false] at hq; subst hq; rfl); (case sl => first | exact h1 | (simp only [List.length_set]; exact h1)); (case s2 => exact k42_mkM _ _ _ _); intro w6 aA aC aD; have a5 := ak aA; have aZ := ak aC; have a0 := ak aD; clear aA aC aD)
 have aV : w6.cell? ⟨B, 0, none⟩ = some (.int .i64 a2) := (aZ.out.cell hlt).trans HCAP.out
 refine hK.out _ _ aV (fun hHeld => ?_)
 clear hK K
 refine done_ (by kernel_rfl) ?_
 try go_wp2
 first | go_end0 | ((try simp only [Exit.inBlock, Exit.then]); refine bodyPost_ret (results_none rfl _ _ _) rfl ?_)
 refine ⟨rfl, ?_, aZ.out, kept_trans_ KD.out (kept_trans_ (kept_grown_ aU.out HS.out) (kept_trans_ (kept_grown_ aY.out HS.out) (kept_grown_ a0.out HS.out)))⟩
 have hr := Kd.R_mono a5.out (ok' := fun k_ => aE k_ ∨ w.heap.size ≤ k_) (fun _ hk => .inl hk)
 simp only [List.set_set] at hr
 exact hr
set_option maxHeartbeats 8000000 in
set_option maxRecDepth 100000 in
theorem session_with_Take.calls {B : Nat} (aI : Int) (a5 : Nat → Prop) (a0 : Option Addr) (a3 : Nat) (aK : List (S42)) (a6 : Nat → Prop) (aU : Option Addr) (aV : Nat) (aG : List (S85)) (aM : Int) (aQ : Int) (a1 : Int) (a2 : Int) (r1 : Int) (r2 : List (S42)) (r3 : List (S85)) (r4 : Int) (r5 : Int) (r6 : Int) (w : World) (hcap : w.cell? ⟨B, 0, none⟩ = some (.int .i64 a2)) (bD : Kd.V k42 42 w w.heap.size (fun k_ => a5 k_) (.slice a0 aK.length a3) aK) (bE : Kd.V k85 85 w w.heap.size (fun k_ => a6 k_) (.slice aU aG.length aV) aG) (h : session_with_Take.f aI aK aG aM aQ a1 a2 = some (r1, r2, r3, r4, r5, r6)) :
  Calls Try.prog 38 #[.agg #[.int .i64 aI, .slice a0 aK.length a3, .slice aU aG.length aV, .int .i64 aM, .int .u64 aQ], .int .i64 a1, .func (.func 39) #[] #[.pointer (some ⟨B, 0, none⟩)]] w fun e w' => ∃ v1_ v2_ : Value, e = .returned (.tuple #[.agg #[.int .i64 r1, v1_, v2_, .int .i64 r4, .int .u64 r5], .int .i64 r6]) ∧ Kd.V k42 42 w' w.heap.size (fun k_ => ((a5 k_ ∨ a6 k_) ∨ w.heap.size ≤ k_)) v1_ r2 ∧ Kd.V k85 85 w' w.heap.size (fun k_ => ((a5 k_ ∨ a6 k_) ∨ w.heap.size ≤ k_)) v2_ r3 ∧ Below w.heap.size w w' := by
 have eO := Try.underlying26
 have aD := ak (show Kd.V k42 42 w w.heap.size (fun k_ => ((a5 k_ ∨ a6 k_) ∨ w.heap.size ≤ k_)) (.slice a0 aK.length a3) aK from Kd.V_mono bD (fun k_ hk => .inl (.inl hk)))
 have aE := ak (show Kd.V k85 85 w w.heap.size (fun k_ => ((a5 k_ ∨ a6 k_) ∨ w.heap.size ≤ k_)) (.slice aU aG.length aV) aG from Kd.V_mono bE (fun k_ hk => .inl (.inr hk)))
 have HB := ak (Below.refl w.heap.size w)
 have HCAP := ak hcap
 clear hcap
 have H : ((session_at.f aI aK aG aM aQ a1).bind fun aN => (if aN < 0 then (some (aI, aK, aG, aM, aQ, 7)) else ((api_Session_48.f aK).bind fun aH => (if 0 ≤ aN then (if aN < (aH.length : Int) then ((session_with_Take_at.f aH aN a2).bind fun a8 => (some (aI, a8, aG, aM, aQ, 0))) else (none)) else (none))))) = some (r1, r2, r3, r4, r5, r6) := h
 clear h
 replace H := Option.bind_eq_some_iff.mp H
 obtain ⟨aN, eI, H⟩ := H
 try dsimp only at H
 have A4 := ak eI
 clear eI
 by_cases c5 : aN < 0
 ·rw [if_pos c5] at H
  have d5 : decide (aN < 0) = true := decide_eq_true c5
  clear c5
  simp only [Option.some.injEq, Prod.mk.injEq] at H
  obtain ⟨rfl, rfl, rfl, rfl, rfl, rfl⟩ := H
  go_enter Try.func38, Try.ntmps38
  go_wp2_with (first | ((with_reducible refine gate_dst (N := 3) rfl ?_); refine bv 3 26 #[.int .i64 aI, .slice a0 aK.length a3, .slice aU aG.length aV, .int .i64 aM, .int .u64 aQ] ?_; intro aP hg w6 hbox hb; obtain ⟨n_, aT⟩ := Cb.bx (pB HB.out) hg hb; have bF := aT; have aC := ak (hbox); replace aD := vb aD aP hg hb; replace aE := vb aE aP hg hb; replace HB := n_; clear n_; clear hb hbox hg) | ((with_reducible refine gate_dst (N := 6) rfl ?_); refine bv 6 26 #[.int .i64 0, .slice none 0 0, .slice none 0 0, .int .i64 0, .int .u64 0] ?_; intro aA hg w7 hbox hb; obtain ⟨n_, aX⟩ := Cb.bx (ua aT.out HB.out) hg hb; have bG := aX; obtain ⟨a7, aZ⟩ := Cb.nb hg aC.out; have aJ := ak (hbox); replace aD := vb aD aA hg hb; replace aE := vb aE aA hg hb; replace aC := bb aC hb; replace HB := n_; clear n_; clear hb hbox hg; have eP := a7.out; have eQ := aZ.out; obtain ⟨d6, d7, d8, d9, eA⟩ := Cb.c5 aC.out; obtain ⟨eB, eC, eD, eE, eF⟩ := Cb.f5 aC.out) | ((with_reducible refine gate_callee (f := 43) rfl ?_); refine goesL_ (some 11) rfl rfl Try.func43 (by kernel_rfl) rfl #[.agg #[.int .i64 aI, .slice a0 aK.length a3, .slice aU aG.length aV, .int .i64 aM, .int .u64 aQ], .int .i64 a1] rfl mp ?_; (with_reducible refine (session_at.calls aI _ _ aK _ _ aG aM aQ a1 aN _ ?side1 ?side2 ?side3 ?side4 A4.out).mono ?_); (case side1 => exact pc (Kd.V_reads' aD.out).2.2); (case side2 => exact (Kd.V_reads' aD.out).2.1); (case side3 => exact pc (Kd.V_reads' aE.out).2.2); (case side4 => exact (Kd.V_reads' aE.out).2.1); rintro e eV ⟨rfl, hb⟩; refine ⟨_, rfl, ?_⟩; replace aD := vw aD hb; replace aE := vw aE hb; replace aC := bb aC hb; replace aJ := bb aJ hb; replace HB := ak (below_step (ub aT.out aX.out HB.out) hb); (try clear hb); (try clear hb2); (try clear hk); (try clear hi); obtain ⟨bJ, bK, bL, bM, bN⟩ := Cb.c5 aC.out; obtain ⟨bO, bP, bQ, bR, bS⟩ := Cb.f5 aC.out; obtain ⟨bT, bU, bV, bW, bX⟩ := Cb.c5 aJ.out; obtain ⟨bY, bZ, b0, b1, b2⟩ := Cb.f5 aJ.out))
  refine bodyPost_ret (results_ct rfl _ _ aA 26 #[.int .i64 aI, .slice a0 aK.length a3, .slice aU aG.length aV, .int .i64 aM, .int .u64 aQ] (0, 0) _ rfl (by exact pq (blk_put (blk_put (blk_put (blk_put (blk_put (pk aJ.out) 0 _ rfl) 1 _ rfl) 2 _ rfl) 3 _ rfl) 4 _ rfl)) Try.underlying26 rfl (by kernel_rfl)) rfl ?_
  exact ⟨_, _, by first | rfl | (simp [errW_none, errW_some] <;> rfl) | (simp [*, errW_none, errW_some] <;> rfl), qv (Kd.V_mono (vf5 aD.out fun _ hk => hk.2) (fun _ hk => hk.1.1)), qv (Kd.V_mono (vf5 aE.out fun _ hk => hk.2) (fun _ hk => hk.1.1)), ub aT.out aX.out HB.out⟩
 ·rw [if_neg c5] at H
  have d5 : decide (aN < 0) = false := decide_eq_false c5
  clear c5
  replace H := Option.bind_eq_some_iff.mp H
  obtain ⟨aH, bH, H⟩ := H
  try dsimp only at H
  have eR := ak bH
  clear bH
  have b3 : 0 ≤ aN := Decidable.byContradiction fun q => by rw [if_neg q] at H; exact absurd H (by simp)
  rw [if_pos b3] at H
  have eJ : decide (0 ≤ aN) = true := decide_eq_true b3
  clear b3
  have b4 : aN < (aH.length : Int) := Decidable.byContradiction fun q => by rw [if_neg q] at H; exact absurd H (by simp)
  rw [if_pos b4] at H
  have eK : decide (aN < (aH.length : Int)) = true := decide_eq_true b4
  clear b4
  replace H := Option.bind_eq_some_iff.mp H
  obtain ⟨a8, bI, H⟩ := H
  try dsimp only at H
  have eS := ak bI
  clear bI
  simp only [Option.some.injEq, Prod.mk.injEq] at H
  obtain ⟨rfl, rfl, rfl, rfl, rfl, rfl⟩ := H
  go_enter Try.func38, Try.ntmps38
  go_wp2_with (first | ((with_reducible refine gate_dst (N := 3) rfl ?_); refine bv 3 26 #[.int .i64 aI, .slice a0 aK.length a3, .slice aU aG.length aV, .int .i64 aM, .int .u64 aQ] ?_; intro aP hg eW hbox hb; obtain ⟨n_, aT⟩ := Cb.bx (pB HB.out) hg hb; have bF := aT; have aC := ak (hbox); replace aD := vb aD aP hg hb; replace aE := vb aE aP hg hb; replace HB := n_; clear n_; clear hb hbox hg) | ((with_reducible refine gate_dst (N := 6) rfl ?_); refine bv 6 26 #[.int .i64 0, .slice none 0 0, .slice none 0 0, .int .i64 0, .int .u64 0] ?_; intro aA hg eX hbox hb; obtain ⟨n_, aX⟩ := Cb.bx (ua aT.out HB.out) hg hb; have bG := aX; obtain ⟨a7, aZ⟩ := Cb.nb hg aC.out; have aJ := ak (hbox); replace aD := vb aD aA hg hb; replace aE := vb aE aA hg hb; replace aC := bb aC hb; replace HB := n_; clear n_; clear hb hbox hg; have eL := a7.out; have eM := aZ.out; obtain ⟨b5, b6, b7, b8, b9⟩ := Cb.c5 aC.out; obtain ⟨cA, cB, cC, cD, cE⟩ := Cb.f5 aC.out) | ((with_reducible refine gate_callee (f := 43) rfl ?_); refine goesL_ (some 11) rfl rfl Try.func43 (by kernel_rfl) rfl #[.agg #[.int .i64 aI, .slice a0 aK.length a3, .slice aU aG.length aV, .int .i64 aM, .int .u64 aQ], .int .i64 a1] rfl mp ?_; (with_reducible refine (session_at.calls aI _ _ aK _ _ aG aM aQ a1 aN _ ?side1 ?side2 ?side3 ?side4 A4.out).mono ?_); (case side1 => exact pc (Kd.V_reads' aD.out).2.2); (case side2 => exact (Kd.V_reads' aD.out).2.1); (case side3 => exact pc (Kd.V_reads' aE.out).2.2); (case side4 => exact (Kd.V_reads' aE.out).2.1); rintro e eY ⟨rfl, hb⟩; refine ⟨_, rfl, ?_⟩; replace aD := vw aD hb; replace aE := vw aE hb; replace aC := bb aC hb; replace aJ := bb aJ hb; replace HB := ak (below_step (ub aT.out aX.out HB.out) hb); (try clear hb); (try clear hb2); (try clear hk); (try clear hi); obtain ⟨cF, cG, cH, cI, cJ⟩ := Cb.c5 aC.out; obtain ⟨cK, cL, cM, cN, cO⟩ := Cb.f5 aC.out) | ((with_reducible refine gate_callee (f := 48) rfl ?_); refine goesL_ (some 17) rfl rfl Try.func48 (by kernel_rfl) rfl #[.slice a0 aK.length a3] rfl mp ?_; (with_reducible refine (api_Session_48.calls _ _ aK aH _ ?side1 ?side2 eR.out).mono ?_); (case side1 => exact pc (Kd.V_reads' aD.out).2.2); (case side2 => exact (Kd.V_reads' aD.out).2.1); rintro e eT ⟨eU, rfl, cP, hb⟩; refine ⟨_, rfl, ?_⟩; have aY := ak (Kd.R_lower (Kd.R_newM (M := fun k_ => (w.heap.size ≤ k_)) cP (below_size (ub aT.out aX.out HB.out)) (fun k_ h_ => h_)) (below_size (ub aT.out aX.out HB.out))); replace aD := ve aD cP hb; replace aE := ve aE cP hb; replace aC := bb aC hb; replace aJ := bb aJ hb; replace HB := ak (below_step (ub aT.out aX.out HB.out) hb); (try clear hb); (try clear hb2); (try clear hk); (try clear hi); (try clear cP); obtain ⟨a9, aW, eG⟩ := Kd.R_slice aY.out; subst eG; obtain ⟨cQ, cR, cS, cT, cU⟩ := Cb.c5 aC.out; obtain ⟨cV, cW, cX, cY, cZ⟩ := Cb.f5 aC.out) | ((with_reducible refine gate_store (t := 22) (p := 18) rfl ?_); refine store_event (t := 22) (p := 18) (v := ?vo_w26) (w1 := (eT.setCell ⟨aP, 1, none⟩ (.slice a9 aH.length aW))) ?hg ?ho ?hn ?hr ?_; (case ho => rfl); (case hg => rfl); (case hn => rfl); (case hr => first | (go_simp; done) | (go_simp; rfl)); intro bC hw; have n0_ : Aside0 (Kd.V k42 42 bC w.heap.size (fun k_ => ((a5 k_ ∨ a6 k_) ∨ w.heap.size ≤ k_) ∧ some k_ ≠ (.slice a9 aH.length aW : Value).ownBlock ∧ k_ ≠ aP ∧ k_ ≠ aA) (.slice a0 aK.length a3) aK) := ⟨(by rw [hw]; exact (by exact vm (vf1 (Kd.V_mono aD.out (fun k_ hk => (⟨hk, hk.1.1.2⟩ : _ ∧ k_ ≠ aP))) fun _ hk => hk.2)))⟩; have n1_ : Aside0 (Kd.V k85 85 bC w.heap.size (fun k_ => ((a5 k_ ∨ a6 k_) ∨ w.heap.size ≤ k_) ∧ some k_ ≠ (.slice a9 aH.length aW : Value).ownBlock ∧ k_ ≠ aP ∧ k_ ≠ aA) (.slice aU aG.length aV) aG) := ⟨(by rw [hw]; exact (by exact vm (vf1 (Kd.V_mono aE.out (fun k_ hk => (⟨hk, hk.1.1.2⟩ : _ ∧ k_ ≠ aP))) fun _ hk => hk.2)))⟩; have n2_ : Aside0 (Kd.R k42 42 bC w.heap.size (fun k_ => (w.heap.size ≤ k_)) (.slice a9 aH.length aW) aH) := ⟨(by rw [hw]; exact (by exact Kd.R_mono (rf1 (Kd.R_types aY.out aC.out (by decide)) fun _ hk => hk.2) (fun _ hk => hk.1.1)))⟩; have n3_ : Aside0 (bC.heap[aP]? = some (.cells #[.int .i64 aI, .slice a9 aH.length aW, .slice aU aG.length aV, .int .i64 aM, .int .u64 aQ] 26 (0, 0))) := ⟨(by rw [hw]; exact (by exact blk_put aC.out 1 _ rfl))⟩; have n4_ : Aside0 (bC.heap[aA]? = some (.cells #[.int .i64 0, .slice none 0 0, .slice none 0 0, .int .i64 0, .int .u64 0] 26 (0, 0))) := ⟨(by rw [hw]; exact (by exact blk_far aJ.out aZ.out _))⟩; have n5_ : Aside0 (Below w.heap.size w bC) := ⟨(by rw [hw]; exact (by repeat (first | exact HB.out | refine bs ?_ aT.out)))⟩; clear hw; clear aD; clear aE; clear aY; clear aC; clear aJ; clear HB; have aD := n0_; have aE := n1_; have aY := n2_; have aC := n3_; have aJ := n4_; have HB := n5_; clear n0_ n1_ n2_ n3_ n4_ n5_; obtain ⟨c1, c4, c6, c7, c8⟩ := Cb.c5 aC.out; obtain ⟨dA, dB, dC, dD, dE⟩ := Cb.f5 aC.out; have bA : 0 ≤ (aN : Int) := od; have bB : aN < (aH.length : Int) := od; obtain ⟨a4, eH, dF, dG, dH, dI, dJ, dK⟩ := at_T42 (Kd.R_reads' aY.out).2.2 aN bA bB; cases eH; replace bA := eq_true bA; replace bB := eq_true bB) | ((refine (session_with_Take_at.calls HCAP.out (rfl : (.slice (some a4) aH.length aW : Value) = _) (fun k_ => some k_ = (.slice (some a4) aH.length aW : Value).ownBlock) aH aN a8 _ ?side1 ?side2 eS.out).mono ?_); (case side1 => exact ub aT.out aX.out HB.out); (case side2 => exact Kd.R_tight rfl aY.out); rintro e eZ ⟨rfl, eN, hb, hkp⟩; replace aD := ak (Kd.V_mono (ok' := fun k_ => ((a5 k_ ∨ a6 k_) ∨ w.heap.size ≤ k_) ∧ some k_ ≠ (.slice (some a4) aH.length aW : Value).ownBlock ∧ k_ ≠ aP ∧ k_ ≠ aA) (Kd.V_keptB (aD.out) hkp (fun k_ hk_ hs_ => (hk_.2.1) hs_)) (fun k_ hk_ => ⟨hk_.1.1, hk_.1.2.1, hk_.1.2.2.1, hk_.1.2.2.2⟩)); replace aE := ak (Kd.V_mono (ok' := fun k_ => ((a5 k_ ∨ a6 k_) ∨ w.heap.size ≤ k_) ∧ some k_ ≠ (.slice (some a4) aH.length aW : Value).ownBlock ∧ k_ ≠ aP ∧ k_ ≠ aA) (Kd.V_keptB (aE.out) hkp (fun k_ hk_ hs_ => (hk_.2.1) hs_)) (fun k_ hk_ => ⟨hk_.1.1, hk_.1.2.1, hk_.1.2.2.1, hk_.1.2.2.2⟩)); replace aC := ak (blk_kept (pk aC.out) hkp (fun hs_ => (fun e_ => (Kd.R_ne aY.out aC.out (by decide)) e_) hs_)); replace aJ := ak (blk_kept (pk aJ.out) hkp (fun hs_ => (fun e_ => (Kd.R_ne aY.out aJ.out (by decide)) e_) hs_)); replace aY := ak (Kd.R_reok rfl eN (fun k_ e_ => aY.out.1 k_ e_)); replace HB := ak (hb); (try clear hb); (try clear hkp); (try clear eN); obtain ⟨dL, dM, dN, dO, dP⟩ := Cb.c5 aC.out; obtain ⟨dQ, dR, dS, dT, dU⟩ := Cb.f5 aC.out; obtain ⟨dV, dW, dX, dY, dZ⟩ := Cb.c5 aJ.out; obtain ⟨d0, d1, d2, d3, d4⟩ := Cb.f5 aJ.out))
  refine bodyPost_ret (results_ct rfl _ _ aA 26 #[.int .i64 aI, .slice (some a4) aH.length aW, .slice aU aG.length aV, .int .i64 aM, .int .u64 aQ] (0, 0) _ rfl (by exact pq (blk_put (blk_put (blk_put (blk_put (blk_put (pk aJ.out) 0 _ rfl) 1 _ rfl) 2 _ rfl) 3 _ rfl) 4 _ rfl)) Try.underlying26 rfl (by kernel_rfl)) rfl ?_
  exact ⟨_, _, by first | rfl | (simp [errW_none, errW_some] <;> rfl) | (simp [*, errW_none, errW_some] <;> rfl), Kd.V_mono (Kd.R_V (qr (Kd.R_mono (rf5 (Kd.R_types aY.out aJ.out (by decide)) fun _ hk => hk.2) (fun _ hk => hk.1)))) (fun k_ hk => by first | exact ⟨(.inr (hk.1)), hk.2⟩ | exact (.inr (hk))), qv (Kd.V_mono (vf5 aE.out fun _ hk => hk.2.2.2) (fun _ hk => hk.1)), ub aT.out aX.out HB.out⟩
/-! ### session_with_Answer: function 38 -/
set_option maxHeartbeats 8000000 in
set_option maxRecDepth 100000 in
theorem session_with_Answer_at.calls {B n cap : Nat} {ad : Addr} {w0 : World} {u9000_ : Value} {a2 : ByteArray} (hcap : w0.cell? ⟨B, 0, none⟩ = some (.string a2)) (hu : u9000_ = .slice (some ad) n cap) (aA : Nat → Prop) (l0 : List S42) (a1 : Int) (r : List S42) (w : World) (hB : Below w0.heap.size w0 w) (aD : Kd.R k42 42 w w0.heap.size aA u9000_ l0) (h : session_with_Answer_at.f l0 a1 a2 = some r) :
  Calls Try.prog 41 #[.pointer (some (ad.add (a1.toNat * 6))), .pointer (some ⟨B, 0, none⟩)] w fun e w' => e = .returned (.tuple #[]) ∧ Kd.R k42 42 w' w0.heap.size (fun k_ => (aA k_ ∨ w.heap.size ≤ k_)) u9000_ r ∧ Below w0.heap.size w0 w' ∧ Kept w w' (fun k_ => aA k_) := by
 have aW := Try.underlying42
 unfold session_with_Answer_at.f at h
 by_cases h0 : 0 ≤ a1
 rotate_left
 ·rw [if_neg h0] at h; exact absurd h (by simp)
 rw [if_pos h0] at h
 by_cases h1 : a1 < (l0.length : Int)
 rotate_left
 ·rw [if_neg h1] at h; exact absurd h (by simp)
 rw [if_pos h1] at h
 obtain rfl := Option.some.inj h
 clear h
 subst hu
 obtain ⟨g, c_, eg, _, _⟩ := row_form42 aD (by omega)
 injection eg with eg _ ec
 subst ec
 injection eg with eg
 subst eg
 obtain ⟨rfl, _, hC⟩ := Kd.R_reads' aD
 rw [show (⟨g, 0, none⟩ : Addr).add (a1.toNat * 6) = ⟨g, a1.toNat * 6, none⟩ from by rw [Addr.add_lit, Nat.zero_add]]
 have HC := ak (row_cells42 hC a1 h0 h1)
 have hlt := World.block_lt_of_cell? w0 _ hcap
 have hge : w0.heap.size ≤ g := Kd.R_base aD g (by simp [Value.ownBlock])
 have HS := ak (aD.1 g (by simp [Value.ownBlock]))
 have aU : w.cell? ⟨B, 0, none⟩ = some (.string a2) := (hB.cell hlt).trans hcap
 have R0 := ak aD
 have HB := ak hB
 have HCAP := ak hcap
 clear aD hB hcap hC
 go_enter Try.func41, Try.ntmps41
 refine start_ (n := 9) (S := fun w' => w'.cell? ⟨B, 0, none⟩ = some (.string a2)) (ds := []) #[false, false, false, false, false, false, false, false, false] (by kernel_rfl) rfl rfl aU (fun hHeld => ?_)
 have R1 := ak (Kd.R_drew R0.out)
 have B1 := ak (below_drew1 HB.out)
 have KD := ak (show Kept w w.drew (fun k_ => aA k_) from ⟨Nat.le_refl _, fun _ _ _ => rfl⟩)
 have aV : Aside0 (∀ j u, (flc42 (rd_T42 l0 a1))[j]? = some u → w.drew.cell? ⟨g, a1.toNat * 6 + j, none⟩ = some u) := ⟨HC.out⟩
 clear R0 HB HC aU
 generalize w.drew = wd at R1 B1 KD aV hHeld ⊢
 refine qa 0 3 (tb 9 1) (by kernel_rfl) ?_
 refine qa 1 4 (tb 9 3) (by kernel_rfl) ?_
 refine ka 2 5 (tb 9 7) (by kernel_rfl) hHeld ?_
 refine qa 3 6 (tb 9 15) (by kernel_rfl) ?_
 refine qa 4 7 (tb 9 31) (by kernel_rfl) ?_
 refine one_ (i := 5) (N := none) (tb 9 63) rfl rfl (by kernel_rfl) (by decide) (fun K hK => ?_)
 (refine R_store_k k42 (w0 := w0) w0.heap.size rfl rfl 4 (.tmp 7) (.const (.bool false)) rfl 42 a1 2 l0 (⟨(rd_T42 l0 a1).f0, (rd_T42 l0 a1).f1, false, (rd_T42 l0 a1).f3, (rd_T42 l0 a1).f4, (rd_T42 l0 a1).f5⟩ : S42) (.bool false) [.bool false] (flc42 (rd_T42 l0 a1)) aA (fun _ => False) rfl ?so rfl rfl (by kernel_rfl) ?s1 R1.out h0 ?sl rfl aV.out (by show 2 + 1 ≤ 6; decide) ?s2 (fun _ hk => hk.elim) B1.out ?_; (case so => first | rfl | simp); (case s1 => intro q hq; simp only [List.mem_cons, List.not_mem_nil, or_false] at hq; subst hq; rfl); (case sl => first | exact h1 | (simp only [List.length_set]; exact h1)); (case s2 => exact k42_mkM _ _ _ _); intro w3 aE aG aH; have aI := ak aE; have aJ := ak aG; have aK := ak aH; clear aE aG aH)
 have aP : w3.cell? ⟨B, 0, none⟩ = some (.string a2) := (aJ.out.cell hlt).trans HCAP.out
 refine hK.out _ _ aP (fun hHeld => ?_)
 clear hK K
 have aC := row_cells42 (Kd.R_reads' aI.out).2.2 a1 h0 (by first | exact h1 | (simp only [List.length_set]; exact h1))
 rw [set_at_42 _ _ _ h0 (by first | exact h1 | (simp only [List.length_set]; exact h1))] at aC
 have aQ := ak aC
 clear aC
 refine qa 6 8 (tb 9 127) (by kernel_rfl) ?_
 refine qa 7 9 (tb 9 255) (by kernel_rfl) ?_
 refine one_ (i := 8) (N := none) (tb 9 511) rfl rfl (by kernel_rfl) (by decide) (fun K hK => ?_)
 (refine R_store_k k42 (w0 := w0) w0.heap.size rfl rfl 9 (.tmp 9) (.tmp 5) rfl 42 a1 3 (l0.set a1.toNat (⟨(rd_T42 l0 a1).f0, (rd_T42 l0 a1).f1, false, (rd_T42 l0 a1).f3, (rd_T42 l0 a1).f4, (rd_T42 l0 a1).f5⟩ : S42)) (⟨(rd_T42 l0 a1).f0, (rd_T42 l0 a1).f1, false, a2, (rd_T42 l0 a1).f4, (rd_T42 l0 a1).f5⟩ : S42) (.string a2) [.string a2] (flc42 (⟨(rd_T42 l0 a1).f0, (rd_T42 l0 a1).f1, false, (rd_T42 l0 a1).f3, (rd_T42 l0 a1).f4, (rd_T42 l0 a1).f5⟩ : S42)) aA (fun _ => False) rfl ?so rfl rfl (by kernel_rfl) ?s1 aI.out h0 ?sl rfl aQ.out (by show 3 + 1 ≤ 6; decide) ?s2 (fun _ hk => hk.elim) aJ.out ?_; (case so => first | rfl | simp); (case s1 => intro q hq; simp only [List.mem_cons, List.not_mem_nil, or_false] at hq; subst hq; rfl); (case sl => first | exact h1 | (simp only [List.length_set]; exact h1)); (case s2 => exact k42_mkM _ _ _ _); intro w4 aE aG aH; have aT := ak aE; have aM := ak aG; have aN := ak aH; clear aE aG aH)
 have aP : w4.cell? ⟨B, 0, none⟩ = some (.string a2) := (aM.out.cell hlt).trans HCAP.out
 refine hK.out _ _ aP (fun hHeld => ?_)
 clear hK K
 refine done_ (by kernel_rfl) ?_
 try go_wp2
 first | go_end0 | ((try simp only [Exit.inBlock, Exit.then]); refine bodyPost_ret (results_none rfl _ _ _) rfl ?_)
 refine ⟨rfl, ?_, aM.out, kept_trans_ KD.out (kept_trans_ (kept_grown_ aK.out HS.out) (kept_grown_ aN.out HS.out))⟩
 have hr := Kd.R_mono aT.out (ok' := fun k_ => aA k_ ∨ w.heap.size ≤ k_) (fun _ hk => .inl hk)
 rw [List.set_set] at hr
 exact hr
set_option maxHeartbeats 8000000 in
set_option maxRecDepth 100000 in
theorem session_with_Answer.calls {B : Nat} (aI : Int) (a5 : Nat → Prop) (a0 : Option Addr) (a3 : Nat) (aK : List (S42)) (a6 : Nat → Prop) (aU : Option Addr) (aV : Nat) (aG : List (S85)) (aM : Int) (aQ : Int) (a1 : Int) (a2 : ByteArray) (r1 : Int) (r2 : List (S42)) (r3 : List (S85)) (r4 : Int) (r5 : Int) (r6 : Int) (w : World) (hcap : w.cell? ⟨B, 0, none⟩ = some (.string a2)) (bD : Kd.V k42 42 w w.heap.size (fun k_ => a5 k_) (.slice a0 aK.length a3) aK) (bE : Kd.V k85 85 w w.heap.size (fun k_ => a6 k_) (.slice aU aG.length aV) aG) (h : session_with_Answer.f aI aK aG aM aQ a1 a2 = some (r1, r2, r3, r4, r5, r6)) :
  Calls Try.prog 38 #[.agg #[.int .i64 aI, .slice a0 aK.length a3, .slice aU aG.length aV, .int .i64 aM, .int .u64 aQ], .int .i64 a1, .func (.func 41) #[] #[.pointer (some ⟨B, 0, none⟩)]] w fun e w' => ∃ v1_ v2_ : Value, e = .returned (.tuple #[.agg #[.int .i64 r1, v1_, v2_, .int .i64 r4, .int .u64 r5], .int .i64 r6]) ∧ Kd.V k42 42 w' w.heap.size (fun k_ => ((a5 k_ ∨ a6 k_) ∨ w.heap.size ≤ k_)) v1_ r2 ∧ Kd.V k85 85 w' w.heap.size (fun k_ => ((a5 k_ ∨ a6 k_) ∨ w.heap.size ≤ k_)) v2_ r3 ∧ Below w.heap.size w w' := by
 have eO := Try.underlying26
 have aD := ak (show Kd.V k42 42 w w.heap.size (fun k_ => ((a5 k_ ∨ a6 k_) ∨ w.heap.size ≤ k_)) (.slice a0 aK.length a3) aK from Kd.V_mono bD (fun k_ hk => .inl (.inl hk)))
 have aE := ak (show Kd.V k85 85 w w.heap.size (fun k_ => ((a5 k_ ∨ a6 k_) ∨ w.heap.size ≤ k_)) (.slice aU aG.length aV) aG from Kd.V_mono bE (fun k_ hk => .inl (.inr hk)))
 have HB := ak (Below.refl w.heap.size w)
 have HCAP := ak hcap
 clear hcap
 have H : ((session_at.f aI aK aG aM aQ a1).bind fun aN => (if aN < 0 then (some (aI, aK, aG, aM, aQ, 7)) else ((api_Session_48.f aK).bind fun aH => (if 0 ≤ aN then (if aN < (aH.length : Int) then ((session_with_Answer_at.f aH aN a2).bind fun a8 => (some (aI, a8, aG, aM, aQ, 0))) else (none)) else (none))))) = some (r1, r2, r3, r4, r5, r6) := h
 clear h
 replace H := Option.bind_eq_some_iff.mp H
 obtain ⟨aN, eI, H⟩ := H
 try dsimp only at H
 have A4 := ak eI
 clear eI
 by_cases c5 : aN < 0
 ·rw [if_pos c5] at H
  have d5 : decide (aN < 0) = true := decide_eq_true c5
  clear c5
  simp only [Option.some.injEq, Prod.mk.injEq] at H
  obtain ⟨rfl, rfl, rfl, rfl, rfl, rfl⟩ := H
  go_enter Try.func38, Try.ntmps38
  go_wp2_with (first | ((with_reducible refine gate_dst (N := 3) rfl ?_); refine bv 3 26 #[.int .i64 aI, .slice a0 aK.length a3, .slice aU aG.length aV, .int .i64 aM, .int .u64 aQ] ?_; intro aP hg w6 hbox hb; obtain ⟨n_, aT⟩ := Cb.bx (pB HB.out) hg hb; have bF := aT; have aC := ak (hbox); replace aD := vb aD aP hg hb; replace aE := vb aE aP hg hb; replace HB := n_; clear n_; clear hb hbox hg) | ((with_reducible refine gate_dst (N := 6) rfl ?_); refine bv 6 26 #[.int .i64 0, .slice none 0 0, .slice none 0 0, .int .i64 0, .int .u64 0] ?_; intro aA hg w7 hbox hb; obtain ⟨n_, aX⟩ := Cb.bx (ua aT.out HB.out) hg hb; have bG := aX; obtain ⟨a7, aZ⟩ := Cb.nb hg aC.out; have aJ := ak (hbox); replace aD := vb aD aA hg hb; replace aE := vb aE aA hg hb; replace aC := bb aC hb; replace HB := n_; clear n_; clear hb hbox hg; have eP := a7.out; have eQ := aZ.out; obtain ⟨d6, d7, d8, d9, eA⟩ := Cb.c5 aC.out; obtain ⟨eB, eC, eD, eE, eF⟩ := Cb.f5 aC.out) | ((with_reducible refine gate_callee (f := 43) rfl ?_); refine goesL_ (some 11) rfl rfl Try.func43 (by kernel_rfl) rfl #[.agg #[.int .i64 aI, .slice a0 aK.length a3, .slice aU aG.length aV, .int .i64 aM, .int .u64 aQ], .int .i64 a1] rfl mp ?_; (with_reducible refine (session_at.calls aI _ _ aK _ _ aG aM aQ a1 aN _ ?side1 ?side2 ?side3 ?side4 A4.out).mono ?_); (case side1 => exact pc (Kd.V_reads' aD.out).2.2); (case side2 => exact (Kd.V_reads' aD.out).2.1); (case side3 => exact pc (Kd.V_reads' aE.out).2.2); (case side4 => exact (Kd.V_reads' aE.out).2.1); rintro e eV ⟨rfl, hb⟩; refine ⟨_, rfl, ?_⟩; replace aD := vw aD hb; replace aE := vw aE hb; replace aC := bb aC hb; replace aJ := bb aJ hb; replace HB := ak (below_step (ub aT.out aX.out HB.out) hb); (try clear hb); (try clear hb2); (try clear hk); (try clear hi); obtain ⟨bJ, bK, bL, bM, bN⟩ := Cb.c5 aC.out; obtain ⟨bO, bP, bQ, bR, bS⟩ := Cb.f5 aC.out; obtain ⟨bT, bU, bV, bW, bX⟩ := Cb.c5 aJ.out; obtain ⟨bY, bZ, b0, b1, b2⟩ := Cb.f5 aJ.out))
  refine bodyPost_ret (results_ct rfl _ _ aA 26 #[.int .i64 aI, .slice a0 aK.length a3, .slice aU aG.length aV, .int .i64 aM, .int .u64 aQ] (0, 0) _ rfl (by exact pq (blk_put (blk_put (blk_put (blk_put (blk_put (pk aJ.out) 0 _ rfl) 1 _ rfl) 2 _ rfl) 3 _ rfl) 4 _ rfl)) Try.underlying26 rfl (by kernel_rfl)) rfl ?_
  exact ⟨_, _, by first | rfl | (simp [errW_none, errW_some] <;> rfl) | (simp [*, errW_none, errW_some] <;> rfl), qv (Kd.V_mono (vf5 aD.out fun _ hk => hk.2) (fun _ hk => hk.1.1)), qv (Kd.V_mono (vf5 aE.out fun _ hk => hk.2) (fun _ hk => hk.1.1)), ub aT.out aX.out HB.out⟩
 ·rw [if_neg c5] at H
  have d5 : decide (aN < 0) = false := decide_eq_false c5
  clear c5
  replace H := Option.bind_eq_some_iff.mp H
  obtain ⟨aH, bH, H⟩ := H
  try dsimp only at H
  have eR := ak bH
  clear bH
  have b3 : 0 ≤ aN := Decidable.byContradiction fun q => by rw [if_neg q] at H; exact absurd H (by simp)
  rw [if_pos b3] at H
  have eJ : decide (0 ≤ aN) = true := decide_eq_true b3
  clear b3
  have b4 : aN < (aH.length : Int) := Decidable.byContradiction fun q => by rw [if_neg q] at H; exact absurd H (by simp)
  rw [if_pos b4] at H
  have eK : decide (aN < (aH.length : Int)) = true := decide_eq_true b4
  clear b4
  replace H := Option.bind_eq_some_iff.mp H
  obtain ⟨a8, bI, H⟩ := H
  try dsimp only at H
  have eS := ak bI
  clear bI
  simp only [Option.some.injEq, Prod.mk.injEq] at H
  obtain ⟨rfl, rfl, rfl, rfl, rfl, rfl⟩ := H
  go_enter Try.func38, Try.ntmps38
  go_wp2_with (first | ((with_reducible refine gate_dst (N := 3) rfl ?_); refine bv 3 26 #[.int .i64 aI, .slice a0 aK.length a3, .slice aU aG.length aV, .int .i64 aM, .int .u64 aQ] ?_; intro aP hg eW hbox hb; obtain ⟨n_, aT⟩ := Cb.bx (pB HB.out) hg hb; have bF := aT; have aC := ak (hbox); replace aD := vb aD aP hg hb; replace aE := vb aE aP hg hb; replace HB := n_; clear n_; clear hb hbox hg) | ((with_reducible refine gate_dst (N := 6) rfl ?_); refine bv 6 26 #[.int .i64 0, .slice none 0 0, .slice none 0 0, .int .i64 0, .int .u64 0] ?_; intro aA hg eX hbox hb; obtain ⟨n_, aX⟩ := Cb.bx (ua aT.out HB.out) hg hb; have bG := aX; obtain ⟨a7, aZ⟩ := Cb.nb hg aC.out; have aJ := ak (hbox); replace aD := vb aD aA hg hb; replace aE := vb aE aA hg hb; replace aC := bb aC hb; replace HB := n_; clear n_; clear hb hbox hg; have eL := a7.out; have eM := aZ.out; obtain ⟨b5, b6, b7, b8, b9⟩ := Cb.c5 aC.out; obtain ⟨cA, cB, cC, cD, cE⟩ := Cb.f5 aC.out) | ((with_reducible refine gate_callee (f := 43) rfl ?_); refine goesL_ (some 11) rfl rfl Try.func43 (by kernel_rfl) rfl #[.agg #[.int .i64 aI, .slice a0 aK.length a3, .slice aU aG.length aV, .int .i64 aM, .int .u64 aQ], .int .i64 a1] rfl mp ?_; (with_reducible refine (session_at.calls aI _ _ aK _ _ aG aM aQ a1 aN _ ?side1 ?side2 ?side3 ?side4 A4.out).mono ?_); (case side1 => exact pc (Kd.V_reads' aD.out).2.2); (case side2 => exact (Kd.V_reads' aD.out).2.1); (case side3 => exact pc (Kd.V_reads' aE.out).2.2); (case side4 => exact (Kd.V_reads' aE.out).2.1); rintro e eY ⟨rfl, hb⟩; refine ⟨_, rfl, ?_⟩; replace aD := vw aD hb; replace aE := vw aE hb; replace aC := bb aC hb; replace aJ := bb aJ hb; replace HB := ak (below_step (ub aT.out aX.out HB.out) hb); (try clear hb); (try clear hb2); (try clear hk); (try clear hi); obtain ⟨cF, cG, cH, cI, cJ⟩ := Cb.c5 aC.out; obtain ⟨cK, cL, cM, cN, cO⟩ := Cb.f5 aC.out) | ((with_reducible refine gate_callee (f := 48) rfl ?_); refine goesL_ (some 17) rfl rfl Try.func48 (by kernel_rfl) rfl #[.slice a0 aK.length a3] rfl mp ?_; (with_reducible refine (api_Session_48.calls _ _ aK aH _ ?side1 ?side2 eR.out).mono ?_); (case side1 => exact pc (Kd.V_reads' aD.out).2.2); (case side2 => exact (Kd.V_reads' aD.out).2.1); rintro e eT ⟨eU, rfl, cP, hb⟩; refine ⟨_, rfl, ?_⟩; have aY := ak (Kd.R_lower (Kd.R_newM (M := fun k_ => (w.heap.size ≤ k_)) cP (below_size (ub aT.out aX.out HB.out)) (fun k_ h_ => h_)) (below_size (ub aT.out aX.out HB.out))); replace aD := ve aD cP hb; replace aE := ve aE cP hb; replace aC := bb aC hb; replace aJ := bb aJ hb; replace HB := ak (below_step (ub aT.out aX.out HB.out) hb); (try clear hb); (try clear hb2); (try clear hk); (try clear hi); (try clear cP); obtain ⟨a9, aW, eG⟩ := Kd.R_slice aY.out; subst eG; obtain ⟨cQ, cR, cS, cT, cU⟩ := Cb.c5 aC.out; obtain ⟨cV, cW, cX, cY, cZ⟩ := Cb.f5 aC.out) | ((with_reducible refine gate_store (t := 22) (p := 18) rfl ?_); refine store_event (t := 22) (p := 18) (v := ?vo_w26) (w1 := (eT.setCell ⟨aP, 1, none⟩ (.slice a9 aH.length aW))) ?hg ?ho ?hn ?hr ?_; (case ho => rfl); (case hg => rfl); (case hn => rfl); (case hr => first | (go_simp; done) | (go_simp; rfl)); intro bC hw; have n0_ : Aside0 (Kd.V k42 42 bC w.heap.size (fun k_ => ((a5 k_ ∨ a6 k_) ∨ w.heap.size ≤ k_) ∧ some k_ ≠ (.slice a9 aH.length aW : Value).ownBlock ∧ k_ ≠ aP ∧ k_ ≠ aA) (.slice a0 aK.length a3) aK) := ⟨(by rw [hw]; exact (by exact vm (vf1 (Kd.V_mono aD.out (fun k_ hk => (⟨hk, hk.1.1.2⟩ : _ ∧ k_ ≠ aP))) fun _ hk => hk.2)))⟩; have n1_ : Aside0 (Kd.V k85 85 bC w.heap.size (fun k_ => ((a5 k_ ∨ a6 k_) ∨ w.heap.size ≤ k_) ∧ some k_ ≠ (.slice a9 aH.length aW : Value).ownBlock ∧ k_ ≠ aP ∧ k_ ≠ aA) (.slice aU aG.length aV) aG) := ⟨(by rw [hw]; exact (by exact vm (vf1 (Kd.V_mono aE.out (fun k_ hk => (⟨hk, hk.1.1.2⟩ : _ ∧ k_ ≠ aP))) fun _ hk => hk.2)))⟩; have n2_ : Aside0 (Kd.R k42 42 bC w.heap.size (fun k_ => (w.heap.size ≤ k_)) (.slice a9 aH.length aW) aH) := ⟨(by rw [hw]; exact (by exact Kd.R_mono (rf1 (Kd.R_types aY.out aC.out (by decide)) fun _ hk => hk.2) (fun _ hk => hk.1.1)))⟩; have n3_ : Aside0 (bC.heap[aP]? = some (.cells #[.int .i64 aI, .slice a9 aH.length aW, .slice aU aG.length aV, .int .i64 aM, .int .u64 aQ] 26 (0, 0))) := ⟨(by rw [hw]; exact (by exact blk_put aC.out 1 _ rfl))⟩; have n4_ : Aside0 (bC.heap[aA]? = some (.cells #[.int .i64 0, .slice none 0 0, .slice none 0 0, .int .i64 0, .int .u64 0] 26 (0, 0))) := ⟨(by rw [hw]; exact (by exact blk_far aJ.out aZ.out _))⟩; have n5_ : Aside0 (Below w.heap.size w bC) := ⟨(by rw [hw]; exact (by repeat (first | exact HB.out | refine bs ?_ aT.out)))⟩; clear hw; clear aD; clear aE; clear aY; clear aC; clear aJ; clear HB; have aD := n0_; have aE := n1_; have aY := n2_; have aC := n3_; have aJ := n4_; have HB := n5_; clear n0_ n1_ n2_ n3_ n4_ n5_; obtain ⟨c1, c4, c6, c7, c8⟩ := Cb.c5 aC.out; obtain ⟨dA, dB, dC, dD, dE⟩ := Cb.f5 aC.out; have bA : 0 ≤ (aN : Int) := od; have bB : aN < (aH.length : Int) := od; obtain ⟨a4, eH, dF, dG, dH, dI, dJ, dK⟩ := at_T42 (Kd.R_reads' aY.out).2.2 aN bA bB; cases eH; replace bA := eq_true bA; replace bB := eq_true bB) | ((refine (session_with_Answer_at.calls HCAP.out (rfl : (.slice (some a4) aH.length aW : Value) = _) (fun k_ => some k_ = (.slice (some a4) aH.length aW : Value).ownBlock) aH aN a8 _ ?side1 ?side2 eS.out).mono ?_); (case side1 => exact ub aT.out aX.out HB.out); (case side2 => exact Kd.R_tight rfl aY.out); rintro e eZ ⟨rfl, eN, hb, hkp⟩; replace aD := ak (Kd.V_mono (ok' := fun k_ => ((a5 k_ ∨ a6 k_) ∨ w.heap.size ≤ k_) ∧ some k_ ≠ (.slice (some a4) aH.length aW : Value).ownBlock ∧ k_ ≠ aP ∧ k_ ≠ aA) (Kd.V_keptB (aD.out) hkp (fun k_ hk_ hs_ => (hk_.2.1) hs_)) (fun k_ hk_ => ⟨hk_.1.1, hk_.1.2.1, hk_.1.2.2.1, hk_.1.2.2.2⟩)); replace aE := ak (Kd.V_mono (ok' := fun k_ => ((a5 k_ ∨ a6 k_) ∨ w.heap.size ≤ k_) ∧ some k_ ≠ (.slice (some a4) aH.length aW : Value).ownBlock ∧ k_ ≠ aP ∧ k_ ≠ aA) (Kd.V_keptB (aE.out) hkp (fun k_ hk_ hs_ => (hk_.2.1) hs_)) (fun k_ hk_ => ⟨hk_.1.1, hk_.1.2.1, hk_.1.2.2.1, hk_.1.2.2.2⟩)); replace aC := ak (blk_kept (pk aC.out) hkp (fun hs_ => (fun e_ => (Kd.R_ne aY.out aC.out (by decide)) e_) hs_)); replace aJ := ak (blk_kept (pk aJ.out) hkp (fun hs_ => (fun e_ => (Kd.R_ne aY.out aJ.out (by decide)) e_) hs_)); replace aY := ak (Kd.R_reok rfl eN (fun k_ e_ => aY.out.1 k_ e_)); replace HB := ak (hb); (try clear hb); (try clear hkp); (try clear eN); obtain ⟨dL, dM, dN, dO, dP⟩ := Cb.c5 aC.out; obtain ⟨dQ, dR, dS, dT, dU⟩ := Cb.f5 aC.out; obtain ⟨dV, dW, dX, dY, dZ⟩ := Cb.c5 aJ.out; obtain ⟨d0, d1, d2, d3, d4⟩ := Cb.f5 aJ.out))
  refine bodyPost_ret (results_ct rfl _ _ aA 26 #[.int .i64 aI, .slice (some a4) aH.length aW, .slice aU aG.length aV, .int .i64 aM, .int .u64 aQ] (0, 0) _ rfl (by exact pq (blk_put (blk_put (blk_put (blk_put (blk_put (pk aJ.out) 0 _ rfl) 1 _ rfl) 2 _ rfl) 3 _ rfl) 4 _ rfl)) Try.underlying26 rfl (by kernel_rfl)) rfl ?_
  exact ⟨_, _, by first | rfl | (simp [errW_none, errW_some] <;> rfl) | (simp [*, errW_none, errW_some] <;> rfl), Kd.V_mono (Kd.R_V (qr (Kd.R_mono (rf5 (Kd.R_types aY.out aJ.out (by decide)) fun _ hk => hk.2) (fun _ hk => hk.1)))) (fun k_ hk => by first | exact ⟨(.inr (hk.1)), hk.2⟩ | exact (.inr (hk))), qv (Kd.V_mono (vf5 aE.out fun _ hk => hk.2.2.2) (fun _ hk => hk.1)), ub aT.out aX.out HB.out⟩
/-! ### session_with_Bind: function 38 -/
-- NOT PRINTED: function 39 (session_Take_1)

/-! ### api_Alarm_68: function 68 -/
set_option maxHeartbeats 8000000 in
set_option maxRecDepth 100000 in
theorem api_Alarm_68.calls (A0 : Option Addr) (c0 : Nat) (l0 : List (S85)) (r : List (S85)) (w : World) (aK : Kd.C k85 w A0 l0.length l0) (aM : l0.length ≤ c0) (h : api_Alarm_68.f l0 = some r) :
  Calls Try.prog 68 #[.slice A0 l0.length c0] w fun e w' => ∃ v0_ : Value, e = .returned (v0_) ∧ Kd.R k85 85 w' w.heap.size (fun _ => True) v0_ r ∧ Below w.heap.size w w' := by
 have aN := ak aK
 have aQ := ak aM
 clear aK aM
 have HB := ak (Below.refl w.heap.size w)
 have H : ((some (([] : List (S85)) : List (S85))).bind fun y157 => (if y157.length + l0.length < 8796093022208 then (some (y157 ++ l0)) else (none))) = some r := h
 clear h
 obtain ⟨y157, hy157⟩ : ∃ y_ : List (S85), y_ = (([] : List (S85))) := ⟨_, rfl⟩
 replace H : (if y157.length + l0.length < 8796093022208 then (some (y157 ++ l0)) else (none)) = some r := by first | (rw [hy157]; with_reducible exact H) | (have aE := (Option.bind_some _ _).symm.trans H; rw [hy157]; with_reducible exact aE) | (have aE := (Option.bind_some _ _).symm.trans H; with_reducible exact aE) | with_reducible exact H | (rw [hy157]; exact H) | exact H
 have aA := ak hy157
 clear hy157
 have c2 : y157.length + l0.length < 8796093022208 := Decidable.byContradiction fun q => by rw [if_neg q] at H; exact absurd H (by simp)
 rw [if_pos c2] at H
 have aI := ak c2
 clear c2
 obtain ⟨y160, hy160⟩ : ∃ y_ : List (S85), y_ = (y157 ++ l0) := ⟨_, rfl⟩
 replace H : (some y160) = some r := by first | (rw [hy160]; with_reducible exact H) | (have aE := (Option.bind_some _ _).symm.trans H; rw [hy160]; with_reducible exact aE) | (have aE := (Option.bind_some _ _).symm.trans H; with_reducible exact aE) | with_reducible exact H | (rw [hy160]; exact H) | exact H
 have aC := ak hy160
 clear hy160
 obtain rfl := Option.some.inj H
 have qT := fun (w : World) (a : Option Addr) (l c : Nat) => Lib.run_eql_slice_nil (P := Try.prog) w 23 85 a l c 0 0 Try.underlying23
 rcases A0 with _ | aT
 ·have hl : l0 = [] := by
   rcases l0 with _ | ⟨x_, l_⟩
   ·rfl
   ·obtain ⟨_, h_, _⟩ := aN.out.2.2 (by simp)
    cases h_
  have hy := ak (show y160 = [] by rw [aC.out, aA.out, hl]; rfl)
  clear hl
  go_enter Try.func68, Try.ntmps68
  go_wp2
  go_ret
  exact ⟨_, rfl, by rw [hy.out]; exact Kd.R_nil _ _ _ _ _, HB.out⟩
 ·go_enter Try.func68, Try.ntmps68
  go_wp2_with (first | ((with_reducible refine gate_dst (N := 5) rfl ?_); refine Kd.R_lit k85 _ 85 ?hg (N := 5) ?hd (xs := ([] : List (S85))) (inner := []) (ok := fun _ => True) (okp := fun _ => True) ?hr ?hp (fun _ hk => hk) trivial (Below.refl _ _) (Nat.le_refl _) (by simp) ?_; (case hd => rfl); (case hg => rfl); (case hr => first | (go_simp; done) | (go_simp; rfl)); (case hp => exact (Reps.none _ _)); intro aJ w3 aG hb hg_ hnew_; clear hg_ hnew_; (first | rw [← aA.out] at aG | (simp only [Int.reduceToNat] at aG; rw [← aA.out] at aG)); have aD := ak (Kd.R_lower aG (below_size (pB HB.out))); replace HB := ak (below_step (pB HB.out) hb); clear hb aG) | ((with_reducible refine gate_builtin (b := .append) (xs := #[.tmp 5, .tmp 6]) rfl ?_); at_builtin; refine Kd.R_append_rows k85 (w0 := w) w.heap.size rfl (.tmp 5) (.tmp 6) 23 85 (.agg #[(.int .u64 0), (.int .i64 0)]) 16 rfl Try.underlying23 info85 rfl (by decide) (by omega) aJ y157 l0 _ _ _ (fun _ => True) (fun _ => False) rfl rfl ?aO ?aR (fun _ _ h => h) (fun _ h => h.elim) ?aF ?aB ?aS ?aL ?_; (case aR => exact pc (Kd.C_below aN.out HB.out)); (case aB => exact (pB HB.out)); (case aF => exact (fun _ _ => trivial)); (case aO => exact (pR aD.out)); (case aS => exact (below_size (pB HB.out))); (case aL => have := aI.out; omega); intro aP w5 ho hb hg hat; rw [← aC.out] at ho; have n0_ := ak (hb); have n1_ := ak (ho); clear HB; clear aD; have HB := n0_; have aH := n1_; clear n0_ n1_; clear ho hb hg hat))
  go_ret
  exact ⟨_, by first | rfl | (simp [errW_none, errW_some] <;> rfl) | (simp [*, errW_none, errW_some] <;> rfl), pR aH.out, pB HB.out⟩

/-! ### alarm_Less: function 69 -/
set_option maxHeartbeats 8000000 in
set_option maxRecDepth 100000 in
theorem alarm_Less.calls (aG : Int) (aK : Int) (aH : Int) (aM : Int) (r : Bool) (w : World) (h : alarm_Less.f aG aK aH aM = some r) :
  Calls Try.prog 69 #[.agg #[.int .u64 aG, .int .i64 aK], .agg #[.int .u64 aH, .int .i64 aM]] w fun e w' => e = .returned (.bool r) ∧ Below w.heap.size w w' := by
 have bR := Try.underlying85
 have HB := ak (Below.refl w.heap.size w)
 have H : (if aG < aH then (some true) else (if aG = aH then (some (decide (aK < aM))) else (some false))) = some r := h
 clear h
 by_cases c3 : aG < aH
 ·rw [if_pos c3] at H
  have bC : decide (aG < aH) = true := decide_eq_true c3
  clear c3
  obtain rfl := Option.some.inj H
  go_enter Try.func69, Try.ntmps69
  go_wp2_with (first | ((with_reducible refine gate_dst (N := 2) rfl ?_); refine bv 2 85 #[.int .u64 aG, .int .i64 aK] ?_; intro aN hg w4 hbox hb; obtain ⟨n_, aE⟩ := Cb.bx (pB HB.out) hg hb; have aP := aE; have aA := ak (hbox); replace HB := n_; clear n_; clear hb hbox hg) | ((with_reducible refine gate_dst (N := 3) rfl ?_); refine bv 3 85 #[.int .u64 aH, .int .i64 aM] ?_; intro aQ hg w5 hbox hb; obtain ⟨n_, aI⟩ := Cb.bx (ua aE.out HB.out) hg hb; have aT := aI; obtain ⟨aC, aD⟩ := Cb.nb hg aA.out; have aJ := ak (hbox); replace aA := bb aA hb; replace HB := n_; clear n_; clear hb hbox hg; have bS := aC.out; have bT := aD.out; obtain ⟨bD, bE⟩ := Cb.c2 aA.out; obtain ⟨bF, bG⟩ := Cb.f2 aA.out; obtain ⟨bH, bI⟩ := Cb.c2 aJ.out; obtain ⟨bJ, bK⟩ := Cb.f2 aJ.out))
  go_ret
  exact ⟨by first | rfl | (simp [errW_none, errW_some] <;> rfl) | (simp [*, errW_none, errW_some] <;> rfl), ub aE.out aI.out HB.out⟩
 ·rw [if_neg c3] at H
  have bC : decide (aG < aH) = false := decide_eq_false c3
  clear c3
  by_cases c9 : aG = aH
  ·rw [if_pos c9] at H
   have bL : (aG == aH) = true := beq_iff_eq.mpr c9
   have bM : (aG != aH) = false := bne_eq_false_iff_eq.mpr c9
   clear c9
   obtain rfl := Option.some.inj H
   go_enter Try.func69, Try.ntmps69
   go_wp2_with (first | ((with_reducible refine gate_dst (N := 2) rfl ?_); refine bv 2 85 #[.int .u64 aG, .int .i64 aK] ?_; intro aN hg bU hbox hb; obtain ⟨n_, aE⟩ := Cb.bx (pB HB.out) hg hb; have aP := aE; have aA := ak (hbox); replace HB := n_; clear n_; clear hb hbox hg) | ((with_reducible refine gate_dst (N := 3) rfl ?_); refine bv 3 85 #[.int .u64 aH, .int .i64 aM] ?_; intro aQ hg bV hbox hb; obtain ⟨n_, aI⟩ := Cb.bx (ua aE.out HB.out) hg hb; have aT := aI; obtain ⟨aC, aD⟩ := Cb.nb hg aA.out; have aJ := ak (hbox); replace aA := bb aA hb; replace HB := n_; clear n_; clear hb hbox hg; have bN := aC.out; have bO := aD.out; obtain ⟨aU, aV⟩ := Cb.c2 aA.out; obtain ⟨aW, aX⟩ := Cb.f2 aA.out; obtain ⟨aY, aZ⟩ := Cb.c2 aJ.out; obtain ⟨a0, a3⟩ := Cb.f2 aJ.out))
   go_ret
   exact ⟨by first | rfl | (simp [errW_none, errW_some] <;> rfl) | (simp [*, errW_none, errW_some] <;> rfl), ub aE.out aI.out HB.out⟩
  ·rw [if_neg c9] at H
   have bL : (aG == aH) = false := beq_eq_false_iff_ne.mpr c9
   have bM : (aG != aH) = true := bne_iff_ne.mpr c9
   obtain rfl := Option.some.inj H
   go_enter Try.func69, Try.ntmps69
   go_wp2_with (first | ((with_reducible refine gate_dst (N := 2) rfl ?_); refine bv 2 85 #[.int .u64 aG, .int .i64 aK] ?_; intro aN hg bW hbox hb; obtain ⟨n_, aE⟩ := Cb.bx (pB HB.out) hg hb; have aP := aE; have aA := ak (hbox); replace HB := n_; clear n_; clear hb hbox hg) | ((with_reducible refine gate_dst (N := 3) rfl ?_); refine bv 3 85 #[.int .u64 aH, .int .i64 aM] ?_; intro aQ hg bX hbox hb; obtain ⟨n_, aI⟩ := Cb.bx (ua aE.out HB.out) hg hb; have aT := aI; obtain ⟨aC, aD⟩ := Cb.nb hg aA.out; have aJ := ak (hbox); replace aA := bb aA hb; replace HB := n_; clear n_; clear hb hbox hg; have bP := aC.out; have bQ := aD.out; obtain ⟨a4, a5⟩ := Cb.c2 aA.out; obtain ⟨a6, a7⟩ := Cb.f2 aA.out; obtain ⟨a8, a9⟩ := Cb.c2 aJ.out; obtain ⟨bA, bB⟩ := Cb.f2 aJ.out))
   go_ret
   exact ⟨by first | rfl | (simp [errW_none, errW_some] <;> rfl) | (simp [*, errW_none, errW_some] <;> rfl), ub aE.out aI.out HB.out⟩

end Go.Proofs.Ytnpmjboofmdflaa.PA
