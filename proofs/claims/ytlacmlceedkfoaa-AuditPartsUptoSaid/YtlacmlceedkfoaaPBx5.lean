-- Made by a program of this workplace out of the translation (wip/tools in the repo). Not trusted: Lean checks it.
import Derived.Test.YtlacmlceedkfoaaPBx0
import Derived.Test.YtlacmlceedkfoaaPBx3
import Derived.Test.YtlacmlceedkfoaaPBx4
namespace Go.Proofs.Ytlacmlceedkfoaa.PB
open Go.RowKit Go.Proofs.YtlacmlceedkfoaaW.PrintWords Go.Proofs.YtlacmlceedkfoaaW.PrintLast Go.Proofs.YtlacmlceedkfoaaW.PrintMore
attribute [local go_sem] max2_int min2_int max_two min_two max_three min_three max_four min_four   -- for this text's walks alone
set_option linter.unusedVariables false
set_option linter.unusedSimpArgs false

open Go.Proofs.Ytlacmlceedkfoaa.Cp
/-! ### table_Put: function 55 -/
theorem cell_below_ {w w' : World} {a : Addr} {v : Value} (hb : Below w.heap.size w w') (h : w.cell? a = some v) : w'.cell? a = some v := (hb.cell (World.block_lt_of_cell? w a h)).trans h
theorem enters60 : ∀ args w, (callFunc 60 args).run Try.prog w = .ok (.enter 60 args) w := enters_of Try.func60 (by kernel_rfl) rfl
set_option maxHeartbeats 8000000 in
theorem table_Put_1.calls (x : S59) (key : ByteArray) (B : Nat) (W : World) (hc : W.cell? ⟨B, 0, none⟩ = some (.string key)) :
    Calls Try.prog 60 #[.agg #[.string x.f0, .string x.f1], .pointer (some ⟨B, 0, none⟩)] W fun e w' => e = .returned (.bool (gtK59 key x)) ∧ Below W.heap.size W w' := by
  have hu59 := Try.underlying59
  have hB := World.block_lt_of_cell? W _ hc
  go_enter Try.func60, Try.ntmps60
  go_wp2
  go_ret
  exact ⟨rfl, (Below.refl _ _).alloc (Nat.le_refl _) _⟩
set_option maxHeartbeats 8000000 in
set_option maxRecDepth 100000 in
theorem table_Put.calls (A0 : Option Addr) (c0 : Nat) (l0 : List (S59)) (a1 a2 : ByteArray) (r : List S59) (w : World) (hr0 : Kd.C k59 w A0 l0.length l0) (hc0 : l0.length ≤ c0) (h : table_Put.f l0 a1 a2 = some r) :
    Calls Try.prog 55 #[.slice A0 l0.length c0, .string a1, .string a2] w fun e w' => ∃ v0_ : Value, e = .returned (v0_) ∧ Kd.R k59 59 w' w.heap.size (fun _ => True) v0_ r ∧ Below w.heap.size w w' := by
  have hu59 := Try.underlying59
  obtain ⟨y, hy, h2⟩ := Option.bind_eq_some_iff.1 h
  clear h
  have hyl : y.length < 4398046511104 := by
    by_cases e : y.length < 4398046511104
    · exact e
    · rw [if_neg e] at h2; cases h2
  rw [if_pos hyl] at h2
  obtain rfl := Option.some.inj h2
  clear h2
  have HY := Aside0.mk hy
  have HR := Aside0.mk hr0
  have HC := Aside0.mk hc0
  clear hy hr0 hc0
  have hE := ixOf_cases (eqK59 a1) y
  have hG := ixOf_cases (gtK59 a1) y
  have body : ∀ (a : Int), ixOf (eqK59 a1) y = a → ∀ W : World, W = (w.alloc (.cells #[.string a1] 9)).alloc (.cells #[.string a1, .string a2] 59) → ∀ v0 w1, Kd.R k59 59 w1 W.heap.size (fun _ => True) v0 y → Below W.heap.size W w1 →
      w1.cell? ⟨w.heap.size, 0, none⟩ = some (.string a1) ∧ w1.heap[w.heap.size + 1]? = some (.cells #[.string a1, .string a2] 59 (0, 0)) ∧ Kd.R k59 59 w1 w.heap.size (fun k => k ≠ w.heap.size + 1) v0 y ∧ Below w.heap.size w w1 := by
    intro a _ W hW v0 w1 hR hB
    have hs : W.heap.size = w.heap.size + 2 := by rw [hW]; simp
    refine ⟨?_, ?_, ?_, ?_⟩
    · refine (hB.cell (p := ⟨w.heap.size, 0, none⟩) (by rw [hs]; show w.heap.size < _; omega)).trans ?_
      rw [hW]; go_simp
    · refine (hB.block _ (by omega)).trans ?_
      rw [hW]
      have := heap_alloc_new (w.alloc (.cells #[.string a1] 9)) (.cells #[.string a1, .string a2] 59)
      simpa using this
    · refine Kd.R_lower (Kd.R_mono (Kd.R_bound hR) (fun k hk => by have := hk.2.1; omega)) (by omega)
    · have h1 : Below w.heap.size w W := by rw [hW]; exact Below.alloc (Below.alloc (Below.refl _ _) (Nat.le_refl _) _) (by simp) _
      exact h1.trans (hB.mono (by omega))
  rcases hE with hE | ⟨i, hil, hE⟩
  · have hng : ¬ ((0 : Int) ≤ -1) := by decide
    rcases hG with hG | ⟨j, hjl, hG⟩
    · have hres : putL59 y a1 a2 = y ++ [⟨a1, a2⟩] := by unfold putL59; rw [hE, if_neg hng, hG]; rfl
      rw [hres]
      have B := Aside0.mk body
      have E := Aside0.mk hE
      have F := Aside0.mk hG
      clear body hres hG hE hng
      go_enter Try.func55, Try.ntmps55
      go_wp2_with (first
      | (go_at_call 45; refine (api_Pair_45.calls A0 c0 l0 y _ (Kd.C_alloc (Kd.C_alloc HR.out _) _) HC.out HY.out).mono ?_; rintro e w1 ⟨v0, rfl, hR, hB⟩;
         obtain ⟨k1, k2, k3, k4⟩ := B.out _ E.out _ rfl v0 w1 hR hB; clear hR hB;
         obtain ⟨A, c, rfl, hcc, hC⟩ := Kd.R_reads k3; have K3 := Aside0.mk k3; have K4 := Aside0.mk k4; have KC := Aside0.mk hC; have KL := Aside0.mk hcc; clear k3 k4 hC hcc)
      | (go_at_call 50; refine (table_at.calls A c y a1 _ _ KC.out KL.out rfl).mono ?_; rintro e w2 ⟨rfl, hb⟩;
         have e1 : ixOf (fun x : S59 => x.f0.toList == a1.toList) y = -1 := E.out; rw [e1]; clear e1;
         have n0 := Aside0.mk (blk_below k2 hb); have n1 := Aside0.mk (Kd.R_below K3.out hb); have n2 := Aside0.mk (below_step K4.out hb); have n3 := Aside0.mk (Kd.C_below KC.out hb);
         have n4 : w2.cell? ⟨w.heap.size, 0, none⟩ = some (.string a1) := cell_below_ hb k1; clear hb K3 K4 KC; clear k1 k2; have k1 := n4; have k2 := n0.out; have K3 := n1; have K4 := n2; have KC := n3; clear n0 n1 n2 n3 n4)
      | (go_at_call 57; refine (api_Pair_57.calls (gtK59 a1) 60 #[.pointer (some ⟨w.heap.size, 0, none⟩)] enters60 A c y _ KC.out (fun W x hb => table_Put_1.calls x a1 w.heap.size W (cell_below_ hb k1))).mono ?_; rintro e w3 ⟨rfl, hb⟩;
         rw [F.out];
         have k5 := blk_below k2 hb; have n1 := Aside0.mk (Kd.R_below K3.out hb); have n2 := Aside0.mk (below_step K4.out hb); clear hb K3 K4 KC; clear k1 k2;
         have k6 : w3.cell? ⟨w.heap.size + 1, 0, none⟩ = some (.string a1) := (blk_cell k5 0).trans rfl; have k7 : w3.cell? ⟨w.heap.size + 1, 1, none⟩ = some (.string a2) := (blk_cell k5 1).trans rfl)
      | ((with_reducible refine gate_builtin (b := .append) (xs := #[.tmp 30, .tmp 32]) rfl ?_); at_builtin;
         refine Kd.R_append k59 (w0 := w) w.heap.size rfl (.tmp 30) (.tmp 32) 23 59 (.agg #[(.string ⟨#[]⟩), (.string ⟨#[]⟩)]) 32 rfl Try.underlying23 info59 rfl (by decide) (by omega) (.slice A y.length c) y (⟨a1, a2⟩ : S59) [.string a1, .string a2] (fun _ => True) (fun _ => False) rfl (by first | (go_simp; done) | (go_simp; rfl)) (k59_mkM _ _ _ (⟨a1, a2⟩ : S59)) (fun _ hk => hk.elim) (fun _ _ => trivial) (Kd.R_mono n1.out (fun _ _ => trivial)) n2.out (below_size n2.out) (by omega) ?_;
         intro v5 w5 ho5 hb5 _ _))
      go_ret
      exact ⟨_, rfl, ho5, hb5⟩
    · have hnj : ¬ ((j : Int) < 0) := by omega
      have hres : putL59 y a1 a2 = y.take j ++ ⟨a1, a2⟩ :: y.drop j := by unfold putL59; rw [hE, if_neg hng, hG, if_neg hnj]; rfl
      rw [hres]
      have hz4 : decide ((j : Int) < 0) = false := decide_eq_false hnj
      have B := Aside0.mk body
      have E := Aside0.mk hE
      have F := Aside0.mk hG
      clear body hres hG hE hng
      go_enter Try.func55, Try.ntmps55
      go_wp2_with (first
      | (go_at_call 45; refine (api_Pair_45.calls A0 c0 l0 y _ (Kd.C_alloc (Kd.C_alloc HR.out _) _) HC.out HY.out).mono ?_; rintro e w1 ⟨v0, rfl, hR, hB⟩;
         obtain ⟨k1, k2, k3, k4⟩ := B.out _ E.out _ rfl v0 w1 hR hB; clear hR hB;
         obtain ⟨g, c, rfl, hcc, hC⟩ := row_form59 k3 (Nat.lt_of_le_of_lt (Nat.zero_le _) hjl); have K3 := Aside0.mk k3; have K4 := Aside0.mk k4; have KC := Aside0.mk hC; have KL := Aside0.mk hcc; clear k3 k4 hC hcc)
      | (go_at_call 50; refine (table_at.calls (some ⟨g, 0, none⟩) c y a1 _ _ KC.out KL.out rfl).mono ?_; rintro e w2 ⟨rfl, hb⟩;
         have e1 : ixOf (fun x : S59 => x.f0.toList == a1.toList) y = -1 := E.out; rw [e1]; clear e1;
         have n0 := Aside0.mk (blk_below k2 hb); have n1 := Aside0.mk (Kd.R_below K3.out hb); have n2 := Aside0.mk (below_step K4.out hb); have n3 := Aside0.mk (Kd.C_below KC.out hb);
         have n4 : w2.cell? ⟨w.heap.size, 0, none⟩ = some (.string a1) := cell_below_ hb k1; clear hb K3 K4 KC; clear k1 k2; have k1 := n4; have k2 := n0.out; have K3 := n1; have K4 := n2; have KC := n3; clear n0 n1 n2 n3 n4)
      | (go_at_call 57; refine (api_Pair_57.calls (gtK59 a1) 60 #[.pointer (some ⟨w.heap.size, 0, none⟩)] enters60 (some ⟨g, 0, none⟩) c y _ KC.out (fun W x hb => table_Put_1.calls x a1 w.heap.size W (cell_below_ hb k1))).mono ?_; rintro e w3 ⟨rfl, hb⟩;
         rw [F.out];
         have k5 := blk_below k2 hb; have n1 := Aside0.mk (Kd.R_below K3.out hb); have n2 := Aside0.mk (below_step K4.out hb); clear hb K3 K4 KC; clear k1 k2;
         have k6 : w3.cell? ⟨w.heap.size + 1, 0, none⟩ = some (.string a1) := (blk_cell k5 0).trans rfl; have k7 : w3.cell? ⟨w.heap.size + 1, 1, none⟩ = some (.string a2) := (blk_cell k5 1).trans rfl)
      | (go_at_call 61; refine (api_Pair_61.calls w.heap.size w3.heap.size j (.slice (some ⟨g, 0, none⟩) y.length c) y ⟨a1, a2⟩ w _ (Kd.R_mono (Kd.R_alloc n1.out _) (fun _ _ => trivial)) hjl (by omega) (heap_alloc_new _ _) ?s1 (below_alloc n2.out _) ?s2).mono ?_;
         (case s1 => intro h; injection h with h; subst h; have h9 : w3.heap.size < w3.heap.size := own_lt (own59 n1.out).2 _ rfl; omega);
         (case s2 => have := below_size n2.out; simp; omega);
         rintro e w5 ⟨v5, rfl, ho5, hb5⟩))
      go_ret
      exact ⟨_, rfl, ho5, hb5⟩
  · have hz1 : (0 : Int) ≤ (i : Int) := by omega
    have hz2 : (i : Int) < (y.length : Int) := by omega
    have hres : putL59 y a1 a2 = y.set i ⟨a1, a2⟩ := by unfold putL59; rw [hE, if_pos hz1]; rfl
    rw [hres]
    have B := Aside0.mk body
    have E := Aside0.mk hE
    clear body hres hG hE
    go_enter Try.func55, Try.ntmps55
    go_wp2_with (first
      | (go_at_call 45; refine (api_Pair_45.calls A0 c0 l0 y _ (Kd.C_alloc (Kd.C_alloc HR.out _) _) HC.out HY.out).mono ?_; rintro e w1 ⟨v0, rfl, hR, hB⟩;
         obtain ⟨k1, k2, k3, k4⟩ := B.out _ E.out _ rfl v0 w1 hR hB; clear hR hB;
         obtain ⟨g, c, rfl, hcc, hC⟩ := row_form59 k3 (Nat.lt_of_le_of_lt (Nat.zero_le _) hil); have K3 := Aside0.mk k3; have K4 := Aside0.mk k4; have KC := Aside0.mk hC; have KL := Aside0.mk hcc; clear k3 k4 hC hcc)
      | (go_at_call 50; refine (table_at.calls (some ⟨g, 0, none⟩) c y a1 _ _ KC.out KL.out rfl).mono ?_; rintro e w2 ⟨rfl, hb⟩;
         have e1 : ixOf (fun x : S59 => x.f0.toList == a1.toList) y = (i : Int) := E.out; rw [e1]; clear e1;
         have k5 := (blk_below k2 hb); have n1 := Aside0.mk (Kd.R_below K3.out hb); have n2 := Aside0.mk (below_step K4.out hb); clear hb K3 K4 KC; clear k1 k2;
         have k6 : w2.cell? ⟨w.heap.size + 1, 0, none⟩ = some (.string a1) := (blk_cell k5 0).trans rfl; have k7 : w2.cell? ⟨w.heap.size + 1, 1, none⟩ = some (.string a2) := (blk_cell k5 1).trans rfl)
      | ((with_reducible refine gate_ (.store 59 (.tmp 23) (.tmp 22)) rfl ?_);
         obtain ⟨cc, hcl, hcc⟩ := row_old59 (row_C59 n1.out) i hil;
         refine Kd.R_store k59 (w0 := w) w.heap.size rfl rfl 59 (.tmp 23) (.tmp 22) rfl 59 (i : Int) 0 y ⟨a1, a2⟩ (.agg #[.string a1, .string a2]) [.string a1, .string a2] cc (fun k => k ≠ w.heap.size + 1) (fun _ => False) rfl (by simp; rfl) rfl rfl (by kernel_rfl) ?s1 n1.out hz1 hz2 hcl hcc (by show 0 + 2 ≤ 2; decide) ?s2 (fun _ hk => hk.elim) n2.out ?_;
         (case s1 => intro q hq; simp only [List.mem_cons, List.not_mem_nil, or_false] at hq; rcases hq with rfl | rfl <;> rfl);
         (case s2 => rw [List.take_zero, List.nil_append, List.drop_of_length_le (by rw [hcl]; simp), List.append_nil]; exact k59_mkM _ _ _ (⟨a1, a2⟩ : S59));
         intro w3 hr3 hb3 _))
    go_ret
    exact ⟨_, rfl, Kd.R_mono hr3 (fun _ _ => trivial), hb3⟩

open Go.Proofs.Ytlacmlceedkfoaa.Cp
/-! ### api_Pair_62: function 62 -/
theorem below_size_ {B : Nat} {w w' : World} (h : B ≤ w.heap.size) (hb : Below B w w') : B ≤ w'.heap.size := Nat.le_trans h hb.size
theorem ix_first {α : Type} (p : α → Bool) : ∀ (l : List α) (i : Nat), ixOf p l = (i : Int) → i < l.length ∧ (∀ x ∈ l.take i, p x = false) ∧ ∀ d, p (l.getD i d) = true := by
  intro l i h
  unfold ixOf at h
  split at h
  · rename_i hl
    have e : l.findIdx p = i := by omega
    subst e
    refine ⟨hl, fun x hx => ?_, fun d => ?_⟩
    · obtain ⟨j, hj, rfl⟩ := List.mem_take_iff_getElem.1 hx
      have hj' : j < l.findIdx p := by omega
      simpa using List.not_of_lt_findIdx hj'
    · rw [List.getD_eq_getElem?_getD, List.getElem?_eq_getElem hl]
      exact List.findIdx_getElem (w := hl)
  · omega
theorem ix_none {α : Type} (p : α → Bool) (l : List α) (h : ixOf p l = -1) : ∀ x ∈ l, p x = false := by
  intro x hx
  unfold ixOf at h
  split at h
  · omega
  · rename_i hl
    cases e : p x with
    | false => rfl
    | true => exact absurd (List.findIdx_lt_length.2 ⟨x, hx, e⟩) hl
theorem del_start {α : Type} (p : α → Bool) (l : List α) (i : Nat) (h : i < l.length) (h1 : ∀ x ∈ l.take i, p x = false) (h2 : p l[i] = true) : l.take i = (l.take (i + 1)).filter (fun x => !p x) := by
  rw [List.take_succ_eq_append_getElem h, List.filter_append]
  simp only [List.filter_cons, h2, Bool.not_true, List.filter_nil]
  rw [if_neg (by decide), List.append_nil, List.filter_eq_self.2 (fun x hx => by rw [h1 x hx]; rfl)]
theorem del_skip {α : Type} (p : α → Bool) (l : List α) (j : Nat) (h : j < l.length) (h2 : p l[j] = true) : (l.take (j + 1)).filter (fun x => !p x) = (l.take j).filter (fun x => !p x) := by
  rw [List.take_succ_eq_append_getElem h, List.filter_append]
  simp [List.filter_cons, h2]
theorem del_keep {α : Type} (p : α → Bool) (l : List α) (j : Nat) (h : j < l.length) (h2 : p l[j] = false) : (l.take (j + 1)).filter (fun x => !p x) = (l.take j).filter (fun x => !p x) ++ [l[j]] := by
  rw [List.take_succ_eq_append_getElem h, List.filter_append]
  simp [List.filter_cons, h2]
set_option maxHeartbeats 8000000 in
set_option maxRecDepth 100000 in
theorem api_Pair_62.calls (p : S59 → Bool) (g : Nat) (lb : Array Value) (eg : ∀ args w, (callFunc g args).run Try.prog w = .ok (.enter g args) w) (base : Nat) (u : Value) (l0 : List S59) (w0 w : World) (hr : Kd.R k59 59 w base (fun _ => True) u l0) (HB : Below base w0 w) (hbase : base ≤ w.heap.size)
    (hp : ∀ (W : World) (x : S59), Below base w W → Calls Try.prog g (#[.agg #[.string x.f0, .string x.f1]] ++ lb) W fun e w' => e = .returned (.bool (p x)) ∧ Below W.heap.size W w') :
    Calls Try.prog 62 #[u, .func (.func g) #[] lb] w fun e w' => ∃ v', e = .returned v' ∧ Kd.R k59 59 w' base (fun _ => True) v' (l0.filter (fun x => !p x)) ∧ Below base w0 w' := by
  have hu59 := Try.underlying59
  have hpi : ∀ (W : World) (x : S59), Below w.heap.size w W → Calls Try.prog g (#[.agg #[.string x.f0, .string x.f1]] ++ lb) W fun e w' => e = .returned (.bool (p x)) ∧ Below W.heap.size W w' := fun W x hb => hp W x (hb.mono hbase)
  rcases ixOf_cases p l0 with hE | ⟨i0, hil, hE⟩
  · have hres : l0.filter (fun x => !p x) = l0 := List.filter_eq_self.2 (fun x hx => by rw [ix_none p l0 hE x hx]; rfl)
    rw [hres]
    obtain ⟨A, c, rfl, hc, hC⟩ := Kd.R_reads hr
    have E := Aside0.mk hE
    have R := Aside0.mk hr
    have H := Aside0.mk HB
    have C := Aside0.mk hC
    have P := Aside0.mk hpi
    have BS := Aside0.mk hbase
    clear hres hE hr HB hC hpi hp
    go_enter Try.func62, Try.ntmps62
    go_wp2_with (go_at_call 57; refine (api_Pair_57.calls p g lb eg A c l0 _ C.out P.out).mono ?_; rintro e w1 ⟨rfl, hb⟩; rw [E.out]; have n1 := Aside0.mk (Kd.R_below R.out hb); have n2 := Aside0.mk (H.out.trans (hb.mono BS.out)); clear hb)
    go_ret
    exact ⟨_, rfl, n1.out, n2.out⟩
  · obtain ⟨b, c, rfl, hc, hC⟩ := row_form59 hr (Nat.lt_of_le_of_lt (Nat.zero_le _) hil)
    obtain ⟨_, hfst, hat⟩ := ix_first p l0 i0 hE
    have hat0 : p l0[i0] = true := by have := hat z59; rwa [List.getD_eq_getElem?_getD, List.getElem?_eq_getElem hil] at this
    have hmx : l0.length ≤ 9223372036854775807 := hC.2.1
    have hil0 := hil
    have hix := api_Pair_57.calls p g lb eg (some ⟨b, 0, none⟩) c l0 w hC hpi
    obtain ⟨n, hn⟩ : ∃ n, n = l0.length := ⟨_, rfl⟩
    rw [← hn] at hr hC hc hil hmx hix ⊢
    rw [hE] at hix
    have IX := Aside0.mk hix
    clear hix
    have ST := Aside0.mk (del_start p l0 i0 hil0 hfst hat0)
    have N := Aside0.mk hn
    have E := Aside0.mk hE
    have R := Aside0.mk hr
    have H := Aside0.mk HB
    have C := Aside0.mk hC
    have P := Aside0.mk hpi
    have PP := Aside0.mk hp
    have BS := Aside0.mk hbase
    have hz0 : ((i0 : Int) == -1) = false := by simp
    have hw0 : IntKind.i64.wrap ((i0 : Int) + 1) = ((i0 + 1 : Nat) : Int) := by rw [IntKind.wrap_i64]; omega
    clear hE hr HB hC hpi hp hat hat0 hfst hn hil0
    go_enter Try.func62, Try.ntmps62
    go_wp2_with (go_at_call 57; refine IX.out.mono ?_; rintro e w1 ⟨rfl, hb⟩; have n1 := Aside0.mk (Kd.R_below R.out hb); have n2 := Aside0.mk (H.out.trans (hb.mono BS.out)); have n3 := Aside0.mk (hb.mono BS.out); clear hb)
    go_loopg [5, 6] n (fun gg s5 s6 wr => ∃ (i j : Nat) (M : List S59), i < j ∧ j ≤ n ∧ n - j ≤ gg ∧ s5 = .int .i64 i ∧ s6 = .int .i64 j ∧ Aside0 (M.take i = (l0.take j).filter (fun x => !p x) ∧ M.drop j = l0.drop j ∧ M.length = n) ∧ Aside0 (Kd.R k59 59 wr base (fun _ => True) (.slice (some ⟨b, 0, none⟩) n c) M) ∧ Aside0 (Below base w0 wr) ∧ Aside0 (Below base w wr))
    case atStart =>
      exact ⟨i0, i0 + 1, l0, by omega, by omega, by omega, rfl, by first | rfl | (rw [hw0]; done) | simp, ⟨ST.out, rfl, N.out.symm⟩, ⟨n1.out⟩, ⟨n2.out⟩, ⟨n3.out⟩⟩
    case round =>
      obtain ⟨i, j, M, hij, hjn, hgg, rfl, rfl, MM, RR, HB, HC⟩ := hrel
      by_cases hlt : j < n
      · have hltz : (j : Int) < (n : Int) := by omega
        have hltm : (j : Int) < (M.length : Int) := by rw [MM.out.2.2]; exact hltz
        have hiz : (i : Int) < (n : Int) := by omega
        have hi0 : (0 : Int) ≤ (i : Int) := by omega
        have hCM := row_C59 RR.out
        obtain ⟨ad, e, hx0, hx1⟩ := at_T59 hCM (j : Int) (by omega) hltz
        cases e
        simp only [Int.toNat_natCast] at hx0 hx1
        have e0 : rd_T59 M (j : Int) = M.getD j z59 := by simp [rd_T59]
        rw [e0] at hx0 hx1
        simp only [Addr.add_lit, Nat.zero_add] at hx0 hx1
        clear e0
        obtain ⟨y, hy⟩ : ∃ y, M.getD j z59 = y := ⟨_, rfl⟩
        rw [hy] at hx0 hx1
        have hjl : j < l0.length := by rw [← N.out]; exact hlt
        have hyl : l0[j] = y := by
          have h1 : M.drop j = l0.drop j := MM.out.2.1
          have hjm : j < M.length := by rw [MM.out.2.2]; exact hlt
          rw [List.drop_eq_getElem_cons hjl, List.drop_eq_getElem_cons hjm] at h1
          injection h1 with h1 _
          rw [← h1, ← hy, List.getD_eq_getElem?_getD, List.getElem?_eq_getElem hjm]
          rfl
        have hdn : M.drop (j + 1) = l0.drop (j + 1) := by
          have h1 : M.drop j = l0.drop j := MM.out.2.1
          rw [← List.drop_drop, ← List.drop_drop, h1]
        have hcall : ∀ W : World, Below base w W → Calls Try.prog g (#[.agg #[.string y.f0, .string y.f1]] ++ lb) W fun e w' => e = .returned (.bool (p y)) ∧ Below W.heap.size W w' := fun W hb => PP.out W y hb
        have hws : base ≤ wr.heap.size := below_size_ BS.out HC.out
        have Y := Aside0.mk hy
        have YL := Aside0.mk hyl
        have DN := Aside0.mk hdn
        have WS := Aside0.mk hws
        clear hy hyl hdn hws hCM
        obtain ⟨q, hq⟩ : ∃ q, p y = q := ⟨_, rfl⟩
        rw [hq] at hcall
        have Q := Aside0.mk hq
        have CL := Aside0.mk hcall
        clear hq hcall
        cases q with
        | true =>
          go_wp2_with (go_at_fn g; refine (CL.out _ (HC.out.alloc WS.out _)).mono ?_; rintro e w2 ⟨rfl, hb⟩)
          go_roundg (n - (j + 1))
          case measure => omega
          case rel => exact ⟨i, j + 1, M, by omega, by omega, by omega, rfl, by first | rfl | go_num, ⟨by rw [del_skip p l0 j hjl (by rw [YL.out]; exact Q.out)]; exact MM.out.1, DN.out, MM.out.2.2⟩, ⟨Kd.R_below (Kd.R_alloc RR.out _) hb⟩, ⟨(HB.out.alloc WS.out _).trans (hb.mono (by have := WS.out; simp; omega))⟩, ⟨(HC.out.alloc WS.out _).trans (hb.mono (by have := WS.out; simp; omega))⟩⟩
        | false =>
          go_wp2_with (first
            | (go_at_fn g; refine (CL.out _ (HC.out.alloc WS.out _)).mono ?_; rintro e w2 ⟨rfl, hb⟩; have BW := Aside0.mk (below_size hb); have k5 := (blk_below (heap_alloc_new wr (.cells #[.string y.f0, .string y.f1] 59)) hb); have n1 := Aside0.mk (Kd.R_below (Kd.R_alloc RR.out _) hb); have n2 := Aside0.mk ((HB.out.alloc WS.out _).trans (hb.mono (by have := WS.out; simp; omega))); have n3 := Aside0.mk ((HC.out.alloc WS.out _).trans (hb.mono (by have := WS.out; simp; omega))); clear hb; have k6 : w2.cell? ⟨wr.heap.size, 0, none⟩ = some (.string y.f0) := (blk_cell k5 0).trans rfl; have k7 : w2.cell? ⟨wr.heap.size, 1, none⟩ = some (.string y.f1) := (blk_cell k5 1).trans rfl)
            | ((with_reducible refine gate_ (.store 59 (.tmp 33) (.tmp 32)) rfl ?_); obtain ⟨cc, hcl, hcc⟩ := row_old59 (row_C59 n1.out) i (by omega); refine Kd.R_store k59 (w0 := w0) base rfl rfl 59 (.tmp 33) (.tmp 32) rfl 59 (i : Int) 0 M y (.agg #[.string y.f0, .string y.f1]) [.string y.f0, .string y.f1] cc (fun _ => True) (fun _ => False) rfl (by simp; rfl) rfl rfl (by kernel_rfl) ?s1 n1.out hi0 hiz hcl hcc (by show 0 + 2 ≤ 2; decide) ?s2 (fun _ hk => hk.elim) n2.out ?_; (case s1 => intro q hq; simp only [List.mem_cons, List.not_mem_nil, or_false] at hq; rcases hq with rfl | rfl <;> rfl); (case s2 => rw [List.take_zero, List.nil_append, List.drop_of_length_le (by rw [hcl]; simp), List.append_nil]; exact k59_mkM _ _ _ y); intro w3 hr3 hb3 hg3; have K8 := Aside0.mk hr3; have K9 := Aside0.mk hb3; have K10 := Aside0.mk hg3; clear hr3 hb3 hg3))
          go_roundg (n - (j + 1))
          case measure => omega
          case rel =>
            have him : i < M.length := by rw [MM.out.2.2]; omega
            have hbb : base ≤ b := Kd.R_base n1.out b rfl
            refine ⟨i + 1, j + 1, M.set i y, by omega, by omega, by omega, by first | rfl | go_num, by first | rfl | go_num, ⟨?_, ?_, ?_⟩, K8, K9, ⟨n3.out.trans ⟨K10.out.os, K10.out.tape, K10.out.output, K10.out.size, fun k hk => ?_⟩⟩⟩
            · rw [del_keep p l0 j hjl (by rw [YL.out]; exact Q.out), YL.out, ← MM.out.1]
              rw [List.take_succ_eq_append_getElem (by rw [List.length_set]; exact him), List.getElem_set_self, List.take_set_of_le (Nat.le_refl _)]
            · rw [List.drop_set_of_lt (by omega)]; exact DN.out
            · rw [List.length_set]; exact MM.out.2.2
            · exact K10.out.block k (by have := BW.out; have := WS.out; simp at *; omega) (by intro h; injection h with h; omega)
      · have hltz : decide ((j : Int) < (n : Int)) = false := decide_eq_false (by omega)
        have hjn' : j = n := by omega
        have hF : l0.filter (fun x => !p x) = M.take i := by rw [MM.out.1, List.take_of_length_le (by rw [← N.out]; omega)]
        have hMi : (M.take i).length = i := by rw [List.length_take, MM.out.2.2]; omega
        obtain ⟨_, ho1, ho2⟩ := own59 RR.out
        rcases ho2 with ⟨h, _⟩ | ⟨b', c', cur, e, hg, hh, hnc, hcm, hcs, htk⟩
        · cases h
        · injection e with e1 e2 e3
          injection e1 with e1
          injection e1 with e1 _
          subst e1; subst e3
          clear e2
          obtain ⟨zs, hzs⟩ : ∃ zs, zs = (Builtin.zeroCells (((.agg #[(.string ⟨#[]⟩), (.string ⟨#[]⟩)]) : Value)).cells (n - i)).toList := ⟨_, rfl⟩
          have hzl : zs.length = (n - i) * 2 := by rw [hzs, Array.length_toList, zero_size]; rfl
          obtain ⟨NEW, hNEW⟩ : ∃ NEW, NEW = (cur.toList.take (i * 2) ++ zs ++ cur.toList.drop (i * 2 + zs.length)).toArray := ⟨_, rfl⟩
          have hin : i ≤ n := by omega
          have hfit : i * 2 + (n - i) * 2 ≤ cur.size := by
            have : i * 2 + (n - i) * 2 = n * 2 := by omega
            have h2 : n * 2 ≤ c * 2 := by omega
            omega
          have hcl : ∀ (W : World) (ty : TypeId) (c2 : Nat), W.heap[b]? = some (.cells cur 59 (0, 0)) → (Builtin.clear_ #[23] ty #[.slice (some ⟨b, i * 2, none⟩) (n - i) c2]).run Try.prog W = .ok (.tuple #[]) (W.setRow b NEW) := fun W ty c2 hW => by
            have h := run_clear_rowK (P := Try.prog) W 23 59 ty (.agg #[(.string ⟨#[]⟩), (.string ⟨#[]⟩)]) Try.underlying23 Try.zeroValue59 2 rfl (by decide) (by intro v hv; simp only [Value.cells, List.mem_cons, List.not_mem_nil, or_false] at hv; rcases hv with rfl | rfl <;> rfl) b (i * 2) (n - i) c2 cur 59 hW (by omega) hfit
            rw [← hzs, ← hNEW] at h
            exact h
          have hns : NEW.size = c * 2 := by
            rw [hNEW, List.size_toArray, List.length_append, List.length_append, List.length_take, List.length_drop, hzl, Array.length_toList]
            omega
          have hnt : NEW.toList.take (i * 2) = (M.take i).flatMap c59 := by
            rw [hNEW, List.toList_toArray, List.append_assoc, List.take_left' (by rw [List.length_take, Array.length_toList]; omega)]
            rw [← flat_take c59 c59_len, ← htk, List.take_take]
            congr 1
            rw [MM.out.2.2]
            omega
          have hci : ¬ (c = i) := by have := MM.out.2.2; omega
          have hcn : (n : Int) ≤ (c : Int) := by have := MM.out.2.2; omega
          have hiz : (i : Int) ≤ (n : Int) := by omega
          have hic : (i : Int) ≤ (c : Int) := by have := MM.out.2.2; omega
          have hi0 : (0 : Int) ≤ (i : Int) := by omega
          have X1 := Aside0.mk hns
          have X2 := Aside0.mk hnt
          have X3 := Aside0.mk hF
          have X4 := Aside0.mk hcm
          have X5 := Aside0.mk hMi
          have X6 := Aside0.mk hg
          have X7 := Aside0.mk hcl
          have X8 := Aside0.mk hh
          have hcw := hcl wr 0 (c - i) hh
          clear hns hnt hF hcm hMi hg hcl hh hNEW hzs hzl hfit htk hcs hnc ho1
          go_wp2_with (simp only [hcw])
          go_ret
          refine ⟨_, rfl, ?_, HB.out.trans (below_setRow (Below.refl _ _) X6.out _)⟩
          rw [X3.out]
          refine row59 (fun _ _ => trivial) ⟨flat_len c59 c59_len _, .inr ⟨b, c, NEW, by rw [X5.out]; rfl, X6.out, setRow_heap _ _ cur _ 59 _ X8.out, ?_, X4.out, X1.out, by rw [X5.out]; exact X2.out⟩⟩
          rw [X5.out]
          omega

open Go.Proofs.Ytlacmlceedkfoaa.Cp
/-! ### table_Drop: function 56 -/
theorem enters63 : ∀ args w, (callFunc 63 args).run Try.prog w = .ok (.enter 63 args) w := enters_of Try.func63 (by kernel_rfl) rfl
set_option maxHeartbeats 8000000 in
theorem table_Drop_1.calls (x : S59) (key : ByteArray) (B : Nat) (W : World) (hc : W.cell? ⟨B, 0, none⟩ = some (.string key)) :
    Calls Try.prog 63 #[.agg #[.string x.f0, .string x.f1], .pointer (some ⟨B, 0, none⟩)] W fun e w' => e = .returned (.bool (eqK59 key x)) ∧ Below W.heap.size W w' := by
  have hu59 := Try.underlying59
  have hB := World.block_lt_of_cell? W _ hc
  go_enter Try.func63, Try.ntmps63
  go_wp2
  go_ret
  exact ⟨rfl, (Below.refl _ _).alloc (Nat.le_refl _) _⟩
set_option maxHeartbeats 8000000 in
theorem table_Drop.calls (A0 : Option Addr) (c0 : Nat) (l0 : List (S59)) (a1 : ByteArray) (r : List S59) (w : World) (hr0 : Kd.C k59 w A0 l0.length l0) (hc0 : l0.length ≤ c0) (h : table_Drop.f l0 a1 = some r) :
    Calls Try.prog 56 #[.slice A0 l0.length c0, .string a1] w fun e w' => ∃ v0_ : Value, e = .returned (v0_) ∧ Kd.R k59 59 w' w.heap.size (fun _ => True) v0_ r ∧ Below w.heap.size w w' := by
  obtain ⟨y, hy, h2⟩ := Option.bind_eq_some_iff.1 h
  obtain rfl := Option.some.inj h2
  have HY := Aside0.mk hy
  have HR := Aside0.mk hr0
  have HC := Aside0.mk hc0
  clear hy hr0 hc0 h h2
  obtain ⟨W1, hW1⟩ : ∃ W1, W1 = w.alloc (.cells #[.string a1] 9) := ⟨_, rfl⟩
  have hs1 : W1.heap.size = w.heap.size + 1 := by rw [hW1]; simp
  have hB1 : Below w.heap.size w W1 := by rw [hW1]; exact Below.alloc (Below.refl _ _) (Nat.le_refl _) _
  have hk1 : W1.cell? ⟨w.heap.size, 0, none⟩ = some (.string a1) := by rw [hW1]; go_simp
  have hR1 : Kd.C k59 W1 A0 l0.length l0 := by rw [hW1]; exact Kd.C_alloc HR.out _
  have D : ∀ (w2 : World) (v : Value), Kd.R k59 59 w2 W1.heap.size (fun _ => True) v y → Below W1.heap.size W1 w2 → Calls Try.prog 62 #[v, .func (.func 63) #[] #[.pointer (some ⟨w.heap.size, 0, none⟩)]] w2 fun e w' => ∃ v' : Value, e = .returned v' ∧ Kd.R k59 59 w' w.heap.size (fun _ => True) v' (dropL59 y a1) ∧ Below w.heap.size w w' := by
    intro w2 v hR hB
    refine (api_Pair_62.calls (eqK59 a1) 63 #[.pointer (some ⟨w.heap.size, 0, none⟩)] enters63 W1.heap.size v y W1 w2 hR hB hB.size (fun W x hb => table_Drop_1.calls x a1 w.heap.size W ?_)).mono ?_
    · exact ((hB.trans hb).cell (p := ⟨w.heap.size, 0, none⟩) (by rw [hs1]; show w.heap.size < _; omega)).trans hk1
    · rintro e w' ⟨v', rfl, hr, hb⟩
      exact ⟨v', rfl, Kd.R_lower hr (by omega), hB1.trans (hb.mono (by omega))⟩
  have CL := Aside0.mk (api_Pair_45.calls A0 c0 l0 y W1 hR1 HC.out HY.out)
  have DD := Aside0.mk D
  rw [hW1] at CL
  clear D hR1 hk1 hB1 hs1
  go_enter Try.func56, Try.ntmps56
  go_wp2_with (first
    | (go_at_call 45; refine CL.out.mono ?_; rintro e w2 ⟨v, rfl, hR, hB⟩; rw [← hW1] at hR hB; have D2 := Aside0.mk (DD.out w2 v hR hB); clear hR hB)
    | (go_at_call 62; refine D2.out.mono ?_; rintro e w3 ⟨v', rfl, hr3, hb3⟩; have R3 := Aside0.mk hr3; have B3 := Aside0.mk hb3; clear hr3 hb3))
  go_ret
  exact ⟨_, rfl, R3.out, B3.out⟩

open Go.Proofs.Ytlacmlceedkfoaa.Cp
/-! ### table_Apply: function 30 -/
set_option maxHeartbeats 8000000 in
theorem table_Apply_put.calls (f0 f1 : ByteArray) (f2 : Bool) (A0 : Option Addr) (c0 : Nat) (l0 : List (S59)) (r : List S59) (w : World) (hr0 : Kd.C k59 w A0 l0.length l0) (hc0 : l0.length ≤ c0) (h : table_Put.f l0 f0 f1 = some r) :
    Calls Try.prog 46 #[.agg #[.string f0, .string f1, .bool f2], .slice A0 l0.length c0] w fun e w' => ∃ v0_ : Value, e = .returned (v0_) ∧ Kd.R k59 59 w' w.heap.size (fun _ => True) v0_ r ∧ Below w.heap.size w w' := by
  obtain ⟨W1, hW1⟩ : ∃ W1, W1 = w.alloc (.cells #[.string f0, .string f1, .bool f2] 77) := ⟨_, rfl⟩
  have hB1 : Below w.heap.size w W1 := by rw [hW1]; exact Below.alloc (Below.refl _ _) (Nat.le_refl _) _
  have hs1 : W1.heap.size = w.heap.size + 1 := by rw [hW1]; simp
  have D := table_Put.calls A0 c0 l0 f0 f1 r W1 (by rw [hW1]; exact Kd.C_alloc hr0 _) hc0 h
  have DD := Aside0.mk D
  rw [hW1] at DD
  clear D hr0 hc0 h
  go_enter Try.func46, Try.ntmps46
  go_wp2_with (go_at_call 55; refine DD.out.mono ?_; rintro e w3 ⟨v', rfl, hr3, hb3⟩; rw [← hW1] at hr3 hb3; have R3 := Aside0.mk (Kd.R_lower hr3 (by omega : w.heap.size ≤ W1.heap.size)); have B3 := Aside0.mk (hB1.trans (hb3.mono (by omega))); clear hr3 hb3)
  go_ret
  exact ⟨_, rfl, R3.out, B3.out⟩
set_option maxHeartbeats 8000000 in
theorem table_Apply_drop.calls (f0 f1 : ByteArray) (f2 : Bool) (A0 : Option Addr) (c0 : Nat) (l0 : List (S59)) (r : List S59) (w : World) (hr0 : Kd.C k59 w A0 l0.length l0) (hc0 : l0.length ≤ c0) (h : table_Drop.f l0 f0 = some r) :
    Calls Try.prog 47 #[.agg #[.string f0, .string f1, .bool f2], .slice A0 l0.length c0] w fun e w' => ∃ v0_ : Value, e = .returned (v0_) ∧ Kd.R k59 59 w' w.heap.size (fun _ => True) v0_ r ∧ Below w.heap.size w w' := by
  obtain ⟨W1, hW1⟩ : ∃ W1, W1 = w.alloc (.cells #[.string f0, .string f1, .bool f2] 77) := ⟨_, rfl⟩
  have hB1 : Below w.heap.size w W1 := by rw [hW1]; exact Below.alloc (Below.refl _ _) (Nat.le_refl _) _
  have hs1 : W1.heap.size = w.heap.size + 1 := by rw [hW1]; simp
  have D := table_Drop.calls A0 c0 l0 f0 r W1 (by rw [hW1]; exact Kd.C_alloc hr0 _) hc0 h
  have DD := Aside0.mk D
  rw [hW1] at DD
  clear D hr0 hc0 h
  go_enter Try.func47, Try.ntmps47
  go_wp2_with (go_at_call 56; refine DD.out.mono ?_; rintro e w3 ⟨v', rfl, hr3, hb3⟩; rw [← hW1] at hr3 hb3; have R3 := Aside0.mk (Kd.R_lower hr3 (by omega : w.heap.size ≤ W1.heap.size)); have B3 := Aside0.mk (hB1.trans (hb3.mono (by omega))); clear hr3 hb3)
  go_ret
  exact ⟨_, rfl, R3.out, B3.out⟩
set_option maxHeartbeats 8000000 in
set_option maxRecDepth 100000 in
theorem table_Apply.calls (A0 : Option Addr) (c0 : Nat) (l0 : List S59) (A1 : Option Addr) (c1 : Nat) (l1 : List S61) (r : List S59) (w : World) (hr0 : Kd.C k59 w A0 l0.length l0) (hc0 : l0.length ≤ c0) (hr1 : Kd.C k61 w A1 l1.length l1) (hc1 : l1.length ≤ c1) (h : table_Apply.f l0 l1 = some r) :
    Calls Try.prog 30 #[.slice A0 l0.length c0, .slice A1 l1.length c1] w fun e w' => ∃ v0_ : Value, e = .returned (v0_) ∧ Kd.R k59 59 w' w.heap.size (fun _ => True) v0_ r ∧ Below w.heap.size w w' := by
  have hu59 := Try.underlying59
  obtain ⟨y, hy, h2⟩ := Option.bind_eq_some_iff.1 h
  have hmx := hr1.2.1
  have CL := Aside0.mk (api_Pair_45.calls A0 c0 l0 y w hr0 hc0 hy)
  have C1 := Aside0.mk hr1
  have RR := Aside0.mk h2
  clear hy hr0 hc0 h h2 hr1 hc1
  go_enter Try.func30, Try.ntmps30
  go_wp2_with (go_at_call 45; refine CL.out.mono ?_; rintro e w2 ⟨v, rfl, hR, hB⟩; have R2 := Aside0.mk hR; have B2 := Aside0.mk hB; clear hR hB)
  go_loopg [0, 12] l1.length (fun gg s0 s12 wr => ∃ (j : Nat) (M : List S59), j ≤ l1.length ∧ l1.length - j ≤ gg ∧ s12 = .int .i64 j ∧ Aside0 (applyF59 M (l1.drop j) = some r) ∧ Aside0 (Kd.R k59 59 wr w.heap.size (fun _ => True) s0 M) ∧ Aside0 (Below w.heap.size w wr))
  case atStart => exact ⟨0, y, Nat.zero_le _, by omega, rfl, RR, R2, B2⟩
  case round =>
    obtain ⟨j, M, hj, hgg, rfl, HA, HR, HB⟩ := hrel
    by_cases hlt : j < l1.length
    · have hltz : (j : Int) < (l1.length : Int) := by omega
      obtain ⟨ad, e, hx0, hx1, hx2⟩ := at_T61 (Kd.C_below C1.out HB.out) (j : Int) (by omega) hltz
      cases e
      have hh := HA.out
      rw [List.drop_eq_getElem_cons hlt] at hh
      have e0 : rd_T61 l1 (j : Int) = l1[j] := by simp [rd_T61, List.getD_eq_getElem?_getD, hlt]
      rw [e0] at hx0 hx1 hx2
      simp only [Int.toNat_natCast] at hx0 hx1 hx2
      clear e0
      obtain ⟨x, hx⟩ : ∃ x, l1[j] = x := ⟨_, rfl⟩
      rw [hx] at hh hx0 hx1 hx2
      obtain ⟨f0, f1, f2⟩ := x
      simp only at hx0 hx1 hx2
      simp only [applyF59] at hh
      obtain ⟨z, hz, hh2⟩ := Option.bind_eq_some_iff.1 hh
      obtain ⟨A, c, rfl, hc, hC⟩ := Kd.R_reads HR.out
      have Z := Aside0.mk hh2
      have CC := Aside0.mk hC
      have CM := Aside0.mk hc
      clear hh hh2 hC hc hx
      cases f2 with
      | true =>
        rw [if_pos rfl] at hz
        have HZ := Aside0.mk hz
        clear hz
        obtain ⟨W1, hW1⟩ : ∃ W1, W1 = wr.alloc (.cells #[.string f0, .string f1, .bool true] 61) := ⟨_, rfl⟩
        have hs1 : w.heap.size ≤ W1.heap.size := by have := below_size HB.out; rw [hW1]; simp; omega
        have hB1 := Aside0.mk (show Below w.heap.size w W1 by rw [hW1]; exact below_alloc HB.out _)
        have D := Aside0.mk (table_Apply_drop.calls f0 f1 true A c M z W1 (by rw [hW1]; exact Kd.C_alloc CC.out _) CM.out HZ.out)
        rw [hW1] at D
        go_wp2_with (refine D.out.mono ?_; rintro e w3 ⟨v', rfl, hr3, hb3⟩; rw [← hW1] at hr3 hb3; have R3 := Aside0.mk (Kd.R_lower hr3 hs1); have B3 := Aside0.mk (below_step hB1.out hb3); clear hr3 hb3)
        go_roundg (l1.length - (j + 1))
        case measure => omega
        case rel => exact ⟨j + 1, z, by omega, by omega, by go_num, Z, R3, B3⟩
      | false =>
        rw [if_neg (by decide)] at hz
        have HZ := Aside0.mk hz
        clear hz
        obtain ⟨W1, hW1⟩ : ∃ W1, W1 = wr.alloc (.cells #[.string f0, .string f1, .bool false] 61) := ⟨_, rfl⟩
        have hs1 : w.heap.size ≤ W1.heap.size := by have := below_size HB.out; rw [hW1]; simp; omega
        have hB1 := Aside0.mk (show Below w.heap.size w W1 by rw [hW1]; exact below_alloc HB.out _)
        have D := Aside0.mk (table_Apply_put.calls f0 f1 false A c M z W1 (by rw [hW1]; exact Kd.C_alloc CC.out _) CM.out HZ.out)
        rw [hW1] at D
        go_wp2_with (refine D.out.mono ?_; rintro e w3 ⟨v', rfl, hr3, hb3⟩; rw [← hW1] at hr3 hb3; have R3 := Aside0.mk (Kd.R_lower hr3 hs1); have B3 := Aside0.mk (below_step hB1.out hb3); clear hr3 hb3)
        go_roundg (l1.length - (j + 1))
        case measure => omega
        case rel => exact ⟨j + 1, z, by omega, by omega, by go_num, Z, R3, B3⟩
    · have hltz : decide ((j : Int) < (l1.length : Int)) = false := decide_eq_false (by omega)
      have hF : M = r := by
        have := HA.out
        rw [List.drop_of_length_le (by omega)] at this
        exact Option.some.inj this
      subst hF
      obtain ⟨A, c, rfl, hc, hC⟩ := Kd.R_reads HR.out
      clear hc hC
      go_wp2
      go_ret
      exact ⟨_, rfl, HR.out, HB.out⟩

/-! ### table_Between: function 51 -/
set_option maxHeartbeats 8000000 in
set_option maxRecDepth 100000 in
theorem table_Between.calls (a0 : ByteArray) (a1 : ByteArray) (a2 : ByteArray) (r : Bool) (w : World) (h : table_Between.f a0 a1 a2 = some r) :
    Calls Try.prog 51 #[.string a0, .string a1, .string a2] w fun e w' => e = .returned (.bool r) ∧ Drawn0 w w' := by
  have H : (if ((Op.bytesLess a0.toList a1.toList) = true) then (some false) else (if a2.toList = ([] : List UInt8) then (some true) else (some (Op.bytesLess a0.toList a2.toList)))) = some r := h
  clear h
  by_cases c4 : ((Op.bytesLess a0.toList a1.toList) = true)
  · rw [if_pos c4] at H
    have c4b0 : (Op.bytesLess a0.toList a1.toList) = true := c4
    clear c4
    obtain rfl := Option.some.inj H
    go_enter Try.func51, Try.ntmps51
    go_wp2
    go_ret
    exact ⟨by first | rfl | (simp; done) | (simp [*]; done), by repeat (first | exact Drawn0.refl _ | apply Drawn0.step)⟩
  · rw [if_neg c4] at H
    have c4b0 : (Op.bytesLess a0.toList a1.toList) = false := by simpa using c4
    clear c4
    by_cases c5 : a2.toList = ([] : List UInt8)
    · rw [if_pos c5] at H
      have c5b0 : (a2.toList == ([] : List UInt8)) = true := beq_iff_eq.mpr c5
      have c5b1 : (a2.toList != ([] : List UInt8)) = false := bne_eq_false_iff_eq.mpr c5
      clear c5
      obtain rfl := Option.some.inj H
      go_enter Try.func51, Try.ntmps51
      go_wp2
      go_ret
      exact ⟨by first | rfl | (simp; done) | (simp [*]; done), by repeat (first | exact Drawn0.refl _ | apply Drawn0.step)⟩
    · rw [if_neg c5] at H
      have c5b0 : (a2.toList == ([] : List UInt8)) = false := beq_eq_false_iff_ne.mpr c5
      have c5b1 : (a2.toList != ([] : List UInt8)) = true := bne_iff_ne.mpr c5
      obtain rfl := Option.some.inj H
      go_enter Try.func51, Try.ntmps51
      go_wp2
      go_ret
      exact ⟨by first | rfl | (simp; done) | (simp [*]; done), by repeat (first | exact Drawn0.refl _ | apply Drawn0.step)⟩

/-! ### table_Range: function 37 -/
set_option maxHeartbeats 8000000 in
set_option maxRecDepth 100000 in
theorem table_Range.calls (k : Nat) (A0 : Option Addr) (c0 : Nat) (l0 : List (S59)) (a1 : ByteArray) (a2 : ByteArray) (a3 : Int) (r : List (S59)) (w : World) (hr0 : Kd.C k59 w A0 l0.length l0) (hc0 : l0.length ≤ c0) (h : table_Range.f k l0 a1 a2 a3 = some r) :
    Calls Try.prog 37 #[.slice A0 l0.length c0, .string a1, .string a2, .int .i64 a3] w fun e w' => ∃ v0_ : Value, e = .returned (v0_) ∧ Kd.R k59 59 w' w.heap.size (fun _ => True) v0_ r ∧ Below w.heap.size w w' := by
  have hu59 := Try.underlying59
  have HR0 := Aside0.mk hr0
  have HC0 := Aside0.mk hc0
  clear hr0 hc0
  have HB := Aside0.mk (Below.refl w.heap.size w)
  have H : (table_Range.l0 k a1 a2 a3 ([] : List (S59)) l0 (l0.length : Int) 0) = some r := h
  clear h
  have H' := Aside0.mk H
  clear H
  go_enter Try.func37, Try.ntmps37
  go_wp2
  go_loopg [9, 14] k (fun kq v9 v14 w' => ∃ (x9_1 : List (S59)) (x14_1 : Int), v14 = .int .i64 x14_1 ∧ Aside0 (table_Range.l0 kq a1 a2 a3 x9_1 l0 (l0.length : Int) x14_1 = some r) ∧ Aside0 (kq ≤ k) ∧ Aside0 (Kd.R k59 59 w' w.heap.size (fun _ => True) v9 x9_1) ∧ Aside0 (Below w.heap.size w w'))
  case atStart => exact ⟨(([] : List (S59))), (0), (by first | rfl | (simp; done) | (simp [*]; done)), H', ⟨Nat.le_refl _⟩, ⟨by first | exact Kd.R_nil _ _ _ _ _ | exact Kd.N_nil _ _ _ _ _ | exact Kd.V_nil _ _ _ _ _ | exact Kd.Q_nil _ _ _ _ _ | exact Kd.S_nil _ _ _ _ _⟩, ⟨by repeat (first | (with_reducible first | exact HB.out | apply below_alloc | apply pw_below_drewN | apply below_drew1) | exact HB.out)⟩⟩
  case round =>
    clear H'
    try clear p2
    try clear c3
    obtain ⟨x9_1, x14_1, rfl, HA, HK1, HO_9, HB⟩ := hrel
    cases gk with
    | zero => exact absurd HA.out (by simp [table_Range.l0])
    | succ k1 =>
      have H := HA.out
      clear HA
      simp only [table_Range.l0] at H
      by_cases c5 : x14_1 < (l0.length : Int)
      · rw [if_pos c5] at H
        have c5b0 : decide (x14_1 < (l0.length : Int)) = true := decide_eq_true c5
        clear c5
        by_cases c6 : 0 ≤ x14_1
        · rw [if_pos c6] at H
          have c6b0 : decide (0 ≤ x14_1) = true := decide_eq_true c6
          clear c6
          by_cases c7 : x14_1 < (l0.length : Int)
          · rw [if_pos c7] at H
            have c7b0 : decide (x14_1 < (l0.length : Int)) = true := decide_eq_true c7
            clear c7
            by_cases c8 : (x9_1.length : Int) ≥ a3
            · rw [if_pos c8] at H
              have c8b0 : decide (a3 ≤ (x9_1.length : Int)) = true := decide_eq_true c8
              clear c8
              obtain rfl := Option.some.inj H
              have p111 : 0 ≤ (x14_1 : Int) := of_decide_eq_true (by first | (with_reducible assumption) | assumption)
              have q111 : x14_1 < (l0.length : Int) := of_decide_eq_true (by first | (with_reducible assumption) | assumption)
              obtain ⟨ad111, e111, hx111_0, hx111_1⟩ := at_T59 HR0.out x14_1 p111 q111
              cases e111
              replace hx111_0 := (HB.out.cell (World.block_lt_of_cell? w _ hx111_0)).trans hx111_0
              replace hx111_1 := (HB.out.cell (World.block_lt_of_cell? w _ hx111_1)).trans hx111_1
              replace p111 := eq_true p111
              replace q111 := eq_true q111
              go_wp2_with (first | ((with_reducible refine gate_dst (N := 11) rfl ?_); refine box_event ?hg (N := 11) ?hd (cs := #[.string (⟨#[]⟩ : ByteArray), .string (⟨#[]⟩ : ByteArray)]) (t := 59) ?hr ?_; (case hd => rfl); (case hg => rfl); (case hr => first | (go_simp; done) | (go_simp; rfl)); intro gb112 hg w9 hbox hb; have n0_ := Aside0.mk (Kd.R_below (Kd.R_elderB (by (with_reducible repeat (first | apply Kd.R_alloc | apply Kd.R_drewN | apply Kd.R_drew)); exact HO_9.out) gb112 (Nat.le_of_eq hg.symm)) hb); have n1_ := Aside0.mk (below_step (by repeat (first | (with_reducible first | exact HB.out | apply below_alloc | apply pw_below_drewN | apply below_drew1) | exact HB.out)) hb); have n2_ := Aside0.mk (hbox); have n3_ := Aside0.mk ((by rw [hg]; exact (below_size (by repeat (first | (with_reducible first | exact HB.out | apply below_alloc | apply pw_below_drewN | apply below_drew1) | exact HB.out))) : w.heap.size ≤ gb112)); have n4_ := Aside0.mk ((by rw [hg]; exact (below_size (by repeat (first | (with_reducible first | exact HB.out | apply below_alloc | apply pw_below_drewN | apply below_drew1) | exact HB.out))) : w.heap.size ≤ gb112)); clear HO_9; clear HB; have HO_9 := n0_; have HB := n1_; have BK112 := n2_; have GW112 := n3_; have GE112 := n4_; clear n0_ n1_ n2_ n3_ n4_; clear hb hbox hg; have hcz10_0 : w9.cell? ⟨gb112, 0, none⟩ = some (.string (⟨#[]⟩ : ByteArray)) := (blk_cell BK112.out 0).trans rfl; have hcz10_1 : w9.cell? ⟨gb112, 1, none⟩ = some (.string (⟨#[]⟩ : ByteArray)) := (blk_cell BK112.out 1).trans rfl; have hfz10_0 := blk_frozen BK112.out 0; have hfz10_1 := blk_frozen BK112.out 1; obtain ⟨Ao11, co11, eo11⟩ := Kd.R_slice HO_9.out; subst eo11))
              go_ret
              exact ⟨_, by first | rfl | (simp [errW_none, errW_some] <;> rfl) | (simp [*, errW_none, errW_some] <;> rfl), by (with_reducible repeat (first | apply Kd.R_alloc | apply Kd.R_drewN | apply Kd.R_drew)); exact Kd.R_mono (Kd.R_far (p := ⟨gb112, 1, none⟩) (Kd.R_far (p := ⟨gb112, 0, none⟩) (Kd.R_mono HO_9.out (fun k_ hk => (⟨hk, hk.2⟩ : _ ∧ k_ ≠ gb112))) (fun _ hk => hk.2) (.string ((rd_T59 l0 x14_1).f0))) (fun _ hk => hk.2) (.string ((rd_T59 l0 x14_1).f1))) (fun _ hk => trivial), by repeat (first | (with_reducible first | exact HB.out | apply below_alloc | apply pw_below_drewN | apply below_drew1 | refine below_set ?_ GE112.out) | exact HB.out)⟩
            · rw [if_neg c8] at H
              have c8b0 : decide (a3 ≤ (x9_1.length : Int)) = false := decide_eq_false c8
              clear c8
              replace H := Option.bind_eq_some_iff.mp H
              obtain ⟨t113, A120, H⟩ := H
              replace H : (if t113 = true then (if x9_1.length < 4398046511104 then (table_Range.l0 k1 a1 a2 a3 (x9_1 ++ [(⟨(rd_T59 l0 x14_1).f0, (rd_T59 l0 x14_1).f1⟩ : S59)]) l0 (l0.length : Int) (wrap64 (x14_1 + 1))) else (none)) else (table_Range.l0 k1 a1 a2 a3 x9_1 l0 (l0.length : Int) (wrap64 (x14_1 + 1)))) = some r := H
              have A12 := Aside0.mk A120
              clear A120
              by_cases c13 : t113 = true
              · subst c13
                have H1 : (if x9_1.length < 4398046511104 then (table_Range.l0 k1 a1 a2 a3 (x9_1 ++ [(⟨(rd_T59 l0 x14_1).f0, (rd_T59 l0 x14_1).f1⟩ : S59)]) l0 (l0.length : Int) (wrap64 (x14_1 + 1))) else (none)) = some r := by rw [if_pos rfl] at H; exact H
                clear H
                have H := H1
                clear H1
                by_cases c14 : x9_1.length < 4398046511104
                · rw [if_pos c14] at H
                  have LMc14 := Aside0.mk c14
                  clear c14
                  obtain ⟨y114, hy114⟩ : ∃ y_ : List (S59), y_ = (x9_1 ++ [(⟨(rd_T59 l0 x14_1).f0, (rd_T59 l0 x14_1).f1⟩ : S59)]) := ⟨_, rfl⟩
                  replace H : (table_Range.l0 k1 a1 a2 a3 y114 l0 (l0.length : Int) (wrap64 (x14_1 + 1))) = some r := by first | (rw [hy114]; with_reducible exact H) | (have H2_ := (Option.bind_some _ _).symm.trans H; rw [hy114]; with_reducible exact H2_) | (have H2_ := (Option.bind_some _ _).symm.trans H; with_reducible exact H2_) | with_reducible exact H | (rw [hy114]; exact H) | exact H
                  have Ny114 := Aside0.mk hy114
                  clear hy114
                  have H' := Aside0.mk H
                  clear H
                  have p111 : 0 ≤ (x14_1 : Int) := of_decide_eq_true (by first | (with_reducible assumption) | assumption)
                  have q111 : x14_1 < (l0.length : Int) := of_decide_eq_true (by first | (with_reducible assumption) | assumption)
                  obtain ⟨ad111, e111, hx111_0, hx111_1⟩ := at_T59 HR0.out x14_1 p111 q111
                  cases e111
                  replace hx111_0 := (HB.out.cell (World.block_lt_of_cell? w _ hx111_0)).trans hx111_0
                  replace hx111_1 := (HB.out.cell (World.block_lt_of_cell? w _ hx111_1)).trans hx111_1
                  replace p111 := eq_true p111
                  replace q111 := eq_true q111
                  go_wp2_with (first | ((with_reducible refine gate_dst (N := 11) rfl ?_); refine box_event ?hg (N := 11) ?hd (cs := #[.string (⟨#[]⟩ : ByteArray), .string (⟨#[]⟩ : ByteArray)]) (t := 59) ?hr ?_; (case hd => rfl); (case hg => rfl); (case hr => first | (go_simp; done) | (go_simp; rfl)); intro gb112 hg w15 hbox hb; have n0_ := Aside0.mk (Kd.R_below (Kd.R_elderB (by (with_reducible repeat (first | apply Kd.R_alloc | apply Kd.R_drewN | apply Kd.R_drew)); exact HO_9.out) gb112 (Nat.le_of_eq hg.symm)) hb); have n1_ := Aside0.mk (below_step (by repeat (first | (with_reducible first | exact HB.out | apply below_alloc | apply pw_below_drewN | apply below_drew1) | exact HB.out)) hb); have n2_ := Aside0.mk (hbox); have n3_ := Aside0.mk ((by rw [hg]; exact (below_size (by repeat (first | (with_reducible first | exact HB.out | apply below_alloc | apply pw_below_drewN | apply below_drew1) | exact HB.out))) : w.heap.size ≤ gb112)); have n4_ := Aside0.mk ((by rw [hg]; exact (below_size (by repeat (first | (with_reducible first | exact HB.out | apply below_alloc | apply pw_below_drewN | apply below_drew1) | exact HB.out))) : w.heap.size ≤ gb112)); clear HO_9; clear HB; have HO_9 := n0_; have HB := n1_; have BK112 := n2_; have GW112 := n3_; have GE112 := n4_; clear n0_ n1_ n2_ n3_ n4_; clear hb hbox hg; have hcz16_0 : w15.cell? ⟨gb112, 0, none⟩ = some (.string (⟨#[]⟩ : ByteArray)) := (blk_cell BK112.out 0).trans rfl; have hcz16_1 : w15.cell? ⟨gb112, 1, none⟩ = some (.string (⟨#[]⟩ : ByteArray)) := (blk_cell BK112.out 1).trans rfl; have hfz16_0 := blk_frozen BK112.out 0; have hfz16_1 := blk_frozen BK112.out 1; obtain ⟨Ao17, co17, eo17⟩ := Kd.R_slice HO_9.out; subst eo17) | ((with_reducible refine gate_callee (f := 51) rfl ?_); refine goesL_ (some 26) rfl rfl Try.func51 (by kernel_rfl) rfl #[.string ((rd_T59 l0 x14_1).f0), .string a1, .string a2] rfl (by (try simp only [List.map_toArray, List.map_cons, List.map_nil]); first | done | rfl | (simp only [List.length_drop, List.length_take]; rfl)) ?_; (with_reducible refine (table_Between.calls ((rd_T59 l0 x14_1).f0) a1 a2 true _ A12.out).mono ?_); rintro e w' ⟨rfl, ⟨nd, rfl⟩⟩; refine ⟨_, rfl, ?_⟩) | ((with_reducible refine gate_builtin (b := .append) (xs := #[.tmp 27, .tmp 29]) rfl ?_); at_builtin; refine Kd.R_append k59 (w0 := w) w.heap.size rfl (.tmp 27) (.tmp 29) 23 59 (.agg #[(.string ⟨#[]⟩), (.string ⟨#[]⟩)]) 32 rfl Try.underlying23 info59 rfl (by decide) (by omega) (.slice Ao17 x9_1.length co17) x9_1 (⟨(rd_T59 l0 x14_1).f0, (rd_T59 l0 x14_1).f1⟩ : S59) [.string ((rd_T59 l0 x14_1).f0), .string ((rd_T59 l0 x14_1).f1)] (fun k_ => k_ ≠ gb112) (fun _ => False) rfl (by first | (go_simp; done) | (go_simp; rfl)) ?aP (fun _ hk => hk.elim) ?aF ?aO ?aB ?aS ?aL ?_; (case aP => exact k59_mkM _ _ _ (⟨(rd_T59 l0 x14_1).f0, (rd_T59 l0 x14_1).f1⟩ : S59)); (case aB => exact (by repeat (first | (with_reducible first | exact HB.out | apply below_alloc | apply pw_below_drewN | apply below_drew1 | refine below_set ?_ GE112.out) | exact HB.out))); (case aF => exact (fun k_ hk => Kd.freshB (g := gb112) (o := .cells #[.string ((rd_T59 l0 x14_1).f0), .string ((rd_T59 l0 x14_1).f1)] 59 (0, 0)) (by (with_reducible repeat (first | refine blk_drewN ?_ _ | refine blk_drew ?_ | refine blk_alloc ?_ _)); refine blk_put (cs := #[.string ((rd_T59 l0 x14_1).f0), .string (⟨#[]⟩ : ByteArray)]) ?_ 1 _ rfl; (with_reducible repeat (first | refine blk_drewN ?_ _ | refine blk_drew ?_ | refine blk_alloc ?_ _)); refine blk_put (cs := #[.string (⟨#[]⟩ : ByteArray), .string (⟨#[]⟩ : ByteArray)]) ?_ 0 _ rfl; (with_reducible repeat (first | refine blk_drewN ?_ _ | refine blk_drew ?_ | refine blk_alloc ?_ _)); exact BK112.out) k_ hk)); (case aO => exact (by (with_reducible repeat (first | apply Kd.R_alloc | apply Kd.R_drewN | apply Kd.R_drew)); exact Kd.R_mono (Kd.R_far (p := ⟨gb112, 1, none⟩) (Kd.R_far (p := ⟨gb112, 0, none⟩) (Kd.R_mono HO_9.out (fun k_ hk => (⟨hk, hk.2⟩ : _ ∧ k_ ≠ gb112))) (fun _ hk => hk.2) (.string ((rd_T59 l0 x14_1).f0))) (fun _ hk => hk.2) (.string ((rd_T59 l0 x14_1).f1))) (fun _ hk => hk.1.2))); (case aS => exact (below_size (by repeat (first | (with_reducible first | exact HB.out | apply below_alloc | apply pw_below_drewN | apply below_drew1 | refine below_set ?_ GE112.out) | exact HB.out)))); (case aL => have := LMc14.out; omega); intro v115 w18 ho hb hg hat; rw [← Ny114.out] at ho; have n0_ := Aside0.mk (blk_grown (g := gb112) (o := .cells #[.string ((rd_T59 l0 x14_1).f0), .string ((rd_T59 l0 x14_1).f1)] 59 (0, 0)) (by (with_reducible repeat (first | refine blk_drewN ?_ _ | refine blk_drew ?_ | refine blk_alloc ?_ _)); refine blk_put (cs := #[.string ((rd_T59 l0 x14_1).f0), .string (⟨#[]⟩ : ByteArray)]) ?_ 1 _ rfl; (with_reducible repeat (first | refine blk_drewN ?_ _ | refine blk_drew ?_ | refine blk_alloc ?_ _)); refine blk_put (cs := #[.string (⟨#[]⟩ : ByteArray), .string (⟨#[]⟩ : ByteArray)]) ?_ 0 _ rfl; (with_reducible repeat (first | refine blk_drewN ?_ _ | refine blk_drew ?_ | refine blk_alloc ?_ _)); exact BK112.out) hg (Kd.R_away HO_9.out (fun _ hk => hk.2))); have n1_ := Aside0.mk (hb); have n2_ := Aside0.mk (ho); clear BK112; clear HB; clear HO_9; have BK112 := n0_; have HB := n1_; have HO116 := n2_; clear n0_ n1_ n2_; clear ho hb hg hat))
                  go_roundg k1
                  case measure => have := HK1.out; omega
                  case rel => exact ⟨(y114), (wrap64 (x14_1 + 1)), (by first | rfl | (simp; done) | (simp [*]; done)), H', ⟨by have := HK1.out; omega⟩, ⟨by (with_reducible repeat (first | apply Kd.R_alloc | apply Kd.R_drewN | apply Kd.R_drew)); exact Kd.R_mono HO116.out (fun _ hk => trivial)⟩, ⟨by repeat (first | (with_reducible first | exact HB.out | apply below_alloc | apply pw_below_drewN | apply below_drew1 | refine below_set ?_ GE112.out) | exact HB.out)⟩⟩
                · rw [if_neg c14] at H
                  exact absurd H (by simp)
              · replace c13 := Bool.eq_false_iff.mpr c13
                subst c13
                have H1 : (table_Range.l0 k1 a1 a2 a3 x9_1 l0 (l0.length : Int) (wrap64 (x14_1 + 1))) = some r := by rw [if_neg (show ¬ (false = true) by decide)] at H; exact H
                clear H
                have H := H1
                clear H1
                have H' := Aside0.mk H
                clear H
                have p111 : 0 ≤ (x14_1 : Int) := of_decide_eq_true (by first | (with_reducible assumption) | assumption)
                have q111 : x14_1 < (l0.length : Int) := of_decide_eq_true (by first | (with_reducible assumption) | assumption)
                obtain ⟨ad111, e111, hx111_0, hx111_1⟩ := at_T59 HR0.out x14_1 p111 q111
                cases e111
                replace hx111_0 := (HB.out.cell (World.block_lt_of_cell? w _ hx111_0)).trans hx111_0
                replace hx111_1 := (HB.out.cell (World.block_lt_of_cell? w _ hx111_1)).trans hx111_1
                replace p111 := eq_true p111
                replace q111 := eq_true q111
                go_wp2_with (first | ((with_reducible refine gate_dst (N := 11) rfl ?_); refine box_event ?hg (N := 11) ?hd (cs := #[.string (⟨#[]⟩ : ByteArray), .string (⟨#[]⟩ : ByteArray)]) (t := 59) ?hr ?_; (case hd => rfl); (case hg => rfl); (case hr => first | (go_simp; done) | (go_simp; rfl)); intro gb112 hg w19 hbox hb; have n0_ := Aside0.mk (Kd.R_below (Kd.R_elderB (by (with_reducible repeat (first | apply Kd.R_alloc | apply Kd.R_drewN | apply Kd.R_drew)); exact HO_9.out) gb112 (Nat.le_of_eq hg.symm)) hb); have n1_ := Aside0.mk (below_step (by repeat (first | (with_reducible first | exact HB.out | apply below_alloc | apply pw_below_drewN | apply below_drew1) | exact HB.out)) hb); have n2_ := Aside0.mk (hbox); have n3_ := Aside0.mk ((by rw [hg]; exact (below_size (by repeat (first | (with_reducible first | exact HB.out | apply below_alloc | apply pw_below_drewN | apply below_drew1) | exact HB.out))) : w.heap.size ≤ gb112)); have n4_ := Aside0.mk ((by rw [hg]; exact (below_size (by repeat (first | (with_reducible first | exact HB.out | apply below_alloc | apply pw_below_drewN | apply below_drew1) | exact HB.out))) : w.heap.size ≤ gb112)); clear HO_9; clear HB; have HO_9 := n0_; have HB := n1_; have BK112 := n2_; have GW112 := n3_; have GE112 := n4_; clear n0_ n1_ n2_ n3_ n4_; clear hb hbox hg; have hcz20_0 : w19.cell? ⟨gb112, 0, none⟩ = some (.string (⟨#[]⟩ : ByteArray)) := (blk_cell BK112.out 0).trans rfl; have hcz20_1 : w19.cell? ⟨gb112, 1, none⟩ = some (.string (⟨#[]⟩ : ByteArray)) := (blk_cell BK112.out 1).trans rfl; have hfz20_0 := blk_frozen BK112.out 0; have hfz20_1 := blk_frozen BK112.out 1; obtain ⟨Ao21, co21, eo21⟩ := Kd.R_slice HO_9.out; subst eo21) | ((with_reducible refine gate_callee (f := 51) rfl ?_); refine goesL_ (some 26) rfl rfl Try.func51 (by kernel_rfl) rfl #[.string ((rd_T59 l0 x14_1).f0), .string a1, .string a2] rfl (by (try simp only [List.map_toArray, List.map_cons, List.map_nil]); first | done | rfl | (simp only [List.length_drop, List.length_take]; rfl)) ?_; (with_reducible refine (table_Between.calls ((rd_T59 l0 x14_1).f0) a1 a2 false _ A12.out).mono ?_); rintro e w' ⟨rfl, ⟨nd, rfl⟩⟩; refine ⟨_, rfl, ?_⟩))
                go_roundg k1
                case measure => have := HK1.out; omega
                case rel => exact ⟨(x9_1), (wrap64 (x14_1 + 1)), (by first | rfl | (simp; done) | (simp [*]; done)), H', ⟨by have := HK1.out; omega⟩, ⟨by (with_reducible repeat (first | apply Kd.R_alloc | apply Kd.R_drewN | apply Kd.R_drew)); exact Kd.R_mono (Kd.R_far (p := ⟨gb112, 1, none⟩) (Kd.R_far (p := ⟨gb112, 0, none⟩) (Kd.R_mono HO_9.out (fun k_ hk => (⟨hk, hk.2⟩ : _ ∧ k_ ≠ gb112))) (fun _ hk => hk.2) (.string ((rd_T59 l0 x14_1).f0))) (fun _ hk => hk.2) (.string ((rd_T59 l0 x14_1).f1))) (fun _ hk => trivial)⟩, ⟨by repeat (first | (with_reducible first | exact HB.out | apply below_alloc | apply pw_below_drewN | apply below_drew1 | refine below_set ?_ GE112.out) | exact HB.out)⟩⟩
          · rw [if_neg c7] at H
            exact absurd H (by simp)
        · rw [if_neg c6] at H
          exact absurd H (by simp)
      · rw [if_neg c5] at H
        have c5b0 : decide (x14_1 < (l0.length : Int)) = false := decide_eq_false c5
        clear c5
        obtain rfl := Option.some.inj H
        go_wp2
        go_ret
        exact ⟨_, by first | rfl | (simp [errW_none, errW_some] <;> rfl) | (simp [*, errW_none, errW_some] <;> rfl), by (with_reducible repeat (first | apply Kd.R_alloc | apply Kd.R_drewN | apply Kd.R_drew)); exact HO_9.out, by repeat (first | (with_reducible first | exact HB.out | apply below_alloc | apply pw_below_drewN | apply below_drew1) | exact HB.out)⟩

/-! ### view_Scan: function 25 -/
set_option maxHeartbeats 8000000 in
set_option maxRecDepth 100000 in
theorem view_Scan.calls (k : Nat) (A0 : Option Addr) (c0 : Nat) (l0 : List (S61)) (A1 : Option Addr) (c1 : Nat) (l1 : List (S59)) (a2 : ByteArray) (a3 : ByteArray) (a4 : Int) (r : List (S59)) (w : World) (hr0 : Kd.C k61 w A0 l0.length l0) (hc0 : l0.length ≤ c0) (hr1 : Kd.C k59 w A1 l1.length l1) (hc1 : l1.length ≤ c1) (h : view_Scan.f k l0 l1 a2 a3 a4 = some r) :
    Calls Try.prog 25 #[.slice A0 l0.length c0, .slice A1 l1.length c1, .string a2, .string a3, .int .i64 a4] w fun e w' => ∃ v0_ : Value, e = .returned (v0_) ∧ Kd.R k59 59 w' w.heap.size (fun _ => True) v0_ r ∧ Below w.heap.size w w' := by
  have HR0 := Aside0.mk hr0
  have HC0 := Aside0.mk hc0
  clear hr0 hc0
  have HR1 := Aside0.mk hr1
  have HC1 := Aside0.mk hc1
  clear hr1 hc1
  have HB := Aside0.mk (Below.refl w.heap.size w)
  have H : ((table_Apply.f l1 l0).bind fun t117 => ((table_Range.f k t117 a2 a3 a4).bind fun t120 => (some t120))) = some r := h
  clear h
  replace H := Option.bind_eq_some_iff.mp H
  obtain ⟨t117, A60, H⟩ := H
  replace H : ((table_Range.f k t117 a2 a3 a4).bind fun t120 => (some t120)) = some r := H
  have A6 := Aside0.mk A60
  clear A60
  replace H := Option.bind_eq_some_iff.mp H
  obtain ⟨t120, A70, H⟩ := H
  replace H : (some t120) = some r := H
  have A7 := Aside0.mk A70
  clear A70
  obtain rfl := Option.some.inj H
  go_enter Try.func25, Try.ntmps25
  go_wp2_with (first | ((with_reducible refine gate_callee (f := 30) rfl ?_); refine goesL_ (some 13) rfl rfl Try.func30 (by kernel_rfl) rfl #[.slice A1 l1.length c1, .slice A0 l0.length c0] rfl (by (try simp only [List.map_toArray, List.map_cons, List.map_nil]); first | done | rfl | (simp only [List.length_drop, List.length_take]; rfl)) ?_; (with_reducible refine (table_Apply.calls _ _ l1 _ _ l0 t117 _ ?side1 ?side2 ?side3 ?side4 A6.out).mono ?_); (case side1 => repeat (first | exact HR1.out | (with_reducible refine Kd.C_alloc ?_ _) | (with_reducible refine Kd.C_drewN ?_ _) | (with_reducible refine Kd.C_drew ?_))); (case side2 => exact HC1.out); (case side3 => repeat (first | exact HR0.out | (with_reducible refine Kd.C_alloc ?_ _) | (with_reducible refine Kd.C_drewN ?_ _) | (with_reducible refine Kd.C_drew ?_))); (case side4 => exact HC0.out); rintro e w8 ⟨v118, rfl, ho0, hb⟩; refine ⟨_, rfl, ?_⟩; have n0_ := Aside0.mk (Kd.R_lower ho0 (below_size (by repeat (first | (with_reducible first | exact HB.out | apply below_alloc | apply pw_below_drewN | apply below_drew1) | exact HB.out)))); have n1_ := Aside0.mk (below_step (by repeat (first | (with_reducible first | exact HB.out | apply below_alloc | apply pw_below_drewN | apply below_drew1) | exact HB.out)) hb); clear HB; have HO119 := n0_; have HB := n1_; clear n0_ n1_; (try clear hb); (try clear hb2); (try clear hk); (try clear hi); (try clear ho0); obtain ⟨Ao9, co9, eo9⟩ := Kd.R_slice HO119.out; subst eo9) | ((with_reducible refine gate_callee (f := 37) rfl ?_); refine goesL_ (some 17) rfl rfl Try.func37 (by kernel_rfl) rfl #[.slice Ao9 t117.length co9, .string a2, .string a3, .int .i64 a4] rfl (by (try simp only [List.map_toArray, List.map_cons, List.map_nil]); first | done | rfl | (simp only [List.length_drop, List.length_take]; rfl)) ?_; (with_reducible refine (table_Range.calls k _ _ t117 a2 a3 a4 t120 _ ?side1 ?side2 A7.out).mono ?_); (case side1 => repeat (first | exact (Kd.R_reads' HO119.out).2.2 | (with_reducible refine Kd.C_alloc ?_ _) | (with_reducible refine Kd.C_drewN ?_ _) | (with_reducible refine Kd.C_drew ?_))); (case side2 => exact (Kd.R_reads' HO119.out).2.1); rintro e w10 ⟨v121, rfl, ho0, hb⟩; refine ⟨_, rfl, ?_⟩; have n0_ := Aside0.mk (Kd.R_elder' (by (with_reducible repeat (first | apply Kd.R_alloc | apply Kd.R_drewN | apply Kd.R_drew)); exact HO119.out) (Kd.R_base ho0) hb); have n1_ := Aside0.mk (Kd.R_lower (Kd.R_new' ho0 (Kd.R_lt (by (with_reducible repeat (first | apply Kd.R_alloc | apply Kd.R_drewN | apply Kd.R_drew)); exact HO119.out))) (below_size (by repeat (first | (with_reducible first | exact HB.out | apply below_alloc | apply pw_below_drewN | apply below_drew1) | exact HB.out)))); have n2_ := Aside0.mk (below_step (by repeat (first | (with_reducible first | exact HB.out | apply below_alloc | apply pw_below_drewN | apply below_drew1) | exact HB.out)) hb); clear HO119; clear HB; have HO119 := n0_; have HO122 := n1_; have HB := n2_; clear n0_ n1_ n2_; (try clear hb); (try clear hb2); (try clear hk); (try clear hi); (try clear ho0)))
  go_ret
  exact ⟨_, by first | rfl | (simp [errW_none, errW_some] <;> rfl) | (simp [*, errW_none, errW_some] <;> rfl), by (with_reducible repeat (first | apply Kd.R_alloc | apply Kd.R_drewN | apply Kd.R_drew)); exact Kd.R_mono HO122.out (fun _ hk => trivial), by repeat (first | (with_reducible first | exact HB.out | apply below_alloc | apply pw_below_drewN | apply below_drew1) | exact HB.out)⟩

/-! ### api_Write_39: function 39 -/
set_option maxHeartbeats 8000000 in
set_option maxRecDepth 100000 in
theorem api_Write_39.calls (A0 : Option Addr) (c0 : Nat) (l0 : List (S61)) (r : List (S61)) (w : World) (hr0 : Kd.C k61 w A0 l0.length l0) (hc0 : l0.length ≤ c0) (h : api_Write_39.f l0 = some r) :
    Calls Try.prog 39 #[.slice A0 l0.length c0] w fun e w' => ∃ v0_ : Value, e = .returned (v0_) ∧ Kd.R k61 61 w' w.heap.size (fun _ => True) v0_ r ∧ Below w.heap.size w w' := by
  have HR0 := Aside0.mk hr0
  have HC0 := Aside0.mk hc0
  clear hr0 hc0
  have HB := Aside0.mk (Below.refl w.heap.size w)
  have H : ((some (([] : List (S61)) : List (S61))).bind fun y123 => (if y123.length + l0.length < 3518437208883 then (some (y123 ++ l0)) else (none))) = some r := h
  clear h
  obtain ⟨y123, hy123⟩ : ∃ y_ : List (S61), y_ = (([] : List (S61))) := ⟨_, rfl⟩
  replace H : (if y123.length + l0.length < 3518437208883 then (some (y123 ++ l0)) else (none)) = some r := by first | (rw [hy123]; with_reducible exact H) | (have H2_ := (Option.bind_some _ _).symm.trans H; rw [hy123]; with_reducible exact H2_) | (have H2_ := (Option.bind_some _ _).symm.trans H; with_reducible exact H2_) | with_reducible exact H | (rw [hy123]; exact H) | exact H
  have Ny123 := Aside0.mk hy123
  clear hy123
  by_cases c2 : y123.length + l0.length < 3518437208883
  · rw [if_pos c2] at H
    have LMc2 := Aside0.mk c2
    clear c2
    obtain ⟨y126, hy126⟩ : ∃ y_ : List (S61), y_ = (y123 ++ l0) := ⟨_, rfl⟩
    replace H : (some y126) = some r := by first | (rw [hy126]; with_reducible exact H) | (have H2_ := (Option.bind_some _ _).symm.trans H; rw [hy126]; with_reducible exact H2_) | (have H2_ := (Option.bind_some _ _).symm.trans H; with_reducible exact H2_) | with_reducible exact H | (rw [hy126]; exact H) | exact H
    have Ny126 := Aside0.mk hy126
    clear hy126
    obtain rfl := Option.some.inj H
    have qT := fun (w : World) (a : Option Addr) (l c : Nat) => Lib.run_eql_slice_nil (P := Try.prog) w 22 61 a l c 0 0 Try.underlying22
    rcases A0 with _ | ad0
    · have hl : l0 = [] := by
        rcases l0 with _ | ⟨x_, l_⟩
        · rfl
        · obtain ⟨_, h_, _⟩ := HR0.out.2.2 (by simp)
          cases h_
      have hy := Aside0.mk (show y126 = [] by rw [Ny126.out, Ny123.out, hl]; rfl)
      clear hl
      go_enter Try.func39, Try.ntmps39
      go_wp2
      go_ret
      exact ⟨_, rfl, by rw [hy.out]; exact Kd.R_nil _ _ _ _ _, HB.out⟩
    · go_enter Try.func39, Try.ntmps39
      go_wp2_with (first | ((with_reducible refine gate_dst (N := 5) rfl ?_); refine Kd.R_lit k61 _ 61 ?hg (N := 5) ?hd (xs := ([] : List (S61))) (inner := []) (ok := fun _ => True) (okp := fun _ => True) ?hr ?hp (fun _ hk => hk) trivial (Below.refl _ _) (Nat.le_refl _) (by simp) ?_; (case hd => rfl); (case hg => rfl); (case hr => first | (go_simp; done) | (go_simp; rfl)); (case hp => exact (Reps.none _ _)); intro v124 w3 ho4 hb hg_ hnew_; clear hg_ hnew_; (first | rw [← Ny123.out] at ho4 | (simp only [Int.reduceToNat] at ho4; rw [← Ny123.out] at ho4)); have n0_ := Aside0.mk (Kd.R_lower ho4 (below_size (by repeat (first | (with_reducible first | exact HB.out | apply below_alloc | apply pw_below_drewN | apply below_drew1) | exact HB.out)))); have n1_ := Aside0.mk (below_step (by repeat (first | (with_reducible first | exact HB.out | apply below_alloc | apply pw_below_drewN | apply below_drew1) | exact HB.out)) hb); clear HB; have HO125 := n0_; have HB := n1_; clear n0_ n1_; clear hb ho4) | ((with_reducible refine gate_builtin (b := .append) (xs := #[.tmp 5, .tmp 6]) rfl ?_); at_builtin; refine Kd.R_append_rows k61 (w0 := w) w.heap.size rfl (.tmp 5) (.tmp 6) 22 61 (.agg #[(.string ⟨#[]⟩), (.string ⟨#[]⟩), (.bool false)]) 40 rfl Try.underlying22 info61 rfl (by decide) (by omega) v124 y123 l0 _ _ _ (fun _ => True) (fun _ => False) rfl rfl ?aO ?aR (fun _ _ h => h) (fun _ h => h.elim) ?aF ?aB ?aS ?aL ?_; (case aR => repeat (first | exact (Kd.C_below HR0.out HB.out) | (with_reducible refine Kd.C_alloc ?_ _) | (with_reducible refine Kd.C_drewN ?_ _) | (with_reducible refine Kd.C_drew ?_))); (case aB => exact (by repeat (first | (with_reducible first | exact HB.out | apply below_alloc | apply pw_below_drewN | apply below_drew1) | exact HB.out))); (case aF => exact (fun _ _ => trivial)); (case aO => exact (by (with_reducible repeat (first | apply Kd.R_alloc | apply Kd.R_drewN | apply Kd.R_drew)); exact HO125.out)); (case aS => exact (below_size (by repeat (first | (with_reducible first | exact HB.out | apply below_alloc | apply pw_below_drewN | apply below_drew1) | exact HB.out)))); (case aL => have := LMc2.out; omega); intro v127 w5 ho hb hg hat; rw [← Ny126.out] at ho; have n0_ := Aside0.mk (hb); have n1_ := Aside0.mk (ho); clear HB; clear HO125; have HB := n0_; have HO128 := n1_; clear n0_ n1_; clear ho hb hg hat))
      go_ret
      exact ⟨_, by first | rfl | (simp [errW_none, errW_some] <;> rfl) | (simp [*, errW_none, errW_some] <;> rfl), by (with_reducible repeat (first | apply Kd.R_alloc | apply Kd.R_drewN | apply Kd.R_drew)); exact HO128.out, by repeat (first | (with_reducible first | exact HB.out | apply below_alloc | apply pw_below_drewN | apply below_drew1) | exact HB.out)⟩
  · rw [if_neg c2] at H
    exact absurd H (by simp)

-- function 52: no road meets it

-- function 64: no road meets it

-- function 59: no road meets it

-- function 53: no road meets it

end Go.Proofs.Ytlacmlceedkfoaa.PB
