-- Made by a program of this workplace out of the translation (wip/tools in the repo). Not trusted: Lean checks it.
import Derived.Test.YtnpmjboofmdflaaPAx0
import Derived.Test.YtnpmjboofmdflaaCb
import Derived.Test.YtnpmjboofmdflaaSq
import Derived.Test.YtnpmjboofmdflaaTq
import Derived.Test.YtnpmjboofmdflaaPAx3
import Derived.Test.YtnpmjboofmdflaaPAx4
import Derived.Test.YtnpmjboofmdflaaPAx6
import Derived.Test.YtnpmjboofmdflaaPAx7
import Derived.Test.YtnpmjboofmdflaaPAx8
namespace Go.Proofs.Ytnpmjboofmdflaa.PA
open Go.RowKit Go.Proofs.YtnpmjboofmdflaaW.PrintWords Go.Proofs.YtnpmjboofmdflaaW.PrintLast Go.Proofs.YtnpmjboofmdflaaW.PrintMore Go.Proofs.Ytnpmjboofmdflaa
attribute [local go_sem] max2_int min2_int max_two min_two max_three min_three max_four min_four   -- for this text's walks alone
set_option linter.unusedVariables false
set_option linter.unusedSimpArgs false

open Go.Proofs.Ytnpmjboofmdflaa.Cp
/-! ### api_Session_64: function 64 -/
theorem below_size_ {B : Nat} {w w' : World} (h : B ≤ w.heap.size) (hb : Below B w w') : B ≤ w'.heap.size := Nat.le_trans h hb.size
theorem ix_first {α : Type} (p : α → Bool) : ∀ (l : List α) (i : Nat), ixOf p l = (i : Int) → i < l.length ∧ (∀ x ∈ l.take i, p x = false) ∧ ∀ d, p (l.getD i d) = true := by
 intro l i h
 unfold ixOf at h
 split at h
 ·rename_i hl
  have e : l.findIdx p = i := by omega
  subst e
  refine ⟨hl, fun x hx => ?_, fun d => ?_⟩
  ·obtain ⟨j, hj, rfl⟩ := List.mem_take_iff_getElem.1 hx
   have hj' : j < l.findIdx p := by omega
   simpa using List.not_of_lt_findIdx hj'
  ·rw [List.getD_eq_getElem?_getD, List.getElem?_eq_getElem hl]
   exact List.findIdx_getElem (w := hl)
 ·omega
theorem ix_none {α : Type} (p : α → Bool) (l : List α) (h : ixOf p l = -1) : ∀ x ∈ l, p x = false := by
 intro x hx
 unfold ixOf at h
 split at h
 ·omega
 ·rename_i hl
  cases e : p x with
  | false => rfl
  | true => exact absurd (List.findIdx_lt_length.2 ⟨x, hx, e⟩) hl
theorem del_start {α : Type} (p : α → Bool) (l : List α) (i : Nat) (h : i < l.length) (h1 : ∀ x ∈ l.take i, p x = false) (h2 : p l[i] = true) : l.take i = (l.take (i + 1)).filter (fun x => !p x) := by
 rw [List.take_succ_eq_append_getElem h, List.filter_append]
 simp only [List.filter_cons, h2, Bool.not_true, List.filter_nil]
 rw [if_neg (by decide), List.append_nil, List.filter_eq_self.2 (fun x hx => by rw [h1 x hx]; rfl)]
theorem del_skip {α : Type} (p : α → Bool) (l : List α) (j : Nat) (h : j < l.length) (h2 : p l[j] = true) : (l.take (j + 1)).filter (fun x => !p x) = (l.take j).filter (fun x => !p x) := by
 rw [List.take_succ_eq_append_getElem h, List.filter_append]
 simp [List.filter_cons, h2]
theorem del_keep {α : Type} (p : α → Bool) (l : List α) (j : Nat) (h : j < l.length) (h2 : p l[j] = false) : (l.take (j + 1)).filter (fun x => !p x) = (l.take j).filter (fun x => !p x) ++ [l[j]] := by
 rw [List.take_succ_eq_append_getElem h, List.filter_append]
 simp [List.filter_cons, h2]
theorem kept_below_ {W W1 : World} {S : Nat → Prop} (hb : Below W.heap.size W W1) : Kept W W1 S := ⟨hb.size, fun i hi _ => hb.block i hi⟩
theorem kept_grown2_ {W W1 : World} {g : Nat} {u : Value} (hg : W.grownBy W1 (some g)) (hu : u.ownBlock = some g) : Kept W W1 (fun k_ => some k_ = u.ownBlock) := ⟨hg.size, fun i hi hn => hg.block i hi (fun e => hn (by rw [hu]; exact e))⟩
theorem kept_setRow_ {W : World} (g : Nat) (cs : Array Value) {u : Value} (hu : u.ownBlock = some g) : Kept W (W.setRow g cs) (fun k_ => some k_ = u.ownBlock) := ⟨by simp, fun i _ hn => setRow_other W g i cs (fun e => hn (by rw [hu, e]))⟩
set_option maxHeartbeats 8000000 in
set_option maxRecDepth 100000 in
theorem api_Session_64_k.calls (p : S42 → Bool) (g : Nat) (lb : Array Value) (eg : ∀ args w, (callFunc g args).run Try.prog w = .ok (.enter g args) w) (base : Nat) (u : Value) (l0 : List S42) (w0 w : World) (hr : Kd.R k42 42 w base (fun _ => True) u l0) (HB : Below base w0 w) (hbase : base ≤ w.heap.size)
  (hp : ∀ (W : World) (x : S42), Below base w W → Kept w W (fun k_ => some k_ = u.ownBlock) → Calls Try.prog g (#[.agg #[.int .i64 x.f0, .int .i64 x.f1, .bool x.f2, .string x.f3, .int .i64 x.f4, .int .i64 x.f5]] ++ lb) W fun e w' => e = .returned (.bool (p x)) ∧ Below W.heap.size W w') :
  Calls Try.prog 64 #[u, .func (.func g) #[] lb] w fun e w' => ∃ v', e = .returned v' ∧ Kd.R k42 42 w' base (fun _ => True) v' (l0.filter (fun x => !p x)) ∧ Below base w0 w' ∧ v'.ownBlock = u.ownBlock ∧ Kept w w' (fun k_ => some k_ = u.ownBlock) := by
 have aN := Try.underlying42
 have hpi : ∀ (W : World) (x : S42), Below w.heap.size w W → Calls Try.prog g (#[.agg #[.int .i64 x.f0, .int .i64 x.f1, .bool x.f2, .string x.f3, .int .i64 x.f4, .int .i64 x.f5]] ++ lb) W fun e w' => e = .returned (.bool (p x)) ∧ Below W.heap.size W w' := fun W x hb => hp W x (hb.mono hbase) (kept_below_ hb)
 rcases ixOf_cases p l0 with hE | ⟨i0, hil, hE⟩
 ·have hres : l0.filter (fun x => !p x) = l0 := List.filter_eq_self.2 (fun x hx => by rw [ix_none p l0 hE x hx]; rfl)
  rw [hres]
  obtain ⟨A, c, rfl, hc, hC⟩ := Kd.R_reads hr
  have E := ak hE
  have R := ak hr
  have H := ak HB
  have C := ak hC
  have P := ak hpi
  have BS := ak hbase
  clear hres hE hr HB hC hpi hp
  go_enter Try.func64, Try.ntmps64
  go_wp2_with (go_at_call 59; refine (api_Session_59.calls p g lb eg A c l0 _ C.out P.out).mono ?_; rintro e w1 ⟨rfl, hb⟩; rw [E.out]; have n1 := ak (Kd.R_below R.out hb); have n2 := ak (H.out.trans (hb.mono BS.out)); have n4 := ak (kept_below_ (S := fun k_ => some k_ = (Value.slice A l0.length c).ownBlock) hb); clear hb)
  go_ret
  exact ⟨_, rfl, n1.out, n2.out, rfl, n4.out⟩
 ·obtain ⟨b, c, rfl, hc, hC⟩ := row_form42 hr (Nat.lt_of_le_of_lt (Nat.zero_le _) hil)
  obtain ⟨_, hfst, hat⟩ := ix_first p l0 i0 hE
  have aB : p l0[i0] = true := by have := hat z42; rwa [List.getD_eq_getElem?_getD, List.getElem?_eq_getElem hil] at this
  have hmx : l0.length ≤ 9223372036854775807 := hC.2.1
  have aC := hil
  have hix := api_Session_59.calls p g lb eg (some ⟨b, 0, none⟩) c l0 w hC hpi
  obtain ⟨n, hn⟩ : ∃ n, n = l0.length := ⟨_, rfl⟩
  rw [← hn] at hr hC hc hil hmx hix ⊢
  rw [hE] at hix
  have IX := ak hix
  clear hix
  have ST := ak (del_start p l0 i0 aC hfst aB)
  have N := ak hn
  have E := ak hE
  have R := ak hr
  have H := ak HB
  have C := ak hC
  have P := ak hpi
  have PP := ak hp
  have BS := ak hbase
  have aR : ((i0 : Int) == -1) = false := by simp
  have aO : IntKind.i64.wrap ((i0 : Int) + 1) = ((i0 + 1 : Nat) : Int) := by rw [IntKind.wrap_i64]; omega
  clear hE hr HB hC hpi hp hat aB hfst hn aC
  go_enter Try.func64, Try.ntmps64
  go_wp2_with (go_at_call 59; refine IX.out.mono ?_; rintro e w1 ⟨rfl, hb⟩; have n1 := ak (Kd.R_below R.out hb); have n2 := ak (H.out.trans (hb.mono BS.out)); have n3 := ak (hb.mono BS.out); have n4 := ak (kept_below_ (S := fun k_ => some k_ = (Value.slice (some ⟨b, 0, none⟩) n c).ownBlock) hb); clear hb)
  go_loopg [5, 6] n (fun gg s5 s6 wr => ∃ (i j : Nat) (M : List S42), i < j ∧ j ≤ n ∧ n - j ≤ gg ∧ s5 = .int .i64 i ∧ s6 = .int .i64 j ∧ Aside0 (M.take i = (l0.take j).filter (fun x => !p x) ∧ M.drop j = l0.drop j ∧ M.length = n) ∧ Aside0 (Kd.R k42 42 wr base (fun _ => True) (.slice (some ⟨b, 0, none⟩) n c) M) ∧ Aside0 (Below base w0 wr) ∧ Aside0 (Below base w wr) ∧ Aside0 (Kept w wr (fun k_ => some k_ = (Value.slice (some ⟨b, 0, none⟩) n c).ownBlock)))
  case atStart =>
   exact ⟨i0, i0 + 1, l0, by omega, by omega, by omega, rfl, by first | rfl | (rw [aO]; done) | simp, ⟨ST.out, rfl, N.out.symm⟩, ⟨n1.out⟩, ⟨n2.out⟩, ⟨n3.out⟩, n4⟩
  case round =>
   obtain ⟨i, j, M, hij, hjn, hgg, rfl, rfl, MM, RR, HB, HC, KP⟩ := hrel
   by_cases hlt : j < n
   ·have hltz : (j : Int) < (n : Int) := by omega
    have hltm : (j : Int) < (M.length : Int) := by rw [MM.out.2.2]; exact hltz
    have hiz : (i : Int) < (n : Int) := by omega
    have aJ : (0 : Int) ≤ (i : Int) := by omega
    have hCM := row_C42 RR.out
    obtain ⟨ad, e, aD, aE, aF, aG, aH, aI⟩ := at_T42 hCM (j : Int) (by omega) hltz
    cases e
    simp only [Int.toNat_natCast] at aD aE aF aG aH aI
    have e0 : rd_T42 M (j : Int) = M.getD j z42 := by simp [rd_T42]
    rw [e0] at aD aE aF aG aH aI
    simp only [Addr.add_lit, Nat.zero_add] at aD aE aF aG aH aI
    clear e0
    obtain ⟨y, hy⟩ : ∃ y, M.getD j z42 = y := ⟨_, rfl⟩
    rw [hy] at aD aE aF aG aH aI
    have hjl : j < l0.length := by rw [← N.out]; exact hlt
    have hyl : l0[j] = y := by
     have h1 : M.drop j = l0.drop j := MM.out.2.1
     have hjm : j < M.length := by rw [MM.out.2.2]; exact hlt
     rw [List.drop_eq_getElem_cons hjl, List.drop_eq_getElem_cons hjm] at h1
     injection h1 with h1 _
     rw [← h1, ← hy, List.getD_eq_getElem?_getD, List.getElem?_eq_getElem hjm]
     rfl
    have hdn : M.drop (j + 1) = l0.drop (j + 1) := by
     have h1 : M.drop j = l0.drop j := MM.out.2.1
     rw [← List.drop_drop, ← List.drop_drop, h1]
    have hcall : ∀ W : World, Below base w W → Kept w W (fun k_ => some k_ = (Value.slice (some ⟨b, 0, none⟩) n c).ownBlock) → Calls Try.prog g (#[.agg #[.int .i64 y.f0, .int .i64 y.f1, .bool y.f2, .string y.f3, .int .i64 y.f4, .int .i64 y.f5]] ++ lb) W fun e w' => e = .returned (.bool (p y)) ∧ Below W.heap.size W w' := fun W hb hk => PP.out W y hb hk
    have hws : base ≤ wr.heap.size := below_size_ BS.out HC.out
    have Y := ak hy
    have YL := ak hyl
    have DN := ak hdn
    have WS := ak hws
    clear hy hyl hdn hws hCM
    obtain ⟨q, hq⟩ : ∃ q, p y = q := ⟨_, rfl⟩
    rw [hq] at hcall
    have Q := ak hq
    have CL := ak hcall
    clear hq hcall
    cases q with
    | true =>
     go_wp2_with (go_at_fn g; refine (CL.out _ (HC.out.alloc WS.out _) (KP.out.alloc _)).mono ?_; rintro e w2 ⟨rfl, hb⟩)
     go_roundg (n - (j + 1))
     case measure => omega
     case rel => exact ⟨i, j + 1, M, by omega, by omega, by omega, rfl, by first | rfl | go_num, ⟨by rw [del_skip p l0 j hjl (by rw [YL.out]; exact Q.out)]; exact MM.out.1, DN.out, MM.out.2.2⟩, ⟨Kd.R_below (Kd.R_alloc RR.out _) hb⟩, ⟨(HB.out.alloc WS.out _).trans (hb.mono (by have := WS.out; simp; omega))⟩, ⟨(HC.out.alloc WS.out _).trans (hb.mono (by have := WS.out; simp; omega))⟩, ⟨kept_trans_ (KP.out.alloc _) (kept_below_ hb)⟩⟩
    | false =>
     go_wp2_with (first
      | (go_at_fn g; refine (CL.out _ (HC.out.alloc WS.out _) (KP.out.alloc _)).mono ?_; rintro e w2 ⟨rfl, hb⟩; have BW := ak (below_size hb); have k5 := (blk_below (heap_alloc_new wr (.cells #[.int .i64 y.f0, .int .i64 y.f1, .bool y.f2, .string y.f3, .int .i64 y.f4, .int .i64 y.f5] 42)) hb); have n1 := ak (Kd.R_below (Kd.R_alloc RR.out _) hb); have n2 := ak ((HB.out.alloc WS.out _).trans (hb.mono (by have := WS.out; simp; omega))); have n3 := ak ((HC.out.alloc WS.out _).trans (hb.mono (by have := WS.out; simp; omega))); have n4 := ak (kept_trans_ (KP.out.alloc (.cells #[.int .i64 y.f0, .int .i64 y.f1, .bool y.f2, .string y.f3, .int .i64 y.f4, .int .i64 y.f5] 42)) (kept_below_ hb)); clear hb; have k6 : w2.cell? ⟨wr.heap.size, 0, none⟩ = some (.int .i64 y.f0) := (blk_cell k5 0).trans rfl; have k7 : w2.cell? ⟨wr.heap.size, 1, none⟩ = some (.int .i64 y.f1) := (blk_cell k5 1).trans rfl; have k8 : w2.cell? ⟨wr.heap.size, 2, none⟩ = some (.bool y.f2) := (blk_cell k5 2).trans rfl; have k9 : w2.cell? ⟨wr.heap.size, 3, none⟩ = some (.string y.f3) := (blk_cell k5 3).trans rfl; have k10 : w2.cell? ⟨wr.heap.size, 4, none⟩ = some (.int .i64 y.f4) := (blk_cell k5 4).trans rfl; have k11 : w2.cell? ⟨wr.heap.size, 5, none⟩ = some (.int .i64 y.f5) := (blk_cell k5 5).trans rfl)
      | ((with_reducible refine gate_ (.store 42 (.tmp 33) (.tmp 32)) rfl ?_); obtain ⟨cc, hcl, hcc⟩ := row_old42 (row_C42 n1.out) i (by omega); refine Kd.R_store k42 (w0 := w0) base rfl rfl 42 (.tmp 33) (.tmp 32) rfl 42 (i : Int) 0 M y (.agg #[.int .i64 y.f0, .int .i64 y.f1, .bool y.f2, .string y.f3, .int .i64 y.f4, .int .i64 y.f5]) [.int .i64 y.f0, .int .i64 y.f1, .bool y.f2, .string y.f3, .int .i64 y.f4, .int .i64 y.f5] cc (fun _ => True) (fun _ => False) rfl (by simp; rfl) rfl rfl (by kernel_rfl) ?s1 n1.out aJ hiz hcl hcc (by show 0 + 6 ≤ 6; decide) ?s2 (fun _ hk => hk.elim) n2.out ?_; (case s1 => intro q hq; simp only [List.mem_cons, List.not_mem_nil, or_false] at hq; rcases hq with rfl | rfl | rfl | rfl | rfl | rfl <;> rfl); (case s2 => rw [List.take_zero, List.nil_append, List.drop_of_length_le (by rw [hcl]; simp), List.append_nil]; exact k42_mkM _ _ _ y); intro w3 aK aL aM; have K8 := ak aK; have K9 := ak aL; have aA := ak aM; clear aK aL aM))
     go_roundg (n - (j + 1))
     case measure => omega
     case rel =>
      have him : i < M.length := by rw [MM.out.2.2]; omega
      have hbb : base ≤ b := Kd.R_base n1.out b rfl
      refine ⟨i + 1, j + 1, M.set i y, by omega, by omega, by omega, by first | rfl | go_num, by first | rfl | go_num, ⟨?_, ?_, ?_⟩, K8, K9, ⟨n3.out.trans ⟨aA.out.os, aA.out.tape, aA.out.output, aA.out.size, fun k hk => ?_⟩⟩, ⟨kept_trans_ n4.out (kept_grown2_ aA.out rfl)⟩⟩
      ·rw [del_keep p l0 j hjl (by rw [YL.out]; exact Q.out), YL.out, ← MM.out.1]
       rw [List.take_succ_eq_append_getElem (by rw [List.length_set]; exact him), List.getElem_set_self, List.take_set_of_le (Nat.le_refl _)]
      ·rw [List.drop_set_of_lt (by omega)]; exact DN.out
      ·rw [List.length_set]; exact MM.out.2.2
      ·exact aA.out.block k (by have := BW.out; have := WS.out; simp at *; omega) (by intro h; injection h with h; omega)
   ·have hltz : decide ((j : Int) < (n : Int)) = false := decide_eq_false (by omega)
    have hjn' : j = n := by omega
    have hF : l0.filter (fun x => !p x) = M.take i := by rw [MM.out.1, List.take_of_length_le (by rw [← N.out]; omega)]
    have hMi : (M.take i).length = i := by rw [List.length_take, MM.out.2.2]; omega
    obtain ⟨_, aP, aQ⟩ := own42 RR.out
    rcases aQ with ⟨h, _⟩ | ⟨b', c', cur, e, hg, hh, hnc, hcm, hcs, htk⟩
    ·cases h
    ·injection e with e1 e2 e3
     injection e1 with e1
     injection e1 with e1 _
     subst e1; subst e3
     clear e2
     obtain ⟨zs, hzs⟩ : ∃ zs, zs = (Builtin.zeroCells (((.agg #[(.int .i64 0), (.int .i64 0), (.bool false), (.string ⟨#[]⟩), (.int .i64 0), (.int .i64 0)]) : Value)).cells (n - i)).toList := ⟨_, rfl⟩
     have hzl : zs.length = (n - i) * 6 := by rw [hzs, Array.length_toList, zero_size]; rfl
     obtain ⟨NEW, hNEW⟩ : ∃ NEW, NEW = (cur.toList.take (i * 6) ++ zs ++ cur.toList.drop (i * 6 + zs.length)).toArray := ⟨_, rfl⟩
     have hin : i ≤ n := by omega
     have hfit : i * 6 + (n - i) * 6 ≤ cur.size := by
      have : i * 6 + (n - i) * 6 = n * 6 := by omega
      have h2 : n * 6 ≤ c * 6 := by omega
      omega
     have hcl : ∀ (W : World) (ty : TypeId) (c2 : Nat), W.heap[b]? = some (.cells cur 42 (0, 0)) → (Builtin.clear_ #[22] ty #[.slice (some ⟨b, i * 6, none⟩) (n - i) c2]).run Try.prog W = .ok (.tuple #[]) (W.setRow b NEW) := fun W ty c2 hW => by
      have h := run_clear_rowK (P := Try.prog) W 22 42 ty (.agg #[(.int .i64 0), (.int .i64 0), (.bool false), (.string ⟨#[]⟩), (.int .i64 0), (.int .i64 0)]) Try.underlying22 Try.zeroValue42 6 rfl (by decide) (by intro v hv; simp only [Value.cells, List.mem_cons, List.not_mem_nil, or_false] at hv; rcases hv with rfl | rfl | rfl | rfl | rfl | rfl <;> rfl) b (i * 6) (n - i) c2 cur 42 hW (by omega) hfit
      rw [← hzs, ← hNEW] at h
      exact h
     have hns : NEW.size = c * 6 := by
      rw [hNEW, List.size_toArray, List.length_append, List.length_append, List.length_take, List.length_drop, hzl, Array.length_toList]
      omega
     have hnt : NEW.toList.take (i * 6) = (M.take i).flatMap flc42 := by
      rw [hNEW, List.toList_toArray, List.append_assoc, List.take_left' (by rw [List.length_take, Array.length_toList]; omega)]
      rw [← flat_take flc42 flc42_len, ← htk, List.take_take]
      congr 1
      rw [MM.out.2.2]
      omega
     have hci : ¬ (c = i) := by have := MM.out.2.2; omega
     have hcn : (n : Int) ≤ (c : Int) := by have := MM.out.2.2; omega
     have hiz : (i : Int) ≤ (n : Int) := by omega
     have hic : (i : Int) ≤ (c : Int) := by have := MM.out.2.2; omega
     have aJ : (0 : Int) ≤ (i : Int) := by omega
     have X1 := ak hns
     have X2 := ak hnt
     have X3 := ak hF
     have X4 := ak hcm
     have X5 := ak hMi
     have X6 := ak hg
     have X7 := ak hcl
     have X8 := ak hh
     have hcw := hcl wr 0 (c - i) hh
     clear hns hnt hF hcm hMi hg hcl hh hNEW hzs hzl hfit htk hcs hnc aP
     go_wp2_with (simp only [hcw])
     go_ret
     refine ⟨_, rfl, ?_, HB.out.trans (below_setRow (Below.refl _ _) X6.out _), rfl, kept_trans_ KP.out (kept_setRow_ _ _ rfl)⟩
     rw [X3.out]
     refine row42 (fun _ _ => trivial) ⟨flat_len flc42 flc42_len _, .inr ⟨b, c, NEW, by rw [X5.out]; rfl, X6.out, setRow_heap _ _ cur _ 42 _ X8.out, ?_, X4.out, X1.out, by rw [X5.out]; exact X2.out⟩⟩
     rw [X5.out]
     omega
/-! ### session_without: function 51 -/
theorem enters65 : ∀ args w, (callFunc 65 args).run Try.prog w = .ok (.enter 65 args) w := enters_of Try.func65 (by kernel_rfl) rfl
set_option maxHeartbeats 8000000 in
theorem session_without_del_1.calls (x : S42) (a1 : Int) (B : Nat) (W : World) (hc : W.cell? ⟨B, 0, none⟩ = some (.int .i64 a1)) :
  Calls Try.prog 65 #[.agg #[.int .i64 x.f0, .int .i64 x.f1, .bool x.f2, .string x.f3, .int .i64 x.f4, .int .i64 x.f5], .pointer (some ⟨B, 0, none⟩)] W fun e w' => e = .returned (.bool (x.f0 == a1)) ∧ Below W.heap.size W w' := by
 have hu42 := Try.underlying42
 have hB := World.block_lt_of_cell? W _ hc
 go_enter Try.func65, Try.ntmps65
 go_wp2
 go_ret
 exact ⟨rfl, (Below.refl _ _).alloc (Nat.le_refl _) _⟩
theorem session_without_del.calls {B : Nat} (P0_ : Nat → Prop) (u9000_ : Value) (l0 : List (S42)) (a1 : Int) (r : List S42) (w0 w : World) (hcB : w.heap[B]? = some (.cells #[.int .i64 a1] 3 (0, 0))) (hB : Below w0.heap.size w0 w) (ho0 : Kd.R k42 42 w w0.heap.size P0_ u9000_ l0) (h : session_without_del.f l0 a1 = some r) :
  Calls Try.prog 64 #[u9000_, .func (.func 65) #[] #[.pointer (some ⟨B, 0, none⟩)]] w fun e w' => ∃ v0_ : Value, e = .returned (v0_) ∧ Kd.R k42 42 w' w0.heap.size (fun k_ => (P0_ k_ ∨ w.heap.size ≤ k_)) v0_ r ∧ Below w0.heap.size w0 w' ∧ Kept w w' (fun k_ => P0_ k_) := by
 obtain rfl := Option.some.inj h
 have hne : some B ≠ u9000_.ownBlock := Kd.R_ne ho0 hcB (by decide)
 have hlt : B < w.heap.size := blk_lt hcB
 refine (api_Session_64_k.calls (fun x => x.f0 == a1) 65 #[.pointer (some ⟨B, 0, none⟩)] enters65 w0.heap.size u9000_ l0 w0 w (Kd.R_mono ho0 (fun _ _ => trivial)) hB hB.size (fun W x _ hk => session_without_del_1.calls x a1 B W ?_)).mono ?_
 ·exact (blk_cell (blk_kept hcB hk hne) 0).trans rfl
 ·rintro e w' ⟨v', rfl, hr, hb, ho, hk⟩
  refine ⟨v', rfl, ?_, hb, ⟨hk.1, fun i hi hn => hk.2 i hi (fun e => hn (ho0.1 i e.symm))⟩⟩
  obtain ⟨_, h2⟩ := own42 hr
  exact row42 (fun k hk' => .inl (ho0.1 k (ho ▸ hk'))) h2
set_option maxHeartbeats 8000000 in
set_option maxRecDepth 100000 in
theorem session_without.calls (aI : Int) (a4 : Option Addr) (a5 : Nat) (aO : List (S42)) (aW : Nat → Prop) (aP : Option Addr) (aQ : Nat) (aF : List (S85)) (aM : Int) (aR : Int) (a1 : Int) (r1 : Int) (r2 : List (S42)) (r3 : List (S85)) (r4 : Int) (r5 : Int) (w : World) (a6 : Kd.C k42 w a4 aO.length aO) (a7 : aO.length ≤ a5) (bC : Kd.V k85 85 w w.heap.size (fun k_ => aW k_) (.slice aP aF.length aQ) aF) (h : session_without.f aI aO aF aM aR a1 = some (r1, r2, r3, r4, r5)) :
  Calls Try.prog 51 #[.agg #[.int .i64 aI, .slice a4 aO.length a5, .slice aP aF.length aQ, .int .i64 aM, .int .u64 aR], .int .i64 a1] w fun e w' => ∃ cB v2_ : Value, e = .returned (.agg #[.int .i64 r1, cB, v2_, .int .i64 r4, .int .u64 r5]) ∧ Kd.R k42 42 w' w.heap.size (fun k_ => (w.heap.size ≤ k_)) cB r2 ∧ Kd.V k85 85 w' w.heap.size (fun k_ => (aW k_ ∨ w.heap.size ≤ k_) ∧ some k_ ≠ (cB : Value).ownBlock) v2_ r3 ∧ Below w.heap.size w w' := by
 have cM := Try.underlying26
 have bD := ak a6
 have bE := ak a7
 clear a6 a7
 have aD := ak (show Kd.V k85 85 w w.heap.size (fun k_ => (aW k_ ∨ w.heap.size ≤ k_)) (.slice aP aF.length aQ) aF from Kd.V_mono bC (fun k_ hk => .inl hk))
 have HB := ak (Below.refl w.heap.size w)
 have H : ((api_Session_48.f aO).bind fun aS => ((session_without_del.f aS a1).bind fun aG => (some (aI, aG, aF, aM, aR)))) = some (r1, r2, r3, r4, r5) := h
 clear h
 replace H := Option.bind_eq_some_iff.mp H
 obtain ⟨aS, cF, H⟩ := H
 try dsimp only at H
 have A3 := ak cF
 clear cF
 replace H := Option.bind_eq_some_iff.mp H
 obtain ⟨aG, cG, H⟩ := H
 try dsimp only at H
 have A4 := ak cG
 clear cG
 simp only [Option.some.injEq, Prod.mk.injEq] at H
 obtain ⟨rfl, rfl, rfl, rfl, rfl⟩ := H
 go_enter Try.func51, Try.ntmps51
 go_wp2_with (first | ((with_reducible refine gate_dst (N := 2) rfl ?_); refine bv 2 26 #[.int .i64 aI, .slice a4 aO.length a5, .slice aP aF.length aQ, .int .i64 aM, .int .u64 aR] ?_; intro aT hg w5 hbox hb; obtain ⟨n_, aH⟩ := Cb.bx (pB HB.out) hg hb; have cH := aH; have aA := ak (hbox); replace aD := vb aD aT hg hb; replace HB := n_; clear n_; clear hb hbox hg) | ((with_reducible refine gate_dst (N := 3) rfl ?_); refine bv 3 3 #[.int .i64 a1] ?_; intro aX hg w6 hbox hb; obtain ⟨n_, aJ⟩ := Cb.bx (ua aH.out HB.out) hg hb; have cI := aJ; obtain ⟨aY, aZ⟩ := Cb.nb hg aA.out; have aB := ak (hbox); replace aD := vb aD aX hg hb; replace aA := bb aA hb; replace HB := n_; clear n_; clear hb hbox hg) | ((with_reducible refine gate_dst (N := 4) rfl ?_); refine bv 4 26 #[.int .i64 0, .slice none 0 0, .slice none 0 0, .int .i64 0, .int .u64 0] ?_; intro aC hg w7 hbox hb; obtain ⟨n_, aK⟩ := Cb.bx (ub aH.out aJ.out HB.out) hg hb; have cJ := aK; obtain ⟨a0, aN⟩ := Cb.nb hg aA.out; obtain ⟨a2, a3⟩ := Cb.nb hg aB.out; have aE := ak (hbox); replace aD := vb aD aC hg hb; replace aA := bb aA hb; replace aB := bb aB hb; replace HB := n_; clear n_; clear hb hbox hg; have cN := aY.out; have cO := aZ.out; have cP := a0.out; have cQ := aN.out; obtain ⟨bF, bG, bH, bI, bJ⟩ := Cb.c5 aA.out; obtain ⟨bK, bL, bM, bN, bO⟩ := Cb.f5 aA.out) | ((with_reducible refine gate_callee (f := 48) rfl ?_); refine goesL_ (some 7) rfl rfl Try.func48 (by kernel_rfl) rfl #[.slice a4 aO.length a5] rfl mp ?_; (with_reducible refine (api_Session_48.calls _ _ aO aS _ ?side1 ?side2 A3.out).mono ?_); (case side1 => exact pc (Kd.C_below bD.out HB.out)); (case side2 => exact bE.out); rintro e cR ⟨cS, rfl, a9, hb⟩; refine ⟨_, rfl, ?_⟩; have aL := ak (Kd.R_lower (Kd.R_newM (M := fun k_ => (w.heap.size ≤ k_)) a9 (below_size (uc aH.out aJ.out aK.out HB.out)) (fun k_ h_ => h_)) (below_size (uc aH.out aJ.out aK.out HB.out))); replace aD := ve aD a9 hb; replace aA := bb aA hb; replace aB := bb aB hb; replace aE := bb aE hb; replace HB := ak (below_step (uc aH.out aJ.out aK.out HB.out) hb); (try clear hb); (try clear hb2); (try clear hk); (try clear hi); (try clear a9); have cK := a2.out; have cL := a3.out; have bP : cR.cell? ⟨aX, 0, none⟩ = some (.int .i64 a1) := (blk_cell aB.out 0).trans rfl; have bQ := blk_frozen aB.out 0; obtain ⟨bA, bB, cC⟩ := Kd.R_slice aL.out; subst cC) | ((with_reducible refine gate_callee (f := 64) rfl ?_); refine goesL_ (some 9) rfl rfl Try.func64 (by kernel_rfl) rfl #[.slice bA aS.length bB, .func (.func 65) #[] #[.pointer (some ⟨aX, 0, none⟩)]] rfl mp ?_; (with_reducible refine (session_without_del.calls (fun k_ => some k_ = (.slice bA aS.length bB : Value).ownBlock) (.slice bA aS.length bB) aS a1 aG w _ ?sideB ?side1 ?side2 A4.out).mono ?_); (case sideB => first | (go_simp; done) | (go_simp; rfl) | exact (blk_cell aB.out 0).trans rfl | exact aB.out | (exact pk aB.out)); (case side1 => exact uc aH.out aJ.out aK.out HB.out); (case side2 => exact Kd.R_tight rfl aL.out); rintro e cT ⟨cD, rfl, a9, hb, hkp⟩; refine ⟨_, rfl, ?_⟩; have n0_ := ak (Kd.V_mono (ok' := fun k_ => (aW k_ ∨ w.heap.size ≤ k_) ∧ k_ ≠ aT ∧ k_ ≠ aX ∧ k_ ≠ aC ∧ some k_ ≠ (cD : Value).ownBlock) (Kd.V_keptB (aD.out) hkp (fun k_ hk_ hs_ => (hk_.2) hs_)) (fun k_ hk_ => ⟨hk_.1.1.1.1.1, hk_.1.1.1.1.2, hk_.1.1.1.2, hk_.1.1.2, fun e_ => Or.elim (a9.1 k_ e_.symm) (fun hs_ => hk_.2.1 hs_) (fun hn_ => Nat.not_le.2 hk_.2.2 hn_)⟩)); have n1_ := ak (blk_kept (pk aA.out) hkp (fun hs_ => (fun e_ => (Kd.R_ne aL.out aA.out (by decide)) e_) hs_)); have n2_ := ak (blk_kept (pk aB.out) hkp (fun hs_ => (fun e_ => (Kd.R_ne aL.out aB.out (by decide)) e_) hs_)); have n3_ := ak (blk_kept (pk aE.out) hkp (fun hs_ => (fun e_ => (Kd.R_ne aL.out aE.out (by decide)) e_) hs_)); have n4_ := ak (Kd.R_mono (ok' := fun k_ => (w.heap.size ≤ k_)) a9 (fun k_ hk_ => Or.elim hk_ (fun hs_ => (aL.out.1 k_ (hs_).symm).1) (fun hn_ => (Nat.le_trans (below_size (uc aH.out aJ.out aK.out HB.out)) hn_)))); have n5_ := ak (hb); clear aD; clear aA; clear aB; clear aE; clear HB; clear aL; have aD := n0_; have aA := n1_; have aB := n2_; have aE := n3_; have a8 := n4_; have HB := n5_; clear n0_ n1_ n2_ n3_ n4_ n5_; (try clear hb); (try clear hkp); (try clear a9); obtain ⟨aU, aV, cE⟩ := Kd.R_slice a8.out; subst cE; obtain ⟨bR, bS, bT, bU, bV⟩ := Cb.c5 aA.out; obtain ⟨bW, bX, bY, bZ, b0⟩ := Cb.f5 aA.out; obtain ⟨b1, b2, b3, b4, b5⟩ := Cb.c5 aE.out; obtain ⟨b6, b7, b8, b9, cA⟩ := Cb.f5 aE.out))
 refine bodyPost_ret (results_cell_row rfl _ _ aC 26 #[.int .i64 aI, .slice aU aG.length aV, .slice aP aF.length aQ, .int .i64 aM, .int .u64 aR] (0, 0) _ rfl (by exact pq (blk_put (blk_put (blk_put (blk_put (blk_put (blk_far (pk aE.out) aN.out _) 0 _ rfl) 1 _ rfl) 2 _ rfl) 3 _ rfl) 4 _ rfl)) Try.underlying26 rfl (by kernel_rfl)) rfl ?_
 exact ⟨_, _, by first | rfl | (simp [errW_none, errW_some] <;> rfl) | (simp [*, errW_none, errW_some] <;> rfl), qr (Kd.R_mono (rf5 (rf1 (Kd.R_types (Kd.R_types a8.out aA.out (by decide)) aE.out (by decide)) fun _ hk => hk.1.2) fun _ hk => hk.2) (fun _ hk => hk.1.1)), qv (vm (vf5 (vf1 (Kd.V_mono (Kd.V_mono aD.out (fun k_ hk => (⟨hk, hk.2.1⟩ : _ ∧ k_ ≠ aT))) (fun k_ hk => (⟨hk, hk.1.2.2.2.1⟩ : _ ∧ k_ ≠ aC))) fun _ hk => hk.1.2) fun _ hk => hk.2)), uc aH.out aJ.out aK.out HB.out⟩

/-! ### session_Close: function 24 -/
set_option maxHeartbeats 8000000 in
set_option maxRecDepth 100000 in
theorem session_Close.calls (k : Nat) (aK : Int) (a0 : Nat → Prop) (aQ : Option Addr) (aR : Nat) (aG : List (S42)) (a2 : Nat → Prop) (aS : Option Addr) (aT : Nat) (aH : List (S85)) (aL : Int) (aM : Int) (a1 : Int) (r1 : Int) (r2 : List (S42)) (r3 : List (S85)) (r4 : Int) (r5 : Int) (r6 : Int) (w : World) (bD : Kd.V k42 42 w w.heap.size (fun k_ => a0 k_) (.slice aQ aG.length aR) aG) (bE : Kd.V k85 85 w w.heap.size (fun k_ => a2 k_) (.slice aS aH.length aT) aH) (h : session_Close.f k aK aG aH aL aM a1 = some (r1, r2, r3, r4, r5, r6)) :
  Calls Try.prog 24 #[.agg #[.int .i64 aK, .slice aQ aG.length aR, .slice aS aH.length aT, .int .i64 aL, .int .u64 aM], .int .i64 a1] w fun e w' => ∃ v1_ v2_ : Value, e = .returned (.tuple #[.agg #[.int .i64 r1, v1_, v2_, .int .i64 r4, .int .u64 r5], .int .i64 r6]) ∧ Kd.V k42 42 w' w.heap.size (fun k_ => ((a0 k_ ∨ a2 k_) ∨ w.heap.size ≤ k_)) v1_ r2 ∧ Kd.V k85 85 w' w.heap.size (fun k_ => ((a0 k_ ∨ a2 k_) ∨ w.heap.size ≤ k_)) v2_ r3 ∧ Below w.heap.size w w' := by
 have d3 := Try.underlying26
 have aD := ak (show Kd.V k42 42 w w.heap.size (fun k_ => ((a0 k_ ∨ a2 k_) ∨ w.heap.size ≤ k_)) (.slice aQ aG.length aR) aG from Kd.V_mono bD (fun k_ hk => .inl (.inl hk)))
 have aF := ak (show Kd.V k85 85 w w.heap.size (fun k_ => ((a0 k_ ∨ a2 k_) ∨ w.heap.size ≤ k_)) (.slice aS aH.length aT) aH from Kd.V_mono bE (fun k_ hk => .inl (.inr hk)))
 have HB := ak (Below.refl w.heap.size w)
 have H : ((session_at.f aK aG aH aL aM a1).bind fun a6 => (if a6 < 0 then (some (aK, aG, aH, aL, aM, 7)) else ((session_without.f aK aG aH aL aM a1).bind fun bt332 => ((alarm_Drop.f k bt332.2.2.1 a1).bind fun aW => (some (bt332.1, bt332.2.1, aW, bt332.2.2.2.1, bt332.2.2.2.2, 0)))))) = some (r1, r2, r3, r4, r5, r6) := h
 clear h
 replace H := Option.bind_eq_some_iff.mp H
 obtain ⟨a6, dZ, H⟩ := H
 try dsimp only at H
 have A3 := ak dZ
 clear dZ
 by_cases c4 : a6 < 0
 ·rw [if_pos c4] at H
  have dK : decide (a6 < 0) = true := decide_eq_true c4
  clear c4
  simp only [Option.some.injEq, Prod.mk.injEq] at H
  obtain ⟨rfl, rfl, rfl, rfl, rfl, rfl⟩ := H
  go_enter Try.func24, Try.ntmps24
  go_wp2_with (first | ((with_reducible refine gate_dst (N := 2) rfl ?_); refine bv 2 26 #[.int .i64 aK, .slice aQ aG.length aR, .slice aS aH.length aT, .int .i64 aL, .int .u64 aM] ?_; intro aA hg w5 hbox hb; obtain ⟨n_, aJ⟩ := Cb.bx (pB HB.out) hg hb; have bF := aJ; have aC := ak (hbox); replace aD := vb aD aA hg hb; replace aF := vb aF aA hg hb; replace HB := n_; clear n_; clear hb hbox hg) | ((with_reducible refine gate_dst (N := 4) rfl ?_); refine bv 4 26 #[.int .i64 0, .slice none 0 0, .slice none 0 0, .int .i64 0, .int .u64 0] ?_; intro aB hg w6 hbox hb; obtain ⟨n_, aN⟩ := Cb.bx (ua aJ.out HB.out) hg hb; have bG := aN; obtain ⟨aY, aE⟩ := Cb.nb hg aC.out; have aI := ak (hbox); replace aD := vb aD aB hg hb; replace aF := vb aF aB hg hb; replace aC := bb aC hb; replace HB := n_; clear n_; clear hb hbox hg; have d4 := aY.out; have d5 := aE.out; obtain ⟨dL, dM, dN, dO, dP⟩ := Cb.c5 aC.out; obtain ⟨dQ, dR, dS, dT, dU⟩ := Cb.f5 aC.out) | ((with_reducible refine gate_callee (f := 43) rfl ?_); refine goesL_ (some 8) rfl rfl Try.func43 (by kernel_rfl) rfl #[.agg #[.int .i64 aK, .slice aQ aG.length aR, .slice aS aH.length aT, .int .i64 aL, .int .u64 aM], .int .i64 a1] rfl mp ?_; (with_reducible refine (session_at.calls aK _ _ aG _ _ aH aL aM a1 a6 _ ?side1 ?side2 ?side3 ?side4 A3.out).mono ?_); (case side1 => exact pc (Kd.V_reads' aD.out).2.2); (case side2 => exact (Kd.V_reads' aD.out).2.1); (case side3 => exact pc (Kd.V_reads' aF.out).2.2); (case side4 => exact (Kd.V_reads' aF.out).2.1); rintro e w9 ⟨rfl, hb⟩; refine ⟨_, rfl, ?_⟩; replace aD := vw aD hb; replace aF := vw aF hb; replace aC := bb aC hb; replace aI := bb aI hb; replace HB := ak (below_step (ub aJ.out aN.out HB.out) hb); (try clear hb); (try clear hb2); (try clear hk); (try clear hi); obtain ⟨bJ, bK, bL, bM, bN⟩ := Cb.c5 aC.out; obtain ⟨bO, bP, bQ, bR, bS⟩ := Cb.f5 aC.out; obtain ⟨bT, bU, bV, bW, bX⟩ := Cb.c5 aI.out; obtain ⟨bY, bZ, b0, b1, b2⟩ := Cb.f5 aI.out))
  refine bodyPost_ret (results_ct rfl _ _ aB 26 #[.int .i64 aK, .slice aQ aG.length aR, .slice aS aH.length aT, .int .i64 aL, .int .u64 aM] (0, 0) _ rfl (by exact pq (blk_put (blk_put (blk_put (blk_put (blk_put (pk aI.out) 0 _ rfl) 1 _ rfl) 2 _ rfl) 3 _ rfl) 4 _ rfl)) Try.underlying26 rfl (by kernel_rfl)) rfl ?_
  exact ⟨_, _, by first | rfl | (simp [errW_none, errW_some] <;> rfl) | (simp [*, errW_none, errW_some] <;> rfl), qv (Kd.V_mono (vf5 aD.out fun _ hk => hk.2) (fun _ hk => hk.1.1)), qv (Kd.V_mono (vf5 aF.out fun _ hk => hk.2) (fun _ hk => hk.1.1)), ub aJ.out aN.out HB.out⟩
 ·rw [if_neg c4] at H
  have dK : decide (a6 < 0) = false := decide_eq_false c4
  clear c4
  replace H := Option.bind_eq_some_iff.mp H
  obtain ⟨⟨aO, aP, aZ, aX, a3⟩, bH, H⟩ := H
  try dsimp only at H
  have d6 := ak bH
  clear bH
  replace H := Option.bind_eq_some_iff.mp H
  obtain ⟨aW, bI, H⟩ := H
  try dsimp only at H
  have d7 := ak bI
  clear bI
  simp only [Option.some.injEq, Prod.mk.injEq] at H
  obtain ⟨rfl, rfl, rfl, rfl, rfl, rfl⟩ := H
  go_enter Try.func24, Try.ntmps24
  go_wp2_with (first | ((with_reducible refine gate_dst (N := 2) rfl ?_); refine bv 2 26 #[.int .i64 aK, .slice aQ aG.length aR, .slice aS aH.length aT, .int .i64 aL, .int .u64 aM] ?_; intro aA hg eA hbox hb; obtain ⟨n_, aJ⟩ := Cb.bx (pB HB.out) hg hb; have bF := aJ; have aC := ak (hbox); replace aD := vb aD aA hg hb; replace aF := vb aF aA hg hb; replace HB := n_; clear n_; clear hb hbox hg) | ((with_reducible refine gate_dst (N := 4) rfl ?_); refine bv 4 26 #[.int .i64 0, .slice none 0 0, .slice none 0 0, .int .i64 0, .int .u64 0] ?_; intro aB hg eB hbox hb; obtain ⟨n_, aN⟩ := Cb.bx (ua aJ.out HB.out) hg hb; have bG := aN; obtain ⟨aY, aE⟩ := Cb.nb hg aC.out; have aI := ak (hbox); replace aD := vb aD aB hg hb; replace aF := vb aF aB hg hb; replace aC := bb aC hb; replace HB := n_; clear n_; clear hb hbox hg; have d0 := aY.out; have d1 := aE.out; obtain ⟨b3, b4, b5, b6, b7⟩ := Cb.c5 aC.out; obtain ⟨b8, b9, cA, cB, cC⟩ := Cb.f5 aC.out) | ((with_reducible refine gate_callee (f := 43) rfl ?_); refine goesL_ (some 8) rfl rfl Try.func43 (by kernel_rfl) rfl #[.agg #[.int .i64 aK, .slice aQ aG.length aR, .slice aS aH.length aT, .int .i64 aL, .int .u64 aM], .int .i64 a1] rfl mp ?_; (with_reducible refine (session_at.calls aK _ _ aG _ _ aH aL aM a1 a6 _ ?side1 ?side2 ?side3 ?side4 A3.out).mono ?_); (case side1 => exact pc (Kd.V_reads' aD.out).2.2); (case side2 => exact (Kd.V_reads' aD.out).2.1); (case side3 => exact pc (Kd.V_reads' aF.out).2.2); (case side4 => exact (Kd.V_reads' aF.out).2.1); rintro e eC ⟨rfl, hb⟩; refine ⟨_, rfl, ?_⟩; replace aD := vw aD hb; replace aF := vw aF hb; replace aC := bb aC hb; replace aI := bb aI hb; replace HB := ak (below_step (ub aJ.out aN.out HB.out) hb); (try clear hb); (try clear hb2); (try clear hk); (try clear hi); obtain ⟨cD, cE, cF, cG, cH⟩ := Cb.c5 aC.out; obtain ⟨cI, cJ, cK, cL, cM⟩ := Cb.f5 aC.out) | ((with_reducible refine gate_callee (f := 51) rfl ?_); refine goesL_ (some 13) rfl rfl Try.func51 (by kernel_rfl) rfl #[.agg #[.int .i64 aK, .slice aQ aG.length aR, .slice aS aH.length aT, .int .i64 aL, .int .u64 aM], .int .i64 a1] rfl mp ?_; (with_reducible refine (session_without.calls aK _ _ aG (fun k_ => ((((a0 k_ ∨ a2 k_) ∨ w.heap.size ≤ k_) ∧ k_ ≠ aA) ∧ k_ ≠ aB)) _ _ aH aL aM a1 aO aP aZ aX a3 _ ?side1 ?side2 ?side3 d6.out).mono ?_); (case side1 => exact pc (Kd.V_reads' aD.out).2.2); (case side2 => exact (Kd.V_reads' aD.out).2.1); (case side3 => exact aF.out); rintro e eD ⟨dV, d8, rfl, bB, d2, hb⟩; refine ⟨_, rfl, ?_⟩; have bA := ak (Kd.R_lower (Kd.R_newM (M := fun k_ => (w.heap.size ≤ k_)) (Kd.R_mono (ok' := fun k_ => True) bB (fun _ hk_ => trivial)) (below_size (ub aJ.out aN.out HB.out)) (fun k_ h_ => h_)) (below_size (ub aJ.out aN.out HB.out))); have a7 := ak (Kd.V_lower (Kd.V_mono (ok' := fun k_ => ((a0 k_ ∨ a2 k_) ∨ w.heap.size ≤ k_) ∧ some k_ ≠ (dV : Value).ownBlock ∧ k_ ≠ aA ∧ k_ ≠ aB) d2 (fun k_ hk_ => ⟨Or.elim hk_.1 (fun hs_ => hs_.1.1) (fun hn_ => (.inr (Nat.le_trans (below_size (ub aJ.out aN.out HB.out)) hn_))), hk_.2, Or.elim hk_.1 (fun hs_ => hs_.1.2) (fun hn_ => (Kd.freshB (pk aC.out) k_ hn_)), Or.elim hk_.1 (fun hs_ => hs_.2) (fun hn_ => (Kd.freshB (pk aI.out) k_ hn_))⟩)) (below_size (ub aJ.out aN.out HB.out))); replace aD := ve aD bB hb; replace aF := ve aF bB hb; replace aC := bb aC hb; replace aI := bb aI hb; replace HB := ak (below_step (ub aJ.out aN.out HB.out) hb); (try clear hb); (try clear hb2); (try clear hk); (try clear hi); (try clear bB); (try clear d2); obtain ⟨cN, cO, cP, cQ, cR⟩ := Cb.c5 aC.out; obtain ⟨cS, cT, cU, cV, cW⟩ := Cb.f5 aC.out; obtain ⟨aU, aV, dW⟩ := Kd.R_slice bA.out; subst dW; obtain ⟨a5, a4, dX⟩ := Kd.V_slice a7.out; subst dX) | ((with_reducible refine gate_callee (f := 52) rfl ?_); refine goesL_ (some 17) rfl rfl Try.func52 (by kernel_rfl) rfl #[.slice a5 aZ.length a4, .int .i64 a1] rfl mp ?_; (with_reducible refine (alarm_Drop.calls k _ _ aZ a1 aW _ ?side1 ?side2 d7.out).mono ?_); (case side1 => refine (Kd.V_reads' (e := 85) (base := w.heap.size) (ok := fun k_ => (((a0 k_ ∨ a2 k_) ∨ w.heap.size ≤ k_) ∧ (some k_ ≠ (.slice aU aP.length aV : Value).ownBlock ∧ (k_ ≠ aA ∧ k_ ≠ aB)))) (n := aZ.length) (c := a4) ?_).2.2; exact (qv ((vf5 a7.out fun _ hk => hk.2.2.1)))); (case side2 => exact (Kd.V_reads' a7.out).2.1); rintro e eE ⟨d9, rfl, bB, hb⟩; refine ⟨_, rfl, ?_⟩; have bC := ak (Kd.R_lower (Kd.R_newM (M := fun k_ => (w.heap.size ≤ k_)) bB (below_size (ub aJ.out aN.out HB.out)) (fun k_ h_ => h_)) (below_size (ub aJ.out aN.out HB.out))); replace aD := ak (Kd.V_elder' (qv ((vf5 aD.out fun _ hk => hk.1.1.2))) (Kd.R_base bB) hb); replace aF := ak (Kd.V_elder' (qv ((vf5 aF.out fun _ hk => hk.1.1.2))) (Kd.R_base bB) hb); replace bA := rx bA aC hb; replace a7 := ak (Kd.V_elder' (qv ((vf5 a7.out fun _ hk => hk.2.2.1))) (Kd.R_base bB) hb); replace aC := ak (blk_below (g := aA) (o := .cells #[.int .i64 aO, .slice aU aP.length aV, .slice a5 aZ.length a4, .int .i64 aX, .int .u64 a3] 26 (0, 0)) (by exact pq (blk_put (blk_put (blk_put (blk_put (blk_put (pk aC.out) 0 _ rfl) 1 _ rfl) 2 _ rfl) 3 _ rfl) 4 _ rfl)) hb); replace aI := fb aI aE hb; replace HB := ak (below_step (ub aJ.out aN.out HB.out) hb); (try clear hb); (try clear hb2); (try clear hk); (try clear hi); (try clear bB); obtain ⟨a8, a9, dY⟩ := Kd.R_slice bC.out; subst dY; obtain ⟨cX, cY, cZ, c0, c1⟩ := Cb.c5 aC.out; obtain ⟨c3, c6, c7, c8, c9⟩ := Cb.f5 aC.out; obtain ⟨dA, dB, dC, dD, dE⟩ := Cb.c5 aI.out; obtain ⟨dF, dG, dH, dI, dJ⟩ := Cb.f5 aI.out))
  refine bodyPost_ret (results_ct rfl _ _ aB 26 #[.int .i64 aO, .slice aU aP.length aV, .slice a8 aW.length a9, .int .i64 aX, .int .u64 a3] (0, 0) _ rfl (by exact pq (blk_put (blk_put (blk_put (blk_put (blk_put (blk_far (pk aI.out) aE.out _) 0 _ rfl) 1 _ rfl) 2 _ rfl) 3 _ rfl) 4 _ rfl)) Try.underlying26 rfl (by kernel_rfl)) rfl ?_
  exact ⟨_, _, by first | rfl | (simp [errW_none, errW_some] <;> rfl) | (simp [*, errW_none, errW_some] <;> rfl), Kd.V_mono (Kd.R_V (qr (Kd.R_mono (rf5 (rf1 (Kd.R_types (Kd.R_types bA.out aC.out (by decide)) aI.out (by decide)) fun _ hk => hk.1.2) fun _ hk => hk.2) (fun _ hk => hk.1.1.1)))) (fun k_ hk => by first | exact ⟨(.inr (hk.1)), hk.2⟩ | exact (.inr (hk))), Kd.V_mono (Kd.R_V (qr (Kd.R_mono (rf5 (rf1 (Kd.R_types (Kd.R_types bC.out aC.out (by decide)) aI.out (by decide)) fun _ hk => hk.1.2) fun _ hk => hk.2) (fun _ hk => hk.1.1.1)))) (fun k_ hk => by first | exact ⟨(.inr (hk.1)), hk.2⟩ | exact (.inr (hk))), ub aJ.out aN.out HB.out⟩

/-! ### session_Renew: function 26 -/
set_option maxHeartbeats 8000000 in
set_option maxRecDepth 100000 in
theorem session_Renew.calls (k : Nat) (aG : Int) (aT : Nat → Prop) (aM : Option Addr) (aN : Nat) (aE : List (S42)) (aU : Nat → Prop) (aO : Option Addr) (aP : Nat) (aF : List (S85)) (aJ : Int) (aK : Int) (a1 : Int) (r1 : Int) (r2 : List (S42)) (r3 : List (S85)) (r4 : Int) (r5 : Int) (r6 : Int) (w : World) (a8 : Kd.V k42 42 w w.heap.size (fun k_ => aT k_) (.slice aM aE.length aN) aE) (a9 : Kd.V k85 85 w w.heap.size (fun k_ => aU k_) (.slice aO aF.length aP) aF) (h : session_Renew.f k aG aE aF aJ aK a1 = some (r1, r2, r3, r4, r5, r6)) :
  Calls Try.prog 26 #[.agg #[.int .i64 aG, .slice aM aE.length aN, .slice aO aF.length aP, .int .i64 aJ, .int .u64 aK], .int .i64 a1] w fun e w' => ∃ v1_ v2_ : Value, e = .returned (.tuple #[.agg #[.int .i64 r1, v1_, v2_, .int .i64 r4, .int .u64 r5], .int .i64 r6]) ∧ Kd.V k42 42 w' w.heap.size (fun k_ => ((aT k_ ∨ aU k_) ∨ w.heap.size ≤ k_)) v1_ r2 ∧ Kd.V k85 85 w' w.heap.size (fun k_ => ((aT k_ ∨ aU k_) ∨ w.heap.size ≤ k_)) v2_ r3 ∧ Below w.heap.size w w' := by
 have dD := Try.underlying26
 have aD := ak (show Kd.V k42 42 w w.heap.size (fun k_ => ((aT k_ ∨ aU k_) ∨ w.heap.size ≤ k_)) (.slice aM aE.length aN) aE from Kd.V_mono a8 (fun k_ hk => .inl (.inl hk)))
 have aC := ak (show Kd.V k85 85 w w.heap.size (fun k_ => ((aT k_ ∨ aU k_) ∨ w.heap.size ≤ k_)) (.slice aO aF.length aP) aF from Kd.V_mono a9 (fun k_ hk => .inl (.inr hk)))
 have HB := ak (Below.refl w.heap.size w)
 have H : ((session_at.f aG aE aF aJ aK a1).bind fun aW => (if aW < 0 then (some (aG, aE, aF, aJ, aK, 7)) else ((session_renewed.f k aG aE aF aJ aK a1).bind fun bt347 => (some (bt347.1, bt347.2.1, bt347.2.2.1, bt347.2.2.2.1, bt347.2.2.2.2, 0))))) = some (r1, r2, r3, r4, r5, r6) := h
 clear h
 replace H := Option.bind_eq_some_iff.mp H
 obtain ⟨aW, c9, H⟩ := H
 try dsimp only at H
 have A3 := ak c9
 clear c9
 by_cases c4 : aW < 0
 ·rw [if_pos c4] at H
  have cS : decide (aW < 0) = true := decide_eq_true c4
  clear c4
  simp only [Option.some.injEq, Prod.mk.injEq] at H
  obtain ⟨rfl, rfl, rfl, rfl, rfl, rfl⟩ := H
  go_enter Try.func26, Try.ntmps26
  go_wp2_with (first | ((with_reducible refine gate_dst (N := 2) rfl ?_); refine bv 2 26 #[.int .i64 aG, .slice aM aE.length aN, .slice aO aF.length aP, .int .i64 aJ, .int .u64 aK] ?_; intro aS hg w5 hbox hb; obtain ⟨n_, aI⟩ := Cb.bx (pB HB.out) hg hb; have bA := aI; have aB := ak (hbox); replace aD := vb aD aS hg hb; replace aC := vb aC aS hg hb; replace HB := n_; clear n_; clear hb hbox hg) | ((with_reducible refine gate_dst (N := 4) rfl ?_); refine bv 4 26 #[.int .i64 0, .slice none 0 0, .slice none 0 0, .int .i64 0, .int .u64 0] ?_; intro aA hg w6 hbox hb; obtain ⟨n_, aL⟩ := Cb.bx (ua aI.out HB.out) hg hb; have bB := aL; obtain ⟨aQ, aR⟩ := Cb.nb hg aB.out; have aH := ak (hbox); replace aD := vb aD aA hg hb; replace aC := vb aC aA hg hb; replace aB := bb aB hb; replace HB := n_; clear n_; clear hb hbox hg; have dE := aQ.out; have dF := aR.out; obtain ⟨cT, cU, cV, cW, cX⟩ := Cb.c5 aB.out; obtain ⟨cY, cZ, c0, c1, c3⟩ := Cb.f5 aB.out) | ((with_reducible refine gate_callee (f := 43) rfl ?_); refine goesL_ (some 8) rfl rfl Try.func43 (by kernel_rfl) rfl #[.agg #[.int .i64 aG, .slice aM aE.length aN, .slice aO aF.length aP, .int .i64 aJ, .int .u64 aK], .int .i64 a1] rfl mp ?_; (with_reducible refine (session_at.calls aG _ _ aE _ _ aF aJ aK a1 aW _ ?side1 ?side2 ?side3 ?side4 A3.out).mono ?_); (case side1 => exact pc (Kd.V_reads' aD.out).2.2); (case side2 => exact (Kd.V_reads' aD.out).2.1); (case side3 => exact pc (Kd.V_reads' aC.out).2.2); (case side4 => exact (Kd.V_reads' aC.out).2.1); rintro e w9 ⟨rfl, hb⟩; refine ⟨_, rfl, ?_⟩; replace aD := vw aD hb; replace aC := vw aC hb; replace aB := bb aB hb; replace aH := bb aH hb; replace HB := ak (below_step (ub aI.out aL.out HB.out) hb); (try clear hb); (try clear hb2); (try clear hk); (try clear hi); obtain ⟨bD, bE, bF, bG, bH⟩ := Cb.c5 aB.out; obtain ⟨bI, bJ, bK, bL, bM⟩ := Cb.f5 aB.out; obtain ⟨bN, bO, bP, bQ, bR⟩ := Cb.c5 aH.out; obtain ⟨bS, bT, bU, bV, bW⟩ := Cb.f5 aH.out))
  refine bodyPost_ret (results_ct rfl _ _ aA 26 #[.int .i64 aG, .slice aM aE.length aN, .slice aO aF.length aP, .int .i64 aJ, .int .u64 aK] (0, 0) _ rfl (by exact pq (blk_put (blk_put (blk_put (blk_put (blk_put (pk aH.out) 0 _ rfl) 1 _ rfl) 2 _ rfl) 3 _ rfl) 4 _ rfl)) Try.underlying26 rfl (by kernel_rfl)) rfl ?_
  exact ⟨_, _, by first | rfl | (simp [errW_none, errW_some] <;> rfl) | (simp [*, errW_none, errW_some] <;> rfl), qv (Kd.V_mono (vf5 aD.out fun _ hk => hk.2) (fun _ hk => hk.1.1)), qv (Kd.V_mono (vf5 aC.out fun _ hk => hk.2) (fun _ hk => hk.1.1)), ub aI.out aL.out HB.out⟩
 ·rw [if_neg c4] at H
  have cS : decide (aW < 0) = false := decide_eq_false c4
  clear c4
  replace H := Option.bind_eq_some_iff.mp H
  obtain ⟨⟨aV, aX, aY, aZ, a3⟩, bC, H⟩ := H
  try dsimp only at H
  have dG := ak bC
  clear bC
  simp only [Option.some.injEq, Prod.mk.injEq] at H
  obtain ⟨rfl, rfl, rfl, rfl, rfl, rfl⟩ := H
  go_enter Try.func26, Try.ntmps26
  go_wp2_with (first | ((with_reducible refine gate_dst (N := 2) rfl ?_); refine bv 2 26 #[.int .i64 aG, .slice aM aE.length aN, .slice aO aF.length aP, .int .i64 aJ, .int .u64 aK] ?_; intro aS hg dI hbox hb; obtain ⟨n_, aI⟩ := Cb.bx (pB HB.out) hg hb; have bA := aI; have aB := ak (hbox); replace aD := vb aD aS hg hb; replace aC := vb aC aS hg hb; replace HB := n_; clear n_; clear hb hbox hg) | ((with_reducible refine gate_dst (N := 4) rfl ?_); refine bv 4 26 #[.int .i64 0, .slice none 0 0, .slice none 0 0, .int .i64 0, .int .u64 0] ?_; intro aA hg dJ hbox hb; obtain ⟨n_, aL⟩ := Cb.bx (ua aI.out HB.out) hg hb; have bB := aL; obtain ⟨aQ, aR⟩ := Cb.nb hg aB.out; have aH := ak (hbox); replace aD := vb aD aA hg hb; replace aC := vb aC aA hg hb; replace aB := bb aB hb; replace HB := n_; clear n_; clear hb hbox hg; have dA := aQ.out; have dB := aR.out; obtain ⟨bX, bY, bZ, b0, b1⟩ := Cb.c5 aB.out; obtain ⟨b2, b3, b4, b5, b6⟩ := Cb.f5 aB.out) | ((with_reducible refine gate_callee (f := 43) rfl ?_); refine goesL_ (some 8) rfl rfl Try.func43 (by kernel_rfl) rfl #[.agg #[.int .i64 aG, .slice aM aE.length aN, .slice aO aF.length aP, .int .i64 aJ, .int .u64 aK], .int .i64 a1] rfl mp ?_; (with_reducible refine (session_at.calls aG _ _ aE _ _ aF aJ aK a1 aW _ ?side1 ?side2 ?side3 ?side4 A3.out).mono ?_); (case side1 => exact pc (Kd.V_reads' aD.out).2.2); (case side2 => exact (Kd.V_reads' aD.out).2.1); (case side3 => exact pc (Kd.V_reads' aC.out).2.2); (case side4 => exact (Kd.V_reads' aC.out).2.1); rintro e dK ⟨rfl, hb⟩; refine ⟨_, rfl, ?_⟩; replace aD := vw aD hb; replace aC := vw aC hb; replace aB := bb aB hb; replace aH := bb aH hb; replace HB := ak (below_step (ub aI.out aL.out HB.out) hb); (try clear hb); (try clear hb2); (try clear hk); (try clear hi); obtain ⟨b7, b8, b9, cA, cB⟩ := Cb.c5 aB.out; obtain ⟨cC, cD, cE, cF, cG⟩ := Cb.f5 aB.out) | ((with_reducible refine gate_callee (f := 40) rfl ?_); refine goesL_ (some 13) rfl rfl Try.func40 (by kernel_rfl) rfl #[.agg #[.int .i64 aG, .slice aM aE.length aN, .slice aO aF.length aP, .int .i64 aJ, .int .u64 aK], .int .i64 a1] rfl mp ?_; (with_reducible refine (session_renewed.calls k aG (fun k_ => ((((aT k_ ∨ aU k_) ∨ w.heap.size ≤ k_) ∧ k_ ≠ aS) ∧ k_ ≠ aA)) _ _ aE _ _ aF aJ aK a1 aV aX aY aZ a3 _ ?side1 ?side2 ?side3 dG.out).mono ?_); (case side1 => exact aD.out); (case side2 => exact pc (Kd.V_reads' aC.out).2.2); (case side3 => exact (Kd.V_reads' aC.out).2.1); rintro e dL ⟨dH, c6, rfl, dC, cH, hb⟩; refine ⟨_, rfl, ?_⟩; have a6 := ak (Kd.V_lower (Kd.V_mono (ok' := fun k_ => ((aT k_ ∨ aU k_) ∨ w.heap.size ≤ k_) ∧ some k_ ≠ (c6 : Value).ownBlock ∧ k_ ≠ aS ∧ k_ ≠ aA) dC (fun k_ hk_ => ⟨Or.elim hk_.1 (fun hs_ => hs_.1.1) (fun hn_ => (.inr (Nat.le_trans (below_size (ub aI.out aL.out HB.out)) hn_))), hk_.2, Or.elim hk_.1 (fun hs_ => hs_.1.2) (fun hn_ => (Kd.freshB (pk aB.out) k_ hn_)), Or.elim hk_.1 (fun hs_ => hs_.2) (fun hn_ => (Kd.freshB (pk aH.out) k_ hn_))⟩)) (below_size (ub aI.out aL.out HB.out))); have a7 := ak (Kd.R_lower (Kd.R_newM (M := fun k_ => (w.heap.size ≤ k_)) (Kd.R_mono (ok' := fun k_ => True) cH (fun _ hk_ => trivial)) (below_size (ub aI.out aL.out HB.out)) (fun k_ h_ => h_)) (below_size (ub aI.out aL.out HB.out))); replace aD := ve aD cH hb; replace aC := ve aC cH hb; replace aB := bb aB hb; replace aH := bb aH hb; replace HB := ak (below_step (ub aI.out aL.out HB.out) hb); (try clear hb); (try clear hb2); (try clear hk); (try clear hi); (try clear dC); (try clear cH); obtain ⟨cI, cJ, cK, cL, cM⟩ := Cb.c5 aH.out; obtain ⟨cN, cO, cP, cQ, cR⟩ := Cb.f5 aH.out; obtain ⟨a0, a2, c7⟩ := Kd.V_slice a6.out; subst c7; obtain ⟨a4, a5, c8⟩ := Kd.R_slice a7.out; subst c8))
  refine bodyPost_ret (results_ct rfl _ _ aA 26 #[.int .i64 aV, .slice a0 aX.length a2, .slice a4 aY.length a5, .int .i64 aZ, .int .u64 a3] (0, 0) _ rfl (by exact pq (blk_put (blk_put (blk_put (blk_put (blk_put (pk aH.out) 0 _ rfl) 1 _ rfl) 2 _ rfl) 3 _ rfl) 4 _ rfl)) Try.underlying26 rfl (by kernel_rfl)) rfl ?_
  exact ⟨_, _, by first | rfl | (simp [errW_none, errW_some] <;> rfl) | (simp [*, errW_none, errW_some] <;> rfl), qv (Kd.V_mono (vf5 a6.out fun _ hk => hk.2.2.2) (fun _ hk => hk.1)), Kd.V_mono (Kd.R_V (qr (Kd.R_mono (rf5 (Kd.R_types a7.out aH.out (by decide)) fun _ hk => hk.2) (fun _ hk => hk.1.1)))) (fun k_ hk => by first | exact ⟨(.inr (hk.1)), hk.2⟩ | exact (.inr (hk))), ub aI.out aL.out HB.out⟩

end Go.Proofs.Ytnpmjboofmdflaa.PA
