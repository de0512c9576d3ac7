-- Made by a program of this workplace out of the translation (wip/tools in the repo). Not trusted: Lean checks it.
import Derived.Test.YtnpmjboofmdflaaPBx0
import Derived.Test.YtnpmjboofmdflaaPBx3
import Derived.Test.YtnpmjboofmdflaaPBx5
import Derived.Test.YtnpmjboofmdflaaPBx7
import Derived.Test.YtnpmjboofmdflaaPBx8
namespace Go.Proofs.Ytnpmjboofmdflaa.PB
open Go.RowKit Go.Proofs.YtnpmjboofmdflaaW.PrintWords Go.Proofs.YtnpmjboofmdflaaW.PrintLast Go.Proofs.YtnpmjboofmdflaaW.PrintMore
attribute [local go_sem] max2_int min2_int max_two min_two max_three min_three max_four min_four   -- for this text's walks alone
set_option linter.unusedVariables false
set_option linter.unusedSimpArgs false

open Go.Proofs.Ytnpmjboofmdflaa.Cp
/-! ### api_Session_64: function 64 -/
theorem below_size_ {B : Nat} {w w' : World} (h : B ≤ w.heap.size) (hb : Below B w w') : B ≤ w'.heap.size := Nat.le_trans h hb.size
theorem ix_first {α : Type} (p : α → Bool) : ∀ (l : List α) (i : Nat), ixOf p l = (i : Int) → i < l.length ∧ (∀ x ∈ l.take i, p x = false) ∧ ∀ d, p (l.getD i d) = true := by
  intro l i h
  unfold ixOf at h
  split at h
  · rename_i hl
    have e : l.findIdx p = i := by omega
    subst e
    refine ⟨hl, fun x hx => ?_, fun d => ?_⟩
    · obtain ⟨j, hj, rfl⟩ := List.mem_take_iff_getElem.1 hx
      have hj' : j < l.findIdx p := by omega
      simpa using List.not_of_lt_findIdx hj'
    · rw [List.getD_eq_getElem?_getD, List.getElem?_eq_getElem hl]
      exact List.findIdx_getElem (w := hl)
  · omega
theorem ix_none {α : Type} (p : α → Bool) (l : List α) (h : ixOf p l = -1) : ∀ x ∈ l, p x = false := by
  intro x hx
  unfold ixOf at h
  split at h
  · omega
  · rename_i hl
    cases e : p x with
    | false => rfl
    | true => exact absurd (List.findIdx_lt_length.2 ⟨x, hx, e⟩) hl
theorem del_start {α : Type} (p : α → Bool) (l : List α) (i : Nat) (h : i < l.length) (h1 : ∀ x ∈ l.take i, p x = false) (h2 : p l[i] = true) : l.take i = (l.take (i + 1)).filter (fun x => !p x) := by
  rw [List.take_succ_eq_append_getElem h, List.filter_append]
  simp only [List.filter_cons, h2, Bool.not_true, List.filter_nil]
  rw [if_neg (by decide), List.append_nil, List.filter_eq_self.2 (fun x hx => by rw [h1 x hx]; rfl)]
theorem del_skip {α : Type} (p : α → Bool) (l : List α) (j : Nat) (h : j < l.length) (h2 : p l[j] = true) : (l.take (j + 1)).filter (fun x => !p x) = (l.take j).filter (fun x => !p x) := by
  rw [List.take_succ_eq_append_getElem h, List.filter_append]
  simp [List.filter_cons, h2]
theorem del_keep {α : Type} (p : α → Bool) (l : List α) (j : Nat) (h : j < l.length) (h2 : p l[j] = false) : (l.take (j + 1)).filter (fun x => !p x) = (l.take j).filter (fun x => !p x) ++ [l[j]] := by
  rw [List.take_succ_eq_append_getElem h, List.filter_append]
  simp [List.filter_cons, h2]
theorem kept_below_ {W W1 : World} {S : Nat → Prop} (hb : Below W.heap.size W W1) : Kept W W1 S := ⟨hb.size, fun i hi _ => hb.block i hi⟩
theorem kept_grown2_ {W W1 : World} {g : Nat} {u : Value} (hg : W.grownBy W1 (some g)) (hu : u.ownBlock = some g) : Kept W W1 (fun k_ => some k_ = u.ownBlock) := ⟨hg.size, fun i hi hn => hg.block i hi (fun e => hn (by rw [hu]; exact e))⟩
theorem kept_setRow_ {W : World} (g : Nat) (cs : Array Value) {u : Value} (hu : u.ownBlock = some g) : Kept W (W.setRow g cs) (fun k_ => some k_ = u.ownBlock) := ⟨by simp, fun i _ hn => setRow_other W g i cs (fun e => hn (by rw [hu, e]))⟩
set_option maxHeartbeats 8000000 in
set_option maxRecDepth 100000 in
theorem api_Session_64_k.calls (p : S42 → Bool) (g : Nat) (lb : Array Value) (eg : ∀ args w, (callFunc g args).run Try.prog w = .ok (.enter g args) w) (base : Nat) (u : Value) (l0 : List S42) (w0 w : World) (hr : Kd.R k42 42 w base (fun _ => True) u l0) (HB : Below base w0 w) (hbase : base ≤ w.heap.size)
    (hp : ∀ (W : World) (x : S42), Below base w W → Kept w W (fun k_ => some k_ = u.ownBlock) → Calls Try.prog g (#[.agg #[.int .i64 x.f0, .int .i64 x.f1, .bool x.f2, .string x.f3, .int .i64 x.f4, .int .i64 x.f5]] ++ lb) W fun e w' => e = .returned (.bool (p x)) ∧ Below W.heap.size W w') :
    Calls Try.prog 64 #[u, .func (.func g) #[] lb] w fun e w' => ∃ v', e = .returned v' ∧ Kd.R k42 42 w' base (fun _ => True) v' (l0.filter (fun x => !p x)) ∧ Below base w0 w' ∧ v'.ownBlock = u.ownBlock ∧ Kept w w' (fun k_ => some k_ = u.ownBlock) := by
  have hu42 := Try.underlying42
  have hpi : ∀ (W : World) (x : S42), Below w.heap.size w W → Calls Try.prog g (#[.agg #[.int .i64 x.f0, .int .i64 x.f1, .bool x.f2, .string x.f3, .int .i64 x.f4, .int .i64 x.f5]] ++ lb) W fun e w' => e = .returned (.bool (p x)) ∧ Below W.heap.size W w' := fun W x hb => hp W x (hb.mono hbase) (kept_below_ hb)
  rcases ixOf_cases p l0 with hE | ⟨i0, hil, hE⟩
  · have hres : l0.filter (fun x => !p x) = l0 := List.filter_eq_self.2 (fun x hx => by rw [ix_none p l0 hE x hx]; rfl)
    rw [hres]
    obtain ⟨A, c, rfl, hc, hC⟩ := Kd.R_reads hr
    have E := Aside0.mk hE
    have R := Aside0.mk hr
    have H := Aside0.mk HB
    have C := Aside0.mk hC
    have P := Aside0.mk hpi
    have BS := Aside0.mk hbase
    clear hres hE hr HB hC hpi hp
    go_enter Try.func64, Try.ntmps64
    go_wp2_with (go_at_call 59; refine (api_Session_59.calls p g lb eg A c l0 _ C.out P.out).mono ?_; rintro e w1 ⟨rfl, hb⟩; rw [E.out]; have n1 := Aside0.mk (Kd.R_below R.out hb); have n2 := Aside0.mk (H.out.trans (hb.mono BS.out)); have n4 := Aside0.mk (kept_below_ (S := fun k_ => some k_ = (Value.slice A l0.length c).ownBlock) hb); clear hb)
    go_ret
    exact ⟨_, rfl, n1.out, n2.out, rfl, n4.out⟩
  · obtain ⟨b, c, rfl, hc, hC⟩ := row_form42 hr (Nat.lt_of_le_of_lt (Nat.zero_le _) hil)
    obtain ⟨_, hfst, hat⟩ := ix_first p l0 i0 hE
    have hat0 : p l0[i0] = true := by have := hat z42; rwa [List.getD_eq_getElem?_getD, List.getElem?_eq_getElem hil] at this
    have hmx : l0.length ≤ 9223372036854775807 := hC.2.1
    have hil0 := hil
    have hix := api_Session_59.calls p g lb eg (some ⟨b, 0, none⟩) c l0 w hC hpi
    obtain ⟨n, hn⟩ : ∃ n, n = l0.length := ⟨_, rfl⟩
    rw [← hn] at hr hC hc hil hmx hix ⊢
    rw [hE] at hix
    have IX := Aside0.mk hix
    clear hix
    have ST := Aside0.mk (del_start p l0 i0 hil0 hfst hat0)
    have N := Aside0.mk hn
    have E := Aside0.mk hE
    have R := Aside0.mk hr
    have H := Aside0.mk HB
    have C := Aside0.mk hC
    have P := Aside0.mk hpi
    have PP := Aside0.mk hp
    have BS := Aside0.mk hbase
    have hz0 : ((i0 : Int) == -1) = false := by simp
    have hw0 : IntKind.i64.wrap ((i0 : Int) + 1) = ((i0 + 1 : Nat) : Int) := by rw [IntKind.wrap_i64]; omega
    clear hE hr HB hC hpi hp hat hat0 hfst hn hil0
    go_enter Try.func64, Try.ntmps64
    go_wp2_with (go_at_call 59; refine IX.out.mono ?_; rintro e w1 ⟨rfl, hb⟩; have n1 := Aside0.mk (Kd.R_below R.out hb); have n2 := Aside0.mk (H.out.trans (hb.mono BS.out)); have n3 := Aside0.mk (hb.mono BS.out); have n4 := Aside0.mk (kept_below_ (S := fun k_ => some k_ = (Value.slice (some ⟨b, 0, none⟩) n c).ownBlock) hb); clear hb)
    go_loopg [5, 6] n (fun gg s5 s6 wr => ∃ (i j : Nat) (M : List S42), i < j ∧ j ≤ n ∧ n - j ≤ gg ∧ s5 = .int .i64 i ∧ s6 = .int .i64 j ∧ Aside0 (M.take i = (l0.take j).filter (fun x => !p x) ∧ M.drop j = l0.drop j ∧ M.length = n) ∧ Aside0 (Kd.R k42 42 wr base (fun _ => True) (.slice (some ⟨b, 0, none⟩) n c) M) ∧ Aside0 (Below base w0 wr) ∧ Aside0 (Below base w wr) ∧ Aside0 (Kept w wr (fun k_ => some k_ = (Value.slice (some ⟨b, 0, none⟩) n c).ownBlock)))
    case atStart =>
      exact ⟨i0, i0 + 1, l0, by omega, by omega, by omega, rfl, by first | rfl | (rw [hw0]; done) | simp, ⟨ST.out, rfl, N.out.symm⟩, ⟨n1.out⟩, ⟨n2.out⟩, ⟨n3.out⟩, n4⟩
    case round =>
      obtain ⟨i, j, M, hij, hjn, hgg, rfl, rfl, MM, RR, HB, HC, KP⟩ := hrel
      by_cases hlt : j < n
      · have hltz : (j : Int) < (n : Int) := by omega
        have hltm : (j : Int) < (M.length : Int) := by rw [MM.out.2.2]; exact hltz
        have hiz : (i : Int) < (n : Int) := by omega
        have hi0 : (0 : Int) ≤ (i : Int) := by omega
        have hCM := row_C42 RR.out
        obtain ⟨ad, e, hx0, hx1, hx2, hx3, hx4, hx5⟩ := at_T42 hCM (j : Int) (by omega) hltz
        cases e
        simp only [Int.toNat_natCast] at hx0 hx1 hx2 hx3 hx4 hx5
        have e0 : rd_T42 M (j : Int) = M.getD j z42 := by simp [rd_T42]
        rw [e0] at hx0 hx1 hx2 hx3 hx4 hx5
        simp only [Addr.add_lit, Nat.zero_add] at hx0 hx1 hx2 hx3 hx4 hx5
        clear e0
        obtain ⟨y, hy⟩ : ∃ y, M.getD j z42 = y := ⟨_, rfl⟩
        rw [hy] at hx0 hx1 hx2 hx3 hx4 hx5
        have hjl : j < l0.length := by rw [← N.out]; exact hlt
        have hyl : l0[j] = y := by
          have h1 : M.drop j = l0.drop j := MM.out.2.1
          have hjm : j < M.length := by rw [MM.out.2.2]; exact hlt
          rw [List.drop_eq_getElem_cons hjl, List.drop_eq_getElem_cons hjm] at h1
          injection h1 with h1 _
          rw [← h1, ← hy, List.getD_eq_getElem?_getD, List.getElem?_eq_getElem hjm]
          rfl
        have hdn : M.drop (j + 1) = l0.drop (j + 1) := by
          have h1 : M.drop j = l0.drop j := MM.out.2.1
          rw [← List.drop_drop, ← List.drop_drop, h1]
        have hcall : ∀ W : World, Below base w W → Kept w W (fun k_ => some k_ = (Value.slice (some ⟨b, 0, none⟩) n c).ownBlock) → Calls Try.prog g (#[.agg #[.int .i64 y.f0, .int .i64 y.f1, .bool y.f2, .string y.f3, .int .i64 y.f4, .int .i64 y.f5]] ++ lb) W fun e w' => e = .returned (.bool (p y)) ∧ Below W.heap.size W w' := fun W hb hk => PP.out W y hb hk
        have hws : base ≤ wr.heap.size := below_size_ BS.out HC.out
        have Y := Aside0.mk hy
        have YL := Aside0.mk hyl
        have DN := Aside0.mk hdn
        have WS := Aside0.mk hws
        clear hy hyl hdn hws hCM
        obtain ⟨q, hq⟩ : ∃ q, p y = q := ⟨_, rfl⟩
        rw [hq] at hcall
        have Q := Aside0.mk hq
        have CL := Aside0.mk hcall
        clear hq hcall
        cases q with
        | true =>
          go_wp2_with (go_at_fn g; refine (CL.out _ (HC.out.alloc WS.out _) (KP.out.alloc _)).mono ?_; rintro e w2 ⟨rfl, hb⟩)
          go_roundg (n - (j + 1))
          case measure => omega
          case rel => exact ⟨i, j + 1, M, by omega, by omega, by omega, rfl, by first | rfl | go_num, ⟨by rw [del_skip p l0 j hjl (by rw [YL.out]; exact Q.out)]; exact MM.out.1, DN.out, MM.out.2.2⟩, ⟨Kd.R_below (Kd.R_alloc RR.out _) hb⟩, ⟨(HB.out.alloc WS.out _).trans (hb.mono (by have := WS.out; simp; omega))⟩, ⟨(HC.out.alloc WS.out _).trans (hb.mono (by have := WS.out; simp; omega))⟩, ⟨kept_trans_ (KP.out.alloc _) (kept_below_ hb)⟩⟩
        | false =>
          go_wp2_with (first
            | (go_at_fn g; refine (CL.out _ (HC.out.alloc WS.out _) (KP.out.alloc _)).mono ?_; rintro e w2 ⟨rfl, hb⟩; have BW := Aside0.mk (below_size hb); have k5 := (blk_below (heap_alloc_new wr (.cells #[.int .i64 y.f0, .int .i64 y.f1, .bool y.f2, .string y.f3, .int .i64 y.f4, .int .i64 y.f5] 42)) hb); have n1 := Aside0.mk (Kd.R_below (Kd.R_alloc RR.out _) hb); have n2 := Aside0.mk ((HB.out.alloc WS.out _).trans (hb.mono (by have := WS.out; simp; omega))); have n3 := Aside0.mk ((HC.out.alloc WS.out _).trans (hb.mono (by have := WS.out; simp; omega))); have n4 := Aside0.mk (kept_trans_ (KP.out.alloc (.cells #[.int .i64 y.f0, .int .i64 y.f1, .bool y.f2, .string y.f3, .int .i64 y.f4, .int .i64 y.f5] 42)) (kept_below_ hb)); clear hb; have k6 : w2.cell? ⟨wr.heap.size, 0, none⟩ = some (.int .i64 y.f0) := (blk_cell k5 0).trans rfl; have k7 : w2.cell? ⟨wr.heap.size, 1, none⟩ = some (.int .i64 y.f1) := (blk_cell k5 1).trans rfl; have k8 : w2.cell? ⟨wr.heap.size, 2, none⟩ = some (.bool y.f2) := (blk_cell k5 2).trans rfl; have k9 : w2.cell? ⟨wr.heap.size, 3, none⟩ = some (.string y.f3) := (blk_cell k5 3).trans rfl; have k10 : w2.cell? ⟨wr.heap.size, 4, none⟩ = some (.int .i64 y.f4) := (blk_cell k5 4).trans rfl; have k11 : w2.cell? ⟨wr.heap.size, 5, none⟩ = some (.int .i64 y.f5) := (blk_cell k5 5).trans rfl)
            | ((with_reducible refine gate_ (.store 42 (.tmp 33) (.tmp 32)) rfl ?_); obtain ⟨cc, hcl, hcc⟩ := row_old42 (row_C42 n1.out) i (by omega); refine Kd.R_store k42 (w0 := w0) base rfl rfl 42 (.tmp 33) (.tmp 32) rfl 42 (i : Int) 0 M y (.agg #[.int .i64 y.f0, .int .i64 y.f1, .bool y.f2, .string y.f3, .int .i64 y.f4, .int .i64 y.f5]) [.int .i64 y.f0, .int .i64 y.f1, .bool y.f2, .string y.f3, .int .i64 y.f4, .int .i64 y.f5] cc (fun _ => True) (fun _ => False) rfl (by simp; rfl) rfl rfl (by kernel_rfl) ?s1 n1.out hi0 hiz hcl hcc (by show 0 + 6 ≤ 6; decide) ?s2 (fun _ hk => hk.elim) n2.out ?_; (case s1 => intro q hq; simp only [List.mem_cons, List.not_mem_nil, or_false] at hq; rcases hq with rfl | rfl | rfl | rfl | rfl | rfl <;> rfl); (case s2 => rw [List.take_zero, List.nil_append, List.drop_of_length_le (by rw [hcl]; simp), List.append_nil]; exact k42_mkM _ _ _ y); intro w3 hr3 hb3 hg3; have K8 := Aside0.mk hr3; have K9 := Aside0.mk hb3; have K10 := Aside0.mk hg3; clear hr3 hb3 hg3))
          go_roundg (n - (j + 1))
          case measure => omega
          case rel =>
            have him : i < M.length := by rw [MM.out.2.2]; omega
            have hbb : base ≤ b := Kd.R_base n1.out b rfl
            refine ⟨i + 1, j + 1, M.set i y, by omega, by omega, by omega, by first | rfl | go_num, by first | rfl | go_num, ⟨?_, ?_, ?_⟩, K8, K9, ⟨n3.out.trans ⟨K10.out.os, K10.out.tape, K10.out.output, K10.out.size, fun k hk => ?_⟩⟩, ⟨kept_trans_ n4.out (kept_grown2_ K10.out rfl)⟩⟩
            · rw [del_keep p l0 j hjl (by rw [YL.out]; exact Q.out), YL.out, ← MM.out.1]
              rw [List.take_succ_eq_append_getElem (by rw [List.length_set]; exact him), List.getElem_set_self, List.take_set_of_le (Nat.le_refl _)]
            · rw [List.drop_set_of_lt (by omega)]; exact DN.out
            · rw [List.length_set]; exact MM.out.2.2
            · exact K10.out.block k (by have := BW.out; have := WS.out; simp at *; omega) (by intro h; injection h with h; omega)
      · have hltz : decide ((j : Int) < (n : Int)) = false := decide_eq_false (by omega)
        have hjn' : j = n := by omega
        have hF : l0.filter (fun x => !p x) = M.take i := by rw [MM.out.1, List.take_of_length_le (by rw [← N.out]; omega)]
        have hMi : (M.take i).length = i := by rw [List.length_take, MM.out.2.2]; omega
        obtain ⟨_, ho1, ho2⟩ := own42 RR.out
        rcases ho2 with ⟨h, _⟩ | ⟨b', c', cur, e, hg, hh, hnc, hcm, hcs, htk⟩
        · cases h
        · injection e with e1 e2 e3
          injection e1 with e1
          injection e1 with e1 _
          subst e1; subst e3
          clear e2
          obtain ⟨zs, hzs⟩ : ∃ zs, zs = (Builtin.zeroCells (((.agg #[(.int .i64 0), (.int .i64 0), (.bool false), (.string ⟨#[]⟩), (.int .i64 0), (.int .i64 0)]) : Value)).cells (n - i)).toList := ⟨_, rfl⟩
          have hzl : zs.length = (n - i) * 6 := by rw [hzs, Array.length_toList, zero_size]; rfl
          obtain ⟨NEW, hNEW⟩ : ∃ NEW, NEW = (cur.toList.take (i * 6) ++ zs ++ cur.toList.drop (i * 6 + zs.length)).toArray := ⟨_, rfl⟩
          have hin : i ≤ n := by omega
          have hfit : i * 6 + (n - i) * 6 ≤ cur.size := by
            have : i * 6 + (n - i) * 6 = n * 6 := by omega
            have h2 : n * 6 ≤ c * 6 := by omega
            omega
          have hcl : ∀ (W : World) (ty : TypeId) (c2 : Nat), W.heap[b]? = some (.cells cur 42 (0, 0)) → (Builtin.clear_ #[22] ty #[.slice (some ⟨b, i * 6, none⟩) (n - i) c2]).run Try.prog W = .ok (.tuple #[]) (W.setRow b NEW) := fun W ty c2 hW => by
            have h := run_clear_rowK (P := Try.prog) W 22 42 ty (.agg #[(.int .i64 0), (.int .i64 0), (.bool false), (.string ⟨#[]⟩), (.int .i64 0), (.int .i64 0)]) Try.underlying22 Try.zeroValue42 6 rfl (by decide) (by intro v hv; simp only [Value.cells, List.mem_cons, List.not_mem_nil, or_false] at hv; rcases hv with rfl | rfl | rfl | rfl | rfl | rfl <;> rfl) b (i * 6) (n - i) c2 cur 42 hW (by omega) hfit
            rw [← hzs, ← hNEW] at h
            exact h
          have hns : NEW.size = c * 6 := by
            rw [hNEW, List.size_toArray, List.length_append, List.length_append, List.length_take, List.length_drop, hzl, Array.length_toList]
            omega
          have hnt : NEW.toList.take (i * 6) = (M.take i).flatMap flc42 := by
            rw [hNEW, List.toList_toArray, List.append_assoc, List.take_left' (by rw [List.length_take, Array.length_toList]; omega)]
            rw [← flat_take flc42 flc42_len, ← htk, List.take_take]
            congr 1
            rw [MM.out.2.2]
            omega
          have hci : ¬ (c = i) := by have := MM.out.2.2; omega
          have hcn : (n : Int) ≤ (c : Int) := by have := MM.out.2.2; omega
          have hiz : (i : Int) ≤ (n : Int) := by omega
          have hic : (i : Int) ≤ (c : Int) := by have := MM.out.2.2; omega
          have hi0 : (0 : Int) ≤ (i : Int) := by omega
          have X1 := Aside0.mk hns
          have X2 := Aside0.mk hnt
          have X3 := Aside0.mk hF
          have X4 := Aside0.mk hcm
          have X5 := Aside0.mk hMi
          have X6 := Aside0.mk hg
          have X7 := Aside0.mk hcl
          have X8 := Aside0.mk hh
          have hcw := hcl wr 0 (c - i) hh
          clear hns hnt hF hcm hMi hg hcl hh hNEW hzs hzl hfit htk hcs hnc ho1
          go_wp2_with (simp only [hcw])
          go_ret
          refine ⟨_, rfl, ?_, HB.out.trans (below_setRow (Below.refl _ _) X6.out _), rfl, kept_trans_ KP.out (kept_setRow_ _ _ rfl)⟩
          rw [X3.out]
          refine row42 (fun _ _ => trivial) ⟨flat_len flc42 flc42_len _, .inr ⟨b, c, NEW, by rw [X5.out]; rfl, X6.out, setRow_heap _ _ cur _ 42 _ X8.out, ?_, X4.out, X1.out, by rw [X5.out]; exact X2.out⟩⟩
          rw [X5.out]
          omega
/-! ### session_without: function 51 -/
theorem enters65 : ∀ args w, (callFunc 65 args).run Try.prog w = .ok (.enter 65 args) w := enters_of Try.func65 (by kernel_rfl) rfl
set_option maxHeartbeats 8000000 in
theorem session_without_del_1.calls (x : S42) (a1 : Int) (B : Nat) (W : World) (hc : W.cell? ⟨B, 0, none⟩ = some (.int .i64 a1)) :
    Calls Try.prog 65 #[.agg #[.int .i64 x.f0, .int .i64 x.f1, .bool x.f2, .string x.f3, .int .i64 x.f4, .int .i64 x.f5], .pointer (some ⟨B, 0, none⟩)] W fun e w' => e = .returned (.bool (x.f0 == a1)) ∧ Below W.heap.size W w' := by
  have hu42 := Try.underlying42
  have hB := World.block_lt_of_cell? W _ hc
  go_enter Try.func65, Try.ntmps65
  go_wp2
  go_ret
  exact ⟨rfl, (Below.refl _ _).alloc (Nat.le_refl _) _⟩
theorem session_without_del.calls {B : Nat} (P0_ : Nat → Prop) (u9000_ : Value) (l0 : List (S42)) (a1 : Int) (r : List S42) (w0 w : World) (hcB : w.heap[B]? = some (.cells #[.int .i64 a1] 3 (0, 0))) (hB : Below w0.heap.size w0 w) (ho0 : Kd.R k42 42 w w0.heap.size P0_ u9000_ l0) (h : session_without_del.f l0 a1 = some r) :
    Calls Try.prog 64 #[u9000_, .func (.func 65) #[] #[.pointer (some ⟨B, 0, none⟩)]] w fun e w' => ∃ v0_ : Value, e = .returned (v0_) ∧ Kd.R k42 42 w' w0.heap.size (fun k_ => (P0_ k_ ∨ w.heap.size ≤ k_)) v0_ r ∧ Below w0.heap.size w0 w' ∧ Kept w w' (fun k_ => P0_ k_) := by
  obtain rfl := Option.some.inj h
  have hne : some B ≠ u9000_.ownBlock := Kd.R_ne ho0 hcB (by decide)
  have hlt : B < w.heap.size := blk_lt hcB
  refine (api_Session_64_k.calls (fun x => x.f0 == a1) 65 #[.pointer (some ⟨B, 0, none⟩)] enters65 w0.heap.size u9000_ l0 w0 w (Kd.R_mono ho0 (fun _ _ => trivial)) hB hB.size (fun W x _ hk => session_without_del_1.calls x a1 B W ?_)).mono ?_
  · exact (blk_cell (blk_kept hcB hk hne) 0).trans rfl
  · rintro e w' ⟨v', rfl, hr, hb, ho, hk⟩
    refine ⟨v', rfl, ?_, hb, ⟨hk.1, fun i hi hn => hk.2 i hi (fun e => hn (ho0.1 i e.symm))⟩⟩
    obtain ⟨_, h2⟩ := own42 hr
    exact row42 (fun k hk' => .inl (ho0.1 k (ho ▸ hk'))) h2
set_option maxHeartbeats 8000000 in
set_option maxRecDepth 100000 in
theorem session_without.calls (a0_0 : Int) (A0_1 : Option Addr) (c0_1 : Nat) (l0_1 : List (S42)) (P0_2_ : Nat → Prop) (A0_2 : Option Addr) (c0_2 : Nat) (l0_2 : List (S85)) (a0_3 : Int) (a0_4 : Int) (a1 : Int) (r1 : Int) (r2 : List (S42)) (r3 : List (S85)) (r4 : Int) (r5 : Int) (w : World) (hr0_1 : Kd.C k42 w A0_1 l0_1.length l0_1) (hc0_1 : l0_1.length ≤ c0_1) (hs0_2 : Kd.V k85 85 w w.heap.size (fun k_ => P0_2_ k_) (.slice A0_2 l0_2.length c0_2) l0_2) (h : session_without.f a0_0 l0_1 l0_2 a0_3 a0_4 a1 = some (r1, r2, r3, r4, r5)) :
    Calls Try.prog 51 #[.agg #[.int .i64 a0_0, .slice A0_1 l0_1.length c0_1, .slice A0_2 l0_2.length c0_2, .int .i64 a0_3, .int .u64 a0_4], .int .i64 a1] w fun e w' => ∃ v1_ v2_ : Value, e = .returned (.agg #[.int .i64 r1, v1_, v2_, .int .i64 r4, .int .u64 r5]) ∧ Kd.R k42 42 w' w.heap.size (fun k_ => (w.heap.size ≤ k_)) v1_ r2 ∧ Kd.V k85 85 w' w.heap.size (fun k_ => (P0_2_ k_ ∨ w.heap.size ≤ k_) ∧ some k_ ≠ (v1_ : Value).ownBlock) v2_ r3 ∧ Below w.heap.size w w' := by
  have hu26 := Try.underlying26
  have HR0_1 := Aside0.mk hr0_1
  have HC0_1 := Aside0.mk hc0_1
  clear hr0_1 hc0_1
  have HO0_2 := Aside0.mk (show Kd.V k85 85 w w.heap.size (fun k_ => (P0_2_ k_ ∨ w.heap.size ≤ k_)) (.slice A0_2 l0_2.length c0_2) l0_2 from Kd.V_mono hs0_2 (fun k_ hk => .inl hk))
  have HB := Aside0.mk (Below.refl w.heap.size w)
  have H : ((api_Session_48.f l0_1).bind fun t644 => ((session_without_del.f t644 a1).bind fun t647 => (some (a0_0, t647, l0_2, a0_3, a0_4)))) = some (r1, r2, r3, r4, r5) := h
  clear h
  replace H := Option.bind_eq_some_iff.mp H
  obtain ⟨t644, A30, H⟩ := H
  replace H : ((session_without_del.f t644 a1).bind fun t647 => (some (a0_0, t647, l0_2, a0_3, a0_4))) = some (r1, r2, r3, r4, r5) := H
  have A3 := Aside0.mk A30
  clear A30
  replace H := Option.bind_eq_some_iff.mp H
  obtain ⟨t647, A40, H⟩ := H
  replace H : (some (a0_0, t647, l0_2, a0_3, a0_4)) = some (r1, r2, r3, r4, r5) := H
  have A4 := Aside0.mk A40
  clear A40
  simp only [Option.some.injEq, Prod.mk.injEq] at H
  obtain ⟨rfl, rfl, rfl, rfl, rfl⟩ := H
  go_enter Try.func51, Try.ntmps51
  go_wp2_with (first | ((with_reducible refine gate_dst (N := 2) rfl ?_); refine box_event ?hg (N := 2) ?hd (cs := #[.int .i64 a0_0, .slice A0_1 l0_1.length c0_1, .slice A0_2 l0_2.length c0_2, .int .i64 a0_3, .int .u64 a0_4]) (t := 26) ?hr ?_; (case hd => rfl); (case hg => rfl); (case hr => first | (go_simp; done) | (go_simp; rfl)); intro gb641 hg w5 hbox hb; have n0_ := Aside0.mk (Kd.V_below (Kd.V_elderB (by (with_reducible repeat (first | apply Kd.V_alloc | apply Kd.V_drewN | apply Kd.V_drew)); exact HO0_2.out) gb641 (Nat.le_of_eq hg.symm)) hb); have n1_ := Aside0.mk (below_step (by repeat (first | (with_reducible first | exact HB.out | apply below_alloc | apply pw_below_drewN | apply below_drew1) | exact HB.out)) hb); have n2_ := Aside0.mk (hbox); have n3_ := Aside0.mk ((by rw [hg]; exact (below_size (by repeat (first | (with_reducible first | exact HB.out | apply below_alloc | apply pw_below_drewN | apply below_drew1) | exact HB.out))) : w.heap.size ≤ gb641)); have n4_ := Aside0.mk ((by rw [hg]; exact (below_size (by repeat (first | (with_reducible first | exact HB.out | apply below_alloc | apply pw_below_drewN | apply below_drew1) | exact HB.out))) : w.heap.size ≤ gb641)); clear HO0_2; clear HB; have HO0_2 := n0_; have HB := n1_; have BK641 := n2_; have GW641 := n3_; have GE641 := n4_; clear n0_ n1_ n2_ n3_ n4_; clear hb hbox hg) | ((with_reducible refine gate_dst (N := 3) rfl ?_); refine box_event ?hg (N := 3) ?hd (cs := #[.int .i64 a1]) (t := 3) ?hr ?_; (case hd => rfl); (case hg => rfl); (case hr => first | (go_simp; done) | (go_simp; rfl)); intro gb642 hg w6 hbox hb; have n0_ := Aside0.mk (Kd.V_below (Kd.V_elderB (by (with_reducible repeat (first | apply Kd.V_alloc | apply Kd.V_drewN | apply Kd.V_drew)); exact HO0_2.out) gb642 (Nat.le_of_eq hg.symm)) hb); have n1_ := Aside0.mk (blk_below (g := gb641) (o := .cells #[.int .i64 a0_0, .slice A0_1 l0_1.length c0_1, .slice A0_2 l0_2.length c0_2, .int .i64 a0_3, .int .u64 a0_4] 26 (0, 0)) (by (with_reducible repeat (first | refine blk_drewN ?_ _ | refine blk_drew ?_ | refine blk_alloc ?_ _)); exact BK641.out) hb); have n2_ := Aside0.mk (below_step (by repeat (first | (with_reducible first | exact HB.out | apply below_alloc | apply pw_below_drewN | apply below_drew1 | refine below_set ?_ GE641.out) | exact HB.out)) hb); have n3_ := Aside0.mk (hbox); have n4_ := Aside0.mk ((by rw [hg]; exact (below_size (by repeat (first | (with_reducible first | exact HB.out | apply below_alloc | apply pw_below_drewN | apply below_drew1 | refine below_set ?_ GE641.out) | exact HB.out))) : w.heap.size ≤ gb642)); have n5_ := Aside0.mk ((by rw [hg]; exact (below_size (by repeat (first | (with_reducible first | exact HB.out | apply below_alloc | apply pw_below_drewN | apply below_drew1 | refine below_set ?_ GE641.out) | exact HB.out))) : w.heap.size ≤ gb642)); have n6_ := Aside0.mk ((by rw [hg]; exact Nat.ne_of_lt (blk_lt (g := gb641) (o := .cells #[.int .i64 a0_0, .slice A0_1 l0_1.length c0_1, .slice A0_2 l0_2.length c0_2, .int .i64 a0_3, .int .u64 a0_4] 26 (0, 0)) (by (with_reducible repeat (first | refine blk_drewN ?_ _ | refine blk_drew ?_ | refine blk_alloc ?_ _)); exact BK641.out)) : gb641 ≠ gb642)); have n7_ := Aside0.mk ((by rw [hg]; exact Nat.ne_of_gt (blk_lt (g := gb641) (o := .cells #[.int .i64 a0_0, .slice A0_1 l0_1.length c0_1, .slice A0_2 l0_2.length c0_2, .int .i64 a0_3, .int .u64 a0_4] 26 (0, 0)) (by (with_reducible repeat (first | refine blk_drewN ?_ _ | refine blk_drew ?_ | refine blk_alloc ?_ _)); exact BK641.out)) : gb642 ≠ gb641)); clear HO0_2; clear BK641; clear HB; have HO0_2 := n0_; have BK641 := n1_; have HB := n2_; have BK642 := n3_; have GW642 := n4_; have GE642 := n5_; have NB641_642 := n6_; have NB642_641 := n7_; clear n0_ n1_ n2_ n3_ n4_ n5_ n6_ n7_; clear hb hbox hg) | ((with_reducible refine gate_dst (N := 4) rfl ?_); refine box_event ?hg (N := 4) ?hd (cs := #[.int .i64 0, .slice none 0 0, .slice none 0 0, .int .i64 0, .int .u64 0]) (t := 26) ?hr ?_; (case hd => rfl); (case hg => rfl); (case hr => first | (go_simp; done) | (go_simp; rfl)); intro gb643 hg w7 hbox hb; have n0_ := Aside0.mk (Kd.V_below (Kd.V_elderB (by (with_reducible repeat (first | apply Kd.V_alloc | apply Kd.V_drewN | apply Kd.V_drew)); exact HO0_2.out) gb643 (Nat.le_of_eq hg.symm)) hb); have n1_ := Aside0.mk (blk_below (g := gb641) (o := .cells #[.int .i64 a0_0, .slice A0_1 l0_1.length c0_1, .slice A0_2 l0_2.length c0_2, .int .i64 a0_3, .int .u64 a0_4] 26 (0, 0)) (by (with_reducible repeat (first | refine blk_drewN ?_ _ | refine blk_drew ?_ | refine blk_alloc ?_ _)); exact BK641.out) hb); have n2_ := Aside0.mk (blk_below (g := gb642) (o := .cells #[.int .i64 a1] 3 (0, 0)) (by (with_reducible repeat (first | refine blk_drewN ?_ _ | refine blk_drew ?_ | refine blk_alloc ?_ _)); exact BK642.out) hb); have n3_ := Aside0.mk (below_step (by repeat (first | (with_reducible first | exact HB.out | apply below_alloc | apply pw_below_drewN | apply below_drew1 | refine below_set ?_ GE641.out | refine below_set ?_ GE642.out) | exact HB.out)) hb); have n4_ := Aside0.mk (hbox); have n5_ := Aside0.mk ((by rw [hg]; exact (below_size (by repeat (first | (with_reducible first | exact HB.out | apply below_alloc | apply pw_below_drewN | apply below_drew1 | refine below_set ?_ GE641.out | refine below_set ?_ GE642.out) | exact HB.out))) : w.heap.size ≤ gb643)); have n6_ := Aside0.mk ((by rw [hg]; exact (below_size (by repeat (first | (with_reducible first | exact HB.out | apply below_alloc | apply pw_below_drewN | apply below_drew1 | refine below_set ?_ GE641.out | refine below_set ?_ GE642.out) | exact HB.out))) : w.heap.size ≤ gb643)); have n7_ := Aside0.mk ((by rw [hg]; exact Nat.ne_of_lt (blk_lt (g := gb641) (o := .cells #[.int .i64 a0_0, .slice A0_1 l0_1.length c0_1, .slice A0_2 l0_2.length c0_2, .int .i64 a0_3, .int .u64 a0_4] 26 (0, 0)) (by (with_reducible repeat (first | refine blk_drewN ?_ _ | refine blk_drew ?_ | refine blk_alloc ?_ _)); exact BK641.out)) : gb641 ≠ gb643)); have n8_ := Aside0.mk ((by rw [hg]; exact Nat.ne_of_gt (blk_lt (g := gb641) (o := .cells #[.int .i64 a0_0, .slice A0_1 l0_1.length c0_1, .slice A0_2 l0_2.length c0_2, .int .i64 a0_3, .int .u64 a0_4] 26 (0, 0)) (by (with_reducible repeat (first | refine blk_drewN ?_ _ | refine blk_drew ?_ | refine blk_alloc ?_ _)); exact BK641.out)) : gb643 ≠ gb641)); have n9_ := Aside0.mk ((by rw [hg]; exact Nat.ne_of_lt (blk_lt (g := gb642) (o := .cells #[.int .i64 a1] 3 (0, 0)) (by (with_reducible repeat (first | refine blk_drewN ?_ _ | refine blk_drew ?_ | refine blk_alloc ?_ _)); exact BK642.out)) : gb642 ≠ gb643)); have n10_ := Aside0.mk ((by rw [hg]; exact Nat.ne_of_gt (blk_lt (g := gb642) (o := .cells #[.int .i64 a1] 3 (0, 0)) (by (with_reducible repeat (first | refine blk_drewN ?_ _ | refine blk_drew ?_ | refine blk_alloc ?_ _)); exact BK642.out)) : gb643 ≠ gb642)); clear HO0_2; clear BK641; clear BK642; clear HB; have HO0_2 := n0_; have BK641 := n1_; have BK642 := n2_; have HB := n3_; have BK643 := n4_; have GW643 := n5_; have GE643 := n6_; have NB641_643 := n7_; have NB643_641 := n8_; have NB642_643 := n9_; have NB643_642 := n10_; clear n0_ n1_ n2_ n3_ n4_ n5_ n6_ n7_ n8_ n9_ n10_; clear hb hbox hg; have hnb8 := NB641_642.out; have hnc8 := NB642_641.out; have hnb9 := NB641_643.out; have hnc9 := NB643_641.out; have hcz10_0 : w7.cell? ⟨gb641, 0, none⟩ = some (.int .i64 a0_0) := (blk_cell BK641.out 0).trans rfl; have hcz10_1 : w7.cell? ⟨gb641, 1, none⟩ = some (.slice A0_1 l0_1.length c0_1) := (blk_cell BK641.out 1).trans rfl; have hcz10_2 : w7.cell? ⟨gb641, 2, none⟩ = some (.slice A0_2 l0_2.length c0_2) := (blk_cell BK641.out 2).trans rfl; have hcz10_3 : w7.cell? ⟨gb641, 3, none⟩ = some (.int .i64 a0_3) := (blk_cell BK641.out 3).trans rfl; have hcz10_4 : w7.cell? ⟨gb641, 4, none⟩ = some (.int .u64 a0_4) := (blk_cell BK641.out 4).trans rfl; have hfz10_0 := blk_frozen BK641.out 0; have hfz10_1 := blk_frozen BK641.out 1; have hfz10_2 := blk_frozen BK641.out 2; have hfz10_3 := blk_frozen BK641.out 3; have hfz10_4 := blk_frozen BK641.out 4) | ((with_reducible refine gate_callee (f := 48) rfl ?_); refine goesL_ (some 7) rfl rfl Try.func48 (by kernel_rfl) rfl #[.slice A0_1 l0_1.length c0_1] rfl (by (try simp only [List.map_toArray, List.map_cons, List.map_nil]); first | done | rfl | (simp only [List.length_drop, List.length_take]; rfl)) ?_; (with_reducible refine (api_Session_48.calls _ _ l0_1 t644 _ ?side1 ?side2 A3.out).mono ?_); (case side1 => repeat (first | exact (Kd.C_below HR0_1.out HB.out) | (with_reducible refine Kd.C_alloc ?_ _) | (with_reducible refine Kd.C_drewN ?_ _) | (with_reducible refine Kd.C_drew ?_))); (case side2 => exact HC0_1.out); rintro e w11 ⟨v645, rfl, ho0, hb⟩; refine ⟨_, rfl, ?_⟩; have n0_ := Aside0.mk (Kd.V_elder' (by (with_reducible repeat (first | apply Kd.V_alloc | apply Kd.V_drewN | apply Kd.V_drew)); exact HO0_2.out) (Kd.R_base ho0) hb); have n1_ := Aside0.mk (Kd.R_lower (Kd.R_newM (M := fun k_ => (w.heap.size ≤ k_)) ho0 (below_size (by repeat (first | (with_reducible first | exact HB.out | apply below_alloc | apply pw_below_drewN | apply below_drew1 | refine below_set ?_ GE641.out | refine below_set ?_ GE642.out | refine below_set ?_ GE643.out) | exact HB.out))) (fun k_ h_ => h_)) (below_size (by repeat (first | (with_reducible first | exact HB.out | apply below_alloc | apply pw_below_drewN | apply below_drew1 | refine below_set ?_ GE641.out | refine below_set ?_ GE642.out | refine below_set ?_ GE643.out) | exact HB.out)))); have n2_ := Aside0.mk (blk_below (g := gb641) (o := .cells #[.int .i64 a0_0, .slice A0_1 l0_1.length c0_1, .slice A0_2 l0_2.length c0_2, .int .i64 a0_3, .int .u64 a0_4] 26 (0, 0)) (by (with_reducible repeat (first | refine blk_drewN ?_ _ | refine blk_drew ?_ | refine blk_alloc ?_ _)); exact BK641.out) hb); have n3_ := Aside0.mk (blk_below (g := gb642) (o := .cells #[.int .i64 a1] 3 (0, 0)) (by (with_reducible repeat (first | refine blk_drewN ?_ _ | refine blk_drew ?_ | refine blk_alloc ?_ _)); exact BK642.out) hb); have n4_ := Aside0.mk (blk_below (g := gb643) (o := .cells #[.int .i64 0, .slice none 0 0, .slice none 0 0, .int .i64 0, .int .u64 0] 26 (0, 0)) (by (with_reducible repeat (first | refine blk_drewN ?_ _ | refine blk_drew ?_ | refine blk_alloc ?_ _)); exact BK643.out) hb); have n5_ := Aside0.mk (below_step (by repeat (first | (with_reducible first | exact HB.out | apply below_alloc | apply pw_below_drewN | apply below_drew1 | refine below_set ?_ GE641.out | refine below_set ?_ GE642.out | refine below_set ?_ GE643.out) | exact HB.out)) hb); clear HO0_2; clear BK641; clear BK642; clear BK643; clear HB; have HO0_2 := n0_; have HO646 := n1_; have BK641 := n2_; have BK642 := n3_; have BK643 := n4_; have HB := n5_; clear n0_ n1_ n2_ n3_ n4_ n5_; (try clear hb); (try clear hb2); (try clear hk); (try clear hi); (try clear ho0); have hnb12 := NB642_643.out; have hnc12 := NB643_642.out; have hcz13_0 : w11.cell? ⟨gb642, 0, none⟩ = some (.int .i64 a1) := (blk_cell BK642.out 0).trans rfl; have hfz13_0 := blk_frozen BK642.out 0; obtain ⟨Ao14, co14, eo14⟩ := Kd.R_slice HO646.out; subst eo14) | ((with_reducible refine gate_callee (f := 64) rfl ?_); refine goesL_ (some 9) rfl rfl Try.func64 (by kernel_rfl) rfl #[.slice Ao14 t644.length co14, .func (.func 65) #[] #[.pointer (some ⟨gb642, 0, none⟩)]] rfl (by (try simp only [List.map_toArray, List.map_cons, List.map_nil]); first | done | rfl | (simp only [List.length_drop, List.length_take]; rfl)) ?_; (with_reducible refine (session_without_del.calls (fun k_ => some k_ = (.slice Ao14 t644.length co14 : Value).ownBlock) (.slice Ao14 t644.length co14) t644 a1 t647 w _ ?sideB ?side1 ?side2 A4.out).mono ?_); (case sideB => first | (go_simp; done) | (go_simp; rfl) | exact (blk_cell BK642.out 0).trans rfl | exact BK642.out | ((with_reducible repeat (first | refine blk_drewN ?_ _ | refine blk_drew ?_ | refine blk_alloc ?_ _)); exact BK642.out)); (case side1 => repeat (first | (with_reducible first | exact HB.out | apply below_alloc | apply pw_below_drewN | apply below_drew1 | refine below_set ?_ GE641.out | refine below_set ?_ GE642.out | refine below_set ?_ GE643.out) | exact HB.out)); (case side2 => exact Kd.R_tight rfl HO646.out); rintro e w15 ⟨v648, rfl, ho0, hb, hkp⟩; refine ⟨_, rfl, ?_⟩; have n0_ := Aside0.mk (Kd.V_mono (ok' := fun k_ => (P0_2_ k_ ∨ w.heap.size ≤ k_) ∧ k_ ≠ gb641 ∧ k_ ≠ gb642 ∧ k_ ≠ gb643 ∧ some k_ ≠ (v648 : Value).ownBlock) (Kd.V_keptB (HO0_2.out) hkp (fun k_ hk_ hs_ => (hk_.2) hs_)) (fun k_ hk_ => ⟨hk_.1.1.1.1.1, hk_.1.1.1.1.2, hk_.1.1.1.2, hk_.1.1.2, fun e_ => Or.elim (ho0.1 k_ e_.symm) (fun hs_ => hk_.2.1 hs_) (fun hn_ => Nat.not_le.2 hk_.2.2 hn_)⟩)); have n1_ := Aside0.mk (blk_kept (by (with_reducible repeat (first | refine blk_drewN ?_ _ | refine blk_drew ?_ | refine blk_alloc ?_ _)); exact BK641.out) hkp (fun hs_ => (fun e_ => (Kd.R_ne HO646.out BK641.out (by decide)) e_) hs_)); have n2_ := Aside0.mk (blk_kept (by (with_reducible repeat (first | refine blk_drewN ?_ _ | refine blk_drew ?_ | refine blk_alloc ?_ _)); exact BK642.out) hkp (fun hs_ => (fun e_ => (Kd.R_ne HO646.out BK642.out (by decide)) e_) hs_)); have n3_ := Aside0.mk (blk_kept (by (with_reducible repeat (first | refine blk_drewN ?_ _ | refine blk_drew ?_ | refine blk_alloc ?_ _)); exact BK643.out) hkp (fun hs_ => (fun e_ => (Kd.R_ne HO646.out BK643.out (by decide)) e_) hs_)); have n4_ := Aside0.mk (Kd.R_mono (ok' := fun k_ => (w.heap.size ≤ k_)) ho0 (fun k_ hk_ => Or.elim hk_ (fun hs_ => (HO646.out.1 k_ (hs_).symm).1) (fun hn_ => (Nat.le_trans (below_size (by repeat (first | (with_reducible first | exact HB.out | apply below_alloc | apply pw_below_drewN | apply below_drew1 | refine below_set ?_ GE641.out | refine below_set ?_ GE642.out | refine below_set ?_ GE643.out) | exact HB.out))) hn_)))); have n5_ := Aside0.mk (hb); clear HO0_2; clear BK641; clear BK642; clear BK643; clear HB; clear HO646; have HO0_2 := n0_; have BK641 := n1_; have BK642 := n2_; have BK643 := n3_; have HO649 := n4_; have HB := n5_; clear n0_ n1_ n2_ n3_ n4_ n5_; (try clear hb); (try clear hkp); (try clear ho0); obtain ⟨Ao16, co16, eo16⟩ := Kd.R_slice HO649.out; subst eo16; have hcz17_0 : w15.cell? ⟨gb641, 0, none⟩ = some (.int .i64 a0_0) := (blk_cell BK641.out 0).trans rfl; have hcz17_1 : w15.cell? ⟨gb641, 1, none⟩ = some (.slice A0_1 l0_1.length c0_1) := (blk_cell BK641.out 1).trans rfl; have hcz17_2 : w15.cell? ⟨gb641, 2, none⟩ = some (.slice A0_2 l0_2.length c0_2) := (blk_cell BK641.out 2).trans rfl; have hcz17_3 : w15.cell? ⟨gb641, 3, none⟩ = some (.int .i64 a0_3) := (blk_cell BK641.out 3).trans rfl; have hcz17_4 : w15.cell? ⟨gb641, 4, none⟩ = some (.int .u64 a0_4) := (blk_cell BK641.out 4).trans rfl; have hfz17_0 := blk_frozen BK641.out 0; have hfz17_1 := blk_frozen BK641.out 1; have hfz17_2 := blk_frozen BK641.out 2; have hfz17_3 := blk_frozen BK641.out 3; have hfz17_4 := blk_frozen BK641.out 4; have hcz18_0 : w15.cell? ⟨gb643, 0, none⟩ = some (.int .i64 0) := (blk_cell BK643.out 0).trans rfl; have hcz18_1 : w15.cell? ⟨gb643, 1, none⟩ = some (.slice none 0 0) := (blk_cell BK643.out 1).trans rfl; have hcz18_2 : w15.cell? ⟨gb643, 2, none⟩ = some (.slice none 0 0) := (blk_cell BK643.out 2).trans rfl; have hcz18_3 : w15.cell? ⟨gb643, 3, none⟩ = some (.int .i64 0) := (blk_cell BK643.out 3).trans rfl; have hcz18_4 : w15.cell? ⟨gb643, 4, none⟩ = some (.int .u64 0) := (blk_cell BK643.out 4).trans rfl; have hfz18_0 := blk_frozen BK643.out 0; have hfz18_1 := blk_frozen BK643.out 1; have hfz18_2 := blk_frozen BK643.out 2; have hfz18_3 := blk_frozen BK643.out 3; have hfz18_4 := blk_frozen BK643.out 4))
  refine bodyPost_ret (results_cell_row rfl _ _ gb643 26 #[.int .i64 a0_0, .slice Ao16 t647.length co16, .slice A0_2 l0_2.length c0_2, .int .i64 a0_3, .int .u64 a0_4] (0, 0) _ rfl (by (with_reducible repeat (first | refine blk_drewN ?_ _ | refine blk_drew ?_ | refine blk_alloc ?_ _)); refine blk_put (cs := #[.int .i64 a0_0, .slice Ao16 t647.length co16, .slice A0_2 l0_2.length c0_2, .int .i64 a0_3, .int .u64 0]) ?_ 4 _ rfl; (with_reducible repeat (first | refine blk_drewN ?_ _ | refine blk_drew ?_ | refine blk_alloc ?_ _)); refine blk_put (cs := #[.int .i64 a0_0, .slice Ao16 t647.length co16, .slice A0_2 l0_2.length c0_2, .int .i64 0, .int .u64 0]) ?_ 3 _ rfl; (with_reducible repeat (first | refine blk_drewN ?_ _ | refine blk_drew ?_ | refine blk_alloc ?_ _)); refine blk_put (cs := #[.int .i64 a0_0, .slice Ao16 t647.length co16, .slice none 0 0, .int .i64 0, .int .u64 0]) ?_ 2 _ rfl; (with_reducible repeat (first | refine blk_drewN ?_ _ | refine blk_drew ?_ | refine blk_alloc ?_ _)); refine blk_put (cs := #[.int .i64 a0_0, .slice none 0 0, .slice none 0 0, .int .i64 0, .int .u64 0]) ?_ 1 _ rfl; (with_reducible repeat (first | refine blk_drewN ?_ _ | refine blk_drew ?_ | refine blk_alloc ?_ _)); refine blk_put (cs := #[.int .i64 0, .slice none 0 0, .slice none 0 0, .int .i64 0, .int .u64 0]) ?_ 0 _ rfl; (with_reducible repeat (first | refine blk_drewN ?_ _ | refine blk_drew ?_ | refine blk_alloc ?_ _)); refine blk_far ?_ NB643_641.out _; (with_reducible repeat (first | refine blk_drewN ?_ _ | refine blk_drew ?_ | refine blk_alloc ?_ _)); exact BK643.out) Try.underlying26 rfl (by kernel_rfl)) rfl ?_
  exact ⟨_, _, by first | rfl | (simp [errW_none, errW_some] <;> rfl) | (simp [*, errW_none, errW_some] <;> rfl), by (with_reducible repeat (first | apply Kd.R_alloc | apply Kd.R_drewN | apply Kd.R_drew)); exact Kd.R_mono (Kd.R_far (p := ⟨gb643, 4, none⟩) (Kd.R_far (p := ⟨gb643, 3, none⟩) (Kd.R_far (p := ⟨gb643, 2, none⟩) (Kd.R_far (p := ⟨gb643, 1, none⟩) (Kd.R_far (p := ⟨gb643, 0, none⟩) (Kd.R_far (p := ⟨gb641, 1, none⟩) (Kd.R_types (Kd.R_types HO649.out BK641.out (by decide)) BK643.out (by decide)) (fun _ hk => hk.1.2) (.slice Ao16 t647.length co16)) (fun _ hk => hk.2) (.int .i64 a0_0)) (fun _ hk => hk.2) (.slice Ao16 t647.length co16)) (fun _ hk => hk.2) (.slice A0_2 l0_2.length c0_2)) (fun _ hk => hk.2) (.int .i64 a0_3)) (fun _ hk => hk.2) (.int .u64 a0_4)) (fun _ hk => hk.1.1), by (with_reducible repeat (first | apply Kd.V_alloc | apply Kd.V_drewN | apply Kd.V_drew)); exact Kd.V_mono (Kd.V_far (p := ⟨gb643, 4, none⟩) (Kd.V_far (p := ⟨gb643, 3, none⟩) (Kd.V_far (p := ⟨gb643, 2, none⟩) (Kd.V_far (p := ⟨gb643, 1, none⟩) (Kd.V_far (p := ⟨gb643, 0, none⟩) (Kd.V_far (p := ⟨gb641, 1, none⟩) (Kd.V_mono (Kd.V_mono HO0_2.out (fun k_ hk => (⟨hk, hk.2.1⟩ : _ ∧ k_ ≠ gb641))) (fun k_ hk => (⟨hk, hk.1.2.2.2.1⟩ : _ ∧ k_ ≠ gb643))) (fun _ hk => hk.1.2) (.slice Ao16 t647.length co16)) (fun _ hk => hk.2) (.int .i64 a0_0)) (fun _ hk => hk.2) (.slice Ao16 t647.length co16)) (fun _ hk => hk.2) (.slice A0_2 l0_2.length c0_2)) (fun _ hk => hk.2) (.int .i64 a0_3)) (fun _ hk => hk.2) (.int .u64 a0_4)) (fun _ hk => ⟨hk.1.1.1, hk.1.1.2.2.2.2⟩), by repeat (first | (with_reducible first | exact HB.out | apply below_alloc | apply pw_below_drewN | apply below_drew1 | refine below_set ?_ GE641.out | refine below_set ?_ GE642.out | refine below_set ?_ GE643.out) | exact HB.out)⟩

/-! ### session_Close: function 24 -/
end Go.Proofs.Ytnpmjboofmdflaa.PB
