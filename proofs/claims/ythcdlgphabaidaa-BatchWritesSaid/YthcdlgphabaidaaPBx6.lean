-- Made by a program of this workplace out of the translation (wip/tools in the repo). Not trusted: Lean checks it.
import Derived.Test.YthcdlgphabaidaaPBx0
import Derived.Test.YthcdlgphabaidaaPBx2
import Derived.Test.YthcdlgphabaidaaPBx5
namespace Go.Proofs.Ythcdlgphabaidaa.PB
open Go.RowKit Go.Proofs.YthcdlgphabaidaaW.PrintWords Go.Proofs.YthcdlgphabaidaaW.PrintLast Go.Proofs.YthcdlgphabaidaaW.PrintMore
attribute [local go_sem] max2_int min2_int max_two min_two max_three min_three max_four min_four   -- for this text's walks alone
set_option linter.unusedVariables false
set_option linter.unusedSimpArgs false

open Go.Proofs.Ythcdlgphabaidaa.Cp
/-! ### api_Pair_73: function 73 -/
theorem kept_trans_ {w W W2 : World} {S : Nat → Prop} (h : Kept w W S) (k : Kept W W2 S) : Kept w W2 S := h.then_ k (fun _ hk => .inl hk)
theorem below_size_ {B : Nat} {w w' : World} (h : B ≤ w.heap.size) (hb : Below B w w') : B ≤ w'.heap.size := Nat.le_trans h hb.size
theorem ix_first {α : Type} (p : α → Bool) : ∀ (l : List α) (i : Nat), ixOf p l = (i : Int) → i < l.length ∧ (∀ x ∈ l.take i, p x = false) ∧ ∀ d, p (l.getD i d) = true := by
  intro l i h
  unfold ixOf at h
  split at h
  · rename_i hl
    have e : l.findIdx p = i := by omega
    subst e
    refine ⟨hl, fun x hx => ?_, fun d => ?_⟩
    · obtain ⟨j, hj, rfl⟩ := List.mem_take_iff_getElem.1 hx
      have hj' : j < l.findIdx p := by omega
      simpa using List.not_of_lt_findIdx hj'
    · rw [List.getD_eq_getElem?_getD, List.getElem?_eq_getElem hl]
      exact List.findIdx_getElem (w := hl)
  · omega
theorem ix_none {α : Type} (p : α → Bool) (l : List α) (h : ixOf p l = -1) : ∀ x ∈ l, p x = false := by
  intro x hx
  unfold ixOf at h
  split at h
  · omega
  · rename_i hl
    cases e : p x with
    | false => rfl
    | true => exact absurd (List.findIdx_lt_length.2 ⟨x, hx, e⟩) hl
theorem del_start {α : Type} (p : α → Bool) (l : List α) (i : Nat) (h : i < l.length) (h1 : ∀ x ∈ l.take i, p x = false) (h2 : p l[i] = true) : l.take i = (l.take (i + 1)).filter (fun x => !p x) := by
  rw [List.take_succ_eq_append_getElem h, List.filter_append]
  simp only [List.filter_cons, h2, Bool.not_true, List.filter_nil]
  rw [if_neg (by decide), List.append_nil, List.filter_eq_self.2 (fun x hx => by rw [h1 x hx]; rfl)]
theorem del_skip {α : Type} (p : α → Bool) (l : List α) (j : Nat) (h : j < l.length) (h2 : p l[j] = true) : (l.take (j + 1)).filter (fun x => !p x) = (l.take j).filter (fun x => !p x) := by
  rw [List.take_succ_eq_append_getElem h, List.filter_append]
  simp [List.filter_cons, h2]
theorem del_keep {α : Type} (p : α → Bool) (l : List α) (j : Nat) (h : j < l.length) (h2 : p l[j] = false) : (l.take (j + 1)).filter (fun x => !p x) = (l.take j).filter (fun x => !p x) ++ [l[j]] := by
  rw [List.take_succ_eq_append_getElem h, List.filter_append]
  simp [List.filter_cons, h2]
theorem kept_below_ {W W1 : World} {S : Nat → Prop} (hb : Below W.heap.size W W1) : Kept W W1 S := ⟨hb.size, fun i hi _ => hb.block i hi⟩
theorem kept_grown2_ {W W1 : World} {g : Nat} {u : Value} (hg : W.grownBy W1 (some g)) (hu : u.ownBlock = some g) : Kept W W1 (fun k_ => some k_ = u.ownBlock) := ⟨hg.size, fun i hi hn => hg.block i hi (fun e => hn (by rw [hu]; exact e))⟩
theorem kept_setRow_ {W : World} (g : Nat) (cs : Array Value) {u : Value} (hu : u.ownBlock = some g) : Kept W (W.setRow g cs) (fun k_ => some k_ = u.ownBlock) := ⟨by simp, fun i _ hn => setRow_other W g i cs (fun e => hn (by rw [hu, e]))⟩
set_option maxHeartbeats 8000000 in
set_option maxRecDepth 100000 in
theorem api_Pair_73_k.calls (p : S68 → Bool) (g : Nat) (lb : Array Value) (eg : ∀ args w, (callFunc g args).run Try.prog w = .ok (.enter g args) w) (base : Nat) (u : Value) (l0 : List S68) (w0 w : World) (hr : Kd.R k68 68 w base (fun _ => True) u l0) (HB : Below base w0 w) (hbase : base ≤ w.heap.size)
    (hp : ∀ (W : World) (x : S68), Below base w W → Kept w W (fun k_ => some k_ = u.ownBlock) → Calls Try.prog g (#[.agg #[.string x.f0, .string x.f1]] ++ lb) W fun e w' => e = .returned (.bool (p x)) ∧ Below W.heap.size W w') :
    Calls Try.prog 73 #[u, .func (.func g) #[] lb] w fun e w' => ∃ v', e = .returned v' ∧ Kd.R k68 68 w' base (fun _ => True) v' (l0.filter (fun x => !p x)) ∧ Below base w0 w' ∧ v'.ownBlock = u.ownBlock ∧ Kept w w' (fun k_ => some k_ = u.ownBlock) := by
  have hu68 := Try.underlying68
  have hpi : ∀ (W : World) (x : S68), Below w.heap.size w W → Calls Try.prog g (#[.agg #[.string x.f0, .string x.f1]] ++ lb) W fun e w' => e = .returned (.bool (p x)) ∧ Below W.heap.size W w' := fun W x hb => hp W x (hb.mono hbase) (kept_below_ hb)
  rcases ixOf_cases p l0 with hE | ⟨i0, hil, hE⟩
  · have hres : l0.filter (fun x => !p x) = l0 := List.filter_eq_self.2 (fun x hx => by rw [ix_none p l0 hE x hx]; rfl)
    rw [hres]
    obtain ⟨A, c, rfl, hc, hC⟩ := Kd.R_reads hr
    have E := Aside0.mk hE
    have R := Aside0.mk hr
    have H := Aside0.mk HB
    have C := Aside0.mk hC
    have P := Aside0.mk hpi
    have BS := Aside0.mk hbase
    clear hres hE hr HB hC hpi hp
    go_enter Try.func73, Try.ntmps73
    go_wp2_with (go_at_call 62; refine (api_Pair_62.calls p g lb eg A c l0 _ C.out P.out).mono ?_; rintro e w1 ⟨rfl, hb⟩; rw [E.out]; have n1 := Aside0.mk (Kd.R_below R.out hb); have n2 := Aside0.mk (H.out.trans (hb.mono BS.out)); have n4 := Aside0.mk (kept_below_ (S := fun k_ => some k_ = (Value.slice A l0.length c).ownBlock) hb); clear hb)
    go_ret
    exact ⟨_, rfl, n1.out, n2.out, rfl, n4.out⟩
  · obtain ⟨b, c, rfl, hc, hC⟩ := row_form68 hr (Nat.lt_of_le_of_lt (Nat.zero_le _) hil)
    obtain ⟨_, hfst, hat⟩ := ix_first p l0 i0 hE
    have hat0 : p l0[i0] = true := by have := hat z68; rwa [List.getD_eq_getElem?_getD, List.getElem?_eq_getElem hil] at this
    have hmx : l0.length ≤ 9223372036854775807 := hC.2.1
    have hil0 := hil
    have hix := api_Pair_62.calls p g lb eg (some ⟨b, 0, none⟩) c l0 w hC hpi
    obtain ⟨n, hn⟩ : ∃ n, n = l0.length := ⟨_, rfl⟩
    rw [← hn] at hr hC hc hil hmx hix ⊢
    rw [hE] at hix
    have IX := Aside0.mk hix
    clear hix
    have ST := Aside0.mk (del_start p l0 i0 hil0 hfst hat0)
    have N := Aside0.mk hn
    have E := Aside0.mk hE
    have R := Aside0.mk hr
    have H := Aside0.mk HB
    have C := Aside0.mk hC
    have P := Aside0.mk hpi
    have PP := Aside0.mk hp
    have BS := Aside0.mk hbase
    have hz0 : ((i0 : Int) == -1) = false := by simp
    have hw0 : IntKind.i64.wrap ((i0 : Int) + 1) = ((i0 + 1 : Nat) : Int) := by rw [IntKind.wrap_i64]; omega
    clear hE hr HB hC hpi hp hat hat0 hfst hn hil0
    go_enter Try.func73, Try.ntmps73
    go_wp2_with (go_at_call 62; refine IX.out.mono ?_; rintro e w1 ⟨rfl, hb⟩; have n1 := Aside0.mk (Kd.R_below R.out hb); have n2 := Aside0.mk (H.out.trans (hb.mono BS.out)); have n3 := Aside0.mk (hb.mono BS.out); have n4 := Aside0.mk (kept_below_ (S := fun k_ => some k_ = (Value.slice (some ⟨b, 0, none⟩) n c).ownBlock) hb); clear hb)
    go_loopg [5, 6] n (fun gg s5 s6 wr => ∃ (i j : Nat) (M : List S68), i < j ∧ j ≤ n ∧ n - j ≤ gg ∧ s5 = .int .i64 i ∧ s6 = .int .i64 j ∧ Aside0 (M.take i = (l0.take j).filter (fun x => !p x) ∧ M.drop j = l0.drop j ∧ M.length = n) ∧ Aside0 (Kd.R k68 68 wr base (fun _ => True) (.slice (some ⟨b, 0, none⟩) n c) M) ∧ Aside0 (Below base w0 wr) ∧ Aside0 (Below base w wr) ∧ Aside0 (Kept w wr (fun k_ => some k_ = (Value.slice (some ⟨b, 0, none⟩) n c).ownBlock)))
    case atStart =>
      exact ⟨i0, i0 + 1, l0, by omega, by omega, by omega, rfl, by first | rfl | (rw [hw0]; done) | simp, ⟨ST.out, rfl, N.out.symm⟩, ⟨n1.out⟩, ⟨n2.out⟩, ⟨n3.out⟩, n4⟩
    case round =>
      obtain ⟨i, j, M, hij, hjn, hgg, rfl, rfl, MM, RR, HB, HC, KP⟩ := hrel
      by_cases hlt : j < n
      · have hltz : (j : Int) < (n : Int) := by omega
        have hltm : (j : Int) < (M.length : Int) := by rw [MM.out.2.2]; exact hltz
        have hiz : (i : Int) < (n : Int) := by omega
        have hi0 : (0 : Int) ≤ (i : Int) := by omega
        have hCM := row_C68 RR.out
        obtain ⟨ad, e, hx0, hx1⟩ := at_T68 hCM (j : Int) (by omega) hltz
        cases e
        simp only [Int.toNat_natCast] at hx0 hx1
        have e0 : rd_T68 M (j : Int) = M.getD j z68 := by simp [rd_T68]
        rw [e0] at hx0 hx1
        simp only [Addr.add_lit, Nat.zero_add] at hx0 hx1
        clear e0
        obtain ⟨y, hy⟩ : ∃ y, M.getD j z68 = y := ⟨_, rfl⟩
        rw [hy] at hx0 hx1
        have hjl : j < l0.length := by rw [← N.out]; exact hlt
        have hyl : l0[j] = y := by
          have h1 : M.drop j = l0.drop j := MM.out.2.1
          have hjm : j < M.length := by rw [MM.out.2.2]; exact hlt
          rw [List.drop_eq_getElem_cons hjl, List.drop_eq_getElem_cons hjm] at h1
          injection h1 with h1 _
          rw [← h1, ← hy, List.getD_eq_getElem?_getD, List.getElem?_eq_getElem hjm]
          rfl
        have hdn : M.drop (j + 1) = l0.drop (j + 1) := by
          have h1 : M.drop j = l0.drop j := MM.out.2.1
          rw [← List.drop_drop, ← List.drop_drop, h1]
        have hcall : ∀ W : World, Below base w W → Kept w W (fun k_ => some k_ = (Value.slice (some ⟨b, 0, none⟩) n c).ownBlock) → Calls Try.prog g (#[.agg #[.string y.f0, .string y.f1]] ++ lb) W fun e w' => e = .returned (.bool (p y)) ∧ Below W.heap.size W w' := fun W hb hk => PP.out W y hb hk
        have hws : base ≤ wr.heap.size := below_size_ BS.out HC.out
        have Y := Aside0.mk hy
        have YL := Aside0.mk hyl
        have DN := Aside0.mk hdn
        have WS := Aside0.mk hws
        clear hy hyl hdn hws hCM
        obtain ⟨q, hq⟩ : ∃ q, p y = q := ⟨_, rfl⟩
        rw [hq] at hcall
        have Q := Aside0.mk hq
        have CL := Aside0.mk hcall
        clear hq hcall
        cases q with
        | true =>
          go_wp2_with (go_at_fn g; refine (CL.out _ (HC.out.alloc WS.out _) (KP.out.alloc _)).mono ?_; rintro e w2 ⟨rfl, hb⟩)
          go_roundg (n - (j + 1))
          case measure => omega
          case rel => exact ⟨i, j + 1, M, by omega, by omega, by omega, rfl, by first | rfl | go_num, ⟨by rw [del_skip p l0 j hjl (by rw [YL.out]; exact Q.out)]; exact MM.out.1, DN.out, MM.out.2.2⟩, ⟨Kd.R_below (Kd.R_alloc RR.out _) hb⟩, ⟨(HB.out.alloc WS.out _).trans (hb.mono (by have := WS.out; simp; omega))⟩, ⟨(HC.out.alloc WS.out _).trans (hb.mono (by have := WS.out; simp; omega))⟩, ⟨kept_trans_ (KP.out.alloc _) (kept_below_ hb)⟩⟩
        | false =>
          go_wp2_with (first
            | (go_at_fn g; refine (CL.out _ (HC.out.alloc WS.out _) (KP.out.alloc _)).mono ?_; rintro e w2 ⟨rfl, hb⟩; have BW := Aside0.mk (below_size hb); have k5 := (blk_below (heap_alloc_new wr (.cells #[.string y.f0, .string y.f1] 68)) hb); have n1 := Aside0.mk (Kd.R_below (Kd.R_alloc RR.out _) hb); have n2 := Aside0.mk ((HB.out.alloc WS.out _).trans (hb.mono (by have := WS.out; simp; omega))); have n3 := Aside0.mk ((HC.out.alloc WS.out _).trans (hb.mono (by have := WS.out; simp; omega))); have n4 := Aside0.mk (kept_trans_ (KP.out.alloc (.cells #[.string y.f0, .string y.f1] 68)) (kept_below_ hb)); clear hb; have k6 : w2.cell? ⟨wr.heap.size, 0, none⟩ = some (.string y.f0) := (blk_cell k5 0).trans rfl; have k7 : w2.cell? ⟨wr.heap.size, 1, none⟩ = some (.string y.f1) := (blk_cell k5 1).trans rfl)
            | ((with_reducible refine gate_ (.store 68 (.tmp 33) (.tmp 32)) rfl ?_); obtain ⟨cc, hcl, hcc⟩ := row_old68 (row_C68 n1.out) i (by omega); refine Kd.R_store k68 (w0 := w0) base rfl rfl 68 (.tmp 33) (.tmp 32) rfl 68 (i : Int) 0 M y (.agg #[.string y.f0, .string y.f1]) [.string y.f0, .string y.f1] cc (fun _ => True) (fun _ => False) rfl (by simp; rfl) rfl rfl (by kernel_rfl) ?s1 n1.out hi0 hiz hcl hcc (by show 0 + 2 ≤ 2; decide) ?s2 (fun _ hk => hk.elim) n2.out ?_; (case s1 => intro q hq; simp only [List.mem_cons, List.not_mem_nil, or_false] at hq; rcases hq with rfl | rfl <;> rfl); (case s2 => rw [List.take_zero, List.nil_append, List.drop_of_length_le (by rw [hcl]; simp), List.append_nil]; exact k68_mkM _ _ _ y); intro w3 hr3 hb3 hg3; have K8 := Aside0.mk hr3; have K9 := Aside0.mk hb3; have K10 := Aside0.mk hg3; clear hr3 hb3 hg3))
          go_roundg (n - (j + 1))
          case measure => omega
          case rel =>
            have him : i < M.length := by rw [MM.out.2.2]; omega
            have hbb : base ≤ b := Kd.R_base n1.out b rfl
            refine ⟨i + 1, j + 1, M.set i y, by omega, by omega, by omega, by first | rfl | go_num, by first | rfl | go_num, ⟨?_, ?_, ?_⟩, K8, K9, ⟨n3.out.trans ⟨K10.out.os, K10.out.tape, K10.out.output, K10.out.size, fun k hk => ?_⟩⟩, ⟨kept_trans_ n4.out (kept_grown2_ K10.out rfl)⟩⟩
            · rw [del_keep p l0 j hjl (by rw [YL.out]; exact Q.out), YL.out, ← MM.out.1]
              rw [List.take_succ_eq_append_getElem (by rw [List.length_set]; exact him), List.getElem_set_self, List.take_set_of_le (Nat.le_refl _)]
            · rw [List.drop_set_of_lt (by omega)]; exact DN.out
            · rw [List.length_set]; exact MM.out.2.2
            · exact K10.out.block k (by have := BW.out; have := WS.out; simp at *; omega) (by intro h; injection h with h; omega)
      · have hltz : decide ((j : Int) < (n : Int)) = false := decide_eq_false (by omega)
        have hjn' : j = n := by omega
        have hF : l0.filter (fun x => !p x) = M.take i := by rw [MM.out.1, List.take_of_length_le (by rw [← N.out]; omega)]
        have hMi : (M.take i).length = i := by rw [List.length_take, MM.out.2.2]; omega
        obtain ⟨_, ho1, ho2⟩ := own68 RR.out
        rcases ho2 with ⟨h, _⟩ | ⟨b', c', cur, e, hg, hh, hnc, hcm, hcs, htk⟩
        · cases h
        · injection e with e1 e2 e3
          injection e1 with e1
          injection e1 with e1 _
          subst e1; subst e3
          clear e2
          obtain ⟨zs, hzs⟩ : ∃ zs, zs = (Builtin.zeroCells (((.agg #[(.string ⟨#[]⟩), (.string ⟨#[]⟩)]) : Value)).cells (n - i)).toList := ⟨_, rfl⟩
          have hzl : zs.length = (n - i) * 2 := by rw [hzs, Array.length_toList, zero_size]; rfl
          obtain ⟨NEW, hNEW⟩ : ∃ NEW, NEW = (cur.toList.take (i * 2) ++ zs ++ cur.toList.drop (i * 2 + zs.length)).toArray := ⟨_, rfl⟩
          have hin : i ≤ n := by omega
          have hfit : i * 2 + (n - i) * 2 ≤ cur.size := by
            have : i * 2 + (n - i) * 2 = n * 2 := by omega
            have h2 : n * 2 ≤ c * 2 := by omega
            omega
          have hcl : ∀ (W : World) (ty : TypeId) (c2 : Nat), W.heap[b]? = some (.cells cur 68 (0, 0)) → (Builtin.clear_ #[22] ty #[.slice (some ⟨b, i * 2, none⟩) (n - i) c2]).run Try.prog W = .ok (.tuple #[]) (W.setRow b NEW) := fun W ty c2 hW => by
            have h := run_clear_rowK (P := Try.prog) W 22 68 ty (.agg #[(.string ⟨#[]⟩), (.string ⟨#[]⟩)]) Try.underlying22 Try.zeroValue68 2 rfl (by decide) (by intro v hv; simp only [Value.cells, List.mem_cons, List.not_mem_nil, or_false] at hv; rcases hv with rfl | rfl <;> rfl) b (i * 2) (n - i) c2 cur 68 hW (by omega) hfit
            rw [← hzs, ← hNEW] at h
            exact h
          have hns : NEW.size = c * 2 := by
            rw [hNEW, List.size_toArray, List.length_append, List.length_append, List.length_take, List.length_drop, hzl, Array.length_toList]
            omega
          have hnt : NEW.toList.take (i * 2) = (M.take i).flatMap flc68 := by
            rw [hNEW, List.toList_toArray, List.append_assoc, List.take_left' (by rw [List.length_take, Array.length_toList]; omega)]
            rw [← flat_take flc68 flc68_len, ← htk, List.take_take]
            congr 1
            rw [MM.out.2.2]
            omega
          have hci : ¬ (c = i) := by have := MM.out.2.2; omega
          have hcn : (n : Int) ≤ (c : Int) := by have := MM.out.2.2; omega
          have hiz : (i : Int) ≤ (n : Int) := by omega
          have hic : (i : Int) ≤ (c : Int) := by have := MM.out.2.2; omega
          have hi0 : (0 : Int) ≤ (i : Int) := by omega
          have X1 := Aside0.mk hns
          have X2 := Aside0.mk hnt
          have X3 := Aside0.mk hF
          have X4 := Aside0.mk hcm
          have X5 := Aside0.mk hMi
          have X6 := Aside0.mk hg
          have X7 := Aside0.mk hcl
          have X8 := Aside0.mk hh
          have hcw := hcl wr 0 (c - i) hh
          clear hns hnt hF hcm hMi hg hcl hh hNEW hzs hzl hfit htk hcs hnc ho1
          go_wp2_with (simp only [hcw])
          go_ret
          refine ⟨_, rfl, ?_, HB.out.trans (below_setRow (Below.refl _ _) X6.out _), rfl, kept_trans_ KP.out (kept_setRow_ _ _ rfl)⟩
          rw [X3.out]
          refine row68 (fun _ _ => trivial) ⟨flat_len flc68 flc68_len _, .inr ⟨b, c, NEW, by rw [X5.out]; rfl, X6.out, setRow_heap _ _ cur _ 68 _ X8.out, ?_, X4.out, X1.out, by rw [X5.out]; exact X2.out⟩⟩
          rw [X5.out]
          omega
theorem api_Pair_73.calls (p : S68 → Bool) (g : Nat) (lb : Array Value) (eg : ∀ args w, (callFunc g args).run Try.prog w = .ok (.enter g args) w) (base : Nat) (u : Value) (l0 : List S68) (w0 w : World) (hr : Kd.R k68 68 w base (fun _ => True) u l0) (HB : Below base w0 w) (hbase : base ≤ w.heap.size)
    (hp : ∀ (W : World) (x : S68), Below base w W → Calls Try.prog g (#[.agg #[.string x.f0, .string x.f1]] ++ lb) W fun e w' => e = .returned (.bool (p x)) ∧ Below W.heap.size W w') :
    Calls Try.prog 73 #[u, .func (.func g) #[] lb] w fun e w' => ∃ v', e = .returned v' ∧ Kd.R k68 68 w' base (fun _ => True) v' (l0.filter (fun x => !p x)) ∧ Below base w0 w' :=
  (api_Pair_73_k.calls p g lb eg base u l0 w0 w hr HB hbase (fun W x hb _ => hp W x hb)).mono fun e w' ⟨v', he, h1, h2, _⟩ => ⟨v', he, h1, h2⟩

open Go.Proofs.Ythcdlgphabaidaa.Cp
/-! ### table_Drop: function 69 -/
theorem enters74 : ∀ args w, (callFunc 74 args).run Try.prog w = .ok (.enter 74 args) w := enters_of Try.func74 (by kernel_rfl) rfl
set_option maxHeartbeats 8000000 in
theorem table_Drop_1.calls (x : S68) (key : ByteArray) (B : Nat) (W : World) (hc : W.cell? ⟨B, 0, none⟩ = some (.string key)) :
    Calls Try.prog 74 #[.agg #[.string x.f0, .string x.f1], .pointer (some ⟨B, 0, none⟩)] W fun e w' => e = .returned (.bool (eqK68 key x)) ∧ Below W.heap.size W w' := by
  have hu68 := Try.underlying68
  have hB := World.block_lt_of_cell? W _ hc
  go_enter Try.func74, Try.ntmps74
  go_wp2
  go_ret
  exact ⟨rfl, (Below.refl _ _).alloc (Nat.le_refl _) _⟩
set_option maxHeartbeats 8000000 in
theorem table_Drop.calls (A0 : Option Addr) (c0 : Nat) (l0 : List (S68)) (a1 : ByteArray) (r : List S68) (w : World) (hr0 : Kd.C k68 w A0 l0.length l0) (hc0 : l0.length ≤ c0) (h : table_Drop.f l0 a1 = some r) :
    Calls Try.prog 69 #[.slice A0 l0.length c0, .string a1] w fun e w' => ∃ v0_ : Value, e = .returned (v0_) ∧ Kd.R k68 68 w' w.heap.size (fun _ => True) v0_ r ∧ Below w.heap.size w w' := by
  obtain ⟨y, hy, h2⟩ := Option.bind_eq_some_iff.1 h
  obtain rfl := Option.some.inj h2
  have HY := Aside0.mk hy
  have HR := Aside0.mk hr0
  have HC := Aside0.mk hc0
  clear hy hr0 hc0 h h2
  obtain ⟨W1, hW1⟩ : ∃ W1, W1 = w.alloc (.cells #[.string a1] 9) := ⟨_, rfl⟩
  have hs1 : W1.heap.size = w.heap.size + 1 := by rw [hW1]; simp
  have hB1 : Below w.heap.size w W1 := by rw [hW1]; exact Below.alloc (Below.refl _ _) (Nat.le_refl _) _
  have hk1 : W1.cell? ⟨w.heap.size, 0, none⟩ = some (.string a1) := by rw [hW1]; go_simp
  have hR1 : Kd.C k68 W1 A0 l0.length l0 := by rw [hW1]; exact Kd.C_alloc HR.out _
  have D : ∀ (w2 : World) (v : Value), Kd.R k68 68 w2 W1.heap.size (fun _ => True) v y → Below W1.heap.size W1 w2 → Calls Try.prog 73 #[v, .func (.func 74) #[] #[.pointer (some ⟨w.heap.size, 0, none⟩)]] w2 fun e w' => ∃ v' : Value, e = .returned v' ∧ Kd.R k68 68 w' w.heap.size (fun _ => True) v' (dropL68 y a1) ∧ Below w.heap.size w w' := by
    intro w2 v hR hB
    refine (api_Pair_73.calls (eqK68 a1) 74 #[.pointer (some ⟨w.heap.size, 0, none⟩)] enters74 W1.heap.size v y W1 w2 hR hB hB.size (fun W x hb => table_Drop_1.calls x a1 w.heap.size W ?_)).mono ?_
    · exact ((hB.trans hb).cell (p := ⟨w.heap.size, 0, none⟩) (by rw [hs1]; show w.heap.size < _; omega)).trans hk1
    · rintro e w' ⟨v', rfl, hr, hb⟩
      exact ⟨v', rfl, Kd.R_lower hr (by omega), hB1.trans (hb.mono (by omega))⟩
  have CL := Aside0.mk (api_Pair_58.calls A0 c0 l0 y W1 hR1 HC.out HY.out)
  have DD := Aside0.mk D
  rw [hW1] at CL
  clear D hR1 hk1 hB1 hs1
  go_enter Try.func69, Try.ntmps69
  go_wp2_with (first
    | (go_at_call 58; refine CL.out.mono ?_; rintro e w2 ⟨v, rfl, hR, hB⟩; rw [← hW1] at hR hB; have D2 := Aside0.mk (DD.out w2 v hR hB); clear hR hB)
    | (go_at_call 73; refine D2.out.mono ?_; rintro e w3 ⟨v', rfl, hr3, hb3⟩; have R3 := Aside0.mk hr3; have B3 := Aside0.mk hb3; clear hr3 hb3))
  go_ret
  exact ⟨_, rfl, R3.out, B3.out⟩

open Go.Proofs.Ythcdlgphabaidaa.Cp
/-! ### table_Apply: function 47 -/
set_option maxHeartbeats 8000000 in
theorem table_Apply_put.calls (f0 f1 : ByteArray) (f2 : Bool) (A0 : Option Addr) (c0 : Nat) (l0 : List (S68)) (r : List S68) (w : World) (hr0 : Kd.C k68 w A0 l0.length l0) (hc0 : l0.length ≤ c0) (h : table_Put.f l0 f0 f1 = some r) :
    Calls Try.prog 59 #[.agg #[.string f0, .string f1, .bool f2], .slice A0 l0.length c0] w fun e w' => ∃ v0_ : Value, e = .returned (v0_) ∧ Kd.R k68 68 w' w.heap.size (fun _ => True) v0_ r ∧ Below w.heap.size w w' := by
  obtain ⟨W1, hW1⟩ : ∃ W1, W1 = w.alloc (.cells #[.string f0, .string f1, .bool f2] 106) := ⟨_, rfl⟩
  have hB1 : Below w.heap.size w W1 := by rw [hW1]; exact Below.alloc (Below.refl _ _) (Nat.le_refl _) _
  have hs1 : W1.heap.size = w.heap.size + 1 := by rw [hW1]; simp
  have D := table_Put.calls A0 c0 l0 f0 f1 r W1 (by rw [hW1]; exact Kd.C_alloc hr0 _) hc0 h
  have DD := Aside0.mk D
  rw [hW1] at DD
  clear D hr0 hc0 h
  go_enter Try.func59, Try.ntmps59
  go_wp2_with (go_at_call 48; refine DD.out.mono ?_; rintro e w3 ⟨v', rfl, hr3, hb3⟩; rw [← hW1] at hr3 hb3; have R3 := Aside0.mk (Kd.R_lower hr3 (by omega : w.heap.size ≤ W1.heap.size)); have B3 := Aside0.mk (hB1.trans (hb3.mono (by omega))); clear hr3 hb3)
  go_ret
  exact ⟨_, rfl, R3.out, B3.out⟩
set_option maxHeartbeats 8000000 in
theorem table_Apply_drop.calls (f0 f1 : ByteArray) (f2 : Bool) (A0 : Option Addr) (c0 : Nat) (l0 : List (S68)) (r : List S68) (w : World) (hr0 : Kd.C k68 w A0 l0.length l0) (hc0 : l0.length ≤ c0) (h : table_Drop.f l0 f0 = some r) :
    Calls Try.prog 60 #[.agg #[.string f0, .string f1, .bool f2], .slice A0 l0.length c0] w fun e w' => ∃ v0_ : Value, e = .returned (v0_) ∧ Kd.R k68 68 w' w.heap.size (fun _ => True) v0_ r ∧ Below w.heap.size w w' := by
  obtain ⟨W1, hW1⟩ : ∃ W1, W1 = w.alloc (.cells #[.string f0, .string f1, .bool f2] 106) := ⟨_, rfl⟩
  have hB1 : Below w.heap.size w W1 := by rw [hW1]; exact Below.alloc (Below.refl _ _) (Nat.le_refl _) _
  have hs1 : W1.heap.size = w.heap.size + 1 := by rw [hW1]; simp
  have D := table_Drop.calls A0 c0 l0 f0 r W1 (by rw [hW1]; exact Kd.C_alloc hr0 _) hc0 h
  have DD := Aside0.mk D
  rw [hW1] at DD
  clear D hr0 hc0 h
  go_enter Try.func60, Try.ntmps60
  go_wp2_with (go_at_call 69; refine DD.out.mono ?_; rintro e w3 ⟨v', rfl, hr3, hb3⟩; rw [← hW1] at hr3 hb3; have R3 := Aside0.mk (Kd.R_lower hr3 (by omega : w.heap.size ≤ W1.heap.size)); have B3 := Aside0.mk (hB1.trans (hb3.mono (by omega))); clear hr3 hb3)
  go_ret
  exact ⟨_, rfl, R3.out, B3.out⟩
set_option maxHeartbeats 8000000 in
set_option maxRecDepth 100000 in
theorem table_Apply.calls (A0 : Option Addr) (c0 : Nat) (l0 : List S68) (A1 : Option Addr) (c1 : Nat) (l1 : List S54) (r : List S68) (w : World) (hr0 : Kd.C k68 w A0 l0.length l0) (hc0 : l0.length ≤ c0) (hr1 : Kd.C k54 w A1 l1.length l1) (hc1 : l1.length ≤ c1) (h : table_Apply.f l0 l1 = some r) :
    Calls Try.prog 47 #[.slice A0 l0.length c0, .slice A1 l1.length c1] w fun e w' => ∃ v0_ : Value, e = .returned (v0_) ∧ Kd.R k68 68 w' w.heap.size (fun _ => True) v0_ r ∧ Below w.heap.size w w' := by
  have hu68 := Try.underlying68
  obtain ⟨y, hy, h2⟩ := Option.bind_eq_some_iff.1 h
  have hmx := hr1.2.1
  have CL := Aside0.mk (api_Pair_58.calls A0 c0 l0 y w hr0 hc0 hy)
  have C1 := Aside0.mk hr1
  have RR := Aside0.mk h2
  clear hy hr0 hc0 h h2 hr1 hc1
  go_enter Try.func47, Try.ntmps47
  go_wp2_with (go_at_call 58; refine CL.out.mono ?_; rintro e w2 ⟨v, rfl, hR, hB⟩; have R2 := Aside0.mk hR; have B2 := Aside0.mk hB; clear hR hB)
  go_loopg [0, 12] l1.length (fun gg s0 s12 wr => ∃ (j : Nat) (M : List S68), j ≤ l1.length ∧ l1.length - j ≤ gg ∧ s12 = .int .i64 j ∧ Aside0 (applyF68 M (l1.drop j) = some r) ∧ Aside0 (Kd.R k68 68 wr w.heap.size (fun _ => True) s0 M) ∧ Aside0 (Below w.heap.size w wr))
  case atStart => exact ⟨0, y, Nat.zero_le _, by omega, rfl, RR, R2, B2⟩
  case round =>
    obtain ⟨j, M, hj, hgg, rfl, HA, HR, HB⟩ := hrel
    by_cases hlt : j < l1.length
    · have hltz : (j : Int) < (l1.length : Int) := by omega
      obtain ⟨ad, e, hx0, hx1, hx2⟩ := at_T54 (Kd.C_below C1.out HB.out) (j : Int) (by omega) hltz
      cases e
      have hh := HA.out
      rw [List.drop_eq_getElem_cons hlt] at hh
      have e0 : rd_T54 l1 (j : Int) = l1[j] := by simp [rd_T54, List.getD_eq_getElem?_getD, hlt]
      rw [e0] at hx0 hx1 hx2
      simp only [Int.toNat_natCast] at hx0 hx1 hx2
      clear e0
      obtain ⟨x, hx⟩ : ∃ x, l1[j] = x := ⟨_, rfl⟩
      rw [hx] at hh hx0 hx1 hx2
      obtain ⟨f0, f1, f2⟩ := x
      simp only at hx0 hx1 hx2
      simp only [applyF68] at hh
      obtain ⟨z, hz, hh2⟩ := Option.bind_eq_some_iff.1 hh
      obtain ⟨A, c, rfl, hc, hC⟩ := Kd.R_reads HR.out
      have Z := Aside0.mk hh2
      have CC := Aside0.mk hC
      have CM := Aside0.mk hc
      clear hh hh2 hC hc hx
      cases f2 with
      | true =>
        rw [if_pos rfl] at hz
        have HZ := Aside0.mk hz
        clear hz
        obtain ⟨W1, hW1⟩ : ∃ W1, W1 = wr.alloc (.cells #[.string f0, .string f1, .bool true] 54) := ⟨_, rfl⟩
        have hs1 : w.heap.size ≤ W1.heap.size := by have := below_size HB.out; rw [hW1]; simp; omega
        have hB1 := Aside0.mk (show Below w.heap.size w W1 by rw [hW1]; exact below_alloc HB.out _)
        have D := Aside0.mk (table_Apply_drop.calls f0 f1 true A c M z W1 (by rw [hW1]; exact Kd.C_alloc CC.out _) CM.out HZ.out)
        rw [hW1] at D
        go_wp2_with (refine D.out.mono ?_; rintro e w3 ⟨v', rfl, hr3, hb3⟩; rw [← hW1] at hr3 hb3; have R3 := Aside0.mk (Kd.R_lower hr3 hs1); have B3 := Aside0.mk (below_step hB1.out hb3); clear hr3 hb3)
        go_roundg (l1.length - (j + 1))
        case measure => omega
        case rel => exact ⟨j + 1, z, by omega, by omega, by go_num, Z, R3, B3⟩
      | false =>
        rw [if_neg (by decide)] at hz
        have HZ := Aside0.mk hz
        clear hz
        obtain ⟨W1, hW1⟩ : ∃ W1, W1 = wr.alloc (.cells #[.string f0, .string f1, .bool false] 54) := ⟨_, rfl⟩
        have hs1 : w.heap.size ≤ W1.heap.size := by have := below_size HB.out; rw [hW1]; simp; omega
        have hB1 := Aside0.mk (show Below w.heap.size w W1 by rw [hW1]; exact below_alloc HB.out _)
        have D := Aside0.mk (table_Apply_put.calls f0 f1 false A c M z W1 (by rw [hW1]; exact Kd.C_alloc CC.out _) CM.out HZ.out)
        rw [hW1] at D
        go_wp2_with (refine D.out.mono ?_; rintro e w3 ⟨v', rfl, hr3, hb3⟩; rw [← hW1] at hr3 hb3; have R3 := Aside0.mk (Kd.R_lower hr3 hs1); have B3 := Aside0.mk (below_step hB1.out hb3); clear hr3 hb3)
        go_roundg (l1.length - (j + 1))
        case measure => omega
        case rel => exact ⟨j + 1, z, by omega, by omega, by go_num, Z, R3, B3⟩
    · have hltz : decide ((j : Int) < (l1.length : Int)) = false := decide_eq_false (by omega)
      have hF : M = r := by
        have := HA.out
        rw [List.drop_of_length_le (by omega)] at this
        exact Option.some.inj this
      subst hF
      obtain ⟨A, c, rfl, hc, hC⟩ := Kd.R_reads HR.out
      clear hc hC
      go_wp2
      go_ret
      exact ⟨_, rfl, HR.out, HB.out⟩

end Go.Proofs.Ythcdlgphabaidaa.PB
