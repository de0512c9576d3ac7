-- Made by a program of this workplace out of the translation (wip/tools in the repo). Not trusted: Lean checks it.
import Derived.Test.YtbhkopbalhhpgaaPHx0
import Derived.Test.YtbhkopbalhhpgaaCb
import Derived.Test.YtbhkopbalhhpgaaPHx1
import Derived.Test.YtbhkopbalhhpgaaPHx6
import Derived.Test.YtbhkopbalhhpgaaPHx7
namespace Go.Proofs.Ytbhkopbalhhpgaa.PH
open Go.RowKit Go.Proofs.YtbhkopbalhhpgaaW.PrintWords Go.Proofs.YtbhkopbalhhpgaaW.PrintLast Go.Proofs.YtbhkopbalhhpgaaW.PrintMore Go.Proofs.Ytbhkopbalhhpgaa
attribute [local go_sem] max2_int min2_int max_two min_two max_three min_three max_four min_four   -- for this text's walks alone
set_option linter.unusedVariables false
set_option linter.unusedSimpArgs false

/-! ### disk_Append: function 40 -/
set_option maxHeartbeats 8000000 in
set_option maxRecDepth 100000 in
theorem disk_Append.calls (k : Nat) (P0_0_ : Nat → Prop) (A0_0 : Option Addr) (c0_0 : Nat) (l0_0 : List (S38)) (a0_1 : Int) (a0_2 : Int) (a0_3 : Bool) (a1 : ByteArray) (a2 : ByteArray) (r1 : List (S38)) (r2 : Int) (r3 : Int) (r4 : Bool) (r5 : Int) (w : World) (hs0_0 : Kd.V k38 38 w w.heap.size (fun k_ => P0_0_ k_) (.slice A0_0 l0_0.length c0_0) l0_0) (h : disk_Append.f k l0_0 a0_1 a0_2 a0_3 a1 a2 = some (r1, r2, r3, r4, r5)) :
    Calls Try.prog 40 #[.agg #[.slice A0_0 l0_0.length c0_0, .int .i64 a0_1, .int .i64 a0_2, .bool a0_3], .string a1, .string a2] w fun e w' => ∃ v0_ : Value, e = .returned (.tuple #[.agg #[v0_, .int .i64 r2, .int .i64 r3, .bool r4], .int .i64 r5]) ∧ Kd.V k38 38 w' w.heap.size (fun k_ => (P0_0_ k_ ∨ w.heap.size ≤ k_)) v0_ r1 ∧ Below w.heap.size w w' := by
  have hu33 := Try.underlying33
  have hu38 := Try.underlying38
  have HO0_0 := Aside0.mk (show Kd.V k38 38 w w.heap.size (fun k_ => (P0_0_ k_ ∨ w.heap.size ≤ k_)) (.slice A0_0 l0_0.length c0_0) l0_0 from Kd.V_mono hs0_0 (fun k_ hk => .inl hk))
  have HB := Aside0.mk (Below.refl w.heap.size w)
  have H : ((disk_Find.f l0_0 a0_1 a0_2 a0_3 a1).bind fun bt234 => (if a0_3 = true then (some (l0_0, a0_1, a0_2, a0_3, 6)) else ((disk_named.f a1).bind fun t239 => (if t239 = true then (if bt234.2.2.2 = true then (disk_Append.j0 k a1 a2 bt234.2.2.2 false l0_0 a0_1 a0_2 a0_3 bt234.1 bt234.2.1 bt234.2.2.1) else (disk_Append.j0 k a1 a2 bt234.2.2.2 (decide ((l0_0.length : Int) ≥ 64)) l0_0 a0_1 a0_2 a0_3 bt234.1 bt234.2.1 bt234.2.2.1)) else (some (l0_0, a0_1, a0_2, a0_3, 1)))))) = some (r1, r2, r3, r4, r5) := h
  clear h
  replace H := Option.bind_eq_some_iff.mp H
  obtain ⟨⟨t234, t235, t236, t237⟩, A40, H⟩ := H
  replace H : (if a0_3 = true then (some (l0_0, a0_1, a0_2, a0_3, 6)) else ((disk_named.f a1).bind fun t239 => (if t239 = true then (if t237 = true then (disk_Append.j0 k a1 a2 t237 false l0_0 a0_1 a0_2 a0_3 t234 t235 t236) else (disk_Append.j0 k a1 a2 t237 (decide ((l0_0.length : Int) ≥ 64)) l0_0 a0_1 a0_2 a0_3 t234 t235 t236)) else (some (l0_0, a0_1, a0_2, a0_3, 1))))) = some (r1, r2, r3, r4, r5) := H
  have A4 := Aside0.mk A40
  clear A40
  by_cases c5 : a0_3 = true
  · subst c5
    have H1 : (some (l0_0, a0_1, a0_2, true, 6)) = some (r1, r2, r3, r4, r5) := by rw [if_pos rfl] at H; exact H
    clear H
    have H := H1
    clear H1
    simp only [Option.some.injEq, Prod.mk.injEq] at H
    obtain ⟨rfl, rfl, rfl, rfl, rfl⟩ := H
    go_enter Try.func40, Try.ntmps40
    go_wp2_with (first | ((with_reducible refine gate_dst (N := 3) rfl ?_); (try (refine gate_guard (by rfl) ?_; dsimp only)); refine box_event ?hg (N := 3) ?hd (cs := #[.slice A0_0 l0_0.length c0_0, .int .i64 a0_1, .int .i64 a0_2, .bool true]) (t := 33) ?hr ?_; (case hd => rfl); (case hg => rfl); (case hr => first | (go_simp; done) | (go_simp; rfl)); intro gb232 hg w6 hbox hb; obtain ⟨n_, GE232⟩ := Cb.bx (by repeat (first | (with_reducible first | exact HB.out | apply below_alloc | apply pw_below_drewN | apply below_drew1) | exact HB.out)) hg hb; have GW232 := GE232; have BK232 := Aside0.mk (hbox); replace HO0_0 := Aside0.mk (Kd.V_below (Kd.V_elderB (by (with_reducible repeat (first | apply Kd.V_alloc | apply Kd.V_drewN | apply Kd.V_drew)); exact HO0_0.out) gb232 (Nat.le_of_eq hg.symm)) hb); replace HB := n_; clear n_; clear hb hbox hg) | ((with_reducible refine gate_dst (N := 6) rfl ?_); (try (refine gate_guard (by rfl) ?_; dsimp only)); refine box_event ?hg (N := 6) ?hd (cs := #[.slice none 0 0, .int .i64 0, .int .i64 0, .bool false]) (t := 33) ?hr ?_; (case hd => rfl); (case hg => rfl); (case hr => first | (go_simp; done) | (go_simp; rfl)); intro gb233 hg w7 hbox hb; obtain ⟨n_, GE233⟩ := Cb.bx (by repeat (first | (with_reducible first | exact HB.out | apply below_alloc | apply pw_below_drewN | apply below_drew1 | refine below_set ?_ GE232.out) | exact HB.out)) hg hb; have GW233 := GE233; obtain ⟨NB232_233, NB233_232⟩ := Cb.nb hg BK232.out; have BK233 := Aside0.mk (hbox); replace HO0_0 := Aside0.mk (Kd.V_below (Kd.V_elderB (by (with_reducible repeat (first | apply Kd.V_alloc | apply Kd.V_drewN | apply Kd.V_drew)); exact HO0_0.out) gb233 (Nat.le_of_eq hg.symm)) hb); replace BK232 := Aside0.mk (blk_below BK232.out hb); replace HB := n_; clear n_; clear hb hbox hg; have hnb8 := NB232_233.out; have hnc8 := NB233_232.out; obtain ⟨hcz9_0, hcz9_1, hcz9_2, hcz9_3⟩ := Cb.c4 BK232.out; obtain ⟨hfz9_0, hfz9_1, hfz9_2, hfz9_3⟩ := Cb.f4 BK232.out) | ((with_reducible refine gate_callee (f := 38) rfl ?_); refine goesL_ (some 15) rfl rfl Try.func38 (by kernel_rfl) rfl #[.agg #[.slice A0_0 l0_0.length c0_0, .int .i64 a0_1, .int .i64 a0_2, .bool true], .string a1] rfl (by (try simp only [List.map_toArray, List.map_cons, List.map_nil]); first | done | rfl | (simp only [List.length_drop, List.length_take]; rfl)) ?_; (with_reducible refine (disk_Find.calls _ _ l0_0 a0_1 a0_2 true a1 t234 t235 t236 t237 _ ?side1 ?side2 A4.out).mono ?_); (case side1 => repeat (first | exact (Kd.V_reads' HO0_0.out).2.2 | (with_reducible refine Kd.C_alloc ?_ _) | (with_reducible refine Kd.C_drewN ?_ _) | (with_reducible refine Kd.C_drew ?_))); (case side2 => exact (Kd.V_reads' HO0_0.out).2.1); rintro e w10 ⟨rfl, hb⟩; refine ⟨_, rfl, ?_⟩; replace HO0_0 := Aside0.mk (Kd.V_below (by (with_reducible repeat (first | apply Kd.V_alloc | apply Kd.V_drewN | apply Kd.V_drew)); exact HO0_0.out) hb); replace BK232 := Aside0.mk (blk_below BK232.out hb); replace BK233 := Aside0.mk (blk_below BK233.out hb); replace HB := Aside0.mk (below_step (by repeat (first | (with_reducible first | exact HB.out | apply below_alloc | apply pw_below_drewN | apply below_drew1 | refine below_set ?_ GE232.out | refine below_set ?_ GE233.out) | exact HB.out)) hb); (try clear hb); (try clear hb2); (try clear hk); (try clear hi)) | ((with_reducible refine gate_dst (N := 8) rfl ?_); (try (refine gate_guard (by rfl) ?_; dsimp only)); refine box_event ?hg (N := 8) ?hd (cs := #[.string (⟨#[]⟩ : ByteArray), .string (⟨#[]⟩ : ByteArray), .string (⟨#[]⟩ : ByteArray)]) (t := 38) ?hr ?_; (case hd => rfl); (case hg => rfl); (case hr => first | (go_simp; done) | (go_simp; rfl)); intro gb238 hg w11 hbox hb; obtain ⟨n_, GE238⟩ := Cb.bx (by repeat (first | (with_reducible first | exact HB.out | apply below_alloc | apply pw_below_drewN | apply below_drew1 | refine below_set ?_ GE232.out | refine below_set ?_ GE233.out) | exact HB.out)) hg hb; have GW238 := GE238; obtain ⟨NB232_238, NB238_232⟩ := Cb.nb hg BK232.out; obtain ⟨NB233_238, NB238_233⟩ := Cb.nb hg BK233.out; have BK238 := Aside0.mk (hbox); replace HO0_0 := Aside0.mk (Kd.V_below (Kd.V_elderB (by (with_reducible repeat (first | apply Kd.V_alloc | apply Kd.V_drewN | apply Kd.V_drew)); exact HO0_0.out) gb238 (Nat.le_of_eq hg.symm)) hb); replace BK232 := Aside0.mk (blk_below BK232.out hb); replace BK233 := Aside0.mk (blk_below BK233.out hb); replace HB := n_; clear n_; clear hb hbox hg; have hnb12 := NB238_232.out; have hnc12 := NB232_238.out; have hnb13 := NB238_233.out; have hnc13 := NB233_238.out; obtain ⟨hcz14_0, hcz14_1, hcz14_2⟩ := Cb.c3 BK238.out; obtain ⟨hfz14_0, hfz14_1, hfz14_2⟩ := Cb.f3 BK238.out) | ((with_reducible refine gate_store (t := 38) (p := 8) rfl ?_); refine store_event (t := 38) (p := 8) (v := ?vo_w15) (w1 := (((w11.setCell ⟨gb238, 0, none⟩ (.string t234)).setCell ⟨gb238, 1, none⟩ (.string t235)).setCell ⟨gb238, 2, none⟩ (.string t236))) ?hg ?ho ?hn ?hr ?_; (case ho => rfl); (case hg => rfl); (case hn => rfl); (case hr => first | (go_simp; done) | (go_simp; rfl)); intro w15 hw; have n0_ : Aside0 (Kd.V k38 38 w15 w.heap.size (fun k_ => (P0_0_ k_ ∨ w.heap.size ≤ k_) ∧ k_ ≠ gb232 ∧ k_ ≠ gb233 ∧ k_ ≠ gb238) (.slice A0_0 l0_0.length c0_0) l0_0) := ⟨(by rw [hw]; exact (by (with_reducible repeat (first | apply Kd.V_alloc | apply Kd.V_drewN | apply Kd.V_drew)); exact Kd.V_mono (Kd.V_far (p := ⟨gb238, 2, none⟩) (Kd.V_far (p := ⟨gb238, 1, none⟩) (Kd.V_far (p := ⟨gb238, 0, none⟩) (Kd.V_mono HO0_0.out (fun k_ hk => (⟨hk, hk.2⟩ : _ ∧ k_ ≠ gb238))) (fun _ hk => hk.2) (.string t234)) (fun _ hk => hk.2) (.string t235)) (fun _ hk => hk.2) (.string t236)) (fun _ hk => ⟨hk.1.1.1.1, ⟨hk.1.1.1.2, ⟨hk.1.1.2, hk.1.2⟩⟩⟩)))⟩; have n1_ : Aside0 (w15.heap[gb232]? = some (.cells #[.slice A0_0 l0_0.length c0_0, .int .i64 a0_1, .int .i64 a0_2, .bool true] 33 (0, 0))) := ⟨(by rw [hw]; exact (by (with_reducible repeat (first | refine blk_drewN ?_ _ | refine blk_drew ?_ | refine blk_alloc ?_ _)); refine blk_far ?_ NB232_238.out _; refine blk_far ?_ NB232_238.out _; refine blk_far ?_ NB232_238.out _; (with_reducible repeat (first | refine blk_drewN ?_ _ | refine blk_drew ?_ | refine blk_alloc ?_ _)); exact BK232.out))⟩; have n2_ : Aside0 (w15.heap[gb233]? = some (.cells #[.slice none 0 0, .int .i64 0, .int .i64 0, .bool false] 33 (0, 0))) := ⟨(by rw [hw]; exact (by (with_reducible repeat (first | refine blk_drewN ?_ _ | refine blk_drew ?_ | refine blk_alloc ?_ _)); refine blk_far ?_ NB233_238.out _; refine blk_far ?_ NB233_238.out _; refine blk_far ?_ NB233_238.out _; (with_reducible repeat (first | refine blk_drewN ?_ _ | refine blk_drew ?_ | refine blk_alloc ?_ _)); exact BK233.out))⟩; have n3_ : Aside0 (w15.heap[gb238]? = some (.cells #[.string t234, .string t235, .string t236] 38 (0, 0))) := ⟨(by rw [hw]; exact (by (with_reducible repeat (first | refine blk_drewN ?_ _ | refine blk_drew ?_ | refine blk_alloc ?_ _)); refine blk_put (cs := #[.string t234, .string t235, .string (⟨#[]⟩ : ByteArray)]) ?_ 2 _ rfl; refine blk_put (cs := #[.string t234, .string (⟨#[]⟩ : ByteArray), .string (⟨#[]⟩ : ByteArray)]) ?_ 1 _ rfl; refine blk_put (cs := #[.string (⟨#[]⟩ : ByteArray), .string (⟨#[]⟩ : ByteArray), .string (⟨#[]⟩ : ByteArray)]) ?_ 0 _ rfl; (with_reducible repeat (first | refine blk_drewN ?_ _ | refine blk_drew ?_ | refine blk_alloc ?_ _)); exact BK238.out))⟩; have n4_ : Aside0 (Below w.heap.size w w15) := ⟨(by rw [hw]; exact (by repeat (first | (with_reducible first | exact HB.out | apply below_alloc | apply pw_below_drewN | apply below_drew1 | refine below_set ?_ GE232.out | refine below_set ?_ GE233.out | refine below_set ?_ GE238.out) | exact HB.out)))⟩; clear hw; clear HO0_0; clear BK232; clear BK233; clear BK238; clear HB; have HO0_0 := n0_; have BK232 := n1_; have BK233 := n2_; have BK238 := n3_; have HB := n4_; clear n0_ n1_ n2_ n3_ n4_; obtain ⟨hcz16_0, hcz16_1, hcz16_2, hcz16_3⟩ := Cb.c4 BK232.out; obtain ⟨hfz16_0, hfz16_1, hfz16_2, hfz16_3⟩ := Cb.f4 BK232.out; obtain ⟨hcz17_0, hcz17_1, hcz17_2, hcz17_3⟩ := Cb.c4 BK233.out; obtain ⟨hfz17_0, hfz17_1, hfz17_2, hfz17_3⟩ := Cb.f4 BK233.out) | ((with_reducible refine gate_store (t := 33) (p := 6) rfl ?_); refine store_event (t := 33) (p := 6) (v := ?vo_w18) (w1 := ((((w15.setCell ⟨gb233, 0, none⟩ (.slice A0_0 l0_0.length c0_0)).setCell ⟨gb233, 1, none⟩ (.int .i64 a0_1)).setCell ⟨gb233, 2, none⟩ (.int .i64 a0_2)).setCell ⟨gb233, 3, none⟩ (.bool true))) ?hg ?ho ?hn ?hr ?_; (case ho => rfl); (case hg => rfl); (case hn => rfl); (case hr => first | (go_simp; done) | (go_simp; rfl)); intro w18 hw; have n0_ : Aside0 (Kd.V k38 38 w18 w.heap.size (fun k_ => (P0_0_ k_ ∨ w.heap.size ≤ k_) ∧ k_ ≠ gb232 ∧ k_ ≠ gb233 ∧ k_ ≠ gb238) (.slice A0_0 l0_0.length c0_0) l0_0) := ⟨(by rw [hw]; exact (by (with_reducible repeat (first | apply Kd.V_alloc | apply Kd.V_drewN | apply Kd.V_drew)); exact Kd.V_mono (Kd.V_far (p := ⟨gb233, 3, none⟩) (Kd.V_far (p := ⟨gb233, 2, none⟩) (Kd.V_far (p := ⟨gb233, 1, none⟩) (Kd.V_far (p := ⟨gb233, 0, none⟩) (Kd.V_mono HO0_0.out (fun k_ hk => (⟨hk, hk.2.2.1⟩ : _ ∧ k_ ≠ gb233))) (fun _ hk => hk.2) (.slice A0_0 l0_0.length c0_0)) (fun _ hk => hk.2) (.int .i64 a0_1)) (fun _ hk => hk.2) (.int .i64 a0_2)) (fun _ hk => hk.2) (.bool true)) (fun _ hk => ⟨hk.1.1, ⟨hk.1.2.1, ⟨hk.1.2.2.1, hk.1.2.2.2⟩⟩⟩)))⟩; have n1_ : Aside0 (w18.heap[gb232]? = some (.cells #[.slice A0_0 l0_0.length c0_0, .int .i64 a0_1, .int .i64 a0_2, .bool true] 33 (0, 0))) := ⟨(by rw [hw]; exact (by (with_reducible repeat (first | refine blk_drewN ?_ _ | refine blk_drew ?_ | refine blk_alloc ?_ _)); refine blk_far ?_ NB232_233.out _; refine blk_far ?_ NB232_233.out _; refine blk_far ?_ NB232_233.out _; refine blk_far ?_ NB232_233.out _; (with_reducible repeat (first | refine blk_drewN ?_ _ | refine blk_drew ?_ | refine blk_alloc ?_ _)); exact BK232.out))⟩; have n2_ : Aside0 (w18.heap[gb233]? = some (.cells #[.slice A0_0 l0_0.length c0_0, .int .i64 a0_1, .int .i64 a0_2, .bool true] 33 (0, 0))) := ⟨(by rw [hw]; exact (by (with_reducible repeat (first | refine blk_drewN ?_ _ | refine blk_drew ?_ | refine blk_alloc ?_ _)); refine blk_put (cs := #[.slice A0_0 l0_0.length c0_0, .int .i64 a0_1, .int .i64 a0_2, .bool false]) ?_ 3 _ rfl; refine blk_put (cs := #[.slice A0_0 l0_0.length c0_0, .int .i64 a0_1, .int .i64 0, .bool false]) ?_ 2 _ rfl; refine blk_put (cs := #[.slice A0_0 l0_0.length c0_0, .int .i64 0, .int .i64 0, .bool false]) ?_ 1 _ rfl; refine blk_put (cs := #[.slice none 0 0, .int .i64 0, .int .i64 0, .bool false]) ?_ 0 _ rfl; (with_reducible repeat (first | refine blk_drewN ?_ _ | refine blk_drew ?_ | refine blk_alloc ?_ _)); exact BK233.out))⟩; have n3_ : Aside0 (w18.heap[gb238]? = some (.cells #[.string t234, .string t235, .string t236] 38 (0, 0))) := ⟨(by rw [hw]; exact (by (with_reducible repeat (first | refine blk_drewN ?_ _ | refine blk_drew ?_ | refine blk_alloc ?_ _)); refine blk_far ?_ NB238_233.out _; refine blk_far ?_ NB238_233.out _; refine blk_far ?_ NB238_233.out _; refine blk_far ?_ NB238_233.out _; (with_reducible repeat (first | refine blk_drewN ?_ _ | refine blk_drew ?_ | refine blk_alloc ?_ _)); exact BK238.out))⟩; have n4_ : Aside0 (Below w.heap.size w w18) := ⟨(by rw [hw]; exact (by repeat (first | (with_reducible first | exact HB.out | apply below_alloc | apply pw_below_drewN | apply below_drew1 | refine below_set ?_ GE232.out | refine below_set ?_ GE233.out | refine below_set ?_ GE238.out) | exact HB.out)))⟩; clear hw; clear HO0_0; clear BK232; clear BK233; clear BK238; clear HB; have HO0_0 := n0_; have BK232 := n1_; have BK233 := n2_; have BK238 := n3_; have HB := n4_; clear n0_ n1_ n2_ n3_ n4_))
    refine bodyPost_ret (results_ct rfl _ _ gb233 33 #[.slice A0_0 l0_0.length c0_0, .int .i64 a0_1, .int .i64 a0_2, .bool true] (0, 0) _ rfl (by (with_reducible repeat (first | refine blk_drewN ?_ _ | refine blk_drew ?_ | refine blk_alloc ?_ _)); exact BK233.out) Try.underlying33 rfl (by kernel_rfl)) rfl ?_
    exact ⟨_, by first | rfl | (simp [errW_none, errW_some] <;> rfl) | (simp [*, errW_none, errW_some] <;> rfl), by (with_reducible repeat (first | apply Kd.V_alloc | apply Kd.V_drewN | apply Kd.V_drew)); exact Kd.V_mono HO0_0.out (fun _ hk => hk.1), by repeat (first | (with_reducible first | exact HB.out | apply below_alloc | apply pw_below_drewN | apply below_drew1 | refine below_set ?_ GE232.out | refine below_set ?_ GE233.out | refine below_set ?_ GE238.out) | exact HB.out)⟩
  · replace c5 := Bool.eq_false_iff.mpr c5
    subst c5
    have H1 : ((disk_named.f a1).bind fun t239 => (if t239 = true then (if t237 = true then (disk_Append.j0 k a1 a2 t237 false l0_0 a0_1 a0_2 false t234 t235 t236) else (disk_Append.j0 k a1 a2 t237 (decide ((l0_0.length : Int) ≥ 64)) l0_0 a0_1 a0_2 false t234 t235 t236)) else (some (l0_0, a0_1, a0_2, false, 1)))) = some (r1, r2, r3, r4, r5) := by rw [if_neg (show ¬ (false = true) by decide)] at H; exact H
    clear H
    have H := H1
    clear H1
    replace H := Option.bind_eq_some_iff.mp H
    obtain ⟨t239, A190, H⟩ := H
    replace H : (if t239 = true then (if t237 = true then (disk_Append.j0 k a1 a2 t237 false l0_0 a0_1 a0_2 false t234 t235 t236) else (disk_Append.j0 k a1 a2 t237 (decide ((l0_0.length : Int) ≥ 64)) l0_0 a0_1 a0_2 false t234 t235 t236)) else (some (l0_0, a0_1, a0_2, false, 1))) = some (r1, r2, r3, r4, r5) := H
    have A19 := Aside0.mk A190
    clear A190
    by_cases c20 : t239 = true
    · subst c20
      have H1 : (if t237 = true then (disk_Append.j0 k a1 a2 t237 false l0_0 a0_1 a0_2 false t234 t235 t236) else (disk_Append.j0 k a1 a2 t237 (decide ((l0_0.length : Int) ≥ 64)) l0_0 a0_1 a0_2 false t234 t235 t236)) = some (r1, r2, r3, r4, r5) := by rw [if_pos rfl] at H; exact H
      clear H
      have H := H1
      clear H1
      have HC21 := Aside0.mk H
      clear H
      go_enter Try.func40, Try.ntmps40
      go_upto_region 4 with (first | ((with_reducible refine gate_dst (N := 3) rfl ?_); (try (refine gate_guard (by rfl) ?_; dsimp only)); refine box_event ?hg (N := 3) ?hd (cs := #[.slice A0_0 l0_0.length c0_0, .int .i64 a0_1, .int .i64 a0_2, .bool false]) (t := 33) ?hr ?_; (case hd => rfl); (case hg => rfl); (case hr => first | (go_simp; done) | (go_simp; rfl)); intro gb232 hg w22 hbox hb; obtain ⟨n_, GE232⟩ := Cb.bx (by repeat (first | (with_reducible first | exact HB.out | apply below_alloc | apply pw_below_drewN | apply below_drew1) | exact HB.out)) hg hb; have GW232 := GE232; have BK232 := Aside0.mk (hbox); replace HO0_0 := Aside0.mk (Kd.V_below (Kd.V_elderB (by (with_reducible repeat (first | apply Kd.V_alloc | apply Kd.V_drewN | apply Kd.V_drew)); exact HO0_0.out) gb232 (Nat.le_of_eq hg.symm)) hb); replace HB := n_; clear n_; clear hb hbox hg) | ((with_reducible refine gate_dst (N := 6) rfl ?_); (try (refine gate_guard (by rfl) ?_; dsimp only)); refine box_event ?hg (N := 6) ?hd (cs := #[.slice none 0 0, .int .i64 0, .int .i64 0, .bool false]) (t := 33) ?hr ?_; (case hd => rfl); (case hg => rfl); (case hr => first | (go_simp; done) | (go_simp; rfl)); intro gb233 hg w23 hbox hb; obtain ⟨n_, GE233⟩ := Cb.bx (by repeat (first | (with_reducible first | exact HB.out | apply below_alloc | apply pw_below_drewN | apply below_drew1 | refine below_set ?_ GE232.out) | exact HB.out)) hg hb; have GW233 := GE233; obtain ⟨NB232_233, NB233_232⟩ := Cb.nb hg BK232.out; have BK233 := Aside0.mk (hbox); replace HO0_0 := Aside0.mk (Kd.V_below (Kd.V_elderB (by (with_reducible repeat (first | apply Kd.V_alloc | apply Kd.V_drewN | apply Kd.V_drew)); exact HO0_0.out) gb233 (Nat.le_of_eq hg.symm)) hb); replace BK232 := Aside0.mk (blk_below BK232.out hb); replace HB := n_; clear n_; clear hb hbox hg; have hnb24 := NB232_233.out; have hnc24 := NB233_232.out; obtain ⟨hcz25_0, hcz25_1, hcz25_2, hcz25_3⟩ := Cb.c4 BK232.out; obtain ⟨hfz25_0, hfz25_1, hfz25_2, hfz25_3⟩ := Cb.f4 BK232.out) | ((with_reducible refine gate_callee (f := 38) rfl ?_); refine goesL_ (some 15) rfl rfl Try.func38 (by kernel_rfl) rfl #[.agg #[.slice A0_0 l0_0.length c0_0, .int .i64 a0_1, .int .i64 a0_2, .bool false], .string a1] rfl (by (try simp only [List.map_toArray, List.map_cons, List.map_nil]); first | done | rfl | (simp only [List.length_drop, List.length_take]; rfl)) ?_; (with_reducible refine (disk_Find.calls _ _ l0_0 a0_1 a0_2 false a1 t234 t235 t236 t237 _ ?side1 ?side2 A4.out).mono ?_); (case side1 => repeat (first | exact (Kd.V_reads' HO0_0.out).2.2 | (with_reducible refine Kd.C_alloc ?_ _) | (with_reducible refine Kd.C_drewN ?_ _) | (with_reducible refine Kd.C_drew ?_))); (case side2 => exact (Kd.V_reads' HO0_0.out).2.1); rintro e w26 ⟨rfl, hb⟩; refine ⟨_, rfl, ?_⟩; replace HO0_0 := Aside0.mk (Kd.V_below (by (with_reducible repeat (first | apply Kd.V_alloc | apply Kd.V_drewN | apply Kd.V_drew)); exact HO0_0.out) hb); replace BK232 := Aside0.mk (blk_below BK232.out hb); replace BK233 := Aside0.mk (blk_below BK233.out hb); replace HB := Aside0.mk (below_step (by repeat (first | (with_reducible first | exact HB.out | apply below_alloc | apply pw_below_drewN | apply below_drew1 | refine below_set ?_ GE232.out | refine below_set ?_ GE233.out) | exact HB.out)) hb); (try clear hb); (try clear hb2); (try clear hk); (try clear hi)) | ((with_reducible refine gate_dst (N := 8) rfl ?_); (try (refine gate_guard (by rfl) ?_; dsimp only)); refine box_event ?hg (N := 8) ?hd (cs := #[.string (⟨#[]⟩ : ByteArray), .string (⟨#[]⟩ : ByteArray), .string (⟨#[]⟩ : ByteArray)]) (t := 38) ?hr ?_; (case hd => rfl); (case hg => rfl); (case hr => first | (go_simp; done) | (go_simp; rfl)); intro gb238 hg w27 hbox hb; obtain ⟨n_, GE238⟩ := Cb.bx (by repeat (first | (with_reducible first | exact HB.out | apply below_alloc | apply pw_below_drewN | apply below_drew1 | refine below_set ?_ GE232.out | refine below_set ?_ GE233.out) | exact HB.out)) hg hb; have GW238 := GE238; obtain ⟨NB232_238, NB238_232⟩ := Cb.nb hg BK232.out; obtain ⟨NB233_238, NB238_233⟩ := Cb.nb hg BK233.out; have BK238 := Aside0.mk (hbox); replace HO0_0 := Aside0.mk (Kd.V_below (Kd.V_elderB (by (with_reducible repeat (first | apply Kd.V_alloc | apply Kd.V_drewN | apply Kd.V_drew)); exact HO0_0.out) gb238 (Nat.le_of_eq hg.symm)) hb); replace BK232 := Aside0.mk (blk_below BK232.out hb); replace BK233 := Aside0.mk (blk_below BK233.out hb); replace HB := n_; clear n_; clear hb hbox hg; have hnb28 := NB238_232.out; have hnc28 := NB232_238.out; have hnb29 := NB238_233.out; have hnc29 := NB233_238.out; obtain ⟨hcz30_0, hcz30_1, hcz30_2⟩ := Cb.c3 BK238.out; obtain ⟨hfz30_0, hfz30_1, hfz30_2⟩ := Cb.f3 BK238.out) | ((with_reducible refine gate_store (t := 38) (p := 8) rfl ?_); refine store_event (t := 38) (p := 8) (v := ?vo_w31) (w1 := (((w27.setCell ⟨gb238, 0, none⟩ (.string t234)).setCell ⟨gb238, 1, none⟩ (.string t235)).setCell ⟨gb238, 2, none⟩ (.string t236))) ?hg ?ho ?hn ?hr ?_; (case ho => rfl); (case hg => rfl); (case hn => rfl); (case hr => first | (go_simp; done) | (go_simp; rfl)); intro w31 hw; have n0_ : Aside0 (Kd.V k38 38 w31 w.heap.size (fun k_ => (P0_0_ k_ ∨ w.heap.size ≤ k_) ∧ k_ ≠ gb232 ∧ k_ ≠ gb233 ∧ k_ ≠ gb238) (.slice A0_0 l0_0.length c0_0) l0_0) := ⟨(by rw [hw]; exact (by (with_reducible repeat (first | apply Kd.V_alloc | apply Kd.V_drewN | apply Kd.V_drew)); exact Kd.V_mono (Kd.V_far (p := ⟨gb238, 2, none⟩) (Kd.V_far (p := ⟨gb238, 1, none⟩) (Kd.V_far (p := ⟨gb238, 0, none⟩) (Kd.V_mono HO0_0.out (fun k_ hk => (⟨hk, hk.2⟩ : _ ∧ k_ ≠ gb238))) (fun _ hk => hk.2) (.string t234)) (fun _ hk => hk.2) (.string t235)) (fun _ hk => hk.2) (.string t236)) (fun _ hk => ⟨hk.1.1.1.1, ⟨hk.1.1.1.2, ⟨hk.1.1.2, hk.1.2⟩⟩⟩)))⟩; have n1_ : Aside0 (w31.heap[gb232]? = some (.cells #[.slice A0_0 l0_0.length c0_0, .int .i64 a0_1, .int .i64 a0_2, .bool false] 33 (0, 0))) := ⟨(by rw [hw]; exact (by (with_reducible repeat (first | refine blk_drewN ?_ _ | refine blk_drew ?_ | refine blk_alloc ?_ _)); refine blk_far ?_ NB232_238.out _; refine blk_far ?_ NB232_238.out _; refine blk_far ?_ NB232_238.out _; (with_reducible repeat (first | refine blk_drewN ?_ _ | refine blk_drew ?_ | refine blk_alloc ?_ _)); exact BK232.out))⟩; have n2_ : Aside0 (w31.heap[gb233]? = some (.cells #[.slice none 0 0, .int .i64 0, .int .i64 0, .bool false] 33 (0, 0))) := ⟨(by rw [hw]; exact (by (with_reducible repeat (first | refine blk_drewN ?_ _ | refine blk_drew ?_ | refine blk_alloc ?_ _)); refine blk_far ?_ NB233_238.out _; refine blk_far ?_ NB233_238.out _; refine blk_far ?_ NB233_238.out _; (with_reducible repeat (first | refine blk_drewN ?_ _ | refine blk_drew ?_ | refine blk_alloc ?_ _)); exact BK233.out))⟩; have n3_ : Aside0 (w31.heap[gb238]? = some (.cells #[.string t234, .string t235, .string t236] 38 (0, 0))) := ⟨(by rw [hw]; exact (by (with_reducible repeat (first | refine blk_drewN ?_ _ | refine blk_drew ?_ | refine blk_alloc ?_ _)); refine blk_put (cs := #[.string t234, .string t235, .string (⟨#[]⟩ : ByteArray)]) ?_ 2 _ rfl; refine blk_put (cs := #[.string t234, .string (⟨#[]⟩ : ByteArray), .string (⟨#[]⟩ : ByteArray)]) ?_ 1 _ rfl; refine blk_put (cs := #[.string (⟨#[]⟩ : ByteArray), .string (⟨#[]⟩ : ByteArray), .string (⟨#[]⟩ : ByteArray)]) ?_ 0 _ rfl; (with_reducible repeat (first | refine blk_drewN ?_ _ | refine blk_drew ?_ | refine blk_alloc ?_ _)); exact BK238.out))⟩; have n4_ : Aside0 (Below w.heap.size w w31) := ⟨(by rw [hw]; exact (by repeat (first | (with_reducible first | exact HB.out | apply below_alloc | apply pw_below_drewN | apply below_drew1 | refine below_set ?_ GE232.out | refine below_set ?_ GE233.out | refine below_set ?_ GE238.out) | exact HB.out)))⟩; clear hw; clear HO0_0; clear BK232; clear BK233; clear BK238; clear HB; have HO0_0 := n0_; have BK232 := n1_; have BK233 := n2_; have BK238 := n3_; have HB := n4_; clear n0_ n1_ n2_ n3_ n4_; obtain ⟨hcz32_0, hcz32_1, hcz32_2, hcz32_3⟩ := Cb.c4 BK232.out; obtain ⟨hfz32_0, hfz32_1, hfz32_2, hfz32_3⟩ := Cb.f4 BK232.out) | ((with_reducible refine gate_callee (f := 67) rfl ?_); refine goesL_ (some 23) rfl rfl Try.func67 (by kernel_rfl) rfl #[.string a1] rfl (by (try simp only [List.map_toArray, List.map_cons, List.map_nil]); first | done | rfl | (simp only [List.length_drop, List.length_take]; rfl)) ?_; (with_reducible refine (disk_named.calls a1 true _ A19.out).mono ?_); rintro e w' ⟨rfl, ⟨nd, rfl⟩⟩; refine ⟨_, rfl, ?_⟩))
      (try simp only [Act.put, List.setIfInBounds_toArray, List.set_cons_zero, List.set_cons_succ])
      go_cut [25] (fun v25 wc => ∃ (kq : Nat) (x25_20 : Bool), v25 = .bool x25_20 ∧ Aside0 (disk_Append.j0 kq a1 a2 t237 x25_20 l0_0 a0_1 a0_2 false t234 t235 t236 = some (r1, r2, r3, r4, r5)) ∧ Aside0 (kq ≤ k) ∧ Aside0 (Kd.V k38 38 wc w.heap.size (fun k_ => (P0_0_ k_ ∨ w.heap.size ≤ k_) ∧ k_ ≠ gb232 ∧ k_ ≠ gb233 ∧ k_ ≠ gb238) (.slice A0_0 l0_0.length c0_0) l0_0) ∧ Aside0 (wc.heap[gb232]? = some (.cells #[(.slice A0_0 l0_0.length c0_0), .int .i64 a0_1, .int .i64 a0_2, .bool false] 33 (0, 0))) ∧ Aside0 (wc.heap[gb233]? = some (.cells #[(.slice none 0 0), .int .i64 0, .int .i64 0, .bool false] 33 (0, 0))) ∧ Aside0 (wc.heap[gb238]? = some (.cells #[.string t234, .string t235, .string t236] 38 (0, 0))) ∧ Aside0 (Below w.heap.size w wc))
      case first =>
        have H := HC21.out
        clear HC21
        by_cases c33 : t237 = true
        · subst c33
          have H1 : (disk_Append.j0 k a1 a2 true false l0_0 a0_1 a0_2 false t234 t235 t236) = some (r1, r2, r3, r4, r5) := by rw [if_pos rfl] at H; exact H
          clear H
          have H := H1
          clear H1
          have H' := Aside0.mk H
          clear H
          go_wp2
          go_meet
          case rel => exact ⟨_, (false), (by first | rfl | (simp; done) | (simp [*]; done)), H', ⟨by first | omega | exact Nat.le_refl _⟩, ⟨by (with_reducible repeat (first | apply Kd.V_alloc | apply Kd.V_drewN | apply Kd.V_drew)); exact HO0_0.out⟩, ⟨by (with_reducible repeat (first | refine blk_drewN ?_ _ | refine blk_drew ?_ | refine blk_alloc ?_ _)); exact BK232.out⟩, ⟨by (with_reducible repeat (first | refine blk_drewN ?_ _ | refine blk_drew ?_ | refine blk_alloc ?_ _)); exact BK233.out⟩, ⟨by (with_reducible repeat (first | refine blk_drewN ?_ _ | refine blk_drew ?_ | refine blk_alloc ?_ _)); exact BK238.out⟩, ⟨by repeat (first | (with_reducible first | exact HB.out | apply below_alloc | apply pw_below_drewN | apply below_drew1 | refine below_set ?_ GE232.out | refine below_set ?_ GE233.out | refine below_set ?_ GE238.out) | exact HB.out)⟩⟩
        · replace c33 := Bool.eq_false_iff.mpr c33
          subst c33
          have H1 : (disk_Append.j0 k a1 a2 false (decide ((l0_0.length : Int) ≥ 64)) l0_0 a0_1 a0_2 false t234 t235 t236) = some (r1, r2, r3, r4, r5) := by rw [if_neg (show ¬ (false = true) by decide)] at H; exact H
          clear H
          have H := H1
          clear H1
          have H' := Aside0.mk H
          clear H
          have hnb34 := NB232_233.out
          have hnc34 := NB233_232.out
          have hnb35 := NB232_238.out
          have hnc35 := NB238_232.out
          obtain ⟨hcz36_0, hcz36_1, hcz36_2, hcz36_3⟩ := Cb.c4 BK232.out
          obtain ⟨hfz36_0, hfz36_1, hfz36_2, hfz36_3⟩ := Cb.f4 BK232.out
          go_wp2
          go_meet
          case rel => exact ⟨_, (decide ((l0_0.length : Int) ≥ 64)), (by first | rfl | (simp; done) | (simp [*]; done)), H', ⟨by first | omega | exact Nat.le_refl _⟩, ⟨by (with_reducible repeat (first | apply Kd.V_alloc | apply Kd.V_drewN | apply Kd.V_drew)); exact HO0_0.out⟩, ⟨by (with_reducible repeat (first | refine blk_drewN ?_ _ | refine blk_drew ?_ | refine blk_alloc ?_ _)); exact BK232.out⟩, ⟨by (with_reducible repeat (first | refine blk_drewN ?_ _ | refine blk_drew ?_ | refine blk_alloc ?_ _)); exact BK233.out⟩, ⟨by (with_reducible repeat (first | refine blk_drewN ?_ _ | refine blk_drew ?_ | refine blk_alloc ?_ _)); exact BK238.out⟩, ⟨by repeat (first | (with_reducible first | exact HB.out | apply below_alloc | apply pw_below_drewN | apply below_drew1 | refine below_set ?_ GE232.out | refine below_set ?_ GE233.out | refine below_set ?_ GE238.out) | exact HB.out)⟩⟩
      case rest =>
        clear HC21
        try clear c1
        try clear c2
        try clear p2
        try clear c3
        try clear c4
        try clear c5
        try clear c6
        try clear c8
        try clear c12
        try clear c13
        try clear c20
        try clear c24
        try clear c28
        try clear c29
        try clear c33
        try clear c34
        try clear c35
        try clear hcz14_0
        try clear hcz14_1
        try clear hcz14_2
        try clear hcz16_0
        try clear hcz16_1
        try clear hcz16_2
        try clear hcz16_3
        try clear hcz17_0
        try clear hcz17_1
        try clear hcz17_2
        try clear hcz17_3
        try clear hcz25_0
        try clear hcz25_1
        try clear hcz25_2
        try clear hcz25_3
        try clear hcz30_0
        try clear hcz30_1
        try clear hcz30_2
        try clear hcz32_0
        try clear hcz32_1
        try clear hcz32_2
        try clear hcz32_3
        try clear hcz36_0
        try clear hcz36_1
        try clear hcz36_2
        try clear hcz36_3
        try clear hcz9_0
        try clear hcz9_1
        try clear hcz9_2
        try clear hcz9_3
        try clear hfz14_0
        try clear hfz14_1
        try clear hfz14_2
        try clear hfz16_0
        try clear hfz16_1
        try clear hfz16_2
        try clear hfz16_3
        try clear hfz17_0
        try clear hfz17_1
        try clear hfz17_2
        try clear hfz17_3
        try clear hfz25_0
        try clear hfz25_1
        try clear hfz25_2
        try clear hfz25_3
        try clear hfz30_0
        try clear hfz30_1
        try clear hfz30_2
        try clear hfz32_0
        try clear hfz32_1
        try clear hfz32_2
        try clear hfz32_3
        try clear hfz36_0
        try clear hfz36_1
        try clear hfz36_2
        try clear hfz36_3
        try clear hfz9_0
        try clear hfz9_1
        try clear hfz9_2
        try clear hfz9_3
        obtain ⟨kq, x25_20, rfl, HA, HJ20, HO_233000, BK232, BK233, BK238, HB⟩ := hcut
        cases kq with
        | zero => exact absurd HA.out (by simp [disk_Append.j0])
        | succ kj20 =>
          have H := HA.out
          clear HA
          simp only [disk_Append.j0] at H
          by_cases c37 : x25_20 = true
          · subst c37
            have H1 : (some (l0_0, a0_1, a0_2, false, 5)) = some (r1, r2, r3, r4, r5) := by rw [if_pos rfl] at H; exact H
            clear H
            have H := H1
            clear H1
            simp only [Option.some.injEq, Prod.mk.injEq] at H
            obtain ⟨rfl, rfl, rfl, rfl, rfl⟩ := H
            have hnb38 := NB232_233.out
            have hnc38 := NB233_232.out
            have hnb39 := NB232_238.out
            have hnc39 := NB238_232.out
            obtain ⟨hcz40_0, hcz40_1, hcz40_2, hcz40_3⟩ := Cb.c4 BK232.out
            obtain ⟨hfz40_0, hfz40_1, hfz40_2, hfz40_3⟩ := Cb.f4 BK232.out
            have hnb41 := NB233_238.out
            have hnc41 := NB238_233.out
            obtain ⟨hcz42_0, hcz42_1, hcz42_2, hcz42_3⟩ := Cb.c4 BK233.out
            obtain ⟨hfz42_0, hfz42_1, hfz42_2, hfz42_3⟩ := Cb.f4 BK233.out
            go_wp2_with (first | ((with_reducible refine gate_store (t := 33) (p := 6) rfl ?_); refine store_event (t := 33) (p := 6) (v := ?vo_w43) (w1 := ((((wc.setCell ⟨gb233, 0, none⟩ (.slice A0_0 l0_0.length c0_0)).setCell ⟨gb233, 1, none⟩ (.int .i64 a0_1)).setCell ⟨gb233, 2, none⟩ (.int .i64 a0_2)).setCell ⟨gb233, 3, none⟩ (.bool false))) ?hg ?ho ?hn ?hr ?_; (case ho => rfl); (case hg => rfl); (case hn => rfl); (case hr => first | (go_simp; done) | (go_simp; rfl)); intro w43 hw; have n0_ : Aside0 (Kd.V k38 38 w43 w.heap.size (fun k_ => (P0_0_ k_ ∨ w.heap.size ≤ k_) ∧ k_ ≠ gb232 ∧ k_ ≠ gb233 ∧ k_ ≠ gb238) (.slice A0_0 l0_0.length c0_0) l0_0) := ⟨(by rw [hw]; exact (by (with_reducible repeat (first | apply Kd.V_alloc | apply Kd.V_drewN | apply Kd.V_drew)); exact Kd.V_mono (Kd.V_far (p := ⟨gb233, 3, none⟩) (Kd.V_far (p := ⟨gb233, 2, none⟩) (Kd.V_far (p := ⟨gb233, 1, none⟩) (Kd.V_far (p := ⟨gb233, 0, none⟩) (Kd.V_mono HO_233000.out (fun k_ hk => (⟨hk, hk.2.2.1⟩ : _ ∧ k_ ≠ gb233))) (fun _ hk => hk.2) (.slice A0_0 l0_0.length c0_0)) (fun _ hk => hk.2) (.int .i64 a0_1)) (fun _ hk => hk.2) (.int .i64 a0_2)) (fun _ hk => hk.2) (.bool false)) (fun _ hk => ⟨hk.1.1, ⟨hk.1.2.1, ⟨hk.1.2.2.1, hk.1.2.2.2⟩⟩⟩)))⟩; have n1_ : Aside0 (w43.heap[gb232]? = some (.cells #[.slice A0_0 l0_0.length c0_0, .int .i64 a0_1, .int .i64 a0_2, .bool false] 33 (0, 0))) := ⟨(by rw [hw]; exact (by (with_reducible repeat (first | refine blk_drewN ?_ _ | refine blk_drew ?_ | refine blk_alloc ?_ _)); refine blk_far ?_ NB232_233.out _; refine blk_far ?_ NB232_233.out _; refine blk_far ?_ NB232_233.out _; refine blk_far ?_ NB232_233.out _; (with_reducible repeat (first | refine blk_drewN ?_ _ | refine blk_drew ?_ | refine blk_alloc ?_ _)); exact BK232.out))⟩; have n2_ : Aside0 (w43.heap[gb233]? = some (.cells #[.slice A0_0 l0_0.length c0_0, .int .i64 a0_1, .int .i64 a0_2, .bool false] 33 (0, 0))) := ⟨(by rw [hw]; exact (by (with_reducible repeat (first | refine blk_drewN ?_ _ | refine blk_drew ?_ | refine blk_alloc ?_ _)); refine blk_put (cs := #[.slice A0_0 l0_0.length c0_0, .int .i64 a0_1, .int .i64 a0_2, .bool false]) ?_ 3 _ rfl; refine blk_put (cs := #[.slice A0_0 l0_0.length c0_0, .int .i64 a0_1, .int .i64 0, .bool false]) ?_ 2 _ rfl; refine blk_put (cs := #[.slice A0_0 l0_0.length c0_0, .int .i64 0, .int .i64 0, .bool false]) ?_ 1 _ rfl; refine blk_put (cs := #[.slice none 0 0, .int .i64 0, .int .i64 0, .bool false]) ?_ 0 _ rfl; (with_reducible repeat (first | refine blk_drewN ?_ _ | refine blk_drew ?_ | refine blk_alloc ?_ _)); exact BK233.out))⟩; have n3_ : Aside0 (w43.heap[gb238]? = some (.cells #[.string t234, .string t235, .string t236] 38 (0, 0))) := ⟨(by rw [hw]; exact (by (with_reducible repeat (first | refine blk_drewN ?_ _ | refine blk_drew ?_ | refine blk_alloc ?_ _)); refine blk_far ?_ NB238_233.out _; refine blk_far ?_ NB238_233.out _; refine blk_far ?_ NB238_233.out _; refine blk_far ?_ NB238_233.out _; (with_reducible repeat (first | refine blk_drewN ?_ _ | refine blk_drew ?_ | refine blk_alloc ?_ _)); exact BK238.out))⟩; have n4_ : Aside0 (Below w.heap.size w w43) := ⟨(by rw [hw]; exact (by repeat (first | (with_reducible first | exact HB.out | apply below_alloc | apply pw_below_drewN | apply below_drew1 | refine below_set ?_ GE232.out | refine below_set ?_ GE233.out | refine below_set ?_ GE238.out) | exact HB.out)))⟩; clear hw; clear HO_233000; clear BK232; clear BK233; clear BK238; clear HB; have HO_233000 := n0_; have BK232 := n1_; have BK233 := n2_; have BK238 := n3_; have HB := n4_; clear n0_ n1_ n2_ n3_ n4_))
            refine bodyPost_ret (results_ct rfl _ _ gb233 33 #[.slice A0_0 l0_0.length c0_0, .int .i64 a0_1, .int .i64 a0_2, .bool false] (0, 0) _ rfl (by (with_reducible repeat (first | refine blk_drewN ?_ _ | refine blk_drew ?_ | refine blk_alloc ?_ _)); exact BK233.out) Try.underlying33 rfl (by kernel_rfl)) rfl ?_
            exact ⟨_, by first | rfl | (simp [errW_none, errW_some] <;> rfl) | (simp [*, errW_none, errW_some] <;> rfl), by (with_reducible repeat (first | apply Kd.V_alloc | apply Kd.V_drewN | apply Kd.V_drew)); exact Kd.V_mono HO_233000.out (fun _ hk => hk.1), by repeat (first | (with_reducible first | exact HB.out | apply below_alloc | apply pw_below_drewN | apply below_drew1 | refine below_set ?_ GE232.out | refine below_set ?_ GE233.out | refine below_set ?_ GE238.out) | exact HB.out)⟩
          · replace c37 := Bool.eq_false_iff.mpr c37
            subst c37
            have H1 : (if (a2.size : Int) > a0_1 then (some (l0_0, a0_1, a0_2, false, 5)) else ((disk_size.f t234 t235 t236).bind fun t240 => (if (wrap64 (t240 + (a2.size : Int))) > 65536 then (some (l0_0, a0_1, a0_2, false, 4)) else (if t237 = true then (disk_Append.j1 kj20 a1 a2 l0_0 a0_1 a0_2 false) else ((api_File_69.f l0_0).bind fun t241 => (if t241.length < 2932031007402 then (disk_Append.j1 kj20 a1 a2 (t241 ++ [(⟨a1, (⟨#[]⟩ : ByteArray), (⟨#[]⟩ : ByteArray)⟩ : S38)]) a0_1 a0_2 false) else (none))))))) = some (r1, r2, r3, r4, r5) := by rw [if_neg (show ¬ (false = true) by decide)] at H; exact H
            clear H
            have H := H1
            clear H1
            by_cases c44 : (a2.size : Int) > a0_1
            · rw [if_pos c44] at H
              have c44b0 : decide (a0_1 < (a2.size : Int)) = true := decide_eq_true c44
              clear c44
              simp only [Option.some.injEq, Prod.mk.injEq] at H
              obtain ⟨rfl, rfl, rfl, rfl, rfl⟩ := H
              have hnb45 := NB232_233.out
              have hnc45 := NB233_232.out
              have hnb46 := NB232_238.out
              have hnc46 := NB238_232.out
              obtain ⟨hcz47_0, hcz47_1, hcz47_2, hcz47_3⟩ := Cb.c4 BK232.out
              obtain ⟨hfz47_0, hfz47_1, hfz47_2, hfz47_3⟩ := Cb.f4 BK232.out
              have hnb48 := NB233_238.out
              have hnc48 := NB238_233.out
              obtain ⟨hcz49_0, hcz49_1, hcz49_2, hcz49_3⟩ := Cb.c4 BK233.out
              obtain ⟨hfz49_0, hfz49_1, hfz49_2, hfz49_3⟩ := Cb.f4 BK233.out
              go_wp2_with (first | ((with_reducible refine gate_store (t := 33) (p := 6) rfl ?_); refine store_event (t := 33) (p := 6) (v := ?vo_w50) (w1 := ((((wc.setCell ⟨gb233, 0, none⟩ (.slice A0_0 l0_0.length c0_0)).setCell ⟨gb233, 1, none⟩ (.int .i64 a0_1)).setCell ⟨gb233, 2, none⟩ (.int .i64 a0_2)).setCell ⟨gb233, 3, none⟩ (.bool false))) ?hg ?ho ?hn ?hr ?_; (case ho => rfl); (case hg => rfl); (case hn => rfl); (case hr => first | (go_simp; done) | (go_simp; rfl)); intro w50 hw; have n0_ : Aside0 (Kd.V k38 38 w50 w.heap.size (fun k_ => (P0_0_ k_ ∨ w.heap.size ≤ k_) ∧ k_ ≠ gb232 ∧ k_ ≠ gb233 ∧ k_ ≠ gb238) (.slice A0_0 l0_0.length c0_0) l0_0) := ⟨(by rw [hw]; exact (by (with_reducible repeat (first | apply Kd.V_alloc | apply Kd.V_drewN | apply Kd.V_drew)); exact Kd.V_mono (Kd.V_far (p := ⟨gb233, 3, none⟩) (Kd.V_far (p := ⟨gb233, 2, none⟩) (Kd.V_far (p := ⟨gb233, 1, none⟩) (Kd.V_far (p := ⟨gb233, 0, none⟩) (Kd.V_mono HO_233000.out (fun k_ hk => (⟨hk, hk.2.2.1⟩ : _ ∧ k_ ≠ gb233))) (fun _ hk => hk.2) (.slice A0_0 l0_0.length c0_0)) (fun _ hk => hk.2) (.int .i64 a0_1)) (fun _ hk => hk.2) (.int .i64 a0_2)) (fun _ hk => hk.2) (.bool false)) (fun _ hk => ⟨hk.1.1, ⟨hk.1.2.1, ⟨hk.1.2.2.1, hk.1.2.2.2⟩⟩⟩)))⟩; have n1_ : Aside0 (w50.heap[gb232]? = some (.cells #[.slice A0_0 l0_0.length c0_0, .int .i64 a0_1, .int .i64 a0_2, .bool false] 33 (0, 0))) := ⟨(by rw [hw]; exact (by (with_reducible repeat (first | refine blk_drewN ?_ _ | refine blk_drew ?_ | refine blk_alloc ?_ _)); refine blk_far ?_ NB232_233.out _; refine blk_far ?_ NB232_233.out _; refine blk_far ?_ NB232_233.out _; refine blk_far ?_ NB232_233.out _; (with_reducible repeat (first | refine blk_drewN ?_ _ | refine blk_drew ?_ | refine blk_alloc ?_ _)); exact BK232.out))⟩; have n2_ : Aside0 (w50.heap[gb233]? = some (.cells #[.slice A0_0 l0_0.length c0_0, .int .i64 a0_1, .int .i64 a0_2, .bool false] 33 (0, 0))) := ⟨(by rw [hw]; exact (by (with_reducible repeat (first | refine blk_drewN ?_ _ | refine blk_drew ?_ | refine blk_alloc ?_ _)); refine blk_put (cs := #[.slice A0_0 l0_0.length c0_0, .int .i64 a0_1, .int .i64 a0_2, .bool false]) ?_ 3 _ rfl; refine blk_put (cs := #[.slice A0_0 l0_0.length c0_0, .int .i64 a0_1, .int .i64 0, .bool false]) ?_ 2 _ rfl; refine blk_put (cs := #[.slice A0_0 l0_0.length c0_0, .int .i64 0, .int .i64 0, .bool false]) ?_ 1 _ rfl; refine blk_put (cs := #[.slice none 0 0, .int .i64 0, .int .i64 0, .bool false]) ?_ 0 _ rfl; (with_reducible repeat (first | refine blk_drewN ?_ _ | refine blk_drew ?_ | refine blk_alloc ?_ _)); exact BK233.out))⟩; have n3_ : Aside0 (w50.heap[gb238]? = some (.cells #[.string t234, .string t235, .string t236] 38 (0, 0))) := ⟨(by rw [hw]; exact (by (with_reducible repeat (first | refine blk_drewN ?_ _ | refine blk_drew ?_ | refine blk_alloc ?_ _)); refine blk_far ?_ NB238_233.out _; refine blk_far ?_ NB238_233.out _; refine blk_far ?_ NB238_233.out _; refine blk_far ?_ NB238_233.out _; (with_reducible repeat (first | refine blk_drewN ?_ _ | refine blk_drew ?_ | refine blk_alloc ?_ _)); exact BK238.out))⟩; have n4_ : Aside0 (Below w.heap.size w w50) := ⟨(by rw [hw]; exact (by repeat (first | (with_reducible first | exact HB.out | apply below_alloc | apply pw_below_drewN | apply below_drew1 | refine below_set ?_ GE232.out | refine below_set ?_ GE233.out | refine below_set ?_ GE238.out) | exact HB.out)))⟩; clear hw; clear HO_233000; clear BK232; clear BK233; clear BK238; clear HB; have HO_233000 := n0_; have BK232 := n1_; have BK233 := n2_; have BK238 := n3_; have HB := n4_; clear n0_ n1_ n2_ n3_ n4_))
              refine bodyPost_ret (results_ct rfl _ _ gb233 33 #[.slice A0_0 l0_0.length c0_0, .int .i64 a0_1, .int .i64 a0_2, .bool false] (0, 0) _ rfl (by (with_reducible repeat (first | refine blk_drewN ?_ _ | refine blk_drew ?_ | refine blk_alloc ?_ _)); exact BK233.out) Try.underlying33 rfl (by kernel_rfl)) rfl ?_
              exact ⟨_, by first | rfl | (simp [errW_none, errW_some] <;> rfl) | (simp [*, errW_none, errW_some] <;> rfl), by (with_reducible repeat (first | apply Kd.V_alloc | apply Kd.V_drewN | apply Kd.V_drew)); exact Kd.V_mono HO_233000.out (fun _ hk => hk.1), by repeat (first | (with_reducible first | exact HB.out | apply below_alloc | apply pw_below_drewN | apply below_drew1 | refine below_set ?_ GE232.out | refine below_set ?_ GE233.out | refine below_set ?_ GE238.out) | exact HB.out)⟩
            · rw [if_neg c44] at H
              have c44b0 : decide (a0_1 < (a2.size : Int)) = false := decide_eq_false c44
              clear c44
              replace H := Option.bind_eq_some_iff.mp H
              obtain ⟨t240, A510, H⟩ := H
              replace H : (if (wrap64 (t240 + (a2.size : Int))) > 65536 then (some (l0_0, a0_1, a0_2, false, 4)) else (if t237 = true then (disk_Append.j1 kj20 a1 a2 l0_0 a0_1 a0_2 false) else ((api_File_69.f l0_0).bind fun t241 => (if t241.length < 2932031007402 then (disk_Append.j1 kj20 a1 a2 (t241 ++ [(⟨a1, (⟨#[]⟩ : ByteArray), (⟨#[]⟩ : ByteArray)⟩ : S38)]) a0_1 a0_2 false) else (none))))) = some (r1, r2, r3, r4, r5) := H
              have A51 := Aside0.mk A510
              clear A510
              by_cases c52 : (wrap64 (t240 + (a2.size : Int))) > 65536
              · rw [if_pos c52] at H
                have c52b0 : decide (65536 < (wrap64 (t240 + (a2.size : Int)))) = true := decide_eq_true c52
                clear c52
                simp only [Option.some.injEq, Prod.mk.injEq] at H
                obtain ⟨rfl, rfl, rfl, rfl, rfl⟩ := H
                have hnb53 := NB232_233.out
                have hnc53 := NB233_232.out
                have hnb54 := NB232_238.out
                have hnc54 := NB238_232.out
                obtain ⟨hcz55_0, hcz55_1, hcz55_2, hcz55_3⟩ := Cb.c4 BK232.out
                obtain ⟨hfz55_0, hfz55_1, hfz55_2, hfz55_3⟩ := Cb.f4 BK232.out
                have hnb56 := NB238_233.out
                have hnc56 := NB233_238.out
                obtain ⟨hcz57_0, hcz57_1, hcz57_2⟩ := Cb.c3 BK238.out
                obtain ⟨hfz57_0, hfz57_1, hfz57_2⟩ := Cb.f3 BK238.out
                go_wp2_with (first | ((with_reducible refine gate_callee (f := 68) rfl ?_); refine goesL_ (some 42) rfl rfl Try.func68 (by kernel_rfl) rfl #[.agg #[.string t234, .string t235, .string t236]] rfl (by (try simp only [List.map_toArray, List.map_cons, List.map_nil]); first | done | rfl | (simp only [List.length_drop, List.length_take]; rfl)) ?_; (with_reducible refine (disk_size.calls t234 t235 t236 t240 _ A51.out).mono ?_); rintro e w58 ⟨rfl, hb⟩; refine ⟨_, rfl, ?_⟩; replace HO_233000 := Aside0.mk (Kd.V_below (by (with_reducible repeat (first | apply Kd.V_alloc | apply Kd.V_drewN | apply Kd.V_drew)); exact HO_233000.out) hb); replace BK232 := Aside0.mk (blk_below BK232.out hb); replace BK233 := Aside0.mk (blk_below BK233.out hb); replace BK238 := Aside0.mk (blk_below BK238.out hb); replace HB := Aside0.mk (below_step (by repeat (first | (with_reducible first | exact HB.out | apply below_alloc | apply pw_below_drewN | apply below_drew1 | refine below_set ?_ GE232.out | refine below_set ?_ GE233.out | refine below_set ?_ GE238.out) | exact HB.out)) hb); (try clear hb); (try clear hb2); (try clear hk); (try clear hi); obtain ⟨hcz59_0, hcz59_1, hcz59_2, hcz59_3⟩ := Cb.c4 BK232.out; obtain ⟨hfz59_0, hfz59_1, hfz59_2, hfz59_3⟩ := Cb.f4 BK232.out; obtain ⟨hcz60_0, hcz60_1, hcz60_2, hcz60_3⟩ := Cb.c4 BK233.out; obtain ⟨hfz60_0, hfz60_1, hfz60_2, hfz60_3⟩ := Cb.f4 BK233.out) | ((with_reducible refine gate_store (t := 33) (p := 6) rfl ?_); refine store_event (t := 33) (p := 6) (v := ?vo_w61) (w1 := ((((w58.setCell ⟨gb233, 0, none⟩ (.slice A0_0 l0_0.length c0_0)).setCell ⟨gb233, 1, none⟩ (.int .i64 a0_1)).setCell ⟨gb233, 2, none⟩ (.int .i64 a0_2)).setCell ⟨gb233, 3, none⟩ (.bool false))) ?hg ?ho ?hn ?hr ?_; (case ho => rfl); (case hg => rfl); (case hn => rfl); (case hr => first | (go_simp; done) | (go_simp; rfl)); intro w61 hw; have n0_ : Aside0 (Kd.V k38 38 w61 w.heap.size (fun k_ => (P0_0_ k_ ∨ w.heap.size ≤ k_) ∧ k_ ≠ gb232 ∧ k_ ≠ gb233 ∧ k_ ≠ gb238) (.slice A0_0 l0_0.length c0_0) l0_0) := ⟨(by rw [hw]; exact (by (with_reducible repeat (first | apply Kd.V_alloc | apply Kd.V_drewN | apply Kd.V_drew)); exact Kd.V_mono (Kd.V_far (p := ⟨gb233, 3, none⟩) (Kd.V_far (p := ⟨gb233, 2, none⟩) (Kd.V_far (p := ⟨gb233, 1, none⟩) (Kd.V_far (p := ⟨gb233, 0, none⟩) (Kd.V_mono HO_233000.out (fun k_ hk => (⟨hk, hk.2.2.1⟩ : _ ∧ k_ ≠ gb233))) (fun _ hk => hk.2) (.slice A0_0 l0_0.length c0_0)) (fun _ hk => hk.2) (.int .i64 a0_1)) (fun _ hk => hk.2) (.int .i64 a0_2)) (fun _ hk => hk.2) (.bool false)) (fun _ hk => ⟨hk.1.1, ⟨hk.1.2.1, ⟨hk.1.2.2.1, hk.1.2.2.2⟩⟩⟩)))⟩; have n1_ : Aside0 (w61.heap[gb232]? = some (.cells #[.slice A0_0 l0_0.length c0_0, .int .i64 a0_1, .int .i64 a0_2, .bool false] 33 (0, 0))) := ⟨(by rw [hw]; exact (by (with_reducible repeat (first | refine blk_drewN ?_ _ | refine blk_drew ?_ | refine blk_alloc ?_ _)); refine blk_far ?_ NB232_233.out _; refine blk_far ?_ NB232_233.out _; refine blk_far ?_ NB232_233.out _; refine blk_far ?_ NB232_233.out _; (with_reducible repeat (first | refine blk_drewN ?_ _ | refine blk_drew ?_ | refine blk_alloc ?_ _)); exact BK232.out))⟩; have n2_ : Aside0 (w61.heap[gb233]? = some (.cells #[.slice A0_0 l0_0.length c0_0, .int .i64 a0_1, .int .i64 a0_2, .bool false] 33 (0, 0))) := ⟨(by rw [hw]; exact (by (with_reducible repeat (first | refine blk_drewN ?_ _ | refine blk_drew ?_ | refine blk_alloc ?_ _)); refine blk_put (cs := #[.slice A0_0 l0_0.length c0_0, .int .i64 a0_1, .int .i64 a0_2, .bool false]) ?_ 3 _ rfl; refine blk_put (cs := #[.slice A0_0 l0_0.length c0_0, .int .i64 a0_1, .int .i64 0, .bool false]) ?_ 2 _ rfl; refine blk_put (cs := #[.slice A0_0 l0_0.length c0_0, .int .i64 0, .int .i64 0, .bool false]) ?_ 1 _ rfl; refine blk_put (cs := #[.slice none 0 0, .int .i64 0, .int .i64 0, .bool false]) ?_ 0 _ rfl; (with_reducible repeat (first | refine blk_drewN ?_ _ | refine blk_drew ?_ | refine blk_alloc ?_ _)); exact BK233.out))⟩; have n3_ : Aside0 (w61.heap[gb238]? = some (.cells #[.string t234, .string t235, .string t236] 38 (0, 0))) := ⟨(by rw [hw]; exact (by (with_reducible repeat (first | refine blk_drewN ?_ _ | refine blk_drew ?_ | refine blk_alloc ?_ _)); refine blk_far ?_ NB238_233.out _; refine blk_far ?_ NB238_233.out _; refine blk_far ?_ NB238_233.out _; refine blk_far ?_ NB238_233.out _; (with_reducible repeat (first | refine blk_drewN ?_ _ | refine blk_drew ?_ | refine blk_alloc ?_ _)); exact BK238.out))⟩; have n4_ : Aside0 (Below w.heap.size w w61) := ⟨(by rw [hw]; exact (by repeat (first | (with_reducible first | exact HB.out | apply below_alloc | apply pw_below_drewN | apply below_drew1 | refine below_set ?_ GE232.out | refine below_set ?_ GE233.out | refine below_set ?_ GE238.out) | exact HB.out)))⟩; clear hw; clear HO_233000; clear BK232; clear BK233; clear BK238; clear HB; have HO_233000 := n0_; have BK232 := n1_; have BK233 := n2_; have BK238 := n3_; have HB := n4_; clear n0_ n1_ n2_ n3_ n4_))
                refine bodyPost_ret (results_ct rfl _ _ gb233 33 #[.slice A0_0 l0_0.length c0_0, .int .i64 a0_1, .int .i64 a0_2, .bool false] (0, 0) _ rfl (by (with_reducible repeat (first | refine blk_drewN ?_ _ | refine blk_drew ?_ | refine blk_alloc ?_ _)); exact BK233.out) Try.underlying33 rfl (by kernel_rfl)) rfl ?_
                exact ⟨_, by first | rfl | (simp [errW_none, errW_some] <;> rfl) | (simp [*, errW_none, errW_some] <;> rfl), by (with_reducible repeat (first | apply Kd.V_alloc | apply Kd.V_drewN | apply Kd.V_drew)); exact Kd.V_mono HO_233000.out (fun _ hk => hk.1), by repeat (first | (with_reducible first | exact HB.out | apply below_alloc | apply pw_below_drewN | apply below_drew1 | refine below_set ?_ GE232.out | refine below_set ?_ GE233.out | refine below_set ?_ GE238.out) | exact HB.out)⟩
              · rw [if_neg c52] at H
                have c52b0 : decide (65536 < (wrap64 (t240 + (a2.size : Int)))) = false := decide_eq_false c52
                clear c52
                have HC62 := Aside0.mk H
                clear H
                have hnb63 := NB232_233.out
                have hnc63 := NB233_232.out
                have hnb64 := NB232_238.out
                have hnc64 := NB238_232.out
                obtain ⟨hcz65_0, hcz65_1, hcz65_2, hcz65_3⟩ := Cb.c4 BK232.out
                obtain ⟨hfz65_0, hfz65_1, hfz65_2, hfz65_3⟩ := Cb.f4 BK232.out
                have hnb66 := NB238_233.out
                have hnc66 := NB233_238.out
                obtain ⟨hcz67_0, hcz67_1, hcz67_2⟩ := Cb.c3 BK238.out
                obtain ⟨hfz67_0, hfz67_1, hfz67_2⟩ := Cb.f3 BK238.out
                go_upto_if 52 with (first | ((with_reducible refine gate_callee (f := 68) rfl ?_); refine goesL_ (some 42) rfl rfl Try.func68 (by kernel_rfl) rfl #[.agg #[.string t234, .string t235, .string t236]] rfl (by (try simp only [List.map_toArray, List.map_cons, List.map_nil]); first | done | rfl | (simp only [List.length_drop, List.length_take]; rfl)) ?_; (with_reducible refine (disk_size.calls t234 t235 t236 t240 _ A51.out).mono ?_); rintro e w68 ⟨rfl, hb⟩; refine ⟨_, rfl, ?_⟩; replace HO_233000 := Aside0.mk (Kd.V_below (by (with_reducible repeat (first | apply Kd.V_alloc | apply Kd.V_drewN | apply Kd.V_drew)); exact HO_233000.out) hb); replace BK232 := Aside0.mk (blk_below BK232.out hb); replace BK233 := Aside0.mk (blk_below BK233.out hb); replace BK238 := Aside0.mk (blk_below BK238.out hb); replace HB := Aside0.mk (below_step (by repeat (first | (with_reducible first | exact HB.out | apply below_alloc | apply pw_below_drewN | apply below_drew1 | refine below_set ?_ GE232.out | refine below_set ?_ GE233.out | refine below_set ?_ GE238.out) | exact HB.out)) hb); (try clear hb); (try clear hb2); (try clear hk); (try clear hi)))
                (try simp only [Act.put, List.setIfInBounds_toArray, List.set_cons_zero, List.set_cons_succ])
                go_cut [] (fun wc => ∃ (kq : Nat) (x233000_61 : List (S38)) (u233000 : Value), Aside0 (disk_Append.j1 kq a1 a2 x233000_61 a0_1 a0_2 false = some (r1, r2, r3, r4, r5)) ∧ Aside0 (kq ≤ kj20) ∧ Aside0 (Kd.V k38 38 wc w.heap.size (fun k_ => (P0_0_ k_ ∨ w.heap.size ≤ k_) ∧ k_ ≠ gb232 ∧ k_ ≠ gb233 ∧ k_ ≠ gb238) u233000 x233000_61) ∧ Aside0 (wc.heap[gb232]? = some (.cells #[u233000, .int .i64 a0_1, .int .i64 a0_2, .bool false] 33 (0, 0))) ∧ Aside0 (wc.heap[gb233]? = some (.cells #[(.slice none 0 0), .int .i64 0, .int .i64 0, .bool false] 33 (0, 0))) ∧ Aside0 (wc.heap[gb238]? = some (.cells #[.string t234, .string t235, .string t236] 38 (0, 0))) ∧ Aside0 (Below w.heap.size w wc))
                case first =>
                  have H := HC62.out
                  clear HC62
                  by_cases c69 : t237 = true
                  · subst c69
                    have H1 : (disk_Append.j1 kj20 a1 a2 l0_0 a0_1 a0_2 false) = some (r1, r2, r3, r4, r5) := by rw [if_pos rfl] at H; exact H
                    clear H
                    have H := H1
                    clear H1
                    have H' := Aside0.mk H
                    clear H
                    go_wp2
                    go_meet
                    case rel => exact ⟨_, (l0_0), (.slice A0_0 l0_0.length c0_0), H', ⟨by have := HJ20.out; first | omega | exact Nat.le_refl _⟩, ⟨by (with_reducible repeat (first | apply Kd.V_alloc | apply Kd.V_drewN | apply Kd.V_drew)); exact HO_233000.out⟩, ⟨by (with_reducible repeat (first | refine blk_drewN ?_ _ | refine blk_drew ?_ | refine blk_alloc ?_ _)); exact BK232.out⟩, ⟨by (with_reducible repeat (first | refine blk_drewN ?_ _ | refine blk_drew ?_ | refine blk_alloc ?_ _)); exact BK233.out⟩, ⟨by (with_reducible repeat (first | refine blk_drewN ?_ _ | refine blk_drew ?_ | refine blk_alloc ?_ _)); exact BK238.out⟩, ⟨by repeat (first | (with_reducible first | exact HB.out | apply below_alloc | apply pw_below_drewN | apply below_drew1 | refine below_set ?_ GE232.out | refine below_set ?_ GE233.out | refine below_set ?_ GE238.out) | exact HB.out)⟩⟩
                  · replace c69 := Bool.eq_false_iff.mpr c69
                    subst c69
                    have H1 : ((api_File_69.f l0_0).bind fun t241 => (if t241.length < 2932031007402 then (disk_Append.j1 kj20 a1 a2 (t241 ++ [(⟨a1, (⟨#[]⟩ : ByteArray), (⟨#[]⟩ : ByteArray)⟩ : S38)]) a0_1 a0_2 false) else (none))) = some (r1, r2, r3, r4, r5) := by rw [if_neg (show ¬ (false = true) by decide)] at H; exact H
                    clear H
                    have H := H1
                    clear H1
                    replace H := Option.bind_eq_some_iff.mp H
                    obtain ⟨t241, A700, H⟩ := H
                    replace H : (if t241.length < 2932031007402 then (disk_Append.j1 kj20 a1 a2 (t241 ++ [(⟨a1, (⟨#[]⟩ : ByteArray), (⟨#[]⟩ : ByteArray)⟩ : S38)]) a0_1 a0_2 false) else (none)) = some (r1, r2, r3, r4, r5) := H
                    have A70 := Aside0.mk A700
                    clear A700
                    by_cases c71 : t241.length < 2932031007402
                    · rw [if_pos c71] at H
                      have LMc71 := Aside0.mk c71
                      clear c71
                      obtain ⟨y244, hy244⟩ : ∃ y_ : List (S38), y_ = (t241 ++ [(⟨a1, (⟨#[]⟩ : ByteArray), (⟨#[]⟩ : ByteArray)⟩ : S38)]) := ⟨_, rfl⟩
                      replace H : (disk_Append.j1 kj20 a1 a2 y244 a0_1 a0_2 false) = some (r1, r2, r3, r4, r5) := by first | (rw [hy244]; with_reducible exact H) | (have H2_ := (Option.bind_some _ _).symm.trans H; rw [hy244]; with_reducible exact H2_) | (have H2_ := (Option.bind_some _ _).symm.trans H; with_reducible exact H2_) | with_reducible exact H | (rw [hy244]; exact H) | exact H
                      have Ny244 := Aside0.mk hy244
                      clear hy244
                      have H' := Aside0.mk H
                      clear H
                      have hnb72 := NB232_233.out
                      have hnc72 := NB233_232.out
                      have hnb73 := NB232_238.out
                      have hnc73 := NB238_232.out
                      obtain ⟨hcz74_0, hcz74_1, hcz74_2, hcz74_3⟩ := Cb.c4 BK232.out
                      obtain ⟨hfz74_0, hfz74_1, hfz74_2, hfz74_3⟩ := Cb.f4 BK232.out
                      go_wp2_with (first | ((with_reducible refine gate_callee (f := 69) rfl ?_); refine goesL_ (some 55) rfl rfl Try.func69 (by kernel_rfl) rfl #[.slice A0_0 l0_0.length c0_0] rfl (by (try simp only [List.map_toArray, List.map_cons, List.map_nil]); first | done | rfl | (simp only [List.length_drop, List.length_take]; rfl)) ?_; (with_reducible refine (api_File_69.calls _ _ l0_0 t241 _ ?side1 ?side2 A70.out).mono ?_); (case side1 => repeat (first | exact (Kd.V_reads' HO_233000.out).2.2 | (with_reducible refine Kd.C_alloc ?_ _) | (with_reducible refine Kd.C_drewN ?_ _) | (with_reducible refine Kd.C_drew ?_))); (case side2 => exact (Kd.V_reads' HO_233000.out).2.1); rintro e w75 ⟨v242, rfl, ho0, hb⟩; refine ⟨_, rfl, ?_⟩; have HO243 := Aside0.mk (Kd.R_lower (Kd.R_newB (Kd.R_newM (M := fun k_ => (w.heap.size ≤ k_)) ho0 (below_size (by repeat (first | (with_reducible first | exact HB.out | apply below_alloc | apply pw_below_drewN | apply below_drew1 | refine below_set ?_ GE232.out | refine below_set ?_ GE233.out | refine below_set ?_ GE238.out) | exact HB.out))) (fun k_ h_ => h_)) (g := gb238) (o := .cells #[.string t234, .string t235, .string t236] 38 (0, 0)) (by (with_reducible repeat (first | refine blk_drewN ?_ _ | refine blk_drew ?_ | refine blk_alloc ?_ _)); exact BK238.out)) (below_size (by repeat (first | (with_reducible first | exact HB.out | apply below_alloc | apply pw_below_drewN | apply below_drew1 | refine below_set ?_ GE232.out | refine below_set ?_ GE233.out | refine below_set ?_ GE238.out) | exact HB.out)))); replace HO_233000 := Aside0.mk (Kd.V_elder' (by (with_reducible repeat (first | apply Kd.V_alloc | apply Kd.V_drewN | apply Kd.V_drew)); exact HO_233000.out) (Kd.R_base ho0) hb); replace BK232 := Aside0.mk (blk_below BK232.out hb); replace BK233 := Aside0.mk (blk_below BK233.out hb); replace BK238 := Aside0.mk (blk_below BK238.out hb); replace HB := Aside0.mk (below_step (by repeat (first | (with_reducible first | exact HB.out | apply below_alloc | apply pw_below_drewN | apply below_drew1 | refine below_set ?_ GE232.out | refine below_set ?_ GE233.out | refine below_set ?_ GE238.out) | exact HB.out)) hb); (try clear hb); (try clear hb2); (try clear hk); (try clear hi); (try clear ho0)) | ((with_reducible refine gate_builtin (b := .append) (xs := #[.tmp 55, .tmp 58]) rfl ?_); (try (refine gate_guard (by rfl) ?_; dsimp only)); at_builtin; refine Kd.R_append k38 (w0 := w) w.heap.size rfl (.tmp 55) (.tmp 58) 31 38 (.agg #[(.string ⟨#[]⟩), (.string ⟨#[]⟩), (.string ⟨#[]⟩)]) 48 rfl Try.underlying31 info38 rfl (by decide) (by omega) v242 t241 (⟨a1, (⟨#[]⟩ : ByteArray), (⟨#[]⟩ : ByteArray)⟩ : S38) [.string a1, .string (⟨#[]⟩ : ByteArray), .string (⟨#[]⟩ : ByteArray)] (fun k_ => (w.heap.size ≤ k_) ∧ k_ ≠ gb238) (fun _ => False) rfl rfl ?aP (fun _ hk => hk.elim) ?aF ?aO ?aB ?aS ?aL ?_; (case aP => exact k38_mkM _ _ _ (⟨a1, (⟨#[]⟩ : ByteArray), (⟨#[]⟩ : ByteArray)⟩ : S38)); (case aB => exact (by repeat (first | (with_reducible first | exact HB.out | apply below_alloc | apply pw_below_drewN | apply below_drew1 | refine below_set ?_ GE232.out | refine below_set ?_ GE233.out | refine below_set ?_ GE238.out) | exact HB.out))); (case aF => exact (fun k_ hk => ⟨(Nat.le_trans (below_size (by repeat (first | (with_reducible first | exact HB.out | apply below_alloc | apply pw_below_drewN | apply below_drew1 | refine below_set ?_ GE232.out | refine below_set ?_ GE233.out | refine below_set ?_ GE238.out) | exact HB.out))) hk), Kd.freshB (g := gb238) (o := .cells #[.string t234, .string t235, .string t236] 38 (0, 0)) (by (with_reducible repeat (first | refine blk_drewN ?_ _ | refine blk_drew ?_ | refine blk_alloc ?_ _)); exact BK238.out) k_ hk⟩)); (case aO => exact (by (with_reducible repeat (first | apply Kd.R_alloc | apply Kd.R_drewN | apply Kd.R_drew)); exact Kd.R_mono HO243.out (fun _ hk => ⟨hk.1.1, hk.2⟩))); (case aS => exact (below_size (by repeat (first | (with_reducible first | exact HB.out | apply below_alloc | apply pw_below_drewN | apply below_drew1 | refine below_set ?_ GE232.out | refine below_set ?_ GE233.out | refine below_set ?_ GE238.out) | exact HB.out)))); (case aL => have := LMc71.out; omega); intro v245 w76 ho hb hg hat; rw [← Ny244.out] at ho; have n0_ := Aside0.mk (Kd.V_afterv (ok := (fun k_ => (P0_0_ k_ ∨ w.heap.size ≤ k_) ∧ k_ ≠ gb232 ∧ k_ ≠ gb233 ∧ k_ ≠ gb238)) (by (with_reducible repeat (first | apply Kd.V_alloc | apply Kd.V_drewN | apply Kd.V_drew)); exact HO_233000.out) hg hat); have n1_ := Aside0.mk (blk_grown (g := gb232) (o := .cells #[.slice A0_0 l0_0.length c0_0, .int .i64 a0_1, .int .i64 a0_2, .bool false] 33 (0, 0)) (by (with_reducible repeat (first | refine blk_drewN ?_ _ | refine blk_drew ?_ | refine blk_alloc ?_ _)); exact BK232.out) hg (Kd.R_ne HO243.out BK232.out (by decide))); have n2_ := Aside0.mk (blk_grown (g := gb233) (o := .cells #[.slice none 0 0, .int .i64 0, .int .i64 0, .bool false] 33 (0, 0)) (by (with_reducible repeat (first | refine blk_drewN ?_ _ | refine blk_drew ?_ | refine blk_alloc ?_ _)); exact BK233.out) hg (Kd.R_ne HO243.out BK233.out (by decide))); have n3_ := Aside0.mk (blk_grown (g := gb238) (o := .cells #[.string t234, .string t235, .string t236] 38 (0, 0)) (by (with_reducible repeat (first | refine blk_drewN ?_ _ | refine blk_drew ?_ | refine blk_alloc ?_ _)); exact BK238.out) hg (Kd.R_away HO243.out (fun _ hk => hk.2))); have n4_ := Aside0.mk (hb); have n5_ := Aside0.mk (ho); clear HO_233000; clear BK232; clear BK233; clear BK238; clear HB; clear HO243; have HO_233000 := n0_; have BK232 := n1_; have BK233 := n2_; have BK238 := n3_; have HB := n4_; have HO246 := n5_; clear n0_ n1_ n2_ n3_ n4_ n5_; clear ho hb hg hat; obtain ⟨Ao77, co77, eo77⟩ := Kd.R_slice HO246.out; subst eo77; obtain ⟨hcz78_0, hcz78_1, hcz78_2, hcz78_3⟩ := Cb.c4 BK232.out; obtain ⟨hfz78_0, hfz78_1, hfz78_2, hfz78_3⟩ := Cb.f4 BK232.out))
                      go_meet
                      case rel => exact ⟨_, (y244), (.slice Ao77 y244.length co77), H', ⟨by have := HJ20.out; first | omega | exact Nat.le_refl _⟩, ⟨Kd.V_mono (Kd.R_V (by (with_reducible repeat (first | apply Kd.R_alloc | apply Kd.R_drewN | apply Kd.R_drew)); exact Kd.R_mono (Kd.R_far (p := ⟨gb232, 0, none⟩) (Kd.R_types (Kd.R_types (Kd.R_types HO246.out BK232.out (by decide)) BK233.out (by decide)) BK232.out (by decide)) (fun _ hk => hk.2) (.slice Ao77 y244.length co77)) (fun _ hk => And.intro (hk.1.1.1.1) (And.intro (hk.1.1.2) (And.intro (hk.1.2) (hk.1.1.1.2)))))) (fun k_ hk => by first | exact ⟨(.inr (hk.1)), hk.2⟩ | exact (.inr (hk)))⟩, ⟨by (with_reducible repeat (first | refine blk_drewN ?_ _ | refine blk_drew ?_ | refine blk_alloc ?_ _)); refine blk_put (cs := #[.slice A0_0 l0_0.length c0_0, .int .i64 a0_1, .int .i64 a0_2, .bool false]) ?_ 0 _ rfl; (with_reducible repeat (first | refine blk_drewN ?_ _ | refine blk_drew ?_ | refine blk_alloc ?_ _)); exact BK232.out⟩, ⟨by (with_reducible repeat (first | refine blk_drewN ?_ _ | refine blk_drew ?_ | refine blk_alloc ?_ _)); refine blk_far ?_ NB233_232.out _; (with_reducible repeat (first | refine blk_drewN ?_ _ | refine blk_drew ?_ | refine blk_alloc ?_ _)); exact BK233.out⟩, ⟨by (with_reducible repeat (first | refine blk_drewN ?_ _ | refine blk_drew ?_ | refine blk_alloc ?_ _)); refine blk_far ?_ NB238_232.out _; (with_reducible repeat (first | refine blk_drewN ?_ _ | refine blk_drew ?_ | refine blk_alloc ?_ _)); exact BK238.out⟩, ⟨by repeat (first | (with_reducible first | exact HB.out | apply below_alloc | apply pw_below_drewN | apply below_drew1 | refine below_set ?_ GE232.out | refine below_set ?_ GE233.out | refine below_set ?_ GE238.out) | exact HB.out)⟩⟩
                    · rw [if_neg c71] at H
                      exact absurd H (by simp)
                case rest =>
                  clear HC62
                  try clear c1
                  try clear c2
                  try clear p2
                  try clear c3
                  try clear c4
                  try clear c5
                  try clear c6
                  try clear p6
                  try clear c7
                  try clear c8
                  try clear c12
                  try clear c13
                  try clear c20
                  try clear c24
                  try clear c28
                  try clear c29
                  try clear c33
                  try clear c34
                  try clear c35
                  try clear c37
                  try clear c38
                  try clear c39
                  try clear c40
                  try clear c41
                  try clear c44
                  try clear c44b0
                  try clear c45
                  try clear c46
                  try clear c48
                  try clear c52
                  try clear c52b0
                  try clear c53
                  try clear c54
                  try clear c56
                  try clear c63
                  try clear c64
                  try clear p64
                  try clear c66
                  try clear c67
                  try clear c68
                  try clear c69
                  try clear c71
                  try clear c72
                  try clear c73
                  try clear hcz14_0
                  try clear hcz14_1
                  try clear hcz14_2
                  try clear hcz16_0
                  try clear hcz16_1
                  try clear hcz16_2
                  try clear hcz16_3
                  try clear hcz17_0
                  try clear hcz17_1
                  try clear hcz17_2
                  try clear hcz17_3
                  try clear hcz25_0
                  try clear hcz25_1
                  try clear hcz25_2
                  try clear hcz25_3
                  try clear hcz30_0
                  try clear hcz30_1
                  try clear hcz30_2
                  try clear hcz32_0
                  try clear hcz32_1
                  try clear hcz32_2
                  try clear hcz32_3
                  try clear hcz36_0
                  try clear hcz36_1
                  try clear hcz36_2
                  try clear hcz36_3
                  try clear hcz40_0
                  try clear hcz40_1
                  try clear hcz40_2
                  try clear hcz40_3
                  try clear hcz42_0
                  try clear hcz42_1
                  try clear hcz42_2
                  try clear hcz42_3
                  try clear hcz47_0
                  try clear hcz47_1
                  try clear hcz47_2
                  try clear hcz47_3
                  try clear hcz49_0
                  try clear hcz49_1
                  try clear hcz49_2
                  try clear hcz49_3
                  try clear hcz55_0
                  try clear hcz55_1
                  try clear hcz55_2
                  try clear hcz55_3
                  try clear hcz57_0
                  try clear hcz57_1
                  try clear hcz57_2
                  try clear hcz59_0
                  try clear hcz59_1
                  try clear hcz59_2
                  try clear hcz59_3
                  try clear hcz60_0
                  try clear hcz60_1
                  try clear hcz60_2
                  try clear hcz60_3
                  try clear hcz65_0
                  try clear hcz65_1
                  try clear hcz65_2
                  try clear hcz65_3
                  try clear hcz67_0
                  try clear hcz67_1
                  try clear hcz67_2
                  try clear hcz74_0
                  try clear hcz74_1
                  try clear hcz74_2
                  try clear hcz74_3
                  try clear hcz78_0
                  try clear hcz78_1
                  try clear hcz78_2
                  try clear hcz78_3
                  try clear hcz9_0
                  try clear hcz9_1
                  try clear hcz9_2
                  try clear hcz9_3
                  try clear hfz14_0
                  try clear hfz14_1
                  try clear hfz14_2
                  try clear hfz16_0
                  try clear hfz16_1
                  try clear hfz16_2
                  try clear hfz16_3
                  try clear hfz17_0
                  try clear hfz17_1
                  try clear hfz17_2
                  try clear hfz17_3
                  try clear hfz25_0
                  try clear hfz25_1
                  try clear hfz25_2
                  try clear hfz25_3
                  try clear hfz30_0
                  try clear hfz30_1
                  try clear hfz30_2
                  try clear hfz32_0
                  try clear hfz32_1
                  try clear hfz32_2
                  try clear hfz32_3
                  try clear hfz36_0
                  try clear hfz36_1
                  try clear hfz36_2
                  try clear hfz36_3
                  try clear hfz40_0
                  try clear hfz40_1
                  try clear hfz40_2
                  try clear hfz40_3
                  try clear hfz42_0
                  try clear hfz42_1
                  try clear hfz42_2
                  try clear hfz42_3
                  try clear hfz47_0
                  try clear hfz47_1
                  try clear hfz47_2
                  try clear hfz47_3
                  try clear hfz49_0
                  try clear hfz49_1
                  try clear hfz49_2
                  try clear hfz49_3
                  try clear hfz55_0
                  try clear hfz55_1
                  try clear hfz55_2
                  try clear hfz55_3
                  try clear hfz57_0
                  try clear hfz57_1
                  try clear hfz57_2
                  try clear hfz59_0
                  try clear hfz59_1
                  try clear hfz59_2
                  try clear hfz59_3
                  try clear hfz60_0
                  try clear hfz60_1
                  try clear hfz60_2
                  try clear hfz60_3
                  try clear hfz65_0
                  try clear hfz65_1
                  try clear hfz65_2
                  try clear hfz65_3
                  try clear hfz67_0
                  try clear hfz67_1
                  try clear hfz67_2
                  try clear hfz74_0
                  try clear hfz74_1
                  try clear hfz74_2
                  try clear hfz74_3
                  try clear hfz78_0
                  try clear hfz78_1
                  try clear hfz78_2
                  try clear hfz78_3
                  try clear hfz9_0
                  try clear hfz9_1
                  try clear hfz9_2
                  try clear hfz9_3
                  try clear p2
                  obtain ⟨kq, x233000_61, u233000, HA, HJ61, HO_233000, BK232, BK233, BK238, HB⟩ := hcut
                  cases kq with
                  | zero => exact absurd HA.out (by simp [disk_Append.j1])
                  | succ kj61 =>
                    have H := HA.out
                    clear HA
                    simp only [disk_Append.j1] at H
                    have HC79 := Aside0.mk H
                    clear H
                    go_upto_region 14 with (fail)
                    go_cut [71] (fun v71 wc => ∃ (kq : Nat) (x71_78 : Bool), v71 = .bool x71_78 ∧ Aside0 (disk_Append.j2 kq a1 a2 a2 x71_78 x233000_61 a0_1 a0_2 false = some (r1, r2, r3, r4, r5)) ∧ Aside0 (kq ≤ kj61) ∧ Aside0 (Kd.V k38 38 wc w.heap.size (fun k_ => (P0_0_ k_ ∨ w.heap.size ≤ k_) ∧ k_ ≠ gb232 ∧ k_ ≠ gb233 ∧ k_ ≠ gb238) u233000 x233000_61) ∧ Aside0 (wc.heap[gb232]? = some (.cells #[u233000, .int .i64 a0_1, .int .i64 a0_2, .bool false] 33 (0, 0))) ∧ Aside0 (wc.heap[gb233]? = some (.cells #[(.slice none 0 0), .int .i64 0, .int .i64 0, .bool false] 33 (0, 0))) ∧ Aside0 (wc.heap[gb238]? = some (.cells #[.string t234, .string t235, .string t236] 38 (0, 0))) ∧ Aside0 (Below w.heap.size w wc))
                    case first =>
                      have H := HC79.out
                      clear HC79
                      by_cases c80 : a0_2 ≥ 0
                      · rw [if_pos c80] at H
                        have c80b0 : decide (0 ≤ a0_2) = true := decide_eq_true c80
                        clear c80
                        (first | rw [c80b0] | (simp only [i64_w, i32_w]; rw [c80b0]) | skip)
                        have H' := Aside0.mk H
                        clear H
                        have hnb81 := NB232_233.out
                        have hnc81 := NB233_232.out
                        have hnb82 := NB232_238.out
                        have hnc82 := NB238_232.out
                        obtain ⟨hcz83_0, hcz83_1, hcz83_2, hcz83_3⟩ := Cb.c4 BK232.out
                        obtain ⟨hfz83_0, hfz83_1, hfz83_2, hfz83_3⟩ := Cb.f4 BK232.out
                        go_wp2
                        go_meet
                        case rel => exact ⟨_, (decide (a0_2 < (a2.size : Int))), (by first | rfl | (simp; done) | (simp [*]; done)), H', ⟨by have := HJ20.out; have := HJ61.out; first | omega | exact Nat.le_refl _⟩, ⟨by (with_reducible repeat (first | apply Kd.V_alloc | apply Kd.V_drewN | apply Kd.V_drew)); exact HO_233000.out⟩, ⟨by (with_reducible repeat (first | refine blk_drewN ?_ _ | refine blk_drew ?_ | refine blk_alloc ?_ _)); exact BK232.out⟩, ⟨by (with_reducible repeat (first | refine blk_drewN ?_ _ | refine blk_drew ?_ | refine blk_alloc ?_ _)); exact BK233.out⟩, ⟨by (with_reducible repeat (first | refine blk_drewN ?_ _ | refine blk_drew ?_ | refine blk_alloc ?_ _)); exact BK238.out⟩, ⟨by repeat (first | (with_reducible first | exact HB.out | apply below_alloc | apply pw_below_drewN | apply below_drew1 | refine below_set ?_ GE232.out | refine below_set ?_ GE233.out | refine below_set ?_ GE238.out) | exact HB.out)⟩⟩
                      · rw [if_neg c80] at H
                        have c80b0 : decide (0 ≤ a0_2) = false := decide_eq_false c80
                        clear c80
                        (first | rw [c80b0] | (simp only [i64_w, i32_w]; rw [c80b0]) | skip)
                        have H' := Aside0.mk H
                        clear H
                        have hnb84 := NB232_233.out
                        have hnc84 := NB233_232.out
                        have hnb85 := NB232_238.out
                        have hnc85 := NB238_232.out
                        obtain ⟨hcz86_0, hcz86_1, hcz86_2, hcz86_3⟩ := Cb.c4 BK232.out
                        obtain ⟨hfz86_0, hfz86_1, hfz86_2, hfz86_3⟩ := Cb.f4 BK232.out
                        go_wp2
                        go_meet
                        case rel => exact ⟨_, (false), (by first | rfl | (simp; done) | (simp [*]; done)), H', ⟨by have := HJ20.out; have := HJ61.out; first | omega | exact Nat.le_refl _⟩, ⟨by (with_reducible repeat (first | apply Kd.V_alloc | apply Kd.V_drewN | apply Kd.V_drew)); exact HO_233000.out⟩, ⟨by (with_reducible repeat (first | refine blk_drewN ?_ _ | refine blk_drew ?_ | refine blk_alloc ?_ _)); exact BK232.out⟩, ⟨by (with_reducible repeat (first | refine blk_drewN ?_ _ | refine blk_drew ?_ | refine blk_alloc ?_ _)); exact BK233.out⟩, ⟨by (with_reducible repeat (first | refine blk_drewN ?_ _ | refine blk_drew ?_ | refine blk_alloc ?_ _)); exact BK238.out⟩, ⟨by repeat (first | (with_reducible first | exact HB.out | apply below_alloc | apply pw_below_drewN | apply below_drew1 | refine below_set ?_ GE232.out | refine below_set ?_ GE233.out | refine below_set ?_ GE238.out) | exact HB.out)⟩⟩
                    case rest =>
                      clear HC79
                      try clear c1
                      try clear c2
                      try clear p2
                      try clear c3
                      try clear c4
                      try clear c5
                      try clear c6
                      try clear p6
                      try clear c7
                      try clear c8
                      try clear c12
                      try clear c13
                      try clear c20
                      try clear c24
                      try clear c28
                      try clear c29
                      try clear c33
                      try clear c34
                      try clear c35
                      try clear c37
                      try clear c38
                      try clear c39
                      try clear c40
                      try clear c41
                      try clear c44
                      try clear c44b0
                      try clear c45
                      try clear c46
                      try clear c48
                      try clear c52
                      try clear c52b0
                      try clear c53
                      try clear c54
                      try clear c56
                      try clear c63
                      try clear c64
                      try clear p64
                      try clear c66
                      try clear c67
                      try clear c68
                      try clear c69
                      try clear c71
                      try clear c72
                      try clear c73
                      try clear c80
                      try clear c80b0
                      try clear c81
                      try clear c82
                      try clear c84
                      try clear c85
                      try clear hcz14_0
                      try clear hcz14_1
                      try clear hcz14_2
                      try clear hcz16_0
                      try clear hcz16_1
                      try clear hcz16_2
                      try clear hcz16_3
                      try clear hcz17_0
                      try clear hcz17_1
                      try clear hcz17_2
                      try clear hcz17_3
                      try clear hcz25_0
                      try clear hcz25_1
                      try clear hcz25_2
                      try clear hcz25_3
                      try clear hcz30_0
                      try clear hcz30_1
                      try clear hcz30_2
                      try clear hcz32_0
                      try clear hcz32_1
                      try clear hcz32_2
                      try clear hcz32_3
                      try clear hcz36_0
                      try clear hcz36_1
                      try clear hcz36_2
                      try clear hcz36_3
                      try clear hcz40_0
                      try clear hcz40_1
                      try clear hcz40_2
                      try clear hcz40_3
                      try clear hcz42_0
                      try clear hcz42_1
                      try clear hcz42_2
                      try clear hcz42_3
                      try clear hcz47_0
                      try clear hcz47_1
                      try clear hcz47_2
                      try clear hcz47_3
                      try clear hcz49_0
                      try clear hcz49_1
                      try clear hcz49_2
                      try clear hcz49_3
                      try clear hcz55_0
                      try clear hcz55_1
                      try clear hcz55_2
                      try clear hcz55_3
                      try clear hcz57_0
                      try clear hcz57_1
                      try clear hcz57_2
                      try clear hcz59_0
                      try clear hcz59_1
                      try clear hcz59_2
                      try clear hcz59_3
                      try clear hcz60_0
                      try clear hcz60_1
                      try clear hcz60_2
                      try clear hcz60_3
                      try clear hcz65_0
                      try clear hcz65_1
                      try clear hcz65_2
                      try clear hcz65_3
                      try clear hcz67_0
                      try clear hcz67_1
                      try clear hcz67_2
                      try clear hcz74_0
                      try clear hcz74_1
                      try clear hcz74_2
                      try clear hcz74_3
                      try clear hcz78_0
                      try clear hcz78_1
                      try clear hcz78_2
                      try clear hcz78_3
                      try clear hcz83_0
                      try clear hcz83_1
                      try clear hcz83_2
                      try clear hcz83_3
                      try clear hcz86_0
                      try clear hcz86_1
                      try clear hcz86_2
                      try clear hcz86_3
                      try clear hcz9_0
                      try clear hcz9_1
                      try clear hcz9_2
                      try clear hcz9_3
                      try clear hfz14_0
                      try clear hfz14_1
                      try clear hfz14_2
                      try clear hfz16_0
                      try clear hfz16_1
                      try clear hfz16_2
                      try clear hfz16_3
                      try clear hfz17_0
                      try clear hfz17_1
                      try clear hfz17_2
                      try clear hfz17_3
                      try clear hfz25_0
                      try clear hfz25_1
                      try clear hfz25_2
                      try clear hfz25_3
                      try clear hfz30_0
                      try clear hfz30_1
                      try clear hfz30_2
                      try clear hfz32_0
                      try clear hfz32_1
                      try clear hfz32_2
                      try clear hfz32_3
                      try clear hfz36_0
                      try clear hfz36_1
                      try clear hfz36_2
                      try clear hfz36_3
                      try clear hfz40_0
                      try clear hfz40_1
                      try clear hfz40_2
                      try clear hfz40_3
                      try clear hfz42_0
                      try clear hfz42_1
                      try clear hfz42_2
                      try clear hfz42_3
                      try clear hfz47_0
                      try clear hfz47_1
                      try clear hfz47_2
                      try clear hfz47_3
                      try clear hfz49_0
                      try clear hfz49_1
                      try clear hfz49_2
                      try clear hfz49_3
                      try clear hfz55_0
                      try clear hfz55_1
                      try clear hfz55_2
                      try clear hfz55_3
                      try clear hfz57_0
                      try clear hfz57_1
                      try clear hfz57_2
                      try clear hfz59_0
                      try clear hfz59_1
                      try clear hfz59_2
                      try clear hfz59_3
                      try clear hfz60_0
                      try clear hfz60_1
                      try clear hfz60_2
                      try clear hfz60_3
                      try clear hfz65_0
                      try clear hfz65_1
                      try clear hfz65_2
                      try clear hfz65_3
                      try clear hfz67_0
                      try clear hfz67_1
                      try clear hfz67_2
                      try clear hfz74_0
                      try clear hfz74_1
                      try clear hfz74_2
                      try clear hfz74_3
                      try clear hfz78_0
                      try clear hfz78_1
                      try clear hfz78_2
                      try clear hfz78_3
                      try clear hfz83_0
                      try clear hfz83_1
                      try clear hfz83_2
                      try clear hfz83_3
                      try clear hfz86_0
                      try clear hfz86_1
                      try clear hfz86_2
                      try clear hfz86_3
                      try clear hfz9_0
                      try clear hfz9_1
                      try clear hfz9_2
                      try clear hfz9_3
                      try clear p2
                      try clear p6
                      try clear p64
                      obtain ⟨kq, x71_78, rfl, HA, HJ78, HO_233000, BK232, BK233, BK238, HB⟩ := hcut
                      cases kq with
                      | zero => exact absurd HA.out (by simp [disk_Append.j2])
                      | succ kj78 =>
                        have H := HA.out
                        clear HA
                        simp only [disk_Append.j2] at H
                        have HC87 := Aside0.mk H
                        clear H
                        go_upto_if 71 with (fail)
                        go_cut [10] (fun v10 wc => ∃ (kq : Nat) (x10_86 : ByteArray), v10 = .string x10_86 ∧ Aside0 (disk_Append.j3 kq a1 a2 x10_86 x233000_61 a0_1 a0_2 false = some (r1, r2, r3, r4, r5)) ∧ Aside0 (kq ≤ kj78) ∧ Aside0 (Kd.V k38 38 wc w.heap.size (fun k_ => (P0_0_ k_ ∨ w.heap.size ≤ k_) ∧ k_ ≠ gb232 ∧ k_ ≠ gb233 ∧ k_ ≠ gb238) u233000 x233000_61) ∧ Aside0 (wc.heap[gb232]? = some (.cells #[u233000, .int .i64 a0_1, .int .i64 a0_2, .bool false] 33 (0, 0))) ∧ Aside0 (wc.heap[gb233]? = some (.cells #[(.slice none 0 0), .int .i64 0, .int .i64 0, .bool false] 33 (0, 0))) ∧ Aside0 (wc.heap[gb238]? = some (.cells #[.string t234, .string t235, .string t236] 38 (0, 0))) ∧ Aside0 (Below w.heap.size w wc))
                        case first =>
                          have H := HC87.out
                          clear HC87
                          by_cases c88 : x71_78 = true
                          · subst c88
                            have H1 : (if 0 ≤ a0_2 then (if a0_2 ≤ (a2.size : Int) then (disk_Append.j3 kj78 a1 a2 (a2.extract 0 (a0_2 : Int).toNat) x233000_61 a0_1 a0_2 false) else (none)) else (none)) = some (r1, r2, r3, r4, r5) := by rw [if_pos rfl] at H; exact H
                            clear H
                            have H := H1
                            clear H1
                            by_cases c89 : 0 ≤ a0_2
                            · rw [if_pos c89] at H
                              have c89b0 := eq_true c89
                              have c89b1 : decide (0 ≤ a0_2) = true := decide_eq_true c89
                              clear c89
                              by_cases c90 : a0_2 ≤ (a2.size : Int)
                              · rw [if_pos c90] at H
                                have c90b0 := eq_true c90
                                have c90b1 : decide (a0_2 ≤ (a2.size : Int)) = true := decide_eq_true c90
                                clear c90
                                have H' := Aside0.mk H
                                clear H
                                have hnb91 := NB232_233.out
                                have hnc91 := NB233_232.out
                                have hnb92 := NB232_238.out
                                have hnc92 := NB238_232.out
                                obtain ⟨hcz93_0, hcz93_1, hcz93_2, hcz93_3⟩ := Cb.c4 BK232.out
                                obtain ⟨hfz93_0, hfz93_1, hfz93_2, hfz93_3⟩ := Cb.f4 BK232.out
                                go_wp2
                                go_meet
                                case rel => exact ⟨_, (a2.extract 0 (a0_2 : Int).toNat), (by first | rfl | (simp; done) | (simp [*]; done)), H', ⟨by have := HJ20.out; have := HJ61.out; have := HJ78.out; first | omega | exact Nat.le_refl _⟩, ⟨by (with_reducible repeat (first | apply Kd.V_alloc | apply Kd.V_drewN | apply Kd.V_drew)); exact HO_233000.out⟩, ⟨by (with_reducible repeat (first | refine blk_drewN ?_ _ | refine blk_drew ?_ | refine blk_alloc ?_ _)); exact BK232.out⟩, ⟨by (with_reducible repeat (first | refine blk_drewN ?_ _ | refine blk_drew ?_ | refine blk_alloc ?_ _)); exact BK233.out⟩, ⟨by (with_reducible repeat (first | refine blk_drewN ?_ _ | refine blk_drew ?_ | refine blk_alloc ?_ _)); exact BK238.out⟩, ⟨by repeat (first | (with_reducible first | exact HB.out | apply below_alloc | apply pw_below_drewN | apply below_drew1 | refine below_set ?_ GE232.out | refine below_set ?_ GE233.out | refine below_set ?_ GE238.out) | exact HB.out)⟩⟩
                              · rw [if_neg c90] at H
                                exact absurd H (by simp)
                            · rw [if_neg c89] at H
                              exact absurd H (by simp)
                          · replace c88 := Bool.eq_false_iff.mpr c88
                            subst c88
                            have H1 : (disk_Append.j3 kj78 a1 a2 a2 x233000_61 a0_1 a0_2 false) = some (r1, r2, r3, r4, r5) := by rw [if_neg (show ¬ (false = true) by decide)] at H; exact H
                            clear H
                            have H := H1
                            clear H1
                            have H' := Aside0.mk H
                            clear H
                            go_wp2
                            go_meet
                            case rel => exact ⟨_, (a2), (by first | rfl | (simp; done) | (simp [*]; done)), H', ⟨by have := HJ20.out; have := HJ61.out; have := HJ78.out; first | omega | exact Nat.le_refl _⟩, ⟨by (with_reducible repeat (first | apply Kd.V_alloc | apply Kd.V_drewN | apply Kd.V_drew)); exact HO_233000.out⟩, ⟨by (with_reducible repeat (first | refine blk_drewN ?_ _ | refine blk_drew ?_ | refine blk_alloc ?_ _)); exact BK232.out⟩, ⟨by (with_reducible repeat (first | refine blk_drewN ?_ _ | refine blk_drew ?_ | refine blk_alloc ?_ _)); exact BK233.out⟩, ⟨by (with_reducible repeat (first | refine blk_drewN ?_ _ | refine blk_drew ?_ | refine blk_alloc ?_ _)); exact BK238.out⟩, ⟨by repeat (first | (with_reducible first | exact HB.out | apply below_alloc | apply pw_below_drewN | apply below_drew1 | refine below_set ?_ GE232.out | refine below_set ?_ GE233.out | refine below_set ?_ GE238.out) | exact HB.out)⟩⟩
                        case rest =>
                          clear HC87
                          try clear c1
                          try clear c2
                          try clear p2
                          try clear c3
                          try clear c4
                          try clear c5
                          try clear c6
                          try clear p6
                          try clear c7
                          try clear c8
                          try clear c9
                          try clear c12
                          try clear c13
                          try clear c20
                          try clear c24
                          try clear c28
                          try clear c29
                          try clear c33
                          try clear c34
                          try clear c35
                          try clear c37
                          try clear c38
                          try clear c39
                          try clear c40
                          try clear c41
                          try clear c44
                          try clear c44b0
                          try clear c45
                          try clear c46
                          try clear c48
                          try clear c52
                          try clear c52b0
                          try clear c53
                          try clear c54
                          try clear c56
                          try clear c63
                          try clear c64
                          try clear p64
                          try clear c66
                          try clear c67
                          try clear c68
                          try clear c69
                          try clear c71
                          try clear c72
                          try clear c73
                          try clear c80
                          try clear c80b0
                          try clear c81
                          try clear c82
                          try clear c84
                          try clear c85
                          try clear c88
                          try clear c89
                          try clear c89b0
                          try clear c89b1
                          try clear c90
                          try clear c90b0
                          try clear c90b1
                          try clear c91
                          try clear c92
                          try clear hcz14_0
                          try clear hcz14_1
                          try clear hcz14_2
                          try clear hcz16_0
                          try clear hcz16_1
                          try clear hcz16_2
                          try clear hcz16_3
                          try clear hcz17_0
                          try clear hcz17_1
                          try clear hcz17_2
                          try clear hcz17_3
                          try clear hcz25_0
                          try clear hcz25_1
                          try clear hcz25_2
                          try clear hcz25_3
                          try clear hcz30_0
                          try clear hcz30_1
                          try clear hcz30_2
                          try clear hcz32_0
                          try clear hcz32_1
                          try clear hcz32_2
                          try clear hcz32_3
                          try clear hcz36_0
                          try clear hcz36_1
                          try clear hcz36_2
                          try clear hcz36_3
                          try clear hcz40_0
                          try clear hcz40_1
                          try clear hcz40_2
                          try clear hcz40_3
                          try clear hcz42_0
                          try clear hcz42_1
                          try clear hcz42_2
                          try clear hcz42_3
                          try clear hcz47_0
                          try clear hcz47_1
                          try clear hcz47_2
                          try clear hcz47_3
                          try clear hcz49_0
                          try clear hcz49_1
                          try clear hcz49_2
                          try clear hcz49_3
                          try clear hcz55_0
                          try clear hcz55_1
                          try clear hcz55_2
                          try clear hcz55_3
                          try clear hcz57_0
                          try clear hcz57_1
                          try clear hcz57_2
                          try clear hcz59_0
                          try clear hcz59_1
                          try clear hcz59_2
                          try clear hcz59_3
                          try clear hcz60_0
                          try clear hcz60_1
                          try clear hcz60_2
                          try clear hcz60_3
                          try clear hcz65_0
                          try clear hcz65_1
                          try clear hcz65_2
                          try clear hcz65_3
                          try clear hcz67_0
                          try clear hcz67_1
                          try clear hcz67_2
                          try clear hcz74_0
                          try clear hcz74_1
                          try clear hcz74_2
                          try clear hcz74_3
                          try clear hcz78_0
                          try clear hcz78_1
                          try clear hcz78_2
                          try clear hcz78_3
                          try clear hcz83_0
                          try clear hcz83_1
                          try clear hcz83_2
                          try clear hcz83_3
                          try clear hcz86_0
                          try clear hcz86_1
                          try clear hcz86_2
                          try clear hcz86_3
                          try clear hcz93_0
                          try clear hcz93_1
                          try clear hcz93_2
                          try clear hcz93_3
                          try clear hcz9_0
                          try clear hcz9_1
                          try clear hcz9_2
                          try clear hcz9_3
                          try clear hfz14_0
                          try clear hfz14_1
                          try clear hfz14_2
                          try clear hfz16_0
                          try clear hfz16_1
                          try clear hfz16_2
                          try clear hfz16_3
                          try clear hfz17_0
                          try clear hfz17_1
                          try clear hfz17_2
                          try clear hfz17_3
                          try clear hfz25_0
                          try clear hfz25_1
                          try clear hfz25_2
                          try clear hfz25_3
                          try clear hfz30_0
                          try clear hfz30_1
                          try clear hfz30_2
                          try clear hfz32_0
                          try clear hfz32_1
                          try clear hfz32_2
                          try clear hfz32_3
                          try clear hfz36_0
                          try clear hfz36_1
                          try clear hfz36_2
                          try clear hfz36_3
                          try clear hfz40_0
                          try clear hfz40_1
                          try clear hfz40_2
                          try clear hfz40_3
                          try clear hfz42_0
                          try clear hfz42_1
                          try clear hfz42_2
                          try clear hfz42_3
                          try clear hfz47_0
                          try clear hfz47_1
                          try clear hfz47_2
                          try clear hfz47_3
                          try clear hfz49_0
                          try clear hfz49_1
                          try clear hfz49_2
                          try clear hfz49_3
                          try clear hfz55_0
                          try clear hfz55_1
                          try clear hfz55_2
                          try clear hfz55_3
                          try clear hfz57_0
                          try clear hfz57_1
                          try clear hfz57_2
                          try clear hfz59_0
                          try clear hfz59_1
                          try clear hfz59_2
                          try clear hfz59_3
                          try clear hfz60_0
                          try clear hfz60_1
                          try clear hfz60_2
                          try clear hfz60_3
                          try clear hfz65_0
                          try clear hfz65_1
                          try clear hfz65_2
                          try clear hfz65_3
                          try clear hfz67_0
                          try clear hfz67_1
                          try clear hfz67_2
                          try clear hfz74_0
                          try clear hfz74_1
                          try clear hfz74_2
                          try clear hfz74_3
                          try clear hfz78_0
                          try clear hfz78_1
                          try clear hfz78_2
                          try clear hfz78_3
                          try clear hfz83_0
                          try clear hfz83_1
                          try clear hfz83_2
                          try clear hfz83_3
                          try clear hfz86_0
                          try clear hfz86_1
                          try clear hfz86_2
                          try clear hfz86_3
                          try clear hfz93_0
                          try clear hfz93_1
                          try clear hfz93_2
                          try clear hfz93_3
                          try clear hfz9_0
                          try clear hfz9_1
                          try clear hfz9_2
                          try clear hfz9_3
                          try clear p2
                          try clear p6
                          try clear p64
                          obtain ⟨kq, x10_86, rfl, HA, HJ86, HO_233000, BK232, BK233, BK238, HB⟩ := hcut
                          cases kq with
                          | zero => exact absurd HA.out (by simp [disk_Append.j3])
                          | succ kj86 =>
                            have H := HA.out
                            clear HA
                            simp only [disk_Append.j3] at H
                            replace H := Option.bind_eq_some_iff.mp H
                            obtain ⟨t247, A940, H⟩ := H
                            replace H : (if 0 ≤ t247 then (if t247 < (x233000_61.length : Int) then (if ((rd_T38 x233000_61 t247).f2).size + x10_86.size ≤ 9223372036854775807 then ((api_File_70.f x233000_61 t247 ((rd_T38 x233000_61 t247).f0) ((rd_T38 x233000_61 t247).f1) (((rd_T38 x233000_61 t247).f2) ++ x10_86)).bind fun t249 => (if a0_2 ≥ 0 then (if (x10_86.size : Int) < (a2.size : Int) then (some (t249, wrap64 (a0_1 - (x10_86.size : Int)), wrap64 (a0_2 - (x10_86.size : Int)), true, 6)) else (some (t249, wrap64 (a0_1 - (x10_86.size : Int)), wrap64 (a0_2 - (x10_86.size : Int)), false, 0))) else (if (x10_86.size : Int) < (a2.size : Int) then (some (t249, wrap64 (a0_1 - (x10_86.size : Int)), a0_2, true, 6)) else (some (t249, wrap64 (a0_1 - (x10_86.size : Int)), a0_2, false, 0))))) else (none)) else (none)) else (none)) = some (r1, r2, r3, r4, r5) := H
                            have A94 := Aside0.mk A940
                            clear A940
                            by_cases c95 : 0 ≤ t247
                            · rw [if_pos c95] at H
                              have c95b0 : decide (0 ≤ t247) = true := decide_eq_true c95
                              clear c95
                              by_cases c96 : t247 < (x233000_61.length : Int)
                              · rw [if_pos c96] at H
                                have c96b0 : decide (t247 < (x233000_61.length : Int)) = true := decide_eq_true c96
                                clear c96
                                by_cases c97 : ((rd_T38 x233000_61 t247).f2).size + x10_86.size ≤ 9223372036854775807
                                · rw [if_pos c97] at H
                                  have c97b0 := eq_true c97
                                  have c97b1 : decide (((rd_T38 x233000_61 t247).f2).size + x10_86.size ≤ 9223372036854775807) = true := decide_eq_true c97
                                  try have c97b2 : (9223372036854775807 < ((rd_T38 x233000_61 t247).f2).size + x10_86.size) = False := eq_false (Nat.not_lt.2 c97)
                                  replace H := Option.bind_eq_some_iff.mp H
                                  obtain ⟨t249, A980, H⟩ := H
                                  replace H : (if a0_2 ≥ 0 then (if (x10_86.size : Int) < (a2.size : Int) then (some (t249, wrap64 (a0_1 - (x10_86.size : Int)), wrap64 (a0_2 - (x10_86.size : Int)), true, 6)) else (some (t249, wrap64 (a0_1 - (x10_86.size : Int)), wrap64 (a0_2 - (x10_86.size : Int)), false, 0))) else (if (x10_86.size : Int) < (a2.size : Int) then (some (t249, wrap64 (a0_1 - (x10_86.size : Int)), a0_2, true, 6)) else (some (t249, wrap64 (a0_1 - (x10_86.size : Int)), a0_2, false, 0)))) = some (r1, r2, r3, r4, r5) := H
                                  have A98 := Aside0.mk A980
                                  clear A980
                                  by_cases c99 : a0_2 ≥ 0
                                  · rw [if_pos c99] at H
                                    have c99b0 : decide (0 ≤ a0_2) = true := decide_eq_true c99
                                    clear c99
                                    by_cases c100 : (x10_86.size : Int) < (a2.size : Int)
                                    · rw [if_pos c100] at H
                                      have c100b0 : decide ((x10_86.size : Int) < (a2.size : Int)) = true := decide_eq_true c100
                                      have c100b1 : decide (x10_86.size < a2.size) = true := decide_eq_true (Int.ofNat_lt.mp c100)
                                      clear c100
                                      simp only [Option.some.injEq, Prod.mk.injEq] at H
                                      obtain ⟨rfl, rfl, rfl, rfl, rfl⟩ := H
                                      have hnb101 := NB232_233.out
                                      have hnc101 := NB233_232.out
                                      have hnb102 := NB232_238.out
                                      have hnc102 := NB238_232.out
                                      obtain ⟨hcz103_0, hcz103_1, hcz103_2, hcz103_3⟩ := Cb.c4 BK232.out
                                      obtain ⟨hfz103_0, hfz103_1, hfz103_2, hfz103_3⟩ := Cb.f4 BK232.out
                                      obtain ⟨Ao104, co104, eo104⟩ := Kd.V_slice HO_233000.out
                                      subst eo104
                                      go_wp2_with (first | ((with_reducible refine gate_callee (f := 64) rfl ?_); refine goesL_ (some 78) rfl rfl Try.func64 (by kernel_rfl) rfl #[.agg #[.slice Ao104 x233000_61.length co104, .int .i64 a0_1, .int .i64 a0_2, .bool false], .string a1] rfl (by (try simp only [List.map_toArray, List.map_cons, List.map_nil]); first | done | rfl | (simp only [List.length_drop, List.length_take]; rfl)) ?_; (with_reducible refine (disk_at.calls _ _ x233000_61 a0_1 a0_2 false a1 t247 _ ?side1 ?side2 A94.out).mono ?_); (case side1 => repeat (first | exact (Kd.V_reads' HO_233000.out).2.2 | (with_reducible refine Kd.C_alloc ?_ _) | (with_reducible refine Kd.C_drewN ?_ _) | (with_reducible refine Kd.C_drew ?_))); (case side2 => exact (Kd.V_reads' HO_233000.out).2.1); rintro e w105 ⟨rfl, hb⟩; refine ⟨_, rfl, ?_⟩; replace HO_233000 := Aside0.mk (Kd.V_below (by (with_reducible repeat (first | apply Kd.V_alloc | apply Kd.V_drewN | apply Kd.V_drew)); exact HO_233000.out) hb); replace BK232 := Aside0.mk (blk_below BK232.out hb); replace BK233 := Aside0.mk (blk_below BK233.out hb); replace BK238 := Aside0.mk (blk_below BK238.out hb); replace HB := Aside0.mk (below_step (by repeat (first | (with_reducible first | exact HB.out | apply below_alloc | apply pw_below_drewN | apply below_drew1 | refine below_set ?_ GE232.out | refine below_set ?_ GE233.out | refine below_set ?_ GE238.out) | exact HB.out)) hb); (try clear hb); (try clear hb2); (try clear hk); (try clear hi); obtain ⟨hcz106_0, hcz106_1, hcz106_2, hcz106_3⟩ := Cb.c4 BK232.out; obtain ⟨hfz106_0, hfz106_1, hfz106_2, hfz106_3⟩ := Cb.f4 BK232.out; have p248 : 0 ≤ (t247 : Int) := of_decide_eq_true (by first | (with_reducible assumption) | assumption); have q248 : t247 < (x233000_61.length : Int) := of_decide_eq_true (by first | (with_reducible assumption) | assumption); obtain ⟨ad248, e248, hx248_0, hx248_1, hx248_2⟩ := at_T38 (Kd.V_reads' HO_233000.out).2.2 t247 p248 q248; cases e248; replace p248 := eq_true p248; replace q248 := eq_true q248; have hnb107 := NB238_233.out; have hnc107 := NB233_238.out; obtain ⟨hcz108_0, hcz108_1, hcz108_2⟩ := Cb.c3 BK238.out; obtain ⟨hfz108_0, hfz108_1, hfz108_2⟩ := Cb.f3 BK238.out) | ((with_reducible refine gate_store (t := 38) (p := 8) rfl ?_); refine store_event (t := 38) (p := 8) (v := ?vo_w109) (w1 := (((w105.setCell ⟨gb238, 0, none⟩ (.string ((rd_T38 x233000_61 t247).f0))).setCell ⟨gb238, 1, none⟩ (.string ((rd_T38 x233000_61 t247).f1))).setCell ⟨gb238, 2, none⟩ (.string ((rd_T38 x233000_61 t247).f2)))) ?hg ?ho ?hn ?hr ?_; (case ho => rfl); (case hg => rfl); (case hn => rfl); (case hr => first | (go_simp; done) | (go_simp; rfl)); intro w109 hw; have n0_ : Aside0 (Kd.V k38 38 w109 w.heap.size (fun k_ => (P0_0_ k_ ∨ w.heap.size ≤ k_) ∧ k_ ≠ gb232 ∧ k_ ≠ gb233 ∧ k_ ≠ gb238) (.slice (some ad248) x233000_61.length co104) x233000_61) := ⟨(by rw [hw]; exact (by (with_reducible repeat (first | apply Kd.V_alloc | apply Kd.V_drewN | apply Kd.V_drew)); exact Kd.V_mono (Kd.V_far (p := ⟨gb238, 2, none⟩) (Kd.V_far (p := ⟨gb238, 1, none⟩) (Kd.V_far (p := ⟨gb238, 0, none⟩) (Kd.V_mono HO_233000.out (fun k_ hk => (⟨hk, hk.2.2.2⟩ : _ ∧ k_ ≠ gb238))) (fun _ hk => hk.2) (.string ((rd_T38 x233000_61 t247).f0))) (fun _ hk => hk.2) (.string ((rd_T38 x233000_61 t247).f1))) (fun _ hk => hk.2) (.string ((rd_T38 x233000_61 t247).f2))) (fun _ hk => ⟨hk.1.1, ⟨hk.1.2.1, ⟨hk.1.2.2.1, hk.1.2.2.2⟩⟩⟩)))⟩; have n1_ : Aside0 (w109.heap[gb232]? = some (.cells #[.slice (some ad248) x233000_61.length co104, .int .i64 a0_1, .int .i64 a0_2, .bool false] 33 (0, 0))) := ⟨(by rw [hw]; exact (by (with_reducible repeat (first | refine blk_drewN ?_ _ | refine blk_drew ?_ | refine blk_alloc ?_ _)); refine blk_far ?_ NB232_238.out _; refine blk_far ?_ NB232_238.out _; refine blk_far ?_ NB232_238.out _; (with_reducible repeat (first | refine blk_drewN ?_ _ | refine blk_drew ?_ | refine blk_alloc ?_ _)); exact BK232.out))⟩; have n2_ : Aside0 (w109.heap[gb233]? = some (.cells #[.slice none 0 0, .int .i64 0, .int .i64 0, .bool false] 33 (0, 0))) := ⟨(by rw [hw]; exact (by (with_reducible repeat (first | refine blk_drewN ?_ _ | refine blk_drew ?_ | refine blk_alloc ?_ _)); refine blk_far ?_ NB233_238.out _; refine blk_far ?_ NB233_238.out _; refine blk_far ?_ NB233_238.out _; (with_reducible repeat (first | refine blk_drewN ?_ _ | refine blk_drew ?_ | refine blk_alloc ?_ _)); exact BK233.out))⟩; have n3_ : Aside0 (w109.heap[gb238]? = some (.cells #[.string ((rd_T38 x233000_61 t247).f0), .string ((rd_T38 x233000_61 t247).f1), .string ((rd_T38 x233000_61 t247).f2)] 38 (0, 0))) := ⟨(by rw [hw]; exact (by (with_reducible repeat (first | refine blk_drewN ?_ _ | refine blk_drew ?_ | refine blk_alloc ?_ _)); refine blk_put (cs := #[.string ((rd_T38 x233000_61 t247).f0), .string ((rd_T38 x233000_61 t247).f1), .string t236]) ?_ 2 _ rfl; refine blk_put (cs := #[.string ((rd_T38 x233000_61 t247).f0), .string t235, .string t236]) ?_ 1 _ rfl; refine blk_put (cs := #[.string t234, .string t235, .string t236]) ?_ 0 _ rfl; (with_reducible repeat (first | refine blk_drewN ?_ _ | refine blk_drew ?_ | refine blk_alloc ?_ _)); exact BK238.out))⟩; have n4_ : Aside0 (Below w.heap.size w w109) := ⟨(by rw [hw]; exact (by repeat (first | (with_reducible first | exact HB.out | apply below_alloc | apply pw_below_drewN | apply below_drew1 | refine below_set ?_ GE232.out | refine below_set ?_ GE233.out | refine below_set ?_ GE238.out) | exact HB.out)))⟩; clear hw; clear HO_233000; clear BK232; clear BK233; clear BK238; clear HB; have HO_233000 := n0_; have BK232 := n1_; have BK233 := n2_; have BK238 := n3_; have HB := n4_; clear n0_ n1_ n2_ n3_ n4_; obtain ⟨hcz110_0, hcz110_1, hcz110_2⟩ := Cb.c3 BK238.out; obtain ⟨hfz110_0, hfz110_1, hfz110_2⟩ := Cb.f3 BK238.out; obtain ⟨hcz111_0, hcz111_1, hcz111_2, hcz111_3⟩ := Cb.c4 BK232.out; obtain ⟨hfz111_0, hfz111_1, hfz111_2, hfz111_3⟩ := Cb.f4 BK232.out) | ((with_reducible refine gate_callee (f := 70) rfl ?_); refine goesL_ (some 93) rfl rfl Try.func70 (by kernel_rfl) rfl #[.slice (some ad248) x233000_61.length co104, .int .i64 t247, .agg #[.string ((rd_T38 x233000_61 t247).f0), .string ((rd_T38 x233000_61 t247).f1), .string (((rd_T38 x233000_61 t247).f2) ++ x10_86)]] rfl (by (try simp only [List.map_toArray, List.map_cons, List.map_nil]); first | done | rfl | (simp only [List.length_drop, List.length_take]; rfl)) ?_; (with_reducible refine (api_File_70.calls _ _ x233000_61 t247 ((rd_T38 x233000_61 t247).f0) ((rd_T38 x233000_61 t247).f1) (((rd_T38 x233000_61 t247).f2) ++ x10_86) t249 _ ?side1 ?side2 A98.out).mono ?_); (case side1 => refine (Kd.V_reads' (e := 38) (base := w.heap.size) (ok := fun k_ => ((P0_0_ k_ ∨ w.heap.size ≤ k_) ∧ (k_ ≠ gb232 ∧ (k_ ≠ gb233 ∧ k_ ≠ gb238)))) (n := x233000_61.length) (c := co104) ?_).2.2; exact (by (with_reducible repeat (first | apply Kd.V_alloc | apply Kd.V_drewN | apply Kd.V_drew)); exact (Kd.V_mono (Kd.V_far (p := ⟨gb238, 2, none⟩) (Kd.V_mono HO_233000.out (fun k_ hk => (⟨hk, hk.2.2.2⟩ : _ ∧ k_ ≠ gb238))) (fun _ hk => hk.2) (.string (((rd_T38 x233000_61 t247).f2) ++ x10_86))) (fun _ h_ => h_.1)))); (case side2 => exact (Kd.V_reads' HO_233000.out).2.1); rintro e w112 ⟨v250, rfl, ho0, hb⟩; refine ⟨_, rfl, ?_⟩; have HO251 := Aside0.mk (Kd.R_lower (Kd.R_newB (Kd.R_newM (M := fun k_ => (w.heap.size ≤ k_)) ho0 (below_size (by repeat (first | (with_reducible first | exact HB.out | apply below_alloc | apply pw_below_drewN | apply below_drew1 | refine below_set ?_ GE232.out | refine below_set ?_ GE233.out | refine below_set ?_ GE238.out) | exact HB.out))) (fun k_ h_ => h_)) (g := gb238) (o := .cells #[.string ((rd_T38 x233000_61 t247).f0), .string ((rd_T38 x233000_61 t247).f1), .string (((rd_T38 x233000_61 t247).f2) ++ x10_86)] 38 (0, 0)) (by (with_reducible repeat (first | refine blk_drewN ?_ _ | refine blk_drew ?_ | refine blk_alloc ?_ _)); refine blk_put (cs := #[.string ((rd_T38 x233000_61 t247).f0), .string ((rd_T38 x233000_61 t247).f1), .string ((rd_T38 x233000_61 t247).f2)]) ?_ 2 _ rfl; (with_reducible repeat (first | refine blk_drewN ?_ _ | refine blk_drew ?_ | refine blk_alloc ?_ _)); exact BK238.out)) (below_size (by repeat (first | (with_reducible first | exact HB.out | apply below_alloc | apply pw_below_drewN | apply below_drew1 | refine below_set ?_ GE232.out | refine below_set ?_ GE233.out | refine below_set ?_ GE238.out) | exact HB.out)))); replace HO_233000 := Aside0.mk (Kd.V_elder' (by (with_reducible repeat (first | apply Kd.V_alloc | apply Kd.V_drewN | apply Kd.V_drew)); exact (Kd.V_mono (Kd.V_far (p := ⟨gb238, 2, none⟩) (Kd.V_mono HO_233000.out (fun k_ hk => (⟨hk, hk.2.2.2⟩ : _ ∧ k_ ≠ gb238))) (fun _ hk => hk.2) (.string (((rd_T38 x233000_61 t247).f2) ++ x10_86))) (fun _ h_ => h_.1))) (Kd.R_base ho0) hb); replace BK232 := Aside0.mk (blk_below (g := gb232) (o := .cells #[.slice (some ad248) x233000_61.length co104, .int .i64 a0_1, .int .i64 a0_2, .bool false] 33 (0, 0)) (by (with_reducible repeat (first | refine blk_drewN ?_ _ | refine blk_drew ?_ | refine blk_alloc ?_ _)); refine blk_far ?_ NB232_238.out _; (with_reducible repeat (first | refine blk_drewN ?_ _ | refine blk_drew ?_ | refine blk_alloc ?_ _)); exact BK232.out) hb); replace BK233 := Aside0.mk (blk_below (g := gb233) (o := .cells #[.slice none 0 0, .int .i64 0, .int .i64 0, .bool false] 33 (0, 0)) (by (with_reducible repeat (first | refine blk_drewN ?_ _ | refine blk_drew ?_ | refine blk_alloc ?_ _)); refine blk_far ?_ NB233_238.out _; (with_reducible repeat (first | refine blk_drewN ?_ _ | refine blk_drew ?_ | refine blk_alloc ?_ _)); exact BK233.out) hb); replace BK238 := Aside0.mk (blk_below (g := gb238) (o := .cells #[.string ((rd_T38 x233000_61 t247).f0), .string ((rd_T38 x233000_61 t247).f1), .string (((rd_T38 x233000_61 t247).f2) ++ x10_86)] 38 (0, 0)) (by (with_reducible repeat (first | refine blk_drewN ?_ _ | refine blk_drew ?_ | refine blk_alloc ?_ _)); refine blk_put (cs := #[.string ((rd_T38 x233000_61 t247).f0), .string ((rd_T38 x233000_61 t247).f1), .string ((rd_T38 x233000_61 t247).f2)]) ?_ 2 _ rfl; (with_reducible repeat (first | refine blk_drewN ?_ _ | refine blk_drew ?_ | refine blk_alloc ?_ _)); exact BK238.out) hb); replace HB := Aside0.mk (below_step (by repeat (first | (with_reducible first | exact HB.out | apply below_alloc | apply pw_below_drewN | apply below_drew1 | refine below_set ?_ GE232.out | refine below_set ?_ GE233.out | refine below_set ?_ GE238.out) | exact HB.out)) hb); (try clear hb); (try clear hb2); (try clear hk); (try clear hi); (try clear ho0); obtain ⟨Ao113, co113, eo113⟩ := Kd.R_slice HO251.out; subst eo113; obtain ⟨hcz114_0, hcz114_1, hcz114_2, hcz114_3⟩ := Cb.c4 BK232.out; obtain ⟨hfz114_0, hfz114_1, hfz114_2, hfz114_3⟩ := Cb.f4 BK232.out) | ((with_reducible refine gate_store (t := 3) (p := 109) rfl ?_); refine store_event (t := 3) (p := 109) (v := ?vo_w115) (w1 := (((w112.setCell ⟨gb232, 0, none⟩ (.slice Ao113 t249.length co113)).setCell ⟨gb232, 1, none⟩ (.int .i64 (wrap64 (a0_1 - (x10_86.size : Int))))).setCell ⟨gb232, 2, none⟩ (.int .i64 (wrap64 (a0_2 - (x10_86.size : Int)))))) ?hg ?ho ?hn ?hr ?_; (case ho => rfl); (case hg => rfl); (case hn => rfl); (case hr => first | (go_simp; done) | (go_simp; rfl)); intro w115 hw; have n0_ : Aside0 (Kd.V k38 38 w115 w.heap.size (fun k_ => (P0_0_ k_ ∨ w.heap.size ≤ k_) ∧ some k_ ≠ (.slice Ao113 t249.length co113 : Value).ownBlock ∧ k_ ≠ gb232 ∧ k_ ≠ gb233 ∧ k_ ≠ gb238) (.slice (some ad248) x233000_61.length co104) x233000_61) := ⟨(by rw [hw]; exact (by (with_reducible repeat (first | apply Kd.V_alloc | apply Kd.V_drewN | apply Kd.V_drew)); exact Kd.V_mono (Kd.V_far (p := ⟨gb232, 2, none⟩) (Kd.V_far (p := ⟨gb232, 1, none⟩) (Kd.V_far (p := ⟨gb232, 0, none⟩) (Kd.V_mono HO_233000.out (fun k_ hk => (⟨hk, hk.1.2.1⟩ : _ ∧ k_ ≠ gb232))) (fun _ hk => hk.2) (.slice Ao113 t249.length co113)) (fun _ hk => hk.2) (.int .i64 (wrap64 (a0_1 - (x10_86.size : Int))))) (fun _ hk => hk.2) (.int .i64 (wrap64 (a0_2 - (x10_86.size : Int))))) (fun _ hk => ⟨hk.1.1.1, ⟨hk.1.2, ⟨hk.1.1.2.1, ⟨hk.1.1.2.2.1, hk.1.1.2.2.2⟩⟩⟩⟩)))⟩; have n1_ : Aside0 (Kd.R k38 38 w115 w.heap.size (fun k_ => (w.heap.size ≤ k_) ∧ k_ ≠ gb238) (.slice Ao113 t249.length co113) t249) := ⟨(by rw [hw]; exact (by (with_reducible repeat (first | apply Kd.R_alloc | apply Kd.R_drewN | apply Kd.R_drew)); exact Kd.R_mono (Kd.R_far (p := ⟨gb232, 2, none⟩) (Kd.R_far (p := ⟨gb232, 1, none⟩) (Kd.R_far (p := ⟨gb232, 0, none⟩) (Kd.R_types HO251.out BK232.out (by decide)) (fun _ hk => hk.2) (.slice Ao113 t249.length co113)) (fun _ hk => hk.2) (.int .i64 (wrap64 (a0_1 - (x10_86.size : Int))))) (fun _ hk => hk.2) (.int .i64 (wrap64 (a0_2 - (x10_86.size : Int))))) (fun _ hk => ⟨hk.1.1.1, hk.1.2⟩)))⟩; have n2_ : Aside0 (w115.heap[gb232]? = some (.cells #[.slice Ao113 t249.length co113, .int .i64 (wrap64 (a0_1 - (x10_86.size : Int))), .int .i64 (wrap64 (a0_2 - (x10_86.size : Int))), .bool false] 33 (0, 0))) := ⟨(by rw [hw]; exact (by (with_reducible repeat (first | refine blk_drewN ?_ _ | refine blk_drew ?_ | refine blk_alloc ?_ _)); refine blk_put (cs := #[.slice Ao113 t249.length co113, .int .i64 (wrap64 (a0_1 - (x10_86.size : Int))), .int .i64 a0_2, .bool false]) ?_ 2 _ rfl; refine blk_put (cs := #[.slice Ao113 t249.length co113, .int .i64 a0_1, .int .i64 a0_2, .bool false]) ?_ 1 _ rfl; refine blk_put (cs := #[.slice (some ad248) x233000_61.length co104, .int .i64 a0_1, .int .i64 a0_2, .bool false]) ?_ 0 _ rfl; (with_reducible repeat (first | refine blk_drewN ?_ _ | refine blk_drew ?_ | refine blk_alloc ?_ _)); exact BK232.out))⟩; have n3_ : Aside0 (w115.heap[gb233]? = some (.cells #[.slice none 0 0, .int .i64 0, .int .i64 0, .bool false] 33 (0, 0))) := ⟨(by rw [hw]; exact (by (with_reducible repeat (first | refine blk_drewN ?_ _ | refine blk_drew ?_ | refine blk_alloc ?_ _)); refine blk_far ?_ NB233_232.out _; refine blk_far ?_ NB233_232.out _; refine blk_far ?_ NB233_232.out _; (with_reducible repeat (first | refine blk_drewN ?_ _ | refine blk_drew ?_ | refine blk_alloc ?_ _)); exact BK233.out))⟩; have n4_ : Aside0 (w115.heap[gb238]? = some (.cells #[.string ((rd_T38 x233000_61 t247).f0), .string ((rd_T38 x233000_61 t247).f1), .string (((rd_T38 x233000_61 t247).f2) ++ x10_86)] 38 (0, 0))) := ⟨(by rw [hw]; exact (by (with_reducible repeat (first | refine blk_drewN ?_ _ | refine blk_drew ?_ | refine blk_alloc ?_ _)); refine blk_far ?_ NB238_232.out _; refine blk_far ?_ NB238_232.out _; refine blk_far ?_ NB238_232.out _; (with_reducible repeat (first | refine blk_drewN ?_ _ | refine blk_drew ?_ | refine blk_alloc ?_ _)); exact BK238.out))⟩; have n5_ : Aside0 (Below w.heap.size w w115) := ⟨(by rw [hw]; exact (by repeat (first | (with_reducible first | exact HB.out | apply below_alloc | apply pw_below_drewN | apply below_drew1 | refine below_set ?_ GE232.out | refine below_set ?_ GE233.out | refine below_set ?_ GE238.out) | exact HB.out)))⟩; clear hw; clear HO_233000; clear HO251; clear BK232; clear BK233; clear BK238; clear HB; have HO_233000 := n0_; have HO251 := n1_; have BK232 := n2_; have BK233 := n3_; have BK238 := n4_; have HB := n5_; clear n0_ n1_ n2_ n3_ n4_ n5_; obtain ⟨hcz116_0, hcz116_1, hcz116_2, hcz116_3⟩ := Cb.c4 BK232.out; obtain ⟨hfz116_0, hfz116_1, hfz116_2, hfz116_3⟩ := Cb.f4 BK232.out; obtain ⟨hcz117_0, hcz117_1, hcz117_2, hcz117_3⟩ := Cb.c4 BK233.out; obtain ⟨hfz117_0, hfz117_1, hfz117_2, hfz117_3⟩ := Cb.f4 BK233.out) | ((with_reducible refine gate_store (t := 33) (p := 6) rfl ?_); refine store_event (t := 33) (p := 6) (v := ?vo_w118) (w1 := (((((w115.setCell ⟨gb232, 3, none⟩ (.bool true)).setCell ⟨gb233, 0, none⟩ (.slice Ao113 t249.length co113)).setCell ⟨gb233, 1, none⟩ (.int .i64 (wrap64 (a0_1 - (x10_86.size : Int))))).setCell ⟨gb233, 2, none⟩ (.int .i64 (wrap64 (a0_2 - (x10_86.size : Int))))).setCell ⟨gb233, 3, none⟩ (.bool true))) ?hg ?ho ?hn ?hr ?_; (case ho => rfl); (case hg => rfl); (case hn => rfl); (case hr => first | (go_simp; done) | (go_simp; rfl)); intro w118 hw; have n0_ : Aside0 (Kd.V k38 38 w118 w.heap.size (fun k_ => (P0_0_ k_ ∨ w.heap.size ≤ k_) ∧ some k_ ≠ (.slice Ao113 t249.length co113 : Value).ownBlock ∧ k_ ≠ gb232 ∧ k_ ≠ gb233 ∧ k_ ≠ gb238) (.slice (some ad248) x233000_61.length co104) x233000_61) := ⟨(by rw [hw]; exact (by (with_reducible repeat (first | apply Kd.V_alloc | apply Kd.V_drewN | apply Kd.V_drew)); exact Kd.V_mono (Kd.V_far (p := ⟨gb233, 3, none⟩) (Kd.V_far (p := ⟨gb233, 2, none⟩) (Kd.V_far (p := ⟨gb233, 1, none⟩) (Kd.V_far (p := ⟨gb233, 0, none⟩) (Kd.V_far (p := ⟨gb232, 3, none⟩) (Kd.V_mono (Kd.V_mono HO_233000.out (fun k_ hk => (⟨hk, hk.2.2.1⟩ : _ ∧ k_ ≠ gb232))) (fun k_ hk => (⟨hk, hk.1.2.2.2.1⟩ : _ ∧ k_ ≠ gb233))) (fun _ hk => hk.1.2) (.bool true)) (fun _ hk => hk.2) (.slice Ao113 t249.length co113)) (fun _ hk => hk.2) (.int .i64 (wrap64 (a0_1 - (x10_86.size : Int))))) (fun _ hk => hk.2) (.int .i64 (wrap64 (a0_2 - (x10_86.size : Int))))) (fun _ hk => hk.2) (.bool true)) (fun _ hk => ⟨hk.1.1.1, ⟨hk.1.1.2.1, ⟨hk.1.1.2.2.1, ⟨hk.1.1.2.2.2.1, hk.1.1.2.2.2.2⟩⟩⟩⟩)))⟩; have n1_ : Aside0 (Kd.R k38 38 w118 w.heap.size (fun k_ => (w.heap.size ≤ k_) ∧ k_ ≠ gb238) (.slice Ao113 t249.length co113) t249) := ⟨(by rw [hw]; exact (by (with_reducible repeat (first | apply Kd.R_alloc | apply Kd.R_drewN | apply Kd.R_drew)); exact Kd.R_mono (Kd.R_far (p := ⟨gb233, 3, none⟩) (Kd.R_far (p := ⟨gb233, 2, none⟩) (Kd.R_far (p := ⟨gb233, 1, none⟩) (Kd.R_far (p := ⟨gb233, 0, none⟩) (Kd.R_far (p := ⟨gb232, 3, none⟩) (Kd.R_types (Kd.R_types HO251.out BK232.out (by decide)) BK233.out (by decide)) (fun _ hk => hk.1.2) (.bool true)) (fun _ hk => hk.2) (.slice Ao113 t249.length co113)) (fun _ hk => hk.2) (.int .i64 (wrap64 (a0_1 - (x10_86.size : Int))))) (fun _ hk => hk.2) (.int .i64 (wrap64 (a0_2 - (x10_86.size : Int))))) (fun _ hk => hk.2) (.bool true)) (fun _ hk => ⟨hk.1.1.1, hk.1.1.2⟩)))⟩; have n2_ : Aside0 (w118.heap[gb232]? = some (.cells #[.slice Ao113 t249.length co113, .int .i64 (wrap64 (a0_1 - (x10_86.size : Int))), .int .i64 (wrap64 (a0_2 - (x10_86.size : Int))), .bool true] 33 (0, 0))) := ⟨(by rw [hw]; exact (by (with_reducible repeat (first | refine blk_drewN ?_ _ | refine blk_drew ?_ | refine blk_alloc ?_ _)); refine blk_far ?_ NB232_233.out _; refine blk_far ?_ NB232_233.out _; refine blk_far ?_ NB232_233.out _; refine blk_far ?_ NB232_233.out _; refine blk_put (cs := #[.slice Ao113 t249.length co113, .int .i64 (wrap64 (a0_1 - (x10_86.size : Int))), .int .i64 (wrap64 (a0_2 - (x10_86.size : Int))), .bool false]) ?_ 3 _ rfl; (with_reducible repeat (first | refine blk_drewN ?_ _ | refine blk_drew ?_ | refine blk_alloc ?_ _)); exact BK232.out))⟩; have n3_ : Aside0 (w118.heap[gb233]? = some (.cells #[.slice Ao113 t249.length co113, .int .i64 (wrap64 (a0_1 - (x10_86.size : Int))), .int .i64 (wrap64 (a0_2 - (x10_86.size : Int))), .bool true] 33 (0, 0))) := ⟨(by rw [hw]; exact (by (with_reducible repeat (first | refine blk_drewN ?_ _ | refine blk_drew ?_ | refine blk_alloc ?_ _)); refine blk_put (cs := #[.slice Ao113 t249.length co113, .int .i64 (wrap64 (a0_1 - (x10_86.size : Int))), .int .i64 (wrap64 (a0_2 - (x10_86.size : Int))), .bool false]) ?_ 3 _ rfl; refine blk_put (cs := #[.slice Ao113 t249.length co113, .int .i64 (wrap64 (a0_1 - (x10_86.size : Int))), .int .i64 0, .bool false]) ?_ 2 _ rfl; refine blk_put (cs := #[.slice Ao113 t249.length co113, .int .i64 0, .int .i64 0, .bool false]) ?_ 1 _ rfl; refine blk_put (cs := #[.slice none 0 0, .int .i64 0, .int .i64 0, .bool false]) ?_ 0 _ rfl; refine blk_far ?_ NB233_232.out _; (with_reducible repeat (first | refine blk_drewN ?_ _ | refine blk_drew ?_ | refine blk_alloc ?_ _)); exact BK233.out))⟩; have n4_ : Aside0 (w118.heap[gb238]? = some (.cells #[.string ((rd_T38 x233000_61 t247).f0), .string ((rd_T38 x233000_61 t247).f1), .string (((rd_T38 x233000_61 t247).f2) ++ x10_86)] 38 (0, 0))) := ⟨(by rw [hw]; exact (by (with_reducible repeat (first | refine blk_drewN ?_ _ | refine blk_drew ?_ | refine blk_alloc ?_ _)); refine blk_far ?_ NB238_233.out _; refine blk_far ?_ NB238_233.out _; refine blk_far ?_ NB238_233.out _; refine blk_far ?_ NB238_233.out _; refine blk_far ?_ NB238_232.out _; (with_reducible repeat (first | refine blk_drewN ?_ _ | refine blk_drew ?_ | refine blk_alloc ?_ _)); exact BK238.out))⟩; have n5_ : Aside0 (Below w.heap.size w w118) := ⟨(by rw [hw]; exact (by repeat (first | (with_reducible first | exact HB.out | apply below_alloc | apply pw_below_drewN | apply below_drew1 | refine below_set ?_ GE232.out | refine below_set ?_ GE233.out | refine below_set ?_ GE238.out) | exact HB.out)))⟩; clear hw; clear HO_233000; clear HO251; clear BK232; clear BK233; clear BK238; clear HB; have HO_233000 := n0_; have HO251 := n1_; have BK232 := n2_; have BK233 := n3_; have BK238 := n4_; have HB := n5_; clear n0_ n1_ n2_ n3_ n4_ n5_))
                                      refine bodyPost_ret (results_ct rfl _ _ gb233 33 #[.slice Ao113 t249.length co113, .int .i64 (wrap64 (a0_1 - (x10_86.size : Int))), .int .i64 (wrap64 (a0_2 - (x10_86.size : Int))), .bool true] (0, 0) _ rfl (by (with_reducible repeat (first | refine blk_drewN ?_ _ | refine blk_drew ?_ | refine blk_alloc ?_ _)); exact BK233.out) Try.underlying33 rfl (by kernel_rfl)) rfl ?_
                                      exact ⟨_, by first | rfl | (simp [errW_none, errW_some] <;> rfl) | (simp [*, errW_none, errW_some] <;> rfl), Kd.V_mono (Kd.R_V (by (with_reducible repeat (first | apply Kd.R_alloc | apply Kd.R_drewN | apply Kd.R_drew)); exact Kd.R_mono HO251.out (fun _ hk => hk.1))) (fun k_ hk => by first | exact ⟨(.inr (hk.1)), hk.2⟩ | exact (.inr (hk))), by repeat (first | (with_reducible first | exact HB.out | apply below_alloc | apply pw_below_drewN | apply below_drew1 | refine below_set ?_ GE232.out | refine below_set ?_ GE233.out | refine below_set ?_ GE238.out) | exact HB.out)⟩
                                    · rw [if_neg c100] at H
                                      have c100b0 : decide ((x10_86.size : Int) < (a2.size : Int)) = false := decide_eq_false c100
                                      have c100b1 : decide (x10_86.size < a2.size) = false := decide_eq_false (fun h => c100 (Int.ofNat_lt.mpr h))
                                      clear c100
                                      simp only [Option.some.injEq, Prod.mk.injEq] at H
                                      obtain ⟨rfl, rfl, rfl, rfl, rfl⟩ := H
                                      have hnb119 := NB232_233.out
                                      have hnc119 := NB233_232.out
                                      have hnb120 := NB232_238.out
                                      have hnc120 := NB238_232.out
                                      obtain ⟨hcz121_0, hcz121_1, hcz121_2, hcz121_3⟩ := Cb.c4 BK232.out
                                      obtain ⟨hfz121_0, hfz121_1, hfz121_2, hfz121_3⟩ := Cb.f4 BK232.out
                                      obtain ⟨Ao122, co122, eo122⟩ := Kd.V_slice HO_233000.out
                                      subst eo122
                                      go_wp2_with (first | ((with_reducible refine gate_callee (f := 64) rfl ?_); refine goesL_ (some 78) rfl rfl Try.func64 (by kernel_rfl) rfl #[.agg #[.slice Ao122 x233000_61.length co122, .int .i64 a0_1, .int .i64 a0_2, .bool false], .string a1] rfl (by (try simp only [List.map_toArray, List.map_cons, List.map_nil]); first | done | rfl | (simp only [List.length_drop, List.length_take]; rfl)) ?_; (with_reducible refine (disk_at.calls _ _ x233000_61 a0_1 a0_2 false a1 t247 _ ?side1 ?side2 A94.out).mono ?_); (case side1 => repeat (first | exact (Kd.V_reads' HO_233000.out).2.2 | (with_reducible refine Kd.C_alloc ?_ _) | (with_reducible refine Kd.C_drewN ?_ _) | (with_reducible refine Kd.C_drew ?_))); (case side2 => exact (Kd.V_reads' HO_233000.out).2.1); rintro e w123 ⟨rfl, hb⟩; refine ⟨_, rfl, ?_⟩; replace HO_233000 := Aside0.mk (Kd.V_below (by (with_reducible repeat (first | apply Kd.V_alloc | apply Kd.V_drewN | apply Kd.V_drew)); exact HO_233000.out) hb); replace BK232 := Aside0.mk (blk_below BK232.out hb); replace BK233 := Aside0.mk (blk_below BK233.out hb); replace BK238 := Aside0.mk (blk_below BK238.out hb); replace HB := Aside0.mk (below_step (by repeat (first | (with_reducible first | exact HB.out | apply below_alloc | apply pw_below_drewN | apply below_drew1 | refine below_set ?_ GE232.out | refine below_set ?_ GE233.out | refine below_set ?_ GE238.out) | exact HB.out)) hb); (try clear hb); (try clear hb2); (try clear hk); (try clear hi); obtain ⟨hcz124_0, hcz124_1, hcz124_2, hcz124_3⟩ := Cb.c4 BK232.out; obtain ⟨hfz124_0, hfz124_1, hfz124_2, hfz124_3⟩ := Cb.f4 BK232.out; have p248 : 0 ≤ (t247 : Int) := of_decide_eq_true (by first | (with_reducible assumption) | assumption); have q248 : t247 < (x233000_61.length : Int) := of_decide_eq_true (by first | (with_reducible assumption) | assumption); obtain ⟨ad248, e248, hx248_0, hx248_1, hx248_2⟩ := at_T38 (Kd.V_reads' HO_233000.out).2.2 t247 p248 q248; cases e248; replace p248 := eq_true p248; replace q248 := eq_true q248; have hnb125 := NB238_233.out; have hnc125 := NB233_238.out; obtain ⟨hcz126_0, hcz126_1, hcz126_2⟩ := Cb.c3 BK238.out; obtain ⟨hfz126_0, hfz126_1, hfz126_2⟩ := Cb.f3 BK238.out) | ((with_reducible refine gate_store (t := 38) (p := 8) rfl ?_); refine store_event (t := 38) (p := 8) (v := ?vo_w127) (w1 := (((w123.setCell ⟨gb238, 0, none⟩ (.string ((rd_T38 x233000_61 t247).f0))).setCell ⟨gb238, 1, none⟩ (.string ((rd_T38 x233000_61 t247).f1))).setCell ⟨gb238, 2, none⟩ (.string ((rd_T38 x233000_61 t247).f2)))) ?hg ?ho ?hn ?hr ?_; (case ho => rfl); (case hg => rfl); (case hn => rfl); (case hr => first | (go_simp; done) | (go_simp; rfl)); intro w127 hw; have n0_ : Aside0 (Kd.V k38 38 w127 w.heap.size (fun k_ => (P0_0_ k_ ∨ w.heap.size ≤ k_) ∧ k_ ≠ gb232 ∧ k_ ≠ gb233 ∧ k_ ≠ gb238) (.slice (some ad248) x233000_61.length co122) x233000_61) := ⟨(by rw [hw]; exact (by (with_reducible repeat (first | apply Kd.V_alloc | apply Kd.V_drewN | apply Kd.V_drew)); exact Kd.V_mono (Kd.V_far (p := ⟨gb238, 2, none⟩) (Kd.V_far (p := ⟨gb238, 1, none⟩) (Kd.V_far (p := ⟨gb238, 0, none⟩) (Kd.V_mono HO_233000.out (fun k_ hk => (⟨hk, hk.2.2.2⟩ : _ ∧ k_ ≠ gb238))) (fun _ hk => hk.2) (.string ((rd_T38 x233000_61 t247).f0))) (fun _ hk => hk.2) (.string ((rd_T38 x233000_61 t247).f1))) (fun _ hk => hk.2) (.string ((rd_T38 x233000_61 t247).f2))) (fun _ hk => ⟨hk.1.1, ⟨hk.1.2.1, ⟨hk.1.2.2.1, hk.1.2.2.2⟩⟩⟩)))⟩; have n1_ : Aside0 (w127.heap[gb232]? = some (.cells #[.slice (some ad248) x233000_61.length co122, .int .i64 a0_1, .int .i64 a0_2, .bool false] 33 (0, 0))) := ⟨(by rw [hw]; exact (by (with_reducible repeat (first | refine blk_drewN ?_ _ | refine blk_drew ?_ | refine blk_alloc ?_ _)); refine blk_far ?_ NB232_238.out _; refine blk_far ?_ NB232_238.out _; refine blk_far ?_ NB232_238.out _; (with_reducible repeat (first | refine blk_drewN ?_ _ | refine blk_drew ?_ | refine blk_alloc ?_ _)); exact BK232.out))⟩; have n2_ : Aside0 (w127.heap[gb233]? = some (.cells #[.slice none 0 0, .int .i64 0, .int .i64 0, .bool false] 33 (0, 0))) := ⟨(by rw [hw]; exact (by (with_reducible repeat (first | refine blk_drewN ?_ _ | refine blk_drew ?_ | refine blk_alloc ?_ _)); refine blk_far ?_ NB233_238.out _; refine blk_far ?_ NB233_238.out _; refine blk_far ?_ NB233_238.out _; (with_reducible repeat (first | refine blk_drewN ?_ _ | refine blk_drew ?_ | refine blk_alloc ?_ _)); exact BK233.out))⟩; have n3_ : Aside0 (w127.heap[gb238]? = some (.cells #[.string ((rd_T38 x233000_61 t247).f0), .string ((rd_T38 x233000_61 t247).f1), .string ((rd_T38 x233000_61 t247).f2)] 38 (0, 0))) := ⟨(by rw [hw]; exact (by (with_reducible repeat (first | refine blk_drewN ?_ _ | refine blk_drew ?_ | refine blk_alloc ?_ _)); refine blk_put (cs := #[.string ((rd_T38 x233000_61 t247).f0), .string ((rd_T38 x233000_61 t247).f1), .string t236]) ?_ 2 _ rfl; refine blk_put (cs := #[.string ((rd_T38 x233000_61 t247).f0), .string t235, .string t236]) ?_ 1 _ rfl; refine blk_put (cs := #[.string t234, .string t235, .string t236]) ?_ 0 _ rfl; (with_reducible repeat (first | refine blk_drewN ?_ _ | refine blk_drew ?_ | refine blk_alloc ?_ _)); exact BK238.out))⟩; have n4_ : Aside0 (Below w.heap.size w w127) := ⟨(by rw [hw]; exact (by repeat (first | (with_reducible first | exact HB.out | apply below_alloc | apply pw_below_drewN | apply below_drew1 | refine below_set ?_ GE232.out | refine below_set ?_ GE233.out | refine below_set ?_ GE238.out) | exact HB.out)))⟩; clear hw; clear HO_233000; clear BK232; clear BK233; clear BK238; clear HB; have HO_233000 := n0_; have BK232 := n1_; have BK233 := n2_; have BK238 := n3_; have HB := n4_; clear n0_ n1_ n2_ n3_ n4_; obtain ⟨hcz128_0, hcz128_1, hcz128_2⟩ := Cb.c3 BK238.out; obtain ⟨hfz128_0, hfz128_1, hfz128_2⟩ := Cb.f3 BK238.out; obtain ⟨hcz129_0, hcz129_1, hcz129_2, hcz129_3⟩ := Cb.c4 BK232.out; obtain ⟨hfz129_0, hfz129_1, hfz129_2, hfz129_3⟩ := Cb.f4 BK232.out) | ((with_reducible refine gate_callee (f := 70) rfl ?_); refine goesL_ (some 93) rfl rfl Try.func70 (by kernel_rfl) rfl #[.slice (some ad248) x233000_61.length co122, .int .i64 t247, .agg #[.string ((rd_T38 x233000_61 t247).f0), .string ((rd_T38 x233000_61 t247).f1), .string (((rd_T38 x233000_61 t247).f2) ++ x10_86)]] rfl (by (try simp only [List.map_toArray, List.map_cons, List.map_nil]); first | done | rfl | (simp only [List.length_drop, List.length_take]; rfl)) ?_; (with_reducible refine (api_File_70.calls _ _ x233000_61 t247 ((rd_T38 x233000_61 t247).f0) ((rd_T38 x233000_61 t247).f1) (((rd_T38 x233000_61 t247).f2) ++ x10_86) t249 _ ?side1 ?side2 A98.out).mono ?_); (case side1 => refine (Kd.V_reads' (e := 38) (base := w.heap.size) (ok := fun k_ => ((P0_0_ k_ ∨ w.heap.size ≤ k_) ∧ (k_ ≠ gb232 ∧ (k_ ≠ gb233 ∧ k_ ≠ gb238)))) (n := x233000_61.length) (c := co122) ?_).2.2; exact (by (with_reducible repeat (first | apply Kd.V_alloc | apply Kd.V_drewN | apply Kd.V_drew)); exact (Kd.V_mono (Kd.V_far (p := ⟨gb238, 2, none⟩) (Kd.V_mono HO_233000.out (fun k_ hk => (⟨hk, hk.2.2.2⟩ : _ ∧ k_ ≠ gb238))) (fun _ hk => hk.2) (.string (((rd_T38 x233000_61 t247).f2) ++ x10_86))) (fun _ h_ => h_.1)))); (case side2 => exact (Kd.V_reads' HO_233000.out).2.1); rintro e w130 ⟨v250, rfl, ho0, hb⟩; refine ⟨_, rfl, ?_⟩; have HO251 := Aside0.mk (Kd.R_lower (Kd.R_newB (Kd.R_newM (M := fun k_ => (w.heap.size ≤ k_)) ho0 (below_size (by repeat (first | (with_reducible first | exact HB.out | apply below_alloc | apply pw_below_drewN | apply below_drew1 | refine below_set ?_ GE232.out | refine below_set ?_ GE233.out | refine below_set ?_ GE238.out) | exact HB.out))) (fun k_ h_ => h_)) (g := gb238) (o := .cells #[.string ((rd_T38 x233000_61 t247).f0), .string ((rd_T38 x233000_61 t247).f1), .string (((rd_T38 x233000_61 t247).f2) ++ x10_86)] 38 (0, 0)) (by (with_reducible repeat (first | refine blk_drewN ?_ _ | refine blk_drew ?_ | refine blk_alloc ?_ _)); refine blk_put (cs := #[.string ((rd_T38 x233000_61 t247).f0), .string ((rd_T38 x233000_61 t247).f1), .string ((rd_T38 x233000_61 t247).f2)]) ?_ 2 _ rfl; (with_reducible repeat (first | refine blk_drewN ?_ _ | refine blk_drew ?_ | refine blk_alloc ?_ _)); exact BK238.out)) (below_size (by repeat (first | (with_reducible first | exact HB.out | apply below_alloc | apply pw_below_drewN | apply below_drew1 | refine below_set ?_ GE232.out | refine below_set ?_ GE233.out | refine below_set ?_ GE238.out) | exact HB.out)))); replace HO_233000 := Aside0.mk (Kd.V_elder' (by (with_reducible repeat (first | apply Kd.V_alloc | apply Kd.V_drewN | apply Kd.V_drew)); exact (Kd.V_mono (Kd.V_far (p := ⟨gb238, 2, none⟩) (Kd.V_mono HO_233000.out (fun k_ hk => (⟨hk, hk.2.2.2⟩ : _ ∧ k_ ≠ gb238))) (fun _ hk => hk.2) (.string (((rd_T38 x233000_61 t247).f2) ++ x10_86))) (fun _ h_ => h_.1))) (Kd.R_base ho0) hb); replace BK232 := Aside0.mk (blk_below (g := gb232) (o := .cells #[.slice (some ad248) x233000_61.length co122, .int .i64 a0_1, .int .i64 a0_2, .bool false] 33 (0, 0)) (by (with_reducible repeat (first | refine blk_drewN ?_ _ | refine blk_drew ?_ | refine blk_alloc ?_ _)); refine blk_far ?_ NB232_238.out _; (with_reducible repeat (first | refine blk_drewN ?_ _ | refine blk_drew ?_ | refine blk_alloc ?_ _)); exact BK232.out) hb); replace BK233 := Aside0.mk (blk_below (g := gb233) (o := .cells #[.slice none 0 0, .int .i64 0, .int .i64 0, .bool false] 33 (0, 0)) (by (with_reducible repeat (first | refine blk_drewN ?_ _ | refine blk_drew ?_ | refine blk_alloc ?_ _)); refine blk_far ?_ NB233_238.out _; (with_reducible repeat (first | refine blk_drewN ?_ _ | refine blk_drew ?_ | refine blk_alloc ?_ _)); exact BK233.out) hb); replace BK238 := Aside0.mk (blk_below (g := gb238) (o := .cells #[.string ((rd_T38 x233000_61 t247).f0), .string ((rd_T38 x233000_61 t247).f1), .string (((rd_T38 x233000_61 t247).f2) ++ x10_86)] 38 (0, 0)) (by (with_reducible repeat (first | refine blk_drewN ?_ _ | refine blk_drew ?_ | refine blk_alloc ?_ _)); refine blk_put (cs := #[.string ((rd_T38 x233000_61 t247).f0), .string ((rd_T38 x233000_61 t247).f1), .string ((rd_T38 x233000_61 t247).f2)]) ?_ 2 _ rfl; (with_reducible repeat (first | refine blk_drewN ?_ _ | refine blk_drew ?_ | refine blk_alloc ?_ _)); exact BK238.out) hb); replace HB := Aside0.mk (below_step (by repeat (first | (with_reducible first | exact HB.out | apply below_alloc | apply pw_below_drewN | apply below_drew1 | refine below_set ?_ GE232.out | refine below_set ?_ GE233.out | refine below_set ?_ GE238.out) | exact HB.out)) hb); (try clear hb); (try clear hb2); (try clear hk); (try clear hi); (try clear ho0); obtain ⟨Ao131, co131, eo131⟩ := Kd.R_slice HO251.out; subst eo131; obtain ⟨hcz132_0, hcz132_1, hcz132_2, hcz132_3⟩ := Cb.c4 BK232.out; obtain ⟨hfz132_0, hfz132_1, hfz132_2, hfz132_3⟩ := Cb.f4 BK232.out) | ((with_reducible refine gate_store (t := 3) (p := 109) rfl ?_); refine store_event (t := 3) (p := 109) (v := ?vo_w133) (w1 := (((w130.setCell ⟨gb232, 0, none⟩ (.slice Ao131 t249.length co131)).setCell ⟨gb232, 1, none⟩ (.int .i64 (wrap64 (a0_1 - (x10_86.size : Int))))).setCell ⟨gb232, 2, none⟩ (.int .i64 (wrap64 (a0_2 - (x10_86.size : Int)))))) ?hg ?ho ?hn ?hr ?_; (case ho => rfl); (case hg => rfl); (case hn => rfl); (case hr => first | (go_simp; done) | (go_simp; rfl)); intro w133 hw; have n0_ : Aside0 (Kd.V k38 38 w133 w.heap.size (fun k_ => (P0_0_ k_ ∨ w.heap.size ≤ k_) ∧ some k_ ≠ (.slice Ao131 t249.length co131 : Value).ownBlock ∧ k_ ≠ gb232 ∧ k_ ≠ gb233 ∧ k_ ≠ gb238) (.slice (some ad248) x233000_61.length co122) x233000_61) := ⟨(by rw [hw]; exact (by (with_reducible repeat (first | apply Kd.V_alloc | apply Kd.V_drewN | apply Kd.V_drew)); exact Kd.V_mono (Kd.V_far (p := ⟨gb232, 2, none⟩) (Kd.V_far (p := ⟨gb232, 1, none⟩) (Kd.V_far (p := ⟨gb232, 0, none⟩) (Kd.V_mono HO_233000.out (fun k_ hk => (⟨hk, hk.1.2.1⟩ : _ ∧ k_ ≠ gb232))) (fun _ hk => hk.2) (.slice Ao131 t249.length co131)) (fun _ hk => hk.2) (.int .i64 (wrap64 (a0_1 - (x10_86.size : Int))))) (fun _ hk => hk.2) (.int .i64 (wrap64 (a0_2 - (x10_86.size : Int))))) (fun _ hk => ⟨hk.1.1.1, ⟨hk.1.2, ⟨hk.1.1.2.1, ⟨hk.1.1.2.2.1, hk.1.1.2.2.2⟩⟩⟩⟩)))⟩; have n1_ : Aside0 (Kd.R k38 38 w133 w.heap.size (fun k_ => (w.heap.size ≤ k_) ∧ k_ ≠ gb238) (.slice Ao131 t249.length co131) t249) := ⟨(by rw [hw]; exact (by (with_reducible repeat (first | apply Kd.R_alloc | apply Kd.R_drewN | apply Kd.R_drew)); exact Kd.R_mono (Kd.R_far (p := ⟨gb232, 2, none⟩) (Kd.R_far (p := ⟨gb232, 1, none⟩) (Kd.R_far (p := ⟨gb232, 0, none⟩) (Kd.R_types HO251.out BK232.out (by decide)) (fun _ hk => hk.2) (.slice Ao131 t249.length co131)) (fun _ hk => hk.2) (.int .i64 (wrap64 (a0_1 - (x10_86.size : Int))))) (fun _ hk => hk.2) (.int .i64 (wrap64 (a0_2 - (x10_86.size : Int))))) (fun _ hk => ⟨hk.1.1.1, hk.1.2⟩)))⟩; have n2_ : Aside0 (w133.heap[gb232]? = some (.cells #[.slice Ao131 t249.length co131, .int .i64 (wrap64 (a0_1 - (x10_86.size : Int))), .int .i64 (wrap64 (a0_2 - (x10_86.size : Int))), .bool false] 33 (0, 0))) := ⟨(by rw [hw]; exact (by (with_reducible repeat (first | refine blk_drewN ?_ _ | refine blk_drew ?_ | refine blk_alloc ?_ _)); refine blk_put (cs := #[.slice Ao131 t249.length co131, .int .i64 (wrap64 (a0_1 - (x10_86.size : Int))), .int .i64 a0_2, .bool false]) ?_ 2 _ rfl; refine blk_put (cs := #[.slice Ao131 t249.length co131, .int .i64 a0_1, .int .i64 a0_2, .bool false]) ?_ 1 _ rfl; refine blk_put (cs := #[.slice (some ad248) x233000_61.length co122, .int .i64 a0_1, .int .i64 a0_2, .bool false]) ?_ 0 _ rfl; (with_reducible repeat (first | refine blk_drewN ?_ _ | refine blk_drew ?_ | refine blk_alloc ?_ _)); exact BK232.out))⟩; have n3_ : Aside0 (w133.heap[gb233]? = some (.cells #[.slice none 0 0, .int .i64 0, .int .i64 0, .bool false] 33 (0, 0))) := ⟨(by rw [hw]; exact (by (with_reducible repeat (first | refine blk_drewN ?_ _ | refine blk_drew ?_ | refine blk_alloc ?_ _)); refine blk_far ?_ NB233_232.out _; refine blk_far ?_ NB233_232.out _; refine blk_far ?_ NB233_232.out _; (with_reducible repeat (first | refine blk_drewN ?_ _ | refine blk_drew ?_ | refine blk_alloc ?_ _)); exact BK233.out))⟩; have n4_ : Aside0 (w133.heap[gb238]? = some (.cells #[.string ((rd_T38 x233000_61 t247).f0), .string ((rd_T38 x233000_61 t247).f1), .string (((rd_T38 x233000_61 t247).f2) ++ x10_86)] 38 (0, 0))) := ⟨(by rw [hw]; exact (by (with_reducible repeat (first | refine blk_drewN ?_ _ | refine blk_drew ?_ | refine blk_alloc ?_ _)); refine blk_far ?_ NB238_232.out _; refine blk_far ?_ NB238_232.out _; refine blk_far ?_ NB238_232.out _; (with_reducible repeat (first | refine blk_drewN ?_ _ | refine blk_drew ?_ | refine blk_alloc ?_ _)); exact BK238.out))⟩; have n5_ : Aside0 (Below w.heap.size w w133) := ⟨(by rw [hw]; exact (by repeat (first | (with_reducible first | exact HB.out | apply below_alloc | apply pw_below_drewN | apply below_drew1 | refine below_set ?_ GE232.out | refine below_set ?_ GE233.out | refine below_set ?_ GE238.out) | exact HB.out)))⟩; clear hw; clear HO_233000; clear HO251; clear BK232; clear BK233; clear BK238; clear HB; have HO_233000 := n0_; have HO251 := n1_; have BK232 := n2_; have BK233 := n3_; have BK238 := n4_; have HB := n5_; clear n0_ n1_ n2_ n3_ n4_ n5_; obtain ⟨hcz134_0, hcz134_1, hcz134_2, hcz134_3⟩ := Cb.c4 BK232.out; obtain ⟨hfz134_0, hfz134_1, hfz134_2, hfz134_3⟩ := Cb.f4 BK232.out; obtain ⟨hcz135_0, hcz135_1, hcz135_2, hcz135_3⟩ := Cb.c4 BK233.out; obtain ⟨hfz135_0, hfz135_1, hfz135_2, hfz135_3⟩ := Cb.f4 BK233.out) | ((with_reducible refine gate_store (t := 33) (p := 6) rfl ?_); refine store_event (t := 33) (p := 6) (v := ?vo_w136) (w1 := ((((w133.setCell ⟨gb233, 0, none⟩ (.slice Ao131 t249.length co131)).setCell ⟨gb233, 1, none⟩ (.int .i64 (wrap64 (a0_1 - (x10_86.size : Int))))).setCell ⟨gb233, 2, none⟩ (.int .i64 (wrap64 (a0_2 - (x10_86.size : Int))))).setCell ⟨gb233, 3, none⟩ (.bool false))) ?hg ?ho ?hn ?hr ?_; (case ho => rfl); (case hg => rfl); (case hn => rfl); (case hr => first | (go_simp; done) | (go_simp; rfl)); intro w136 hw; have n0_ : Aside0 (Kd.V k38 38 w136 w.heap.size (fun k_ => (P0_0_ k_ ∨ w.heap.size ≤ k_) ∧ some k_ ≠ (.slice Ao131 t249.length co131 : Value).ownBlock ∧ k_ ≠ gb232 ∧ k_ ≠ gb233 ∧ k_ ≠ gb238) (.slice (some ad248) x233000_61.length co122) x233000_61) := ⟨(by rw [hw]; exact (by (with_reducible repeat (first | apply Kd.V_alloc | apply Kd.V_drewN | apply Kd.V_drew)); exact Kd.V_mono (Kd.V_far (p := ⟨gb233, 3, none⟩) (Kd.V_far (p := ⟨gb233, 2, none⟩) (Kd.V_far (p := ⟨gb233, 1, none⟩) (Kd.V_far (p := ⟨gb233, 0, none⟩) (Kd.V_mono HO_233000.out (fun k_ hk => (⟨hk, hk.2.2.2.1⟩ : _ ∧ k_ ≠ gb233))) (fun _ hk => hk.2) (.slice Ao131 t249.length co131)) (fun _ hk => hk.2) (.int .i64 (wrap64 (a0_1 - (x10_86.size : Int))))) (fun _ hk => hk.2) (.int .i64 (wrap64 (a0_2 - (x10_86.size : Int))))) (fun _ hk => hk.2) (.bool false)) (fun _ hk => ⟨hk.1.1, ⟨hk.1.2.1, ⟨hk.1.2.2.1, ⟨hk.1.2.2.2.1, hk.1.2.2.2.2⟩⟩⟩⟩)))⟩; have n1_ : Aside0 (Kd.R k38 38 w136 w.heap.size (fun k_ => (w.heap.size ≤ k_) ∧ k_ ≠ gb238) (.slice Ao131 t249.length co131) t249) := ⟨(by rw [hw]; exact (by (with_reducible repeat (first | apply Kd.R_alloc | apply Kd.R_drewN | apply Kd.R_drew)); exact Kd.R_mono (Kd.R_far (p := ⟨gb233, 3, none⟩) (Kd.R_far (p := ⟨gb233, 2, none⟩) (Kd.R_far (p := ⟨gb233, 1, none⟩) (Kd.R_far (p := ⟨gb233, 0, none⟩) (Kd.R_types HO251.out BK233.out (by decide)) (fun _ hk => hk.2) (.slice Ao131 t249.length co131)) (fun _ hk => hk.2) (.int .i64 (wrap64 (a0_1 - (x10_86.size : Int))))) (fun _ hk => hk.2) (.int .i64 (wrap64 (a0_2 - (x10_86.size : Int))))) (fun _ hk => hk.2) (.bool false)) (fun _ hk => ⟨hk.1.1, hk.1.2⟩)))⟩; have n2_ : Aside0 (w136.heap[gb232]? = some (.cells #[.slice Ao131 t249.length co131, .int .i64 (wrap64 (a0_1 - (x10_86.size : Int))), .int .i64 (wrap64 (a0_2 - (x10_86.size : Int))), .bool false] 33 (0, 0))) := ⟨(by rw [hw]; exact (by (with_reducible repeat (first | refine blk_drewN ?_ _ | refine blk_drew ?_ | refine blk_alloc ?_ _)); refine blk_far ?_ NB232_233.out _; refine blk_far ?_ NB232_233.out _; refine blk_far ?_ NB232_233.out _; refine blk_far ?_ NB232_233.out _; (with_reducible repeat (first | refine blk_drewN ?_ _ | refine blk_drew ?_ | refine blk_alloc ?_ _)); exact BK232.out))⟩; have n3_ : Aside0 (w136.heap[gb233]? = some (.cells #[.slice Ao131 t249.length co131, .int .i64 (wrap64 (a0_1 - (x10_86.size : Int))), .int .i64 (wrap64 (a0_2 - (x10_86.size : Int))), .bool false] 33 (0, 0))) := ⟨(by rw [hw]; exact (by (with_reducible repeat (first | refine blk_drewN ?_ _ | refine blk_drew ?_ | refine blk_alloc ?_ _)); refine blk_put (cs := #[.slice Ao131 t249.length co131, .int .i64 (wrap64 (a0_1 - (x10_86.size : Int))), .int .i64 (wrap64 (a0_2 - (x10_86.size : Int))), .bool false]) ?_ 3 _ rfl; refine blk_put (cs := #[.slice Ao131 t249.length co131, .int .i64 (wrap64 (a0_1 - (x10_86.size : Int))), .int .i64 0, .bool false]) ?_ 2 _ rfl; refine blk_put (cs := #[.slice Ao131 t249.length co131, .int .i64 0, .int .i64 0, .bool false]) ?_ 1 _ rfl; refine blk_put (cs := #[.slice none 0 0, .int .i64 0, .int .i64 0, .bool false]) ?_ 0 _ rfl; (with_reducible repeat (first | refine blk_drewN ?_ _ | refine blk_drew ?_ | refine blk_alloc ?_ _)); exact BK233.out))⟩; have n4_ : Aside0 (w136.heap[gb238]? = some (.cells #[.string ((rd_T38 x233000_61 t247).f0), .string ((rd_T38 x233000_61 t247).f1), .string (((rd_T38 x233000_61 t247).f2) ++ x10_86)] 38 (0, 0))) := ⟨(by rw [hw]; exact (by (with_reducible repeat (first | refine blk_drewN ?_ _ | refine blk_drew ?_ | refine blk_alloc ?_ _)); refine blk_far ?_ NB238_233.out _; refine blk_far ?_ NB238_233.out _; refine blk_far ?_ NB238_233.out _; refine blk_far ?_ NB238_233.out _; (with_reducible repeat (first | refine blk_drewN ?_ _ | refine blk_drew ?_ | refine blk_alloc ?_ _)); exact BK238.out))⟩; have n5_ : Aside0 (Below w.heap.size w w136) := ⟨(by rw [hw]; exact (by repeat (first | (with_reducible first | exact HB.out | apply below_alloc | apply pw_below_drewN | apply below_drew1 | refine below_set ?_ GE232.out | refine below_set ?_ GE233.out | refine below_set ?_ GE238.out) | exact HB.out)))⟩; clear hw; clear HO_233000; clear HO251; clear BK232; clear BK233; clear BK238; clear HB; have HO_233000 := n0_; have HO251 := n1_; have BK232 := n2_; have BK233 := n3_; have BK238 := n4_; have HB := n5_; clear n0_ n1_ n2_ n3_ n4_ n5_))
                                      refine bodyPost_ret (results_ct rfl _ _ gb233 33 #[.slice Ao131 t249.length co131, .int .i64 (wrap64 (a0_1 - (x10_86.size : Int))), .int .i64 (wrap64 (a0_2 - (x10_86.size : Int))), .bool false] (0, 0) _ rfl (by (with_reducible repeat (first | refine blk_drewN ?_ _ | refine blk_drew ?_ | refine blk_alloc ?_ _)); exact BK233.out) Try.underlying33 rfl (by kernel_rfl)) rfl ?_
                                      exact ⟨_, by first | rfl | (simp [errW_none, errW_some] <;> rfl) | (simp [*, errW_none, errW_some] <;> rfl), Kd.V_mono (Kd.R_V (by (with_reducible repeat (first | apply Kd.R_alloc | apply Kd.R_drewN | apply Kd.R_drew)); exact Kd.R_mono HO251.out (fun _ hk => hk.1))) (fun k_ hk => by first | exact ⟨(.inr (hk.1)), hk.2⟩ | exact (.inr (hk))), by repeat (first | (with_reducible first | exact HB.out | apply below_alloc | apply pw_below_drewN | apply below_drew1 | refine below_set ?_ GE232.out | refine below_set ?_ GE233.out | refine below_set ?_ GE238.out) | exact HB.out)⟩
                                  · rw [if_neg c99] at H
                                    have c99b0 : decide (0 ≤ a0_2) = false := decide_eq_false c99
                                    clear c99
                                    by_cases c137 : (x10_86.size : Int) < (a2.size : Int)
                                    · rw [if_pos c137] at H
                                      have c137b0 : decide ((x10_86.size : Int) < (a2.size : Int)) = true := decide_eq_true c137
                                      have c137b1 : decide (x10_86.size < a2.size) = true := decide_eq_true (Int.ofNat_lt.mp c137)
                                      clear c137
                                      simp only [Option.some.injEq, Prod.mk.injEq] at H
                                      obtain ⟨rfl, rfl, rfl, rfl, rfl⟩ := H
                                      have hnb138 := NB232_233.out
                                      have hnc138 := NB233_232.out
                                      have hnb139 := NB232_238.out
                                      have hnc139 := NB238_232.out
                                      obtain ⟨hcz140_0, hcz140_1, hcz140_2, hcz140_3⟩ := Cb.c4 BK232.out
                                      obtain ⟨hfz140_0, hfz140_1, hfz140_2, hfz140_3⟩ := Cb.f4 BK232.out
                                      obtain ⟨Ao141, co141, eo141⟩ := Kd.V_slice HO_233000.out
                                      subst eo141
                                      go_wp2_with (first | ((with_reducible refine gate_callee (f := 64) rfl ?_); refine goesL_ (some 78) rfl rfl Try.func64 (by kernel_rfl) rfl #[.agg #[.slice Ao141 x233000_61.length co141, .int .i64 a0_1, .int .i64 a0_2, .bool false], .string a1] rfl (by (try simp only [List.map_toArray, List.map_cons, List.map_nil]); first | done | rfl | (simp only [List.length_drop, List.length_take]; rfl)) ?_; (with_reducible refine (disk_at.calls _ _ x233000_61 a0_1 a0_2 false a1 t247 _ ?side1 ?side2 A94.out).mono ?_); (case side1 => repeat (first | exact (Kd.V_reads' HO_233000.out).2.2 | (with_reducible refine Kd.C_alloc ?_ _) | (with_reducible refine Kd.C_drewN ?_ _) | (with_reducible refine Kd.C_drew ?_))); (case side2 => exact (Kd.V_reads' HO_233000.out).2.1); rintro e w142 ⟨rfl, hb⟩; refine ⟨_, rfl, ?_⟩; replace HO_233000 := Aside0.mk (Kd.V_below (by (with_reducible repeat (first | apply Kd.V_alloc | apply Kd.V_drewN | apply Kd.V_drew)); exact HO_233000.out) hb); replace BK232 := Aside0.mk (blk_below BK232.out hb); replace BK233 := Aside0.mk (blk_below BK233.out hb); replace BK238 := Aside0.mk (blk_below BK238.out hb); replace HB := Aside0.mk (below_step (by repeat (first | (with_reducible first | exact HB.out | apply below_alloc | apply pw_below_drewN | apply below_drew1 | refine below_set ?_ GE232.out | refine below_set ?_ GE233.out | refine below_set ?_ GE238.out) | exact HB.out)) hb); (try clear hb); (try clear hb2); (try clear hk); (try clear hi); obtain ⟨hcz143_0, hcz143_1, hcz143_2, hcz143_3⟩ := Cb.c4 BK232.out; obtain ⟨hfz143_0, hfz143_1, hfz143_2, hfz143_3⟩ := Cb.f4 BK232.out; have p248 : 0 ≤ (t247 : Int) := of_decide_eq_true (by first | (with_reducible assumption) | assumption); have q248 : t247 < (x233000_61.length : Int) := of_decide_eq_true (by first | (with_reducible assumption) | assumption); obtain ⟨ad248, e248, hx248_0, hx248_1, hx248_2⟩ := at_T38 (Kd.V_reads' HO_233000.out).2.2 t247 p248 q248; cases e248; replace p248 := eq_true p248; replace q248 := eq_true q248; have hnb144 := NB238_233.out; have hnc144 := NB233_238.out; obtain ⟨hcz145_0, hcz145_1, hcz145_2⟩ := Cb.c3 BK238.out; obtain ⟨hfz145_0, hfz145_1, hfz145_2⟩ := Cb.f3 BK238.out) | ((with_reducible refine gate_store (t := 38) (p := 8) rfl ?_); refine store_event (t := 38) (p := 8) (v := ?vo_w146) (w1 := (((w142.setCell ⟨gb238, 0, none⟩ (.string ((rd_T38 x233000_61 t247).f0))).setCell ⟨gb238, 1, none⟩ (.string ((rd_T38 x233000_61 t247).f1))).setCell ⟨gb238, 2, none⟩ (.string ((rd_T38 x233000_61 t247).f2)))) ?hg ?ho ?hn ?hr ?_; (case ho => rfl); (case hg => rfl); (case hn => rfl); (case hr => first | (go_simp; done) | (go_simp; rfl)); intro w146 hw; have n0_ : Aside0 (Kd.V k38 38 w146 w.heap.size (fun k_ => (P0_0_ k_ ∨ w.heap.size ≤ k_) ∧ k_ ≠ gb232 ∧ k_ ≠ gb233 ∧ k_ ≠ gb238) (.slice (some ad248) x233000_61.length co141) x233000_61) := ⟨(by rw [hw]; exact (by (with_reducible repeat (first | apply Kd.V_alloc | apply Kd.V_drewN | apply Kd.V_drew)); exact Kd.V_mono (Kd.V_far (p := ⟨gb238, 2, none⟩) (Kd.V_far (p := ⟨gb238, 1, none⟩) (Kd.V_far (p := ⟨gb238, 0, none⟩) (Kd.V_mono HO_233000.out (fun k_ hk => (⟨hk, hk.2.2.2⟩ : _ ∧ k_ ≠ gb238))) (fun _ hk => hk.2) (.string ((rd_T38 x233000_61 t247).f0))) (fun _ hk => hk.2) (.string ((rd_T38 x233000_61 t247).f1))) (fun _ hk => hk.2) (.string ((rd_T38 x233000_61 t247).f2))) (fun _ hk => ⟨hk.1.1, ⟨hk.1.2.1, ⟨hk.1.2.2.1, hk.1.2.2.2⟩⟩⟩)))⟩; have n1_ : Aside0 (w146.heap[gb232]? = some (.cells #[.slice (some ad248) x233000_61.length co141, .int .i64 a0_1, .int .i64 a0_2, .bool false] 33 (0, 0))) := ⟨(by rw [hw]; exact (by (with_reducible repeat (first | refine blk_drewN ?_ _ | refine blk_drew ?_ | refine blk_alloc ?_ _)); refine blk_far ?_ NB232_238.out _; refine blk_far ?_ NB232_238.out _; refine blk_far ?_ NB232_238.out _; (with_reducible repeat (first | refine blk_drewN ?_ _ | refine blk_drew ?_ | refine blk_alloc ?_ _)); exact BK232.out))⟩; have n2_ : Aside0 (w146.heap[gb233]? = some (.cells #[.slice none 0 0, .int .i64 0, .int .i64 0, .bool false] 33 (0, 0))) := ⟨(by rw [hw]; exact (by (with_reducible repeat (first | refine blk_drewN ?_ _ | refine blk_drew ?_ | refine blk_alloc ?_ _)); refine blk_far ?_ NB233_238.out _; refine blk_far ?_ NB233_238.out _; refine blk_far ?_ NB233_238.out _; (with_reducible repeat (first | refine blk_drewN ?_ _ | refine blk_drew ?_ | refine blk_alloc ?_ _)); exact BK233.out))⟩; have n3_ : Aside0 (w146.heap[gb238]? = some (.cells #[.string ((rd_T38 x233000_61 t247).f0), .string ((rd_T38 x233000_61 t247).f1), .string ((rd_T38 x233000_61 t247).f2)] 38 (0, 0))) := ⟨(by rw [hw]; exact (by (with_reducible repeat (first | refine blk_drewN ?_ _ | refine blk_drew ?_ | refine blk_alloc ?_ _)); refine blk_put (cs := #[.string ((rd_T38 x233000_61 t247).f0), .string ((rd_T38 x233000_61 t247).f1), .string t236]) ?_ 2 _ rfl; refine blk_put (cs := #[.string ((rd_T38 x233000_61 t247).f0), .string t235, .string t236]) ?_ 1 _ rfl; refine blk_put (cs := #[.string t234, .string t235, .string t236]) ?_ 0 _ rfl; (with_reducible repeat (first | refine blk_drewN ?_ _ | refine blk_drew ?_ | refine blk_alloc ?_ _)); exact BK238.out))⟩; have n4_ : Aside0 (Below w.heap.size w w146) := ⟨(by rw [hw]; exact (by repeat (first | (with_reducible first | exact HB.out | apply below_alloc | apply pw_below_drewN | apply below_drew1 | refine below_set ?_ GE232.out | refine below_set ?_ GE233.out | refine below_set ?_ GE238.out) | exact HB.out)))⟩; clear hw; clear HO_233000; clear BK232; clear BK233; clear BK238; clear HB; have HO_233000 := n0_; have BK232 := n1_; have BK233 := n2_; have BK238 := n3_; have HB := n4_; clear n0_ n1_ n2_ n3_ n4_; obtain ⟨hcz147_0, hcz147_1, hcz147_2⟩ := Cb.c3 BK238.out; obtain ⟨hfz147_0, hfz147_1, hfz147_2⟩ := Cb.f3 BK238.out; obtain ⟨hcz148_0, hcz148_1, hcz148_2, hcz148_3⟩ := Cb.c4 BK232.out; obtain ⟨hfz148_0, hfz148_1, hfz148_2, hfz148_3⟩ := Cb.f4 BK232.out) | ((with_reducible refine gate_callee (f := 70) rfl ?_); refine goesL_ (some 93) rfl rfl Try.func70 (by kernel_rfl) rfl #[.slice (some ad248) x233000_61.length co141, .int .i64 t247, .agg #[.string ((rd_T38 x233000_61 t247).f0), .string ((rd_T38 x233000_61 t247).f1), .string (((rd_T38 x233000_61 t247).f2) ++ x10_86)]] rfl (by (try simp only [List.map_toArray, List.map_cons, List.map_nil]); first | done | rfl | (simp only [List.length_drop, List.length_take]; rfl)) ?_; (with_reducible refine (api_File_70.calls _ _ x233000_61 t247 ((rd_T38 x233000_61 t247).f0) ((rd_T38 x233000_61 t247).f1) (((rd_T38 x233000_61 t247).f2) ++ x10_86) t249 _ ?side1 ?side2 A98.out).mono ?_); (case side1 => refine (Kd.V_reads' (e := 38) (base := w.heap.size) (ok := fun k_ => ((P0_0_ k_ ∨ w.heap.size ≤ k_) ∧ (k_ ≠ gb232 ∧ (k_ ≠ gb233 ∧ k_ ≠ gb238)))) (n := x233000_61.length) (c := co141) ?_).2.2; exact (by (with_reducible repeat (first | apply Kd.V_alloc | apply Kd.V_drewN | apply Kd.V_drew)); exact (Kd.V_mono (Kd.V_far (p := ⟨gb238, 2, none⟩) (Kd.V_mono HO_233000.out (fun k_ hk => (⟨hk, hk.2.2.2⟩ : _ ∧ k_ ≠ gb238))) (fun _ hk => hk.2) (.string (((rd_T38 x233000_61 t247).f2) ++ x10_86))) (fun _ h_ => h_.1)))); (case side2 => exact (Kd.V_reads' HO_233000.out).2.1); rintro e w149 ⟨v250, rfl, ho0, hb⟩; refine ⟨_, rfl, ?_⟩; have HO251 := Aside0.mk (Kd.R_lower (Kd.R_newB (Kd.R_newM (M := fun k_ => (w.heap.size ≤ k_)) ho0 (below_size (by repeat (first | (with_reducible first | exact HB.out | apply below_alloc | apply pw_below_drewN | apply below_drew1 | refine below_set ?_ GE232.out | refine below_set ?_ GE233.out | refine below_set ?_ GE238.out) | exact HB.out))) (fun k_ h_ => h_)) (g := gb238) (o := .cells #[.string ((rd_T38 x233000_61 t247).f0), .string ((rd_T38 x233000_61 t247).f1), .string (((rd_T38 x233000_61 t247).f2) ++ x10_86)] 38 (0, 0)) (by (with_reducible repeat (first | refine blk_drewN ?_ _ | refine blk_drew ?_ | refine blk_alloc ?_ _)); refine blk_put (cs := #[.string ((rd_T38 x233000_61 t247).f0), .string ((rd_T38 x233000_61 t247).f1), .string ((rd_T38 x233000_61 t247).f2)]) ?_ 2 _ rfl; (with_reducible repeat (first | refine blk_drewN ?_ _ | refine blk_drew ?_ | refine blk_alloc ?_ _)); exact BK238.out)) (below_size (by repeat (first | (with_reducible first | exact HB.out | apply below_alloc | apply pw_below_drewN | apply below_drew1 | refine below_set ?_ GE232.out | refine below_set ?_ GE233.out | refine below_set ?_ GE238.out) | exact HB.out)))); replace HO_233000 := Aside0.mk (Kd.V_elder' (by (with_reducible repeat (first | apply Kd.V_alloc | apply Kd.V_drewN | apply Kd.V_drew)); exact (Kd.V_mono (Kd.V_far (p := ⟨gb238, 2, none⟩) (Kd.V_mono HO_233000.out (fun k_ hk => (⟨hk, hk.2.2.2⟩ : _ ∧ k_ ≠ gb238))) (fun _ hk => hk.2) (.string (((rd_T38 x233000_61 t247).f2) ++ x10_86))) (fun _ h_ => h_.1))) (Kd.R_base ho0) hb); replace BK232 := Aside0.mk (blk_below (g := gb232) (o := .cells #[.slice (some ad248) x233000_61.length co141, .int .i64 a0_1, .int .i64 a0_2, .bool false] 33 (0, 0)) (by (with_reducible repeat (first | refine blk_drewN ?_ _ | refine blk_drew ?_ | refine blk_alloc ?_ _)); refine blk_far ?_ NB232_238.out _; (with_reducible repeat (first | refine blk_drewN ?_ _ | refine blk_drew ?_ | refine blk_alloc ?_ _)); exact BK232.out) hb); replace BK233 := Aside0.mk (blk_below (g := gb233) (o := .cells #[.slice none 0 0, .int .i64 0, .int .i64 0, .bool false] 33 (0, 0)) (by (with_reducible repeat (first | refine blk_drewN ?_ _ | refine blk_drew ?_ | refine blk_alloc ?_ _)); refine blk_far ?_ NB233_238.out _; (with_reducible repeat (first | refine blk_drewN ?_ _ | refine blk_drew ?_ | refine blk_alloc ?_ _)); exact BK233.out) hb); replace BK238 := Aside0.mk (blk_below (g := gb238) (o := .cells #[.string ((rd_T38 x233000_61 t247).f0), .string ((rd_T38 x233000_61 t247).f1), .string (((rd_T38 x233000_61 t247).f2) ++ x10_86)] 38 (0, 0)) (by (with_reducible repeat (first | refine blk_drewN ?_ _ | refine blk_drew ?_ | refine blk_alloc ?_ _)); refine blk_put (cs := #[.string ((rd_T38 x233000_61 t247).f0), .string ((rd_T38 x233000_61 t247).f1), .string ((rd_T38 x233000_61 t247).f2)]) ?_ 2 _ rfl; (with_reducible repeat (first | refine blk_drewN ?_ _ | refine blk_drew ?_ | refine blk_alloc ?_ _)); exact BK238.out) hb); replace HB := Aside0.mk (below_step (by repeat (first | (with_reducible first | exact HB.out | apply below_alloc | apply pw_below_drewN | apply below_drew1 | refine below_set ?_ GE232.out | refine below_set ?_ GE233.out | refine below_set ?_ GE238.out) | exact HB.out)) hb); (try clear hb); (try clear hb2); (try clear hk); (try clear hi); (try clear ho0); obtain ⟨Ao150, co150, eo150⟩ := Kd.R_slice HO251.out; subst eo150; obtain ⟨hcz151_0, hcz151_1, hcz151_2, hcz151_3⟩ := Cb.c4 BK232.out; obtain ⟨hfz151_0, hfz151_1, hfz151_2, hfz151_3⟩ := Cb.f4 BK232.out) | ((with_reducible refine gate_store (t := 4) (p := 115) rfl ?_); refine store_event (t := 4) (p := 115) (v := ?vo_w152) (w1 := (((w149.setCell ⟨gb232, 0, none⟩ (.slice Ao150 t249.length co150)).setCell ⟨gb232, 1, none⟩ (.int .i64 (wrap64 (a0_1 - (x10_86.size : Int))))).setCell ⟨gb232, 3, none⟩ (.bool true))) ?hg ?ho ?hn ?hr ?_; (case ho => rfl); (case hg => rfl); (case hn => rfl); (case hr => first | (go_simp; done) | (go_simp; rfl)); intro w152 hw; have n0_ : Aside0 (Kd.V k38 38 w152 w.heap.size (fun k_ => (P0_0_ k_ ∨ w.heap.size ≤ k_) ∧ some k_ ≠ (.slice Ao150 t249.length co150 : Value).ownBlock ∧ k_ ≠ gb232 ∧ k_ ≠ gb233 ∧ k_ ≠ gb238) (.slice (some ad248) x233000_61.length co141) x233000_61) := ⟨(by rw [hw]; exact (by (with_reducible repeat (first | apply Kd.V_alloc | apply Kd.V_drewN | apply Kd.V_drew)); exact Kd.V_mono (Kd.V_far (p := ⟨gb232, 3, none⟩) (Kd.V_far (p := ⟨gb232, 1, none⟩) (Kd.V_far (p := ⟨gb232, 0, none⟩) (Kd.V_mono HO_233000.out (fun k_ hk => (⟨hk, hk.1.2.1⟩ : _ ∧ k_ ≠ gb232))) (fun _ hk => hk.2) (.slice Ao150 t249.length co150)) (fun _ hk => hk.2) (.int .i64 (wrap64 (a0_1 - (x10_86.size : Int))))) (fun _ hk => hk.2) (.bool true)) (fun _ hk => ⟨hk.1.1.1, ⟨hk.1.2, ⟨hk.1.1.2.1, ⟨hk.1.1.2.2.1, hk.1.1.2.2.2⟩⟩⟩⟩)))⟩; have n1_ : Aside0 (Kd.R k38 38 w152 w.heap.size (fun k_ => (w.heap.size ≤ k_) ∧ k_ ≠ gb238) (.slice Ao150 t249.length co150) t249) := ⟨(by rw [hw]; exact (by (with_reducible repeat (first | apply Kd.R_alloc | apply Kd.R_drewN | apply Kd.R_drew)); exact Kd.R_mono (Kd.R_far (p := ⟨gb232, 3, none⟩) (Kd.R_far (p := ⟨gb232, 1, none⟩) (Kd.R_far (p := ⟨gb232, 0, none⟩) (Kd.R_types HO251.out BK232.out (by decide)) (fun _ hk => hk.2) (.slice Ao150 t249.length co150)) (fun _ hk => hk.2) (.int .i64 (wrap64 (a0_1 - (x10_86.size : Int))))) (fun _ hk => hk.2) (.bool true)) (fun _ hk => ⟨hk.1.1.1, hk.1.2⟩)))⟩; have n2_ : Aside0 (w152.heap[gb232]? = some (.cells #[.slice Ao150 t249.length co150, .int .i64 (wrap64 (a0_1 - (x10_86.size : Int))), .int .i64 a0_2, .bool true] 33 (0, 0))) := ⟨(by rw [hw]; exact (by (with_reducible repeat (first | refine blk_drewN ?_ _ | refine blk_drew ?_ | refine blk_alloc ?_ _)); refine blk_put (cs := #[.slice Ao150 t249.length co150, .int .i64 (wrap64 (a0_1 - (x10_86.size : Int))), .int .i64 a0_2, .bool false]) ?_ 3 _ rfl; refine blk_put (cs := #[.slice Ao150 t249.length co150, .int .i64 a0_1, .int .i64 a0_2, .bool false]) ?_ 1 _ rfl; refine blk_put (cs := #[.slice (some ad248) x233000_61.length co141, .int .i64 a0_1, .int .i64 a0_2, .bool false]) ?_ 0 _ rfl; (with_reducible repeat (first | refine blk_drewN ?_ _ | refine blk_drew ?_ | refine blk_alloc ?_ _)); exact BK232.out))⟩; have n3_ : Aside0 (w152.heap[gb233]? = some (.cells #[.slice none 0 0, .int .i64 0, .int .i64 0, .bool false] 33 (0, 0))) := ⟨(by rw [hw]; exact (by (with_reducible repeat (first | refine blk_drewN ?_ _ | refine blk_drew ?_ | refine blk_alloc ?_ _)); refine blk_far ?_ NB233_232.out _; refine blk_far ?_ NB233_232.out _; refine blk_far ?_ NB233_232.out _; (with_reducible repeat (first | refine blk_drewN ?_ _ | refine blk_drew ?_ | refine blk_alloc ?_ _)); exact BK233.out))⟩; have n4_ : Aside0 (w152.heap[gb238]? = some (.cells #[.string ((rd_T38 x233000_61 t247).f0), .string ((rd_T38 x233000_61 t247).f1), .string (((rd_T38 x233000_61 t247).f2) ++ x10_86)] 38 (0, 0))) := ⟨(by rw [hw]; exact (by (with_reducible repeat (first | refine blk_drewN ?_ _ | refine blk_drew ?_ | refine blk_alloc ?_ _)); refine blk_far ?_ NB238_232.out _; refine blk_far ?_ NB238_232.out _; refine blk_far ?_ NB238_232.out _; (with_reducible repeat (first | refine blk_drewN ?_ _ | refine blk_drew ?_ | refine blk_alloc ?_ _)); exact BK238.out))⟩; have n5_ : Aside0 (Below w.heap.size w w152) := ⟨(by rw [hw]; exact (by repeat (first | (with_reducible first | exact HB.out | apply below_alloc | apply pw_below_drewN | apply below_drew1 | refine below_set ?_ GE232.out | refine below_set ?_ GE233.out | refine below_set ?_ GE238.out) | exact HB.out)))⟩; clear hw; clear HO_233000; clear HO251; clear BK232; clear BK233; clear BK238; clear HB; have HO_233000 := n0_; have HO251 := n1_; have BK232 := n2_; have BK233 := n3_; have BK238 := n4_; have HB := n5_; clear n0_ n1_ n2_ n3_ n4_ n5_; obtain ⟨hcz153_0, hcz153_1, hcz153_2, hcz153_3⟩ := Cb.c4 BK232.out; obtain ⟨hfz153_0, hfz153_1, hfz153_2, hfz153_3⟩ := Cb.f4 BK232.out; obtain ⟨hcz154_0, hcz154_1, hcz154_2, hcz154_3⟩ := Cb.c4 BK233.out; obtain ⟨hfz154_0, hfz154_1, hfz154_2, hfz154_3⟩ := Cb.f4 BK233.out) | ((with_reducible refine gate_store (t := 33) (p := 6) rfl ?_); refine store_event (t := 33) (p := 6) (v := ?vo_w155) (w1 := ((((w152.setCell ⟨gb233, 0, none⟩ (.slice Ao150 t249.length co150)).setCell ⟨gb233, 1, none⟩ (.int .i64 (wrap64 (a0_1 - (x10_86.size : Int))))).setCell ⟨gb233, 2, none⟩ (.int .i64 a0_2)).setCell ⟨gb233, 3, none⟩ (.bool true))) ?hg ?ho ?hn ?hr ?_; (case ho => rfl); (case hg => rfl); (case hn => rfl); (case hr => first | (go_simp; done) | (go_simp; rfl)); intro w155 hw; have n0_ : Aside0 (Kd.V k38 38 w155 w.heap.size (fun k_ => (P0_0_ k_ ∨ w.heap.size ≤ k_) ∧ some k_ ≠ (.slice Ao150 t249.length co150 : Value).ownBlock ∧ k_ ≠ gb232 ∧ k_ ≠ gb233 ∧ k_ ≠ gb238) (.slice (some ad248) x233000_61.length co141) x233000_61) := ⟨(by rw [hw]; exact (by (with_reducible repeat (first | apply Kd.V_alloc | apply Kd.V_drewN | apply Kd.V_drew)); exact Kd.V_mono (Kd.V_far (p := ⟨gb233, 3, none⟩) (Kd.V_far (p := ⟨gb233, 2, none⟩) (Kd.V_far (p := ⟨gb233, 1, none⟩) (Kd.V_far (p := ⟨gb233, 0, none⟩) (Kd.V_mono HO_233000.out (fun k_ hk => (⟨hk, hk.2.2.2.1⟩ : _ ∧ k_ ≠ gb233))) (fun _ hk => hk.2) (.slice Ao150 t249.length co150)) (fun _ hk => hk.2) (.int .i64 (wrap64 (a0_1 - (x10_86.size : Int))))) (fun _ hk => hk.2) (.int .i64 a0_2)) (fun _ hk => hk.2) (.bool true)) (fun _ hk => ⟨hk.1.1, ⟨hk.1.2.1, ⟨hk.1.2.2.1, ⟨hk.1.2.2.2.1, hk.1.2.2.2.2⟩⟩⟩⟩)))⟩; have n1_ : Aside0 (Kd.R k38 38 w155 w.heap.size (fun k_ => (w.heap.size ≤ k_) ∧ k_ ≠ gb238) (.slice Ao150 t249.length co150) t249) := ⟨(by rw [hw]; exact (by (with_reducible repeat (first | apply Kd.R_alloc | apply Kd.R_drewN | apply Kd.R_drew)); exact Kd.R_mono (Kd.R_far (p := ⟨gb233, 3, none⟩) (Kd.R_far (p := ⟨gb233, 2, none⟩) (Kd.R_far (p := ⟨gb233, 1, none⟩) (Kd.R_far (p := ⟨gb233, 0, none⟩) (Kd.R_types HO251.out BK233.out (by decide)) (fun _ hk => hk.2) (.slice Ao150 t249.length co150)) (fun _ hk => hk.2) (.int .i64 (wrap64 (a0_1 - (x10_86.size : Int))))) (fun _ hk => hk.2) (.int .i64 a0_2)) (fun _ hk => hk.2) (.bool true)) (fun _ hk => ⟨hk.1.1, hk.1.2⟩)))⟩; have n2_ : Aside0 (w155.heap[gb232]? = some (.cells #[.slice Ao150 t249.length co150, .int .i64 (wrap64 (a0_1 - (x10_86.size : Int))), .int .i64 a0_2, .bool true] 33 (0, 0))) := ⟨(by rw [hw]; exact (by (with_reducible repeat (first | refine blk_drewN ?_ _ | refine blk_drew ?_ | refine blk_alloc ?_ _)); refine blk_far ?_ NB232_233.out _; refine blk_far ?_ NB232_233.out _; refine blk_far ?_ NB232_233.out _; refine blk_far ?_ NB232_233.out _; (with_reducible repeat (first | refine blk_drewN ?_ _ | refine blk_drew ?_ | refine blk_alloc ?_ _)); exact BK232.out))⟩; have n3_ : Aside0 (w155.heap[gb233]? = some (.cells #[.slice Ao150 t249.length co150, .int .i64 (wrap64 (a0_1 - (x10_86.size : Int))), .int .i64 a0_2, .bool true] 33 (0, 0))) := ⟨(by rw [hw]; exact (by (with_reducible repeat (first | refine blk_drewN ?_ _ | refine blk_drew ?_ | refine blk_alloc ?_ _)); refine blk_put (cs := #[.slice Ao150 t249.length co150, .int .i64 (wrap64 (a0_1 - (x10_86.size : Int))), .int .i64 a0_2, .bool false]) ?_ 3 _ rfl; refine blk_put (cs := #[.slice Ao150 t249.length co150, .int .i64 (wrap64 (a0_1 - (x10_86.size : Int))), .int .i64 0, .bool false]) ?_ 2 _ rfl; refine blk_put (cs := #[.slice Ao150 t249.length co150, .int .i64 0, .int .i64 0, .bool false]) ?_ 1 _ rfl; refine blk_put (cs := #[.slice none 0 0, .int .i64 0, .int .i64 0, .bool false]) ?_ 0 _ rfl; (with_reducible repeat (first | refine blk_drewN ?_ _ | refine blk_drew ?_ | refine blk_alloc ?_ _)); exact BK233.out))⟩; have n4_ : Aside0 (w155.heap[gb238]? = some (.cells #[.string ((rd_T38 x233000_61 t247).f0), .string ((rd_T38 x233000_61 t247).f1), .string (((rd_T38 x233000_61 t247).f2) ++ x10_86)] 38 (0, 0))) := ⟨(by rw [hw]; exact (by (with_reducible repeat (first | refine blk_drewN ?_ _ | refine blk_drew ?_ | refine blk_alloc ?_ _)); refine blk_far ?_ NB238_233.out _; refine blk_far ?_ NB238_233.out _; refine blk_far ?_ NB238_233.out _; refine blk_far ?_ NB238_233.out _; (with_reducible repeat (first | refine blk_drewN ?_ _ | refine blk_drew ?_ | refine blk_alloc ?_ _)); exact BK238.out))⟩; have n5_ : Aside0 (Below w.heap.size w w155) := ⟨(by rw [hw]; exact (by repeat (first | (with_reducible first | exact HB.out | apply below_alloc | apply pw_below_drewN | apply below_drew1 | refine below_set ?_ GE232.out | refine below_set ?_ GE233.out | refine below_set ?_ GE238.out) | exact HB.out)))⟩; clear hw; clear HO_233000; clear HO251; clear BK232; clear BK233; clear BK238; clear HB; have HO_233000 := n0_; have HO251 := n1_; have BK232 := n2_; have BK233 := n3_; have BK238 := n4_; have HB := n5_; clear n0_ n1_ n2_ n3_ n4_ n5_))
                                      refine bodyPost_ret (results_ct rfl _ _ gb233 33 #[.slice Ao150 t249.length co150, .int .i64 (wrap64 (a0_1 - (x10_86.size : Int))), .int .i64 a0_2, .bool true] (0, 0) _ rfl (by (with_reducible repeat (first | refine blk_drewN ?_ _ | refine blk_drew ?_ | refine blk_alloc ?_ _)); exact BK233.out) Try.underlying33 rfl (by kernel_rfl)) rfl ?_
                                      exact ⟨_, by first | rfl | (simp [errW_none, errW_some] <;> rfl) | (simp [*, errW_none, errW_some] <;> rfl), Kd.V_mono (Kd.R_V (by (with_reducible repeat (first | apply Kd.R_alloc | apply Kd.R_drewN | apply Kd.R_drew)); exact Kd.R_mono HO251.out (fun _ hk => hk.1))) (fun k_ hk => by first | exact ⟨(.inr (hk.1)), hk.2⟩ | exact (.inr (hk))), by repeat (first | (with_reducible first | exact HB.out | apply below_alloc | apply pw_below_drewN | apply below_drew1 | refine below_set ?_ GE232.out | refine below_set ?_ GE233.out | refine below_set ?_ GE238.out) | exact HB.out)⟩
                                    · rw [if_neg c137] at H
                                      have c137b0 : decide ((x10_86.size : Int) < (a2.size : Int)) = false := decide_eq_false c137
                                      have c137b1 : decide (x10_86.size < a2.size) = false := decide_eq_false (fun h => c137 (Int.ofNat_lt.mpr h))
                                      clear c137
                                      simp only [Option.some.injEq, Prod.mk.injEq] at H
                                      obtain ⟨rfl, rfl, rfl, rfl, rfl⟩ := H
                                      have hnb156 := NB232_233.out
                                      have hnc156 := NB233_232.out
                                      have hnb157 := NB232_238.out
                                      have hnc157 := NB238_232.out
                                      obtain ⟨hcz158_0, hcz158_1, hcz158_2, hcz158_3⟩ := Cb.c4 BK232.out
                                      obtain ⟨hfz158_0, hfz158_1, hfz158_2, hfz158_3⟩ := Cb.f4 BK232.out
                                      obtain ⟨Ao159, co159, eo159⟩ := Kd.V_slice HO_233000.out
                                      subst eo159
                                      go_wp2_with (first | ((with_reducible refine gate_callee (f := 64) rfl ?_); refine goesL_ (some 78) rfl rfl Try.func64 (by kernel_rfl) rfl #[.agg #[.slice Ao159 x233000_61.length co159, .int .i64 a0_1, .int .i64 a0_2, .bool false], .string a1] rfl (by (try simp only [List.map_toArray, List.map_cons, List.map_nil]); first | done | rfl | (simp only [List.length_drop, List.length_take]; rfl)) ?_; (with_reducible refine (disk_at.calls _ _ x233000_61 a0_1 a0_2 false a1 t247 _ ?side1 ?side2 A94.out).mono ?_); (case side1 => repeat (first | exact (Kd.V_reads' HO_233000.out).2.2 | (with_reducible refine Kd.C_alloc ?_ _) | (with_reducible refine Kd.C_drewN ?_ _) | (with_reducible refine Kd.C_drew ?_))); (case side2 => exact (Kd.V_reads' HO_233000.out).2.1); rintro e w160 ⟨rfl, hb⟩; refine ⟨_, rfl, ?_⟩; replace HO_233000 := Aside0.mk (Kd.V_below (by (with_reducible repeat (first | apply Kd.V_alloc | apply Kd.V_drewN | apply Kd.V_drew)); exact HO_233000.out) hb); replace BK232 := Aside0.mk (blk_below BK232.out hb); replace BK233 := Aside0.mk (blk_below BK233.out hb); replace BK238 := Aside0.mk (blk_below BK238.out hb); replace HB := Aside0.mk (below_step (by repeat (first | (with_reducible first | exact HB.out | apply below_alloc | apply pw_below_drewN | apply below_drew1 | refine below_set ?_ GE232.out | refine below_set ?_ GE233.out | refine below_set ?_ GE238.out) | exact HB.out)) hb); (try clear hb); (try clear hb2); (try clear hk); (try clear hi); obtain ⟨hcz161_0, hcz161_1, hcz161_2, hcz161_3⟩ := Cb.c4 BK232.out; obtain ⟨hfz161_0, hfz161_1, hfz161_2, hfz161_3⟩ := Cb.f4 BK232.out; have p248 : 0 ≤ (t247 : Int) := of_decide_eq_true (by first | (with_reducible assumption) | assumption); have q248 : t247 < (x233000_61.length : Int) := of_decide_eq_true (by first | (with_reducible assumption) | assumption); obtain ⟨ad248, e248, hx248_0, hx248_1, hx248_2⟩ := at_T38 (Kd.V_reads' HO_233000.out).2.2 t247 p248 q248; cases e248; replace p248 := eq_true p248; replace q248 := eq_true q248; have hnb162 := NB238_233.out; have hnc162 := NB233_238.out; obtain ⟨hcz163_0, hcz163_1, hcz163_2⟩ := Cb.c3 BK238.out; obtain ⟨hfz163_0, hfz163_1, hfz163_2⟩ := Cb.f3 BK238.out) | ((with_reducible refine gate_store (t := 38) (p := 8) rfl ?_); refine store_event (t := 38) (p := 8) (v := ?vo_w164) (w1 := (((w160.setCell ⟨gb238, 0, none⟩ (.string ((rd_T38 x233000_61 t247).f0))).setCell ⟨gb238, 1, none⟩ (.string ((rd_T38 x233000_61 t247).f1))).setCell ⟨gb238, 2, none⟩ (.string ((rd_T38 x233000_61 t247).f2)))) ?hg ?ho ?hn ?hr ?_; (case ho => rfl); (case hg => rfl); (case hn => rfl); (case hr => first | (go_simp; done) | (go_simp; rfl)); intro w164 hw; have n0_ : Aside0 (Kd.V k38 38 w164 w.heap.size (fun k_ => (P0_0_ k_ ∨ w.heap.size ≤ k_) ∧ k_ ≠ gb232 ∧ k_ ≠ gb233 ∧ k_ ≠ gb238) (.slice (some ad248) x233000_61.length co159) x233000_61) := ⟨(by rw [hw]; exact (by (with_reducible repeat (first | apply Kd.V_alloc | apply Kd.V_drewN | apply Kd.V_drew)); exact Kd.V_mono (Kd.V_far (p := ⟨gb238, 2, none⟩) (Kd.V_far (p := ⟨gb238, 1, none⟩) (Kd.V_far (p := ⟨gb238, 0, none⟩) (Kd.V_mono HO_233000.out (fun k_ hk => (⟨hk, hk.2.2.2⟩ : _ ∧ k_ ≠ gb238))) (fun _ hk => hk.2) (.string ((rd_T38 x233000_61 t247).f0))) (fun _ hk => hk.2) (.string ((rd_T38 x233000_61 t247).f1))) (fun _ hk => hk.2) (.string ((rd_T38 x233000_61 t247).f2))) (fun _ hk => ⟨hk.1.1, ⟨hk.1.2.1, ⟨hk.1.2.2.1, hk.1.2.2.2⟩⟩⟩)))⟩; have n1_ : Aside0 (w164.heap[gb232]? = some (.cells #[.slice (some ad248) x233000_61.length co159, .int .i64 a0_1, .int .i64 a0_2, .bool false] 33 (0, 0))) := ⟨(by rw [hw]; exact (by (with_reducible repeat (first | refine blk_drewN ?_ _ | refine blk_drew ?_ | refine blk_alloc ?_ _)); refine blk_far ?_ NB232_238.out _; refine blk_far ?_ NB232_238.out _; refine blk_far ?_ NB232_238.out _; (with_reducible repeat (first | refine blk_drewN ?_ _ | refine blk_drew ?_ | refine blk_alloc ?_ _)); exact BK232.out))⟩; have n2_ : Aside0 (w164.heap[gb233]? = some (.cells #[.slice none 0 0, .int .i64 0, .int .i64 0, .bool false] 33 (0, 0))) := ⟨(by rw [hw]; exact (by (with_reducible repeat (first | refine blk_drewN ?_ _ | refine blk_drew ?_ | refine blk_alloc ?_ _)); refine blk_far ?_ NB233_238.out _; refine blk_far ?_ NB233_238.out _; refine blk_far ?_ NB233_238.out _; (with_reducible repeat (first | refine blk_drewN ?_ _ | refine blk_drew ?_ | refine blk_alloc ?_ _)); exact BK233.out))⟩; have n3_ : Aside0 (w164.heap[gb238]? = some (.cells #[.string ((rd_T38 x233000_61 t247).f0), .string ((rd_T38 x233000_61 t247).f1), .string ((rd_T38 x233000_61 t247).f2)] 38 (0, 0))) := ⟨(by rw [hw]; exact (by (with_reducible repeat (first | refine blk_drewN ?_ _ | refine blk_drew ?_ | refine blk_alloc ?_ _)); refine blk_put (cs := #[.string ((rd_T38 x233000_61 t247).f0), .string ((rd_T38 x233000_61 t247).f1), .string t236]) ?_ 2 _ rfl; refine blk_put (cs := #[.string ((rd_T38 x233000_61 t247).f0), .string t235, .string t236]) ?_ 1 _ rfl; refine blk_put (cs := #[.string t234, .string t235, .string t236]) ?_ 0 _ rfl; (with_reducible repeat (first | refine blk_drewN ?_ _ | refine blk_drew ?_ | refine blk_alloc ?_ _)); exact BK238.out))⟩; have n4_ : Aside0 (Below w.heap.size w w164) := ⟨(by rw [hw]; exact (by repeat (first | (with_reducible first | exact HB.out | apply below_alloc | apply pw_below_drewN | apply below_drew1 | refine below_set ?_ GE232.out | refine below_set ?_ GE233.out | refine below_set ?_ GE238.out) | exact HB.out)))⟩; clear hw; clear HO_233000; clear BK232; clear BK233; clear BK238; clear HB; have HO_233000 := n0_; have BK232 := n1_; have BK233 := n2_; have BK238 := n3_; have HB := n4_; clear n0_ n1_ n2_ n3_ n4_; obtain ⟨hcz165_0, hcz165_1, hcz165_2⟩ := Cb.c3 BK238.out; obtain ⟨hfz165_0, hfz165_1, hfz165_2⟩ := Cb.f3 BK238.out; obtain ⟨hcz166_0, hcz166_1, hcz166_2, hcz166_3⟩ := Cb.c4 BK232.out; obtain ⟨hfz166_0, hfz166_1, hfz166_2, hfz166_3⟩ := Cb.f4 BK232.out) | ((with_reducible refine gate_callee (f := 70) rfl ?_); refine goesL_ (some 93) rfl rfl Try.func70 (by kernel_rfl) rfl #[.slice (some ad248) x233000_61.length co159, .int .i64 t247, .agg #[.string ((rd_T38 x233000_61 t247).f0), .string ((rd_T38 x233000_61 t247).f1), .string (((rd_T38 x233000_61 t247).f2) ++ x10_86)]] rfl (by (try simp only [List.map_toArray, List.map_cons, List.map_nil]); first | done | rfl | (simp only [List.length_drop, List.length_take]; rfl)) ?_; (with_reducible refine (api_File_70.calls _ _ x233000_61 t247 ((rd_T38 x233000_61 t247).f0) ((rd_T38 x233000_61 t247).f1) (((rd_T38 x233000_61 t247).f2) ++ x10_86) t249 _ ?side1 ?side2 A98.out).mono ?_); (case side1 => refine (Kd.V_reads' (e := 38) (base := w.heap.size) (ok := fun k_ => ((P0_0_ k_ ∨ w.heap.size ≤ k_) ∧ (k_ ≠ gb232 ∧ (k_ ≠ gb233 ∧ k_ ≠ gb238)))) (n := x233000_61.length) (c := co159) ?_).2.2; exact (by (with_reducible repeat (first | apply Kd.V_alloc | apply Kd.V_drewN | apply Kd.V_drew)); exact (Kd.V_mono (Kd.V_far (p := ⟨gb238, 2, none⟩) (Kd.V_mono HO_233000.out (fun k_ hk => (⟨hk, hk.2.2.2⟩ : _ ∧ k_ ≠ gb238))) (fun _ hk => hk.2) (.string (((rd_T38 x233000_61 t247).f2) ++ x10_86))) (fun _ h_ => h_.1)))); (case side2 => exact (Kd.V_reads' HO_233000.out).2.1); rintro e w167 ⟨v250, rfl, ho0, hb⟩; refine ⟨_, rfl, ?_⟩; have HO251 := Aside0.mk (Kd.R_lower (Kd.R_newB (Kd.R_newM (M := fun k_ => (w.heap.size ≤ k_)) ho0 (below_size (by repeat (first | (with_reducible first | exact HB.out | apply below_alloc | apply pw_below_drewN | apply below_drew1 | refine below_set ?_ GE232.out | refine below_set ?_ GE233.out | refine below_set ?_ GE238.out) | exact HB.out))) (fun k_ h_ => h_)) (g := gb238) (o := .cells #[.string ((rd_T38 x233000_61 t247).f0), .string ((rd_T38 x233000_61 t247).f1), .string (((rd_T38 x233000_61 t247).f2) ++ x10_86)] 38 (0, 0)) (by (with_reducible repeat (first | refine blk_drewN ?_ _ | refine blk_drew ?_ | refine blk_alloc ?_ _)); refine blk_put (cs := #[.string ((rd_T38 x233000_61 t247).f0), .string ((rd_T38 x233000_61 t247).f1), .string ((rd_T38 x233000_61 t247).f2)]) ?_ 2 _ rfl; (with_reducible repeat (first | refine blk_drewN ?_ _ | refine blk_drew ?_ | refine blk_alloc ?_ _)); exact BK238.out)) (below_size (by repeat (first | (with_reducible first | exact HB.out | apply below_alloc | apply pw_below_drewN | apply below_drew1 | refine below_set ?_ GE232.out | refine below_set ?_ GE233.out | refine below_set ?_ GE238.out) | exact HB.out)))); replace HO_233000 := Aside0.mk (Kd.V_elder' (by (with_reducible repeat (first | apply Kd.V_alloc | apply Kd.V_drewN | apply Kd.V_drew)); exact (Kd.V_mono (Kd.V_far (p := ⟨gb238, 2, none⟩) (Kd.V_mono HO_233000.out (fun k_ hk => (⟨hk, hk.2.2.2⟩ : _ ∧ k_ ≠ gb238))) (fun _ hk => hk.2) (.string (((rd_T38 x233000_61 t247).f2) ++ x10_86))) (fun _ h_ => h_.1))) (Kd.R_base ho0) hb); replace BK232 := Aside0.mk (blk_below (g := gb232) (o := .cells #[.slice (some ad248) x233000_61.length co159, .int .i64 a0_1, .int .i64 a0_2, .bool false] 33 (0, 0)) (by (with_reducible repeat (first | refine blk_drewN ?_ _ | refine blk_drew ?_ | refine blk_alloc ?_ _)); refine blk_far ?_ NB232_238.out _; (with_reducible repeat (first | refine blk_drewN ?_ _ | refine blk_drew ?_ | refine blk_alloc ?_ _)); exact BK232.out) hb); replace BK233 := Aside0.mk (blk_below (g := gb233) (o := .cells #[.slice none 0 0, .int .i64 0, .int .i64 0, .bool false] 33 (0, 0)) (by (with_reducible repeat (first | refine blk_drewN ?_ _ | refine blk_drew ?_ | refine blk_alloc ?_ _)); refine blk_far ?_ NB233_238.out _; (with_reducible repeat (first | refine blk_drewN ?_ _ | refine blk_drew ?_ | refine blk_alloc ?_ _)); exact BK233.out) hb); replace BK238 := Aside0.mk (blk_below (g := gb238) (o := .cells #[.string ((rd_T38 x233000_61 t247).f0), .string ((rd_T38 x233000_61 t247).f1), .string (((rd_T38 x233000_61 t247).f2) ++ x10_86)] 38 (0, 0)) (by (with_reducible repeat (first | refine blk_drewN ?_ _ | refine blk_drew ?_ | refine blk_alloc ?_ _)); refine blk_put (cs := #[.string ((rd_T38 x233000_61 t247).f0), .string ((rd_T38 x233000_61 t247).f1), .string ((rd_T38 x233000_61 t247).f2)]) ?_ 2 _ rfl; (with_reducible repeat (first | refine blk_drewN ?_ _ | refine blk_drew ?_ | refine blk_alloc ?_ _)); exact BK238.out) hb); replace HB := Aside0.mk (below_step (by repeat (first | (with_reducible first | exact HB.out | apply below_alloc | apply pw_below_drewN | apply below_drew1 | refine below_set ?_ GE232.out | refine below_set ?_ GE233.out | refine below_set ?_ GE238.out) | exact HB.out)) hb); (try clear hb); (try clear hb2); (try clear hk); (try clear hi); (try clear ho0); obtain ⟨Ao168, co168, eo168⟩ := Kd.R_slice HO251.out; subst eo168; obtain ⟨hcz169_0, hcz169_1, hcz169_2, hcz169_3⟩ := Cb.c4 BK232.out; obtain ⟨hfz169_0, hfz169_1, hfz169_2, hfz169_3⟩ := Cb.f4 BK232.out; obtain ⟨hcz170_0, hcz170_1, hcz170_2, hcz170_3⟩ := Cb.c4 BK233.out; obtain ⟨hfz170_0, hfz170_1, hfz170_2, hfz170_3⟩ := Cb.f4 BK233.out) | ((with_reducible refine gate_store (t := 33) (p := 6) rfl ?_); refine store_event (t := 33) (p := 6) (v := ?vo_w171) (w1 := ((((((w167.setCell ⟨gb232, 0, none⟩ (.slice Ao168 t249.length co168)).setCell ⟨gb232, 1, none⟩ (.int .i64 (wrap64 (a0_1 - (x10_86.size : Int))))).setCell ⟨gb233, 0, none⟩ (.slice Ao168 t249.length co168)).setCell ⟨gb233, 1, none⟩ (.int .i64 (wrap64 (a0_1 - (x10_86.size : Int))))).setCell ⟨gb233, 2, none⟩ (.int .i64 a0_2)).setCell ⟨gb233, 3, none⟩ (.bool false))) ?hg ?ho ?hn ?hr ?_; (case ho => rfl); (case hg => rfl); (case hn => rfl); (case hr => first | (go_simp; done) | (go_simp; rfl)); intro w171 hw; have n0_ : Aside0 (Kd.V k38 38 w171 w.heap.size (fun k_ => (P0_0_ k_ ∨ w.heap.size ≤ k_) ∧ some k_ ≠ (.slice Ao168 t249.length co168 : Value).ownBlock ∧ k_ ≠ gb232 ∧ k_ ≠ gb233 ∧ k_ ≠ gb238) (.slice (some ad248) x233000_61.length co159) x233000_61) := ⟨(by rw [hw]; exact (by (with_reducible repeat (first | apply Kd.V_alloc | apply Kd.V_drewN | apply Kd.V_drew)); exact Kd.V_mono (Kd.V_far (p := ⟨gb233, 3, none⟩) (Kd.V_far (p := ⟨gb233, 2, none⟩) (Kd.V_far (p := ⟨gb233, 1, none⟩) (Kd.V_far (p := ⟨gb233, 0, none⟩) (Kd.V_far (p := ⟨gb232, 1, none⟩) (Kd.V_far (p := ⟨gb232, 0, none⟩) (Kd.V_mono (Kd.V_mono HO_233000.out (fun k_ hk => (⟨hk, hk.1.2.1⟩ : _ ∧ k_ ≠ gb232))) (fun k_ hk => (⟨hk, hk.1.1.2.2.1⟩ : _ ∧ k_ ≠ gb233))) (fun _ hk => hk.1.2) (.slice Ao168 t249.length co168)) (fun _ hk => hk.1.2) (.int .i64 (wrap64 (a0_1 - (x10_86.size : Int))))) (fun _ hk => hk.2) (.slice Ao168 t249.length co168)) (fun _ hk => hk.2) (.int .i64 (wrap64 (a0_1 - (x10_86.size : Int))))) (fun _ hk => hk.2) (.int .i64 a0_2)) (fun _ hk => hk.2) (.bool false)) (fun _ hk => ⟨hk.1.1.1.1, ⟨hk.1.1.2, ⟨hk.1.1.1.2.1, ⟨hk.1.1.1.2.2.1, hk.1.1.1.2.2.2⟩⟩⟩⟩)))⟩; have n1_ : Aside0 (Kd.R k38 38 w171 w.heap.size (fun k_ => (w.heap.size ≤ k_) ∧ k_ ≠ gb238) (.slice Ao168 t249.length co168) t249) := ⟨(by rw [hw]; exact (by (with_reducible repeat (first | apply Kd.R_alloc | apply Kd.R_drewN | apply Kd.R_drew)); exact Kd.R_mono (Kd.R_far (p := ⟨gb233, 3, none⟩) (Kd.R_far (p := ⟨gb233, 2, none⟩) (Kd.R_far (p := ⟨gb233, 1, none⟩) (Kd.R_far (p := ⟨gb233, 0, none⟩) (Kd.R_far (p := ⟨gb232, 1, none⟩) (Kd.R_far (p := ⟨gb232, 0, none⟩) (Kd.R_types (Kd.R_types HO251.out BK232.out (by decide)) BK233.out (by decide)) (fun _ hk => hk.1.2) (.slice Ao168 t249.length co168)) (fun _ hk => hk.1.2) (.int .i64 (wrap64 (a0_1 - (x10_86.size : Int))))) (fun _ hk => hk.2) (.slice Ao168 t249.length co168)) (fun _ hk => hk.2) (.int .i64 (wrap64 (a0_1 - (x10_86.size : Int))))) (fun _ hk => hk.2) (.int .i64 a0_2)) (fun _ hk => hk.2) (.bool false)) (fun _ hk => ⟨hk.1.1.1.1, hk.1.1.2⟩)))⟩; have n2_ : Aside0 (w171.heap[gb232]? = some (.cells #[.slice Ao168 t249.length co168, .int .i64 (wrap64 (a0_1 - (x10_86.size : Int))), .int .i64 a0_2, .bool false] 33 (0, 0))) := ⟨(by rw [hw]; exact (by (with_reducible repeat (first | refine blk_drewN ?_ _ | refine blk_drew ?_ | refine blk_alloc ?_ _)); refine blk_far ?_ NB232_233.out _; refine blk_far ?_ NB232_233.out _; refine blk_far ?_ NB232_233.out _; refine blk_far ?_ NB232_233.out _; refine blk_put (cs := #[.slice Ao168 t249.length co168, .int .i64 a0_1, .int .i64 a0_2, .bool false]) ?_ 1 _ rfl; refine blk_put (cs := #[.slice (some ad248) x233000_61.length co159, .int .i64 a0_1, .int .i64 a0_2, .bool false]) ?_ 0 _ rfl; (with_reducible repeat (first | refine blk_drewN ?_ _ | refine blk_drew ?_ | refine blk_alloc ?_ _)); exact BK232.out))⟩; have n3_ : Aside0 (w171.heap[gb233]? = some (.cells #[.slice Ao168 t249.length co168, .int .i64 (wrap64 (a0_1 - (x10_86.size : Int))), .int .i64 a0_2, .bool false] 33 (0, 0))) := ⟨(by rw [hw]; exact (by (with_reducible repeat (first | refine blk_drewN ?_ _ | refine blk_drew ?_ | refine blk_alloc ?_ _)); refine blk_put (cs := #[.slice Ao168 t249.length co168, .int .i64 (wrap64 (a0_1 - (x10_86.size : Int))), .int .i64 a0_2, .bool false]) ?_ 3 _ rfl; refine blk_put (cs := #[.slice Ao168 t249.length co168, .int .i64 (wrap64 (a0_1 - (x10_86.size : Int))), .int .i64 0, .bool false]) ?_ 2 _ rfl; refine blk_put (cs := #[.slice Ao168 t249.length co168, .int .i64 0, .int .i64 0, .bool false]) ?_ 1 _ rfl; refine blk_put (cs := #[.slice none 0 0, .int .i64 0, .int .i64 0, .bool false]) ?_ 0 _ rfl; refine blk_far ?_ NB233_232.out _; refine blk_far ?_ NB233_232.out _; (with_reducible repeat (first | refine blk_drewN ?_ _ | refine blk_drew ?_ | refine blk_alloc ?_ _)); exact BK233.out))⟩; have n4_ : Aside0 (w171.heap[gb238]? = some (.cells #[.string ((rd_T38 x233000_61 t247).f0), .string ((rd_T38 x233000_61 t247).f1), .string (((rd_T38 x233000_61 t247).f2) ++ x10_86)] 38 (0, 0))) := ⟨(by rw [hw]; exact (by (with_reducible repeat (first | refine blk_drewN ?_ _ | refine blk_drew ?_ | refine blk_alloc ?_ _)); refine blk_far ?_ NB238_233.out _; refine blk_far ?_ NB238_233.out _; refine blk_far ?_ NB238_233.out _; refine blk_far ?_ NB238_233.out _; refine blk_far ?_ NB238_232.out _; refine blk_far ?_ NB238_232.out _; (with_reducible repeat (first | refine blk_drewN ?_ _ | refine blk_drew ?_ | refine blk_alloc ?_ _)); exact BK238.out))⟩; have n5_ : Aside0 (Below w.heap.size w w171) := ⟨(by rw [hw]; exact (by repeat (first | (with_reducible first | exact HB.out | apply below_alloc | apply pw_below_drewN | apply below_drew1 | refine below_set ?_ GE232.out | refine below_set ?_ GE233.out | refine below_set ?_ GE238.out) | exact HB.out)))⟩; clear hw; clear HO_233000; clear HO251; clear BK232; clear BK233; clear BK238; clear HB; have HO_233000 := n0_; have HO251 := n1_; have BK232 := n2_; have BK233 := n3_; have BK238 := n4_; have HB := n5_; clear n0_ n1_ n2_ n3_ n4_ n5_))
                                      refine bodyPost_ret (results_ct rfl _ _ gb233 33 #[.slice Ao168 t249.length co168, .int .i64 (wrap64 (a0_1 - (x10_86.size : Int))), .int .i64 a0_2, .bool false] (0, 0) _ rfl (by (with_reducible repeat (first | refine blk_drewN ?_ _ | refine blk_drew ?_ | refine blk_alloc ?_ _)); exact BK233.out) Try.underlying33 rfl (by kernel_rfl)) rfl ?_
                                      exact ⟨_, by first | rfl | (simp [errW_none, errW_some] <;> rfl) | (simp [*, errW_none, errW_some] <;> rfl), Kd.V_mono (Kd.R_V (by (with_reducible repeat (first | apply Kd.R_alloc | apply Kd.R_drewN | apply Kd.R_drew)); exact Kd.R_mono HO251.out (fun _ hk => hk.1))) (fun k_ hk => by first | exact ⟨(.inr (hk.1)), hk.2⟩ | exact (.inr (hk))), by repeat (first | (with_reducible first | exact HB.out | apply below_alloc | apply pw_below_drewN | apply below_drew1 | refine below_set ?_ GE232.out | refine below_set ?_ GE233.out | refine below_set ?_ GE238.out) | exact HB.out)⟩
                                · rw [if_neg c97] at H
                                  exact absurd H (by simp)
                              · rw [if_neg c96] at H
                                exact absurd H (by simp)
                            · rw [if_neg c95] at H
                              exact absurd H (by simp)
    · replace c20 := Bool.eq_false_iff.mpr c20
      subst c20
      have H1 : (some (l0_0, a0_1, a0_2, false, 1)) = some (r1, r2, r3, r4, r5) := by rw [if_neg (show ¬ (false = true) by decide)] at H; exact H
      clear H
      have H := H1
      clear H1
      simp only [Option.some.injEq, Prod.mk.injEq] at H
      obtain ⟨rfl, rfl, rfl, rfl, rfl⟩ := H
      go_enter Try.func40, Try.ntmps40
      go_wp2_with (first | ((with_reducible refine gate_dst (N := 3) rfl ?_); (try (refine gate_guard (by rfl) ?_; dsimp only)); refine box_event ?hg (N := 3) ?hd (cs := #[.slice A0_0 l0_0.length c0_0, .int .i64 a0_1, .int .i64 a0_2, .bool false]) (t := 33) ?hr ?_; (case hd => rfl); (case hg => rfl); (case hr => first | (go_simp; done) | (go_simp; rfl)); intro gb232 hg w172 hbox hb; obtain ⟨n_, GE232⟩ := Cb.bx (by repeat (first | (with_reducible first | exact HB.out | apply below_alloc | apply pw_below_drewN | apply below_drew1) | exact HB.out)) hg hb; have GW232 := GE232; have BK232 := Aside0.mk (hbox); replace HO0_0 := Aside0.mk (Kd.V_below (Kd.V_elderB (by (with_reducible repeat (first | apply Kd.V_alloc | apply Kd.V_drewN | apply Kd.V_drew)); exact HO0_0.out) gb232 (Nat.le_of_eq hg.symm)) hb); replace HB := n_; clear n_; clear hb hbox hg) | ((with_reducible refine gate_dst (N := 6) rfl ?_); (try (refine gate_guard (by rfl) ?_; dsimp only)); refine box_event ?hg (N := 6) ?hd (cs := #[.slice none 0 0, .int .i64 0, .int .i64 0, .bool false]) (t := 33) ?hr ?_; (case hd => rfl); (case hg => rfl); (case hr => first | (go_simp; done) | (go_simp; rfl)); intro gb233 hg w173 hbox hb; obtain ⟨n_, GE233⟩ := Cb.bx (by repeat (first | (with_reducible first | exact HB.out | apply below_alloc | apply pw_below_drewN | apply below_drew1 | refine below_set ?_ GE232.out) | exact HB.out)) hg hb; have GW233 := GE233; obtain ⟨NB232_233, NB233_232⟩ := Cb.nb hg BK232.out; have BK233 := Aside0.mk (hbox); replace HO0_0 := Aside0.mk (Kd.V_below (Kd.V_elderB (by (with_reducible repeat (first | apply Kd.V_alloc | apply Kd.V_drewN | apply Kd.V_drew)); exact HO0_0.out) gb233 (Nat.le_of_eq hg.symm)) hb); replace BK232 := Aside0.mk (blk_below BK232.out hb); replace HB := n_; clear n_; clear hb hbox hg; have hnb174 := NB232_233.out; have hnc174 := NB233_232.out; obtain ⟨hcz175_0, hcz175_1, hcz175_2, hcz175_3⟩ := Cb.c4 BK232.out; obtain ⟨hfz175_0, hfz175_1, hfz175_2, hfz175_3⟩ := Cb.f4 BK232.out) | ((with_reducible refine gate_callee (f := 38) rfl ?_); refine goesL_ (some 15) rfl rfl Try.func38 (by kernel_rfl) rfl #[.agg #[.slice A0_0 l0_0.length c0_0, .int .i64 a0_1, .int .i64 a0_2, .bool false], .string a1] rfl (by (try simp only [List.map_toArray, List.map_cons, List.map_nil]); first | done | rfl | (simp only [List.length_drop, List.length_take]; rfl)) ?_; (with_reducible refine (disk_Find.calls _ _ l0_0 a0_1 a0_2 false a1 t234 t235 t236 t237 _ ?side1 ?side2 A4.out).mono ?_); (case side1 => repeat (first | exact (Kd.V_reads' HO0_0.out).2.2 | (with_reducible refine Kd.C_alloc ?_ _) | (with_reducible refine Kd.C_drewN ?_ _) | (with_reducible refine Kd.C_drew ?_))); (case side2 => exact (Kd.V_reads' HO0_0.out).2.1); rintro e w176 ⟨rfl, hb⟩; refine ⟨_, rfl, ?_⟩; replace HO0_0 := Aside0.mk (Kd.V_below (by (with_reducible repeat (first | apply Kd.V_alloc | apply Kd.V_drewN | apply Kd.V_drew)); exact HO0_0.out) hb); replace BK232 := Aside0.mk (blk_below BK232.out hb); replace BK233 := Aside0.mk (blk_below BK233.out hb); replace HB := Aside0.mk (below_step (by repeat (first | (with_reducible first | exact HB.out | apply below_alloc | apply pw_below_drewN | apply below_drew1 | refine below_set ?_ GE232.out | refine below_set ?_ GE233.out) | exact HB.out)) hb); (try clear hb); (try clear hb2); (try clear hk); (try clear hi)) | ((with_reducible refine gate_dst (N := 8) rfl ?_); (try (refine gate_guard (by rfl) ?_; dsimp only)); refine box_event ?hg (N := 8) ?hd (cs := #[.string (⟨#[]⟩ : ByteArray), .string (⟨#[]⟩ : ByteArray), .string (⟨#[]⟩ : ByteArray)]) (t := 38) ?hr ?_; (case hd => rfl); (case hg => rfl); (case hr => first | (go_simp; done) | (go_simp; rfl)); intro gb238 hg w177 hbox hb; obtain ⟨n_, GE238⟩ := Cb.bx (by repeat (first | (with_reducible first | exact HB.out | apply below_alloc | apply pw_below_drewN | apply below_drew1 | refine below_set ?_ GE232.out | refine below_set ?_ GE233.out) | exact HB.out)) hg hb; have GW238 := GE238; obtain ⟨NB232_238, NB238_232⟩ := Cb.nb hg BK232.out; obtain ⟨NB233_238, NB238_233⟩ := Cb.nb hg BK233.out; have BK238 := Aside0.mk (hbox); replace HO0_0 := Aside0.mk (Kd.V_below (Kd.V_elderB (by (with_reducible repeat (first | apply Kd.V_alloc | apply Kd.V_drewN | apply Kd.V_drew)); exact HO0_0.out) gb238 (Nat.le_of_eq hg.symm)) hb); replace BK232 := Aside0.mk (blk_below BK232.out hb); replace BK233 := Aside0.mk (blk_below BK233.out hb); replace HB := n_; clear n_; clear hb hbox hg; have hnb178 := NB238_232.out; have hnc178 := NB232_238.out; have hnb179 := NB238_233.out; have hnc179 := NB233_238.out; obtain ⟨hcz180_0, hcz180_1, hcz180_2⟩ := Cb.c3 BK238.out; obtain ⟨hfz180_0, hfz180_1, hfz180_2⟩ := Cb.f3 BK238.out) | ((with_reducible refine gate_store (t := 38) (p := 8) rfl ?_); refine store_event (t := 38) (p := 8) (v := ?vo_w181) (w1 := (((w177.setCell ⟨gb238, 0, none⟩ (.string t234)).setCell ⟨gb238, 1, none⟩ (.string t235)).setCell ⟨gb238, 2, none⟩ (.string t236))) ?hg ?ho ?hn ?hr ?_; (case ho => rfl); (case hg => rfl); (case hn => rfl); (case hr => first | (go_simp; done) | (go_simp; rfl)); intro w181 hw; have n0_ : Aside0 (Kd.V k38 38 w181 w.heap.size (fun k_ => (P0_0_ k_ ∨ w.heap.size ≤ k_) ∧ k_ ≠ gb232 ∧ k_ ≠ gb233 ∧ k_ ≠ gb238) (.slice A0_0 l0_0.length c0_0) l0_0) := ⟨(by rw [hw]; exact (by (with_reducible repeat (first | apply Kd.V_alloc | apply Kd.V_drewN | apply Kd.V_drew)); exact Kd.V_mono (Kd.V_far (p := ⟨gb238, 2, none⟩) (Kd.V_far (p := ⟨gb238, 1, none⟩) (Kd.V_far (p := ⟨gb238, 0, none⟩) (Kd.V_mono HO0_0.out (fun k_ hk => (⟨hk, by first | exact hk.2 | exact hk.2.2 | exact hk.2.1⟩ : _ ∧ k_ ≠ gb238))) (fun _ hk => hk.2) (.string t234)) (fun _ hk => hk.2) (.string t235)) (fun _ hk => hk.2) (.string t236)) (fun _ hk => (by first | exact ⟨hk.1.1.1.1, ⟨hk.1.1.1.2, ⟨hk.1.1.2, hk.1.2⟩⟩⟩ | exact hk.1 | exact hk.1.1 | exact hk))))⟩; have n1_ : Aside0 (w181.heap[gb232]? = some (.cells #[.slice A0_0 l0_0.length c0_0, .int .i64 a0_1, .int .i64 a0_2, .bool false] 33 (0, 0))) := ⟨(by rw [hw]; exact (by (with_reducible repeat (first | refine blk_drewN ?_ _ | refine blk_drew ?_ | refine blk_alloc ?_ _)); refine blk_far ?_ NB232_238.out _; refine blk_far ?_ NB232_238.out _; refine blk_far ?_ NB232_238.out _; (with_reducible repeat (first | refine blk_drewN ?_ _ | refine blk_drew ?_ | refine blk_alloc ?_ _)); exact BK232.out))⟩; have n2_ : Aside0 (w181.heap[gb233]? = some (.cells #[.slice none 0 0, .int .i64 0, .int .i64 0, .bool false] 33 (0, 0))) := ⟨(by rw [hw]; exact (by (with_reducible repeat (first | refine blk_drewN ?_ _ | refine blk_drew ?_ | refine blk_alloc ?_ _)); refine blk_far ?_ NB233_238.out _; refine blk_far ?_ NB233_238.out _; refine blk_far ?_ NB233_238.out _; (with_reducible repeat (first | refine blk_drewN ?_ _ | refine blk_drew ?_ | refine blk_alloc ?_ _)); exact BK233.out))⟩; have n3_ : Aside0 (w181.heap[gb238]? = some (.cells #[.string t234, .string t235, .string t236] 38 (0, 0))) := ⟨(by rw [hw]; exact (by (with_reducible repeat (first | refine blk_drewN ?_ _ | refine blk_drew ?_ | refine blk_alloc ?_ _)); refine blk_put (cs := #[.string t234, .string t235, .string (⟨#[]⟩ : ByteArray)]) ?_ 2 _ rfl; refine blk_put (cs := #[.string t234, .string (⟨#[]⟩ : ByteArray), .string (⟨#[]⟩ : ByteArray)]) ?_ 1 _ rfl; refine blk_put (cs := #[.string (⟨#[]⟩ : ByteArray), .string (⟨#[]⟩ : ByteArray), .string (⟨#[]⟩ : ByteArray)]) ?_ 0 _ rfl; (with_reducible repeat (first | refine blk_drewN ?_ _ | refine blk_drew ?_ | refine blk_alloc ?_ _)); exact BK238.out))⟩; have n4_ : Aside0 (Below w.heap.size w w181) := ⟨(by rw [hw]; exact (by repeat (first | (with_reducible first | exact HB.out | apply below_alloc | apply pw_below_drewN | apply below_drew1 | refine below_set ?_ GE232.out | refine below_set ?_ GE233.out | refine below_set ?_ GE238.out) | exact HB.out)))⟩; clear hw; clear HO0_0; clear BK232; clear BK233; clear BK238; clear HB; have HO0_0 := n0_; have BK232 := n1_; have BK233 := n2_; have BK238 := n3_; have HB := n4_; clear n0_ n1_ n2_ n3_ n4_; obtain ⟨hcz182_0, hcz182_1, hcz182_2, hcz182_3⟩ := Cb.c4 BK232.out; obtain ⟨hfz182_0, hfz182_1, hfz182_2, hfz182_3⟩ := Cb.f4 BK232.out) | ((with_reducible refine gate_callee (f := 67) rfl ?_); refine goesL_ (some 23) rfl rfl Try.func67 (by kernel_rfl) rfl #[.string a1] rfl (by (try simp only [List.map_toArray, List.map_cons, List.map_nil]); first | done | rfl | (simp only [List.length_drop, List.length_take]; rfl)) ?_; (with_reducible refine (disk_named.calls a1 false _ A19.out).mono ?_); rintro e w' ⟨rfl, ⟨nd, rfl⟩⟩; refine ⟨_, rfl, ?_⟩; (try (rw [drewN_self w181]; generalize hq_ : World.drewN w181 _ = w181; have n0_ : Aside0 (Kd.V k38 38 w181 w.heap.size (fun k_ => (P0_0_ k_ ∨ w.heap.size ≤ k_) ∧ k_ ≠ gb232 ∧ k_ ≠ gb233 ∧ k_ ≠ gb238) (.slice A0_0 l0_0.length c0_0) l0_0) := ⟨by rw [← hq_]; exact (by (with_reducible repeat (first | apply Kd.V_alloc | apply Kd.V_drewN | apply Kd.V_drew)); exact HO0_0.out)⟩; have n1_ : Aside0 (w181.heap[gb232]? = some (.cells #[.slice A0_0 l0_0.length c0_0, .int .i64 a0_1, .int .i64 a0_2, .bool false] 33 (0, 0))) := ⟨by rw [← hq_]; exact (by (with_reducible repeat (first | refine blk_drewN ?_ _ | refine blk_drew ?_ | refine blk_alloc ?_ _)); exact BK232.out)⟩; have n2_ : Aside0 (w181.heap[gb233]? = some (.cells #[.slice none 0 0, .int .i64 0, .int .i64 0, .bool false] 33 (0, 0))) := ⟨by rw [← hq_]; exact (by (with_reducible repeat (first | refine blk_drewN ?_ _ | refine blk_drew ?_ | refine blk_alloc ?_ _)); exact BK233.out)⟩; have n3_ : Aside0 (w181.heap[gb238]? = some (.cells #[.string t234, .string t235, .string t236] 38 (0, 0))) := ⟨by rw [← hq_]; exact (by (with_reducible repeat (first | refine blk_drewN ?_ _ | refine blk_drew ?_ | refine blk_alloc ?_ _)); exact BK238.out)⟩; have n4_ : Aside0 (Below w.heap.size w w181) := ⟨by rw [← hq_]; exact (by repeat (first | (with_reducible first | exact HB.out | apply below_alloc | apply pw_below_drewN | apply below_drew1 | refine below_set ?_ GE232.out | refine below_set ?_ GE233.out | refine below_set ?_ GE238.out) | exact HB.out))⟩; clear HO0_0 BK232 BK233 BK238 HB hq_; have HO0_0 := n0_; have BK232 := n1_; have BK233 := n2_; have BK238 := n3_; have HB := n4_; clear n0_ n1_ n2_ n3_ n4_; (try have hcq232_0 : w181.cell? ⟨gb232, 0, none⟩ = some _ := (blk_cell BK232.out 0).trans rfl); (try have hfq232_0 := blk_frozen BK232.out 0); (try have hcq232_1 : w181.cell? ⟨gb232, 1, none⟩ = some _ := (blk_cell BK232.out 1).trans rfl); (try have hfq232_1 := blk_frozen BK232.out 1); (try have hcq232_2 : w181.cell? ⟨gb232, 2, none⟩ = some _ := (blk_cell BK232.out 2).trans rfl); (try have hfq232_2 := blk_frozen BK232.out 2); (try have hcq232_3 : w181.cell? ⟨gb232, 3, none⟩ = some _ := (blk_cell BK232.out 3).trans rfl); (try have hfq232_3 := blk_frozen BK232.out 3); (try have hcq233_0 : w181.cell? ⟨gb233, 0, none⟩ = some _ := (blk_cell BK233.out 0).trans rfl); (try have hfq233_0 := blk_frozen BK233.out 0); (try have hcq233_1 : w181.cell? ⟨gb233, 1, none⟩ = some _ := (blk_cell BK233.out 1).trans rfl); (try have hfq233_1 := blk_frozen BK233.out 1); (try have hcq233_2 : w181.cell? ⟨gb233, 2, none⟩ = some _ := (blk_cell BK233.out 2).trans rfl); (try have hfq233_2 := blk_frozen BK233.out 2); (try have hcq233_3 : w181.cell? ⟨gb233, 3, none⟩ = some _ := (blk_cell BK233.out 3).trans rfl); (try have hfq233_3 := blk_frozen BK233.out 3); (try have hcq238_0 : w181.cell? ⟨gb238, 0, none⟩ = some _ := (blk_cell BK238.out 0).trans rfl); (try have hfq238_0 := blk_frozen BK238.out 0); (try have hcq238_1 : w181.cell? ⟨gb238, 1, none⟩ = some _ := (blk_cell BK238.out 1).trans rfl); (try have hfq238_1 := blk_frozen BK238.out 1); (try have hcq238_2 : w181.cell? ⟨gb238, 2, none⟩ = some _ := (blk_cell BK238.out 2).trans rfl); (try have hfq238_2 := blk_frozen BK238.out 2))); obtain ⟨hcz183_0, hcz183_1, hcz183_2, hcz183_3⟩ := Cb.c4 BK233.out; obtain ⟨hfz183_0, hfz183_1, hfz183_2, hfz183_3⟩ := Cb.f4 BK233.out) | ((with_reducible refine gate_store (t := 33) (p := 6) rfl ?_); refine store_event (t := 33) (p := 6) (v := ?vo_w184) (w1 := ((((w181.setCell ⟨gb233, 0, none⟩ (.slice A0_0 l0_0.length c0_0)).setCell ⟨gb233, 1, none⟩ (.int .i64 a0_1)).setCell ⟨gb233, 2, none⟩ (.int .i64 a0_2)).setCell ⟨gb233, 3, none⟩ (.bool false))) ?hg ?ho ?hn ?hr ?_; (case ho => rfl); (case hg => rfl); (case hn => rfl); (case hr => first | (go_simp; done) | (go_simp; rfl)); intro w184 hw; have n0_ : Aside0 (Kd.V k38 38 w184 w.heap.size (fun k_ => (P0_0_ k_ ∨ w.heap.size ≤ k_) ∧ k_ ≠ gb232 ∧ k_ ≠ gb233 ∧ k_ ≠ gb238) (.slice A0_0 l0_0.length c0_0) l0_0) := ⟨(by rw [hw]; exact (by (with_reducible repeat (first | apply Kd.V_alloc | apply Kd.V_drewN | apply Kd.V_drew)); exact Kd.V_mono (Kd.V_far (p := ⟨gb233, 3, none⟩) (Kd.V_far (p := ⟨gb233, 2, none⟩) (Kd.V_far (p := ⟨gb233, 1, none⟩) (Kd.V_far (p := ⟨gb233, 0, none⟩) (Kd.V_mono HO0_0.out (fun k_ hk => (⟨hk, hk.2.2.1⟩ : _ ∧ k_ ≠ gb233))) (fun _ hk => hk.2) (.slice A0_0 l0_0.length c0_0)) (fun _ hk => hk.2) (.int .i64 a0_1)) (fun _ hk => hk.2) (.int .i64 a0_2)) (fun _ hk => hk.2) (.bool false)) (fun _ hk => (by first | exact ⟨hk.1.1, ⟨hk.1.2.1, ⟨hk.1.2.2.1, hk.1.2.2.2⟩⟩⟩ | exact hk.1 | exact hk.1.1 | exact hk))))⟩; have n1_ : Aside0 (w184.heap[gb232]? = some (.cells #[.slice A0_0 l0_0.length c0_0, .int .i64 a0_1, .int .i64 a0_2, .bool false] 33 (0, 0))) := ⟨(by rw [hw]; exact (by (with_reducible repeat (first | refine blk_drewN ?_ _ | refine blk_drew ?_ | refine blk_alloc ?_ _)); refine blk_far ?_ NB232_233.out _; refine blk_far ?_ NB232_233.out _; refine blk_far ?_ NB232_233.out _; refine blk_far ?_ NB232_233.out _; (with_reducible repeat (first | refine blk_drewN ?_ _ | refine blk_drew ?_ | refine blk_alloc ?_ _)); exact BK232.out))⟩; have n2_ : Aside0 (w184.heap[gb233]? = some (.cells #[.slice A0_0 l0_0.length c0_0, .int .i64 a0_1, .int .i64 a0_2, .bool false] 33 (0, 0))) := ⟨(by rw [hw]; exact (by (with_reducible repeat (first | refine blk_drewN ?_ _ | refine blk_drew ?_ | refine blk_alloc ?_ _)); refine blk_put (cs := #[.slice A0_0 l0_0.length c0_0, .int .i64 a0_1, .int .i64 a0_2, .bool false]) ?_ 3 _ rfl; refine blk_put (cs := #[.slice A0_0 l0_0.length c0_0, .int .i64 a0_1, .int .i64 0, .bool false]) ?_ 2 _ rfl; refine blk_put (cs := #[.slice A0_0 l0_0.length c0_0, .int .i64 0, .int .i64 0, .bool false]) ?_ 1 _ rfl; refine blk_put (cs := #[.slice none 0 0, .int .i64 0, .int .i64 0, .bool false]) ?_ 0 _ rfl; (with_reducible repeat (first | refine blk_drewN ?_ _ | refine blk_drew ?_ | refine blk_alloc ?_ _)); exact BK233.out))⟩; have n3_ : Aside0 (w184.heap[gb238]? = some (.cells #[.string t234, .string t235, .string t236] 38 (0, 0))) := ⟨(by rw [hw]; exact (by (with_reducible repeat (first | refine blk_drewN ?_ _ | refine blk_drew ?_ | refine blk_alloc ?_ _)); refine blk_far ?_ NB238_233.out _; refine blk_far ?_ NB238_233.out _; refine blk_far ?_ NB238_233.out _; refine blk_far ?_ NB238_233.out _; (with_reducible repeat (first | refine blk_drewN ?_ _ | refine blk_drew ?_ | refine blk_alloc ?_ _)); exact BK238.out))⟩; have n4_ : Aside0 (Below w.heap.size w w184) := ⟨(by rw [hw]; exact (by repeat (first | (with_reducible first | exact HB.out | apply below_alloc | apply pw_below_drewN | apply below_drew1 | refine below_set ?_ GE232.out | refine below_set ?_ GE233.out | refine below_set ?_ GE238.out) | exact HB.out)))⟩; clear hw; clear HO0_0; clear BK232; clear BK233; clear BK238; clear HB; have HO0_0 := n0_; have BK232 := n1_; have BK233 := n2_; have BK238 := n3_; have HB := n4_; clear n0_ n1_ n2_ n3_ n4_))
      refine bodyPost_ret (results_ct rfl _ _ gb233 33 #[.slice A0_0 l0_0.length c0_0, .int .i64 a0_1, .int .i64 a0_2, .bool false] (0, 0) _ rfl (by (with_reducible repeat (first | refine blk_drewN ?_ _ | refine blk_drew ?_ | refine blk_alloc ?_ _)); exact BK233.out) Try.underlying33 rfl (by kernel_rfl)) rfl ?_
      exact ⟨_, by first | rfl | (simp [errW_none, errW_some] <;> rfl) | (simp [*, errW_none, errW_some] <;> rfl), by (with_reducible repeat (first | apply Kd.V_alloc | apply Kd.V_drewN | apply Kd.V_drew)); exact Kd.V_mono HO0_0.out (fun _ hk => hk.1), by repeat (first | (with_reducible first | exact HB.out | apply below_alloc | apply pw_below_drewN | apply below_drew1 | refine below_set ?_ GE232.out | refine below_set ?_ GE233.out | refine below_set ?_ GE238.out) | exact HB.out)⟩

end Go.Proofs.Ytbhkopbalhhpgaa.PH
