-- Made by a program of this workplace out of the translation (wip/tools in the repo). Not trusted: Lean checks it.
import Derived.Test.YthcdlgphabaidaaPRx0
import Derived.Test.YthcdlgphabaidaaPRx2
import Derived.Test.YthcdlgphabaidaaPRx3
import Derived.Test.YthcdlgphabaidaaPRx4
import Derived.Test.YthcdlgphabaidaaPRx9
namespace Go.Proofs.Ythcdlgphabaidaa.PR
open Go.RowKit Go.Proofs.YthcdlgphabaidaaW.PrintWords Go.Proofs.YthcdlgphabaidaaW.PrintLast Go.Proofs.YthcdlgphabaidaaW.PrintMore
attribute [local go_sem] max2_int min2_int max_two min_two max_three min_three max_four min_four   -- for this text's walks alone
set_option linter.unusedVariables false
set_option linter.unusedSimpArgs false

/-! ### batch_Take: function 20 -/
set_option maxHeartbeats 8000000 in
set_option maxRecDepth 100000 in
theorem batch_Take.calls (k : Nat) (a0 : ByteArray) (r1 : Int) (r2 : ByteArray) (r3 : List (S54)) (r4 : Int) (w : World) (h : batch_Take.f k a0 = some (r1, r2, r3, r4)) :
    Calls Try.prog 20 #[.string a0] w fun e w' => ∃ v2_ : Value, e = .returned (.tuple #[.agg #[.int .i64 r1, .string r2, v2_], .int .i64 r4]) ∧ Kd.R k54 54 w' w.heap.size (fun _ => True) v2_ r3 ∧ Below w.heap.size w w' := by
  have hu37 := Try.underlying37
  have hu54 := Try.underlying54
  have HB := Aside0.mk (Below.refl w.heap.size w)
  have H : ((batch_reader.f a0).bind fun bt163 => ((batch_num.f k bt163.1 bt163.2 2).bind fun bt166 => ((batch_text.f k bt166.2.1 bt166.2.2 16).bind fun bt170 => ((batch_num.f k bt170.2.1 bt170.2.2 24).bind fun bt173 => (batch_Take.l0 k bt173.1 0 bt173.2.1 bt173.2.2 (wrap64 (bt166.1)) bt170.1 ([] : List (S54))))))) = some (r1, r2, r3, r4) := h
  clear h
  replace H := Option.bind_eq_some_iff.mp H
  obtain ⟨⟨t163, t164⟩, A20, H⟩ := H
  replace H : ((batch_num.f k t163 t164 2).bind fun bt166 => ((batch_text.f k bt166.2.1 bt166.2.2 16).bind fun bt170 => ((batch_num.f k bt170.2.1 bt170.2.2 24).bind fun bt173 => (batch_Take.l0 k bt173.1 0 bt173.2.1 bt173.2.2 (wrap64 (bt166.1)) bt170.1 ([] : List (S54)))))) = some (r1, r2, r3, r4) := H
  have A2 := Aside0.mk A20
  clear A20
  replace H := Option.bind_eq_some_iff.mp H
  obtain ⟨⟨t166, t167, t168⟩, A30, H⟩ := H
  replace H : ((batch_text.f k t167 t168 16).bind fun bt170 => ((batch_num.f k bt170.2.1 bt170.2.2 24).bind fun bt173 => (batch_Take.l0 k bt173.1 0 bt173.2.1 bt173.2.2 (wrap64 (t166)) bt170.1 ([] : List (S54))))) = some (r1, r2, r3, r4) := H
  have A3 := Aside0.mk A30
  clear A30
  replace H := Option.bind_eq_some_iff.mp H
  obtain ⟨⟨t170, t171, t172⟩, A40, H⟩ := H
  replace H : ((batch_num.f k t171 t172 24).bind fun bt173 => (batch_Take.l0 k bt173.1 0 bt173.2.1 bt173.2.2 (wrap64 (t166)) t170 ([] : List (S54)))) = some (r1, r2, r3, r4) := H
  have A4 := Aside0.mk A40
  clear A40
  replace H := Option.bind_eq_some_iff.mp H
  obtain ⟨⟨t173, t174, t175⟩, A50, H⟩ := H
  replace H : (batch_Take.l0 k t173 0 t174 t175 (wrap64 (t166)) t170 ([] : List (S54))) = some (r1, r2, r3, r4) := H
  have A5 := Aside0.mk A50
  clear A50
  have H' := Aside0.mk H
  clear H
  go_enter Try.func20, Try.ntmps20
  go_wp2_with (first | ((with_reducible refine gate_dst (N := 2) rfl ?_); refine box_event ?hg (N := 2) ?hd (cs := #[.int .i64 0, .string (⟨#[]⟩ : ByteArray), .slice none 0 0]) (t := 37) ?hr ?_; (case hd => rfl); (case hg => rfl); (case hr => first | (go_simp; done) | (go_simp; rfl)); intro gb162 hg w6 hbox hb; have n0_ := Aside0.mk (below_step (by repeat (first | (with_reducible first | exact HB.out | apply below_alloc | apply pw_below_drewN | apply below_drew1) | exact HB.out)) hb); have n1_ := Aside0.mk (hbox); have n2_ := Aside0.mk ((by rw [hg]; exact (below_size (by repeat (first | (with_reducible first | exact HB.out | apply below_alloc | apply pw_below_drewN | apply below_drew1) | exact HB.out))) : w.heap.size ≤ gb162)); have n3_ := Aside0.mk ((by rw [hg]; exact (below_size (by repeat (first | (with_reducible first | exact HB.out | apply below_alloc | apply pw_below_drewN | apply below_drew1) | exact HB.out))) : w.heap.size ≤ gb162)); clear HB; have HB := n0_; have BK162 := n1_; have GW162 := n2_; have GE162 := n3_; clear n0_ n1_ n2_ n3_; clear hb hbox hg) | (go_at_call 39; generalize hw_ : World.alloc w6 _ = w7; generalize hg_ : w6.heap.size = g165; have hq_ : Below w.heap.size w w6 := (by repeat (first | (with_reducible first | exact HB.out | apply below_alloc | apply pw_below_drewN | apply below_drew1 | refine below_set ?_ GE162.out) | exact HB.out)); have hb2 : Below w6.heap.size w6 w7 := (by rw [← hw_]; exact below_alloc (Below.refl _ _) _); have hbox : w7.heap[g165]? = some (.cells #[.string a0, .bool true, .func (.func 39) #[] #[], .func (.func 40) #[] #[]] 86 (0, 0)) := (by rw [← hw_, ← hg_]; exact heap_alloc_new _ _); have hb := below_step hq_ hb2; have hz_ := A2.out; unfold batch_reader.f at hz_; have hi : IsS86 w w7 g165 t163 t164 := (by cases hz_; exact ⟨hbox, by rw [← hg_]; exact below_size hq_⟩); clear hz_ hbox; have n0_ := Aside0.mk (blk_below (g := gb162) (o := .cells #[.int .i64 0, .string (⟨#[]⟩ : ByteArray), .slice none 0 0] 37 (0, 0)) (by (with_reducible repeat (first | refine blk_drewN ?_ _ | refine blk_drew ?_ | refine blk_alloc ?_ _)); exact BK162.out) hb2); have n1_ := Aside0.mk (hb); have n2_ := Aside0.mk (hi); have n3_ := Aside0.mk (IsS86.ne_blk hi (blk_below (g := gb162) (o := .cells #[.int .i64 0, .string (⟨#[]⟩ : ByteArray), .slice none 0 0] 37 (0, 0)) (by (with_reducible repeat (first | refine blk_drewN ?_ _ | refine blk_drew ?_ | refine blk_alloc ?_ _)); exact BK162.out) hb2) (by decide)); have n4_ := Aside0.mk (Ne.symm (IsS86.ne_blk hi (blk_below (g := gb162) (o := .cells #[.int .i64 0, .string (⟨#[]⟩ : ByteArray), .slice none 0 0] 37 (0, 0)) (by (with_reducible repeat (first | refine blk_drewN ?_ _ | refine blk_drew ?_ | refine blk_alloc ?_ _)); exact BK162.out) hb2) (by decide))); clear BK162; clear HB; have BK162 := n0_; have HB := n1_; have HI165 := n2_; have NB165_162 := n3_; have NB162_165 := n4_; clear n0_ n1_ n2_ n3_ n4_; (try clear hb); (try clear hb2); (try clear hk); (try clear hi); obtain ⟨HGz8, hgz8⟩ := HI165.out; have hcz8_0 := cellS86_0 HGz8; have hcz8_1 := cellS86_1 HGz8; have hcz8_2 := cellS86_2 HGz8; have hcz8_3 := cellS86_3 HGz8; have hfz8_0 := blk_frozen HGz8 0; have hfz8_1 := blk_frozen HGz8 1; clear HGz8 hgz8; clear hw_ hg_ hq_; (with_reducible refine (batch_num.calls k g165 t163 t164 2 t166 t167 t168 w _ ?side1 ?side2 A3.out).mono ?_); (case side1 => repeat (first | (with_reducible first | exact HI165.out | apply IsS86.alloc | apply IsS86.drewN | apply IsS86.drew | apply IsS86.set_0 | apply IsS86.set_1 | refine IsS86.far ?_ NB165_162.out _) | exact HI165.out)); (case side2 => repeat (first | (with_reducible first | exact HB.out | apply below_alloc | apply pw_below_drewN | apply below_drew1 | refine below_set ?_ (IsS86.ge HI165.out) | refine below_set ?_ GE162.out) | exact HB.out)); rintro e w9 ⟨rfl, hi, hb, hk⟩; have n0_ := Aside0.mk (KeepBut.blk hk (g' := gb162) (o := .cells #[.int .i64 0, .string (⟨#[]⟩ : ByteArray), .slice none 0 0] 37 (0, 0)) (by (with_reducible repeat (first | refine blk_drewN ?_ _ | refine blk_drew ?_ | refine blk_alloc ?_ _)); exact BK162.out) NB162_165.out (by simp)); have n1_ := Aside0.mk (hb); have n2_ := Aside0.mk (hi); clear BK162; clear HB; clear HI165; have BK162 := n0_; have HB := n1_; have HI165 := n2_; clear n0_ n1_ n2_; (try clear hb); (try clear hb2); (try clear hk); (try clear hi)) | ((with_reducible refine gate_dst (N := 5) rfl ?_); refine box_event ?hg (N := 5) ?hd (cs := #[.int .i64 0, .string (⟨#[]⟩ : ByteArray), .slice none 0 0]) (t := 37) ?hr ?_; (case hd => rfl); (case hg => rfl); (case hr => first | (go_simp; done) | (go_simp; rfl)); intro gb169 hg w10 hbox hb; have n0_ := Aside0.mk (blk_below (g := gb162) (o := .cells #[.int .i64 0, .string (⟨#[]⟩ : ByteArray), .slice none 0 0] 37 (0, 0)) (by (with_reducible repeat (first | refine blk_drewN ?_ _ | refine blk_drew ?_ | refine blk_alloc ?_ _)); exact BK162.out) hb); have n1_ := Aside0.mk (IsS86.below (by repeat (first | (with_reducible first | exact HI165.out | apply IsS86.alloc | apply IsS86.drewN | apply IsS86.drew | apply IsS86.set_0 | apply IsS86.set_1 | refine IsS86.far ?_ NB165_162.out _) | exact HI165.out)) hb); have n2_ := Aside0.mk (below_step (by repeat (first | (with_reducible first | exact HB.out | apply below_alloc | apply pw_below_drewN | apply below_drew1 | refine below_set ?_ (IsS86.ge HI165.out) | refine below_set ?_ GE162.out) | exact HB.out)) hb); have n3_ := Aside0.mk (hbox); have n4_ := Aside0.mk ((by rw [hg]; exact (below_size (by repeat (first | (with_reducible first | exact HB.out | apply below_alloc | apply pw_below_drewN | apply below_drew1 | refine below_set ?_ (IsS86.ge HI165.out) | refine below_set ?_ GE162.out) | exact HB.out))) : w.heap.size ≤ gb169)); have n5_ := Aside0.mk ((by rw [hg]; exact (below_size (by repeat (first | (with_reducible first | exact HB.out | apply below_alloc | apply pw_below_drewN | apply below_drew1 | refine below_set ?_ (IsS86.ge HI165.out) | refine below_set ?_ GE162.out) | exact HB.out))) : w.heap.size ≤ gb169)); have n6_ := Aside0.mk ((by rw [hg]; exact Nat.ne_of_lt (blk_lt (g := gb162) (o := .cells #[.int .i64 0, .string (⟨#[]⟩ : ByteArray), .slice none 0 0] 37 (0, 0)) (by (with_reducible repeat (first | refine blk_drewN ?_ _ | refine blk_drew ?_ | refine blk_alloc ?_ _)); exact BK162.out)) : gb162 ≠ gb169)); have n7_ := Aside0.mk ((by rw [hg]; exact Nat.ne_of_gt (blk_lt (g := gb162) (o := .cells #[.int .i64 0, .string (⟨#[]⟩ : ByteArray), .slice none 0 0] 37 (0, 0)) (by (with_reducible repeat (first | refine blk_drewN ?_ _ | refine blk_drew ?_ | refine blk_alloc ?_ _)); exact BK162.out)) : gb169 ≠ gb162)); have n8_ := Aside0.mk ((by rw [hg]; exact Nat.ne_of_lt (IsS86.lt (show IsS86 w _ g165 t167 t168 from by repeat (first | (with_reducible first | exact HI165.out | apply IsS86.alloc | apply IsS86.drewN | apply IsS86.drew | apply IsS86.set_0 | apply IsS86.set_1 | refine IsS86.far ?_ NB165_162.out _) | exact HI165.out))) : g165 ≠ gb169)); have n9_ := Aside0.mk ((by rw [hg]; exact Nat.ne_of_gt (IsS86.lt (show IsS86 w _ g165 t167 t168 from by repeat (first | (with_reducible first | exact HI165.out | apply IsS86.alloc | apply IsS86.drewN | apply IsS86.drew | apply IsS86.set_0 | apply IsS86.set_1 | refine IsS86.far ?_ NB165_162.out _) | exact HI165.out))) : gb169 ≠ g165)); clear BK162; clear HI165; clear HB; have BK162 := n0_; have HI165 := n1_; have HB := n2_; have BK169 := n3_; have GW169 := n4_; have GE169 := n5_; have NB162_169 := n6_; have NB169_162 := n7_; have NB165_169 := n8_; have NB169_165 := n9_; clear n0_ n1_ n2_ n3_ n4_ n5_ n6_ n7_ n8_ n9_; clear hb hbox hg; have hnb11 := NB169_162.out; have hnc11 := NB162_169.out; have hnb12 := NB169_165.out; have hnc12 := NB165_169.out; have hcz13_0 : w10.cell? ⟨gb169, 0, none⟩ = some (.int .i64 0) := (blk_cell BK169.out 0).trans rfl; have hcz13_1 : w10.cell? ⟨gb169, 1, none⟩ = some (.string (⟨#[]⟩ : ByteArray)) := (blk_cell BK169.out 1).trans rfl; have hcz13_2 : w10.cell? ⟨gb169, 2, none⟩ = some (.slice none 0 0) := (blk_cell BK169.out 2).trans rfl; have hfz13_0 := blk_frozen BK169.out 0; have hfz13_1 := blk_frozen BK169.out 1; have hfz13_2 := blk_frozen BK169.out 2; obtain ⟨HGz14, hgz14⟩ := HI165.out; have hcz14_0 := cellS86_0 HGz14; have hcz14_1 := cellS86_1 HGz14; have hcz14_2 := cellS86_2 HGz14; have hcz14_3 := cellS86_3 HGz14; have hfz14_0 := blk_frozen HGz14 0; have hfz14_1 := blk_frozen HGz14 1; clear HGz14 hgz14) | (go_at_call 40; (with_reducible refine (batch_text.calls k g165 t167 t168 16 t170 t171 t172 w _ ?side1 ?side2 A4.out).mono ?_); (case side1 => repeat (first | (with_reducible first | exact HI165.out | apply IsS86.alloc | apply IsS86.drewN | apply IsS86.drew | apply IsS86.set_0 | apply IsS86.set_1 | refine IsS86.far ?_ NB165_162.out _ | refine IsS86.far ?_ NB165_169.out _) | exact HI165.out)); (case side2 => repeat (first | (with_reducible first | exact HB.out | apply below_alloc | apply pw_below_drewN | apply below_drew1 | refine below_set ?_ (IsS86.ge HI165.out) | refine below_set ?_ GE162.out | refine below_set ?_ GE169.out) | exact HB.out)); rintro e w15 ⟨rfl, hi, hb, hk⟩; have n0_ := Aside0.mk (KeepBut.blk hk (g' := gb162) (o := .cells #[.int .i64 0, .string (⟨#[]⟩ : ByteArray), .slice none 0 0] 37 (0, 0)) (by (with_reducible repeat (first | refine blk_drewN ?_ _ | refine blk_drew ?_ | refine blk_alloc ?_ _)); refine blk_far ?_ NB162_169.out _; (with_reducible repeat (first | refine blk_drewN ?_ _ | refine blk_drew ?_ | refine blk_alloc ?_ _)); refine blk_far ?_ NB162_169.out _; (with_reducible repeat (first | refine blk_drewN ?_ _ | refine blk_drew ?_ | refine blk_alloc ?_ _)); refine blk_far ?_ NB162_169.out _; (with_reducible repeat (first | refine blk_drewN ?_ _ | refine blk_drew ?_ | refine blk_alloc ?_ _)); exact BK162.out) NB162_165.out (by simp)); have n1_ := Aside0.mk (KeepBut.blk hk (g' := gb169) (o := .cells #[.int .i64 (wrap64 (t166)), .string (⟨#[]⟩ : ByteArray), .slice none 0 0] 37 (0, 0)) (by (with_reducible repeat (first | refine blk_drewN ?_ _ | refine blk_drew ?_ | refine blk_alloc ?_ _)); refine blk_put (cs := #[.int .i64 (wrap64 (t166)), .string (⟨#[]⟩ : ByteArray), .slice none 0 0]) ?_ 2 _ rfl; (with_reducible repeat (first | refine blk_drewN ?_ _ | refine blk_drew ?_ | refine blk_alloc ?_ _)); refine blk_put (cs := #[.int .i64 (wrap64 (t166)), .string (⟨#[]⟩ : ByteArray), .slice none 0 0]) ?_ 1 _ rfl; (with_reducible repeat (first | refine blk_drewN ?_ _ | refine blk_drew ?_ | refine blk_alloc ?_ _)); refine blk_put (cs := #[.int .i64 0, .string (⟨#[]⟩ : ByteArray), .slice none 0 0]) ?_ 0 _ rfl; (with_reducible repeat (first | refine blk_drewN ?_ _ | refine blk_drew ?_ | refine blk_alloc ?_ _)); exact BK169.out) NB169_165.out (by simp)); have n2_ := Aside0.mk (hb); have n3_ := Aside0.mk (hi); clear BK162; clear BK169; clear HB; clear HI165; have BK162 := n0_; have BK169 := n1_; have HB := n2_; have HI165 := n3_; clear n0_ n1_ n2_ n3_; (try clear hb); (try clear hb2); (try clear hk); (try clear hi); have hcz16_0 : w15.cell? ⟨gb169, 0, none⟩ = some (.int .i64 (wrap64 (t166))) := (blk_cell BK169.out 0).trans rfl; have hcz16_1 : w15.cell? ⟨gb169, 1, none⟩ = some (.string (⟨#[]⟩ : ByteArray)) := (blk_cell BK169.out 1).trans rfl; have hcz16_2 : w15.cell? ⟨gb169, 2, none⟩ = some (.slice none 0 0) := (blk_cell BK169.out 2).trans rfl; have hfz16_0 := blk_frozen BK169.out 0; have hfz16_1 := blk_frozen BK169.out 1; have hfz16_2 := blk_frozen BK169.out 2; obtain ⟨HGz17, hgz17⟩ := HI165.out; have hcz17_0 := cellS86_0 HGz17; have hcz17_1 := cellS86_1 HGz17; have hcz17_2 := cellS86_2 HGz17; have hcz17_3 := cellS86_3 HGz17; have hfz17_0 := blk_frozen HGz17 0; have hfz17_1 := blk_frozen HGz17 1; clear HGz17 hgz17) | (go_at_call 39; (with_reducible refine (batch_num.calls k g165 t171 t172 24 t173 t174 t175 w _ ?side1 ?side2 A5.out).mono ?_); (case side1 => repeat (first | (with_reducible first | exact HI165.out | apply IsS86.alloc | apply IsS86.drewN | apply IsS86.drew | apply IsS86.set_0 | apply IsS86.set_1 | refine IsS86.far ?_ NB165_162.out _ | refine IsS86.far ?_ NB165_169.out _) | exact HI165.out)); (case side2 => repeat (first | (with_reducible first | exact HB.out | apply below_alloc | apply pw_below_drewN | apply below_drew1 | refine below_set ?_ (IsS86.ge HI165.out) | refine below_set ?_ GE162.out | refine below_set ?_ GE169.out) | exact HB.out)); rintro e w18 ⟨rfl, hi, hb, hk⟩; have n0_ := Aside0.mk (KeepBut.blk hk (g' := gb162) (o := .cells #[.int .i64 0, .string (⟨#[]⟩ : ByteArray), .slice none 0 0] 37 (0, 0)) (by (with_reducible repeat (first | refine blk_drewN ?_ _ | refine blk_drew ?_ | refine blk_alloc ?_ _)); refine blk_far ?_ NB162_169.out _; (with_reducible repeat (first | refine blk_drewN ?_ _ | refine blk_drew ?_ | refine blk_alloc ?_ _)); exact BK162.out) NB162_165.out (by simp)); have n1_ := Aside0.mk (KeepBut.blk hk (g' := gb169) (o := .cells #[.int .i64 (wrap64 (t166)), .string t170, .slice none 0 0] 37 (0, 0)) (by (with_reducible repeat (first | refine blk_drewN ?_ _ | refine blk_drew ?_ | refine blk_alloc ?_ _)); refine blk_put (cs := #[.int .i64 (wrap64 (t166)), .string (⟨#[]⟩ : ByteArray), .slice none 0 0]) ?_ 1 _ rfl; (with_reducible repeat (first | refine blk_drewN ?_ _ | refine blk_drew ?_ | refine blk_alloc ?_ _)); exact BK169.out) NB169_165.out (by simp)); have n2_ := Aside0.mk (hb); have n3_ := Aside0.mk (hi); clear BK162; clear BK169; clear HB; clear HI165; have BK162 := n0_; have BK169 := n1_; have HB := n2_; have HI165 := n3_; clear n0_ n1_ n2_ n3_; (try clear hb); (try clear hb2); (try clear hk); (try clear hi)))
  go_loopg [31] k (fun kq v31 w' => ∃ (x31_1 : Int) (x166000_1 : ByteArray) (x166001_1 : Bool) (x170002_1 : List (S54)) (u170002 : Value), v31 = .int .u64 x31_1 ∧ Aside0 (batch_Take.l0 kq t173 x31_1 x166000_1 x166001_1 (wrap64 (t166)) t170 x170002_1 = some (r1, r2, r3, r4)) ∧ Aside0 (kq ≤ k) ∧ Aside0 (Kd.R k54 54 w' w.heap.size (fun _ => True) u170002 x170002_1) ∧ Aside0 (w'.heap[gb162]? = some (.cells #[.int .i64 0, .string (⟨#[]⟩ : ByteArray), (.slice none 0 0)] 37 (0, 0))) ∧ Aside0 (w'.heap[gb169]? = some (.cells #[.int .i64 (wrap64 (t166)), .string t170, u170002] 37 (0, 0))) ∧ Aside0 (IsS86 w w' g165 x166000_1 x166001_1) ∧ Aside0 (Below w.heap.size w w'))
  case atStart => exact ⟨(0), (t174), (t175), (([] : List (S54))), (.slice none 0 0), (by first | rfl | (simp; done) | (simp [*]; done)), H', ⟨Nat.le_refl _⟩, ⟨by first | exact Kd.R_nil _ _ _ _ _ | exact Kd.N_nil _ _ _ _ _ | exact Kd.V_nil _ _ _ _ _ | exact Kd.Q_nil _ _ _ _ _ | exact Kd.S_nil _ _ _ _ _⟩, ⟨by (with_reducible repeat (first | refine blk_drewN ?_ _ | refine blk_drew ?_ | refine blk_alloc ?_ _)); exact BK162.out⟩, ⟨by (with_reducible repeat (first | refine blk_drewN ?_ _ | refine blk_drew ?_ | refine blk_alloc ?_ _)); exact BK169.out⟩, ⟨by repeat (first | (with_reducible first | exact HI165.out | apply IsS86.alloc | apply IsS86.drewN | apply IsS86.drew | apply IsS86.set_0 | apply IsS86.set_1 | refine IsS86.far ?_ NB165_162.out _ | refine IsS86.far ?_ NB165_169.out _) | exact HI165.out)⟩, ⟨by repeat (first | (with_reducible first | exact HB.out | apply below_alloc | apply pw_below_drewN | apply below_drew1 | refine below_set ?_ (IsS86.ge HI165.out) | refine below_set ?_ GE162.out | refine below_set ?_ GE169.out) | exact HB.out)⟩⟩
  case round =>
    clear H'
    try clear c1
    try clear c2
    try clear p2
    try clear c3
    try clear c4
    try clear p6
    try clear c9
    try clear c11
    try clear c12
    try clear hcz13_0
    try clear hcz13_1
    try clear hcz13_2
    try clear hcz14_0
    try clear hcz14_1
    try clear hcz16_0
    try clear hcz16_1
    try clear hcz16_2
    try clear hcz17_0
    try clear hcz17_1
    try clear hcz8_0
    try clear hcz8_1
    try clear hfz13_0
    try clear hfz13_1
    try clear hfz13_2
    try clear hfz14_0
    try clear hfz14_1
    try clear hfz16_0
    try clear hfz16_1
    try clear hfz16_2
    try clear hfz17_0
    try clear hfz17_1
    try clear hfz8_0
    try clear hfz8_1
    obtain ⟨x31_1, x166000_1, x166001_1, x170002_1, u170002, rfl, HA, HK1, HO_170002, BK162, BK169, HI165, HB⟩ := hrel
    cases gk with
    | zero => exact absurd HA.out (by simp [batch_Take.l0])
    | succ k1 =>
      have H := HA.out
      clear HA
      simp only [batch_Take.l0] at H
      by_cases c19 : x31_1 < t173
      · rw [if_pos c19] at H
        have c19b0 : decide (x31_1 < t173) = true := decide_eq_true c19
        clear c19
        replace H := Option.bind_eq_some_iff.mp H
        obtain ⟨⟨t176, t177, t178⟩, A200, H⟩ := H
        replace H : ((batch_text.f k1 t177 t178 32).bind fun bt180 => ((batch_text.f k1 bt180.2.1 bt180.2.2 64).bind fun bt183 => (if x170002_1.length < 3518437208883 then (batch_Take.l0 k1 t173 (IntKind.u64.wrap (x31_1 + 1)) bt183.2.1 bt183.2.2 (wrap64 (t166)) t170 (x170002_1 ++ [(⟨bt180.1, bt183.1, (t176 == 1)⟩ : S54)])) else (none)))) = some (r1, r2, r3, r4) := H
        have A20 := Aside0.mk A200
        clear A200
        replace H := Option.bind_eq_some_iff.mp H
        obtain ⟨⟨t180, t181, t182⟩, A210, H⟩ := H
        replace H : ((batch_text.f k1 t181 t182 64).bind fun bt183 => (if x170002_1.length < 3518437208883 then (batch_Take.l0 k1 t173 (IntKind.u64.wrap (x31_1 + 1)) bt183.2.1 bt183.2.2 (wrap64 (t166)) t170 (x170002_1 ++ [(⟨t180, bt183.1, (t176 == 1)⟩ : S54)])) else (none))) = some (r1, r2, r3, r4) := H
        have A21 := Aside0.mk A210
        clear A210
        replace H := Option.bind_eq_some_iff.mp H
        obtain ⟨⟨t183, t184, t185⟩, A220, H⟩ := H
        replace H : (if x170002_1.length < 3518437208883 then (batch_Take.l0 k1 t173 (IntKind.u64.wrap (x31_1 + 1)) t184 t185 (wrap64 (t166)) t170 (x170002_1 ++ [(⟨t180, t183, (t176 == 1)⟩ : S54)])) else (none)) = some (r1, r2, r3, r4) := H
        have A22 := Aside0.mk A220
        clear A220
        by_cases c23 : x170002_1.length < 3518437208883
        · rw [if_pos c23] at H
          have LMc23 := Aside0.mk c23
          clear c23
          obtain ⟨y186, hy186⟩ : ∃ y_ : List (S54), y_ = (x170002_1 ++ [(⟨t180, t183, (t176 == 1)⟩ : S54)]) := ⟨_, rfl⟩
          replace H : (batch_Take.l0 k1 t173 (IntKind.u64.wrap (x31_1 + 1)) t184 t185 (wrap64 (t166)) t170 y186) = some (r1, r2, r3, r4) := by first | (rw [hy186]; with_reducible exact H) | (have H2_ := (Option.bind_some _ _).symm.trans H; rw [hy186]; with_reducible exact H2_) | (have H2_ := (Option.bind_some _ _).symm.trans H; with_reducible exact H2_) | with_reducible exact H | (rw [hy186]; exact H) | exact H
          have Ny186 := Aside0.mk hy186
          clear hy186
          have H' := Aside0.mk H
          clear H
          obtain ⟨HGz24, hgz24⟩ := HI165.out
          have hcz24_0 := cellS86_0 HGz24
          have hcz24_1 := cellS86_1 HGz24
          have hcz24_2 := cellS86_2 HGz24
          have hcz24_3 := cellS86_3 HGz24
          have hfz24_0 := blk_frozen HGz24 0
          have hfz24_1 := blk_frozen HGz24 1
          clear HGz24 hgz24
          go_wp2_with (first | (go_at_call 39; (with_reducible refine (batch_num.calls k1 g165 x166000_1 x166001_1 1 t176 t177 t178 w _ ?side1 ?side2 A20.out).mono ?_); (case side1 => repeat (first | (with_reducible first | exact HI165.out | apply IsS86.alloc | apply IsS86.drewN | apply IsS86.drew | apply IsS86.set_0 | apply IsS86.set_1 | refine IsS86.far ?_ NB165_162.out _ | refine IsS86.far ?_ NB165_169.out _) | exact HI165.out)); (case side2 => repeat (first | (with_reducible first | exact HB.out | apply below_alloc | apply pw_below_drewN | apply below_drew1 | refine below_set ?_ (IsS86.ge HI165.out) | refine below_set ?_ GE162.out | refine below_set ?_ GE169.out) | exact HB.out)); rintro e w25 ⟨rfl, hi, hb, hk⟩; have n0_ := Aside0.mk (Kd.R_mono (Kd.R_keep (IsS86.apart (show IsS86 w _ g165 x166000_1 x166001_1 from by repeat (first | (with_reducible first | exact HI165.out | apply IsS86.alloc | apply IsS86.drewN | apply IsS86.drew | apply IsS86.set_0 | apply IsS86.set_1 | refine IsS86.far ?_ NB165_162.out _ | refine IsS86.far ?_ NB165_169.out _) | exact HI165.out)) (by (with_reducible repeat (first | apply Kd.R_alloc | apply Kd.R_drewN | apply Kd.R_drew)); exact HO_170002.out) (by decide)) hk (fun _ h => h.2)) (fun _ h => h.1)); have n1_ := Aside0.mk (KeepBut.blk hk (g' := gb162) (o := .cells #[.int .i64 0, .string (⟨#[]⟩ : ByteArray), .slice none 0 0] 37 (0, 0)) (by (with_reducible repeat (first | refine blk_drewN ?_ _ | refine blk_drew ?_ | refine blk_alloc ?_ _)); exact BK162.out) NB162_165.out (by simp)); have n2_ := Aside0.mk (KeepBut.blk hk (g' := gb169) (o := .cells #[.int .i64 (wrap64 (t166)), .string t170, u170002] 37 (0, 0)) (by (with_reducible repeat (first | refine blk_drewN ?_ _ | refine blk_drew ?_ | refine blk_alloc ?_ _)); exact BK169.out) NB169_165.out (by simp)); have n3_ := Aside0.mk (hb); have n4_ := Aside0.mk (hi); clear HO_170002; clear BK162; clear BK169; clear HB; clear HI165; have HO_170002 := n0_; have BK162 := n1_; have BK169 := n2_; have HB := n3_; have HI165 := n4_; clear n0_ n1_ n2_ n3_ n4_; (try clear hb); (try clear hb2); (try clear hk); (try clear hi)) | ((with_reducible refine gate_dst (N := 6) rfl ?_); refine box_event ?hg (N := 6) ?hd (cs := #[.string (⟨#[]⟩ : ByteArray), .string (⟨#[]⟩ : ByteArray), .bool false]) (t := 54) ?hr ?_; (case hd => rfl); (case hg => rfl); (case hr => first | (go_simp; done) | (go_simp; rfl)); intro gb179 hg w26 hbox hb; have n0_ := Aside0.mk (Kd.R_below (Kd.R_elderB (by (with_reducible repeat (first | apply Kd.R_alloc | apply Kd.R_drewN | apply Kd.R_drew)); exact HO_170002.out) gb179 (Nat.le_of_eq hg.symm)) hb); have n1_ := Aside0.mk (blk_below (g := gb162) (o := .cells #[.int .i64 0, .string (⟨#[]⟩ : ByteArray), .slice none 0 0] 37 (0, 0)) (by (with_reducible repeat (first | refine blk_drewN ?_ _ | refine blk_drew ?_ | refine blk_alloc ?_ _)); exact BK162.out) hb); have n2_ := Aside0.mk (blk_below (g := gb169) (o := .cells #[.int .i64 (wrap64 (t166)), .string t170, u170002] 37 (0, 0)) (by (with_reducible repeat (first | refine blk_drewN ?_ _ | refine blk_drew ?_ | refine blk_alloc ?_ _)); exact BK169.out) hb); have n3_ := Aside0.mk (IsS86.below (by repeat (first | (with_reducible first | exact HI165.out | apply IsS86.alloc | apply IsS86.drewN | apply IsS86.drew | apply IsS86.set_0 | apply IsS86.set_1 | refine IsS86.far ?_ NB165_162.out _ | refine IsS86.far ?_ NB165_169.out _) | exact HI165.out)) hb); have n4_ := Aside0.mk (below_step (by repeat (first | (with_reducible first | exact HB.out | apply below_alloc | apply pw_below_drewN | apply below_drew1 | refine below_set ?_ (IsS86.ge HI165.out) | refine below_set ?_ GE162.out | refine below_set ?_ GE169.out) | exact HB.out)) hb); have n5_ := Aside0.mk (hbox); have n6_ := Aside0.mk ((by rw [hg]; exact (below_size (by repeat (first | (with_reducible first | exact HB.out | apply below_alloc | apply pw_below_drewN | apply below_drew1 | refine below_set ?_ (IsS86.ge HI165.out) | refine below_set ?_ GE162.out | refine below_set ?_ GE169.out) | exact HB.out))) : w.heap.size ≤ gb179)); have n7_ := Aside0.mk ((by rw [hg]; exact (below_size (by repeat (first | (with_reducible first | exact HB.out | apply below_alloc | apply pw_below_drewN | apply below_drew1 | refine below_set ?_ (IsS86.ge HI165.out) | refine below_set ?_ GE162.out | refine below_set ?_ GE169.out) | exact HB.out))) : w.heap.size ≤ gb179)); have n8_ := Aside0.mk ((by rw [hg]; exact Nat.ne_of_lt (blk_lt (g := gb162) (o := .cells #[.int .i64 0, .string (⟨#[]⟩ : ByteArray), .slice none 0 0] 37 (0, 0)) (by (with_reducible repeat (first | refine blk_drewN ?_ _ | refine blk_drew ?_ | refine blk_alloc ?_ _)); exact BK162.out)) : gb162 ≠ gb179)); have n9_ := Aside0.mk ((by rw [hg]; exact Nat.ne_of_gt (blk_lt (g := gb162) (o := .cells #[.int .i64 0, .string (⟨#[]⟩ : ByteArray), .slice none 0 0] 37 (0, 0)) (by (with_reducible repeat (first | refine blk_drewN ?_ _ | refine blk_drew ?_ | refine blk_alloc ?_ _)); exact BK162.out)) : gb179 ≠ gb162)); have n10_ := Aside0.mk ((by rw [hg]; exact Nat.ne_of_lt (blk_lt (g := gb169) (o := .cells #[.int .i64 (wrap64 (t166)), .string t170, u170002] 37 (0, 0)) (by (with_reducible repeat (first | refine blk_drewN ?_ _ | refine blk_drew ?_ | refine blk_alloc ?_ _)); exact BK169.out)) : gb169 ≠ gb179)); have n11_ := Aside0.mk ((by rw [hg]; exact Nat.ne_of_gt (blk_lt (g := gb169) (o := .cells #[.int .i64 (wrap64 (t166)), .string t170, u170002] 37 (0, 0)) (by (with_reducible repeat (first | refine blk_drewN ?_ _ | refine blk_drew ?_ | refine blk_alloc ?_ _)); exact BK169.out)) : gb179 ≠ gb169)); have n12_ := Aside0.mk ((by rw [hg]; exact Nat.ne_of_lt (IsS86.lt (show IsS86 w _ g165 t177 t178 from by repeat (first | (with_reducible first | exact HI165.out | apply IsS86.alloc | apply IsS86.drewN | apply IsS86.drew | apply IsS86.set_0 | apply IsS86.set_1 | refine IsS86.far ?_ NB165_162.out _ | refine IsS86.far ?_ NB165_169.out _) | exact HI165.out))) : g165 ≠ gb179)); have n13_ := Aside0.mk ((by rw [hg]; exact Nat.ne_of_gt (IsS86.lt (show IsS86 w _ g165 t177 t178 from by repeat (first | (with_reducible first | exact HI165.out | apply IsS86.alloc | apply IsS86.drewN | apply IsS86.drew | apply IsS86.set_0 | apply IsS86.set_1 | refine IsS86.far ?_ NB165_162.out _ | refine IsS86.far ?_ NB165_169.out _) | exact HI165.out))) : gb179 ≠ g165)); clear HO_170002; clear BK162; clear BK169; clear HI165; clear HB; have HO_170002 := n0_; have BK162 := n1_; have BK169 := n2_; have HI165 := n3_; have HB := n4_; have BK179 := n5_; have GW179 := n6_; have GE179 := n7_; have NB162_179 := n8_; have NB179_162 := n9_; have NB169_179 := n10_; have NB179_169 := n11_; have NB165_179 := n12_; have NB179_165 := n13_; clear n0_ n1_ n2_ n3_ n4_ n5_ n6_ n7_ n8_ n9_ n10_ n11_ n12_ n13_; clear hb hbox hg; have hnb27 := NB179_162.out; have hnc27 := NB162_179.out; have hnb28 := NB179_169.out; have hnc28 := NB169_179.out; have hnb29 := NB179_165.out; have hnc29 := NB165_179.out; have hcz30_0 : w26.cell? ⟨gb179, 0, none⟩ = some (.string (⟨#[]⟩ : ByteArray)) := (blk_cell BK179.out 0).trans rfl; have hcz30_1 : w26.cell? ⟨gb179, 1, none⟩ = some (.string (⟨#[]⟩ : ByteArray)) := (blk_cell BK179.out 1).trans rfl; have hcz30_2 : w26.cell? ⟨gb179, 2, none⟩ = some (.bool false) := (blk_cell BK179.out 2).trans rfl; have hfz30_0 := blk_frozen BK179.out 0; have hfz30_1 := blk_frozen BK179.out 1; have hfz30_2 := blk_frozen BK179.out 2; obtain ⟨HGz31, hgz31⟩ := HI165.out; have hcz31_0 := cellS86_0 HGz31; have hcz31_1 := cellS86_1 HGz31; have hcz31_2 := cellS86_2 HGz31; have hcz31_3 := cellS86_3 HGz31; have hfz31_0 := blk_frozen HGz31 0; have hfz31_1 := blk_frozen HGz31 1; clear HGz31 hgz31) | (go_at_call 40; (with_reducible refine (batch_text.calls k1 g165 t177 t178 32 t180 t181 t182 w _ ?side1 ?side2 A21.out).mono ?_); (case side1 => repeat (first | (with_reducible first | exact HI165.out | apply IsS86.alloc | apply IsS86.drewN | apply IsS86.drew | apply IsS86.set_0 | apply IsS86.set_1 | refine IsS86.far ?_ NB165_162.out _ | refine IsS86.far ?_ NB165_169.out _ | refine IsS86.far ?_ NB165_179.out _) | exact HI165.out)); (case side2 => repeat (first | (with_reducible first | exact HB.out | apply below_alloc | apply pw_below_drewN | apply below_drew1 | refine below_set ?_ (IsS86.ge HI165.out) | refine below_set ?_ GE162.out | refine below_set ?_ GE169.out | refine below_set ?_ GE179.out) | exact HB.out)); rintro e w32 ⟨rfl, hi, hb, hk⟩; have n0_ := Aside0.mk (Kd.R_mono (Kd.R_keep (IsS86.apart (show IsS86 w _ g165 t177 t178 from by repeat (first | (with_reducible first | exact HI165.out | apply IsS86.alloc | apply IsS86.drewN | apply IsS86.drew | apply IsS86.set_0 | apply IsS86.set_1 | refine IsS86.far ?_ NB165_162.out _ | refine IsS86.far ?_ NB165_169.out _ | refine IsS86.far ?_ NB165_179.out _) | exact HI165.out)) (by (with_reducible repeat (first | apply Kd.R_alloc | apply Kd.R_drewN | apply Kd.R_drew)); exact (Kd.R_mono (Kd.R_far (p := ⟨gb179, 2, none⟩) (Kd.R_far (p := ⟨gb179, 1, none⟩) (Kd.R_far (p := ⟨gb179, 0, none⟩) (Kd.R_mono HO_170002.out (fun k_ hk => (⟨hk, hk.2⟩ : _ ∧ k_ ≠ gb179))) (fun _ hk => hk.2) (.string (⟨#[]⟩ : ByteArray))) (fun _ hk => hk.2) (.string (⟨#[]⟩ : ByteArray))) (fun _ hk => hk.2) (.bool (t176 == 1))) (fun _ h_ => h_.1))) (by decide)) hk (fun _ h => h.2)) (fun _ h => h.1)); have n1_ := Aside0.mk (KeepBut.blk hk (g' := gb162) (o := .cells #[.int .i64 0, .string (⟨#[]⟩ : ByteArray), .slice none 0 0] 37 (0, 0)) (by (with_reducible repeat (first | refine blk_drewN ?_ _ | refine blk_drew ?_ | refine blk_alloc ?_ _)); refine blk_far ?_ NB162_179.out _; (with_reducible repeat (first | refine blk_drewN ?_ _ | refine blk_drew ?_ | refine blk_alloc ?_ _)); refine blk_far ?_ NB162_179.out _; (with_reducible repeat (first | refine blk_drewN ?_ _ | refine blk_drew ?_ | refine blk_alloc ?_ _)); refine blk_far ?_ NB162_179.out _; (with_reducible repeat (first | refine blk_drewN ?_ _ | refine blk_drew ?_ | refine blk_alloc ?_ _)); exact BK162.out) NB162_165.out (by simp)); have n2_ := Aside0.mk (KeepBut.blk hk (g' := gb169) (o := .cells #[.int .i64 (wrap64 (t166)), .string t170, u170002] 37 (0, 0)) (by (with_reducible repeat (first | refine blk_drewN ?_ _ | refine blk_drew ?_ | refine blk_alloc ?_ _)); refine blk_far ?_ NB169_179.out _; (with_reducible repeat (first | refine blk_drewN ?_ _ | refine blk_drew ?_ | refine blk_alloc ?_ _)); refine blk_far ?_ NB169_179.out _; (with_reducible repeat (first | refine blk_drewN ?_ _ | refine blk_drew ?_ | refine blk_alloc ?_ _)); refine blk_far ?_ NB169_179.out _; (with_reducible repeat (first | refine blk_drewN ?_ _ | refine blk_drew ?_ | refine blk_alloc ?_ _)); exact BK169.out) NB169_165.out (by simp)); have n3_ := Aside0.mk (KeepBut.blk hk (g' := gb179) (o := .cells #[.string (⟨#[]⟩ : ByteArray), .string (⟨#[]⟩ : ByteArray), .bool (t176 == 1)] 54 (0, 0)) (by (with_reducible repeat (first | refine blk_drewN ?_ _ | refine blk_drew ?_ | refine blk_alloc ?_ _)); refine blk_put (cs := #[.string (⟨#[]⟩ : ByteArray), .string (⟨#[]⟩ : ByteArray), .bool false]) ?_ 2 _ rfl; (with_reducible repeat (first | refine blk_drewN ?_ _ | refine blk_drew ?_ | refine blk_alloc ?_ _)); refine blk_put (cs := #[.string (⟨#[]⟩ : ByteArray), .string (⟨#[]⟩ : ByteArray), .bool false]) ?_ 1 _ rfl; (with_reducible repeat (first | refine blk_drewN ?_ _ | refine blk_drew ?_ | refine blk_alloc ?_ _)); refine blk_put (cs := #[.string (⟨#[]⟩ : ByteArray), .string (⟨#[]⟩ : ByteArray), .bool false]) ?_ 0 _ rfl; (with_reducible repeat (first | refine blk_drewN ?_ _ | refine blk_drew ?_ | refine blk_alloc ?_ _)); exact BK179.out) NB179_165.out (by simp)); have n4_ := Aside0.mk (hb); have n5_ := Aside0.mk (hi); clear HO_170002; clear BK162; clear BK169; clear BK179; clear HB; clear HI165; have HO_170002 := n0_; have BK162 := n1_; have BK169 := n2_; have BK179 := n3_; have HB := n4_; have HI165 := n5_; clear n0_ n1_ n2_ n3_ n4_ n5_; (try clear hb); (try clear hb2); (try clear hk); (try clear hi); have hcz33_0 : w32.cell? ⟨gb179, 0, none⟩ = some (.string (⟨#[]⟩ : ByteArray)) := (blk_cell BK179.out 0).trans rfl; have hcz33_1 : w32.cell? ⟨gb179, 1, none⟩ = some (.string (⟨#[]⟩ : ByteArray)) := (blk_cell BK179.out 1).trans rfl; have hcz33_2 : w32.cell? ⟨gb179, 2, none⟩ = some (.bool (t176 == 1)) := (blk_cell BK179.out 2).trans rfl; have hfz33_0 := blk_frozen BK179.out 0; have hfz33_1 := blk_frozen BK179.out 1; have hfz33_2 := blk_frozen BK179.out 2; obtain ⟨HGz34, hgz34⟩ := HI165.out; have hcz34_0 := cellS86_0 HGz34; have hcz34_1 := cellS86_1 HGz34; have hcz34_2 := cellS86_2 HGz34; have hcz34_3 := cellS86_3 HGz34; have hfz34_0 := blk_frozen HGz34 0; have hfz34_1 := blk_frozen HGz34 1; clear HGz34 hgz34) | (go_at_call 40; (with_reducible refine (batch_text.calls k1 g165 t181 t182 64 t183 t184 t185 w _ ?side1 ?side2 A22.out).mono ?_); (case side1 => repeat (first | (with_reducible first | exact HI165.out | apply IsS86.alloc | apply IsS86.drewN | apply IsS86.drew | apply IsS86.set_0 | apply IsS86.set_1 | refine IsS86.far ?_ NB165_162.out _ | refine IsS86.far ?_ NB165_169.out _ | refine IsS86.far ?_ NB165_179.out _) | exact HI165.out)); (case side2 => repeat (first | (with_reducible first | exact HB.out | apply below_alloc | apply pw_below_drewN | apply below_drew1 | refine below_set ?_ (IsS86.ge HI165.out) | refine below_set ?_ GE162.out | refine below_set ?_ GE169.out | refine below_set ?_ GE179.out) | exact HB.out)); rintro e w35 ⟨rfl, hi, hb, hk⟩; have n0_ := Aside0.mk (Kd.R_mono (Kd.R_keep (IsS86.apart (show IsS86 w _ g165 t181 t182 from by repeat (first | (with_reducible first | exact HI165.out | apply IsS86.alloc | apply IsS86.drewN | apply IsS86.drew | apply IsS86.set_0 | apply IsS86.set_1 | refine IsS86.far ?_ NB165_162.out _ | refine IsS86.far ?_ NB165_169.out _ | refine IsS86.far ?_ NB165_179.out _) | exact HI165.out)) (by (with_reducible repeat (first | apply Kd.R_alloc | apply Kd.R_drewN | apply Kd.R_drew)); exact (Kd.R_mono (Kd.R_far (p := ⟨gb179, 0, none⟩) (Kd.R_mono HO_170002.out (fun k_ hk => (⟨hk, hk.2⟩ : _ ∧ k_ ≠ gb179))) (fun _ hk => hk.2) (.string t180)) (fun _ h_ => h_.1))) (by decide)) hk (fun _ h => h.2)) (fun _ h => h.1)); have n1_ := Aside0.mk (KeepBut.blk hk (g' := gb162) (o := .cells #[.int .i64 0, .string (⟨#[]⟩ : ByteArray), .slice none 0 0] 37 (0, 0)) (by (with_reducible repeat (first | refine blk_drewN ?_ _ | refine blk_drew ?_ | refine blk_alloc ?_ _)); refine blk_far ?_ NB162_179.out _; (with_reducible repeat (first | refine blk_drewN ?_ _ | refine blk_drew ?_ | refine blk_alloc ?_ _)); exact BK162.out) NB162_165.out (by simp)); have n2_ := Aside0.mk (KeepBut.blk hk (g' := gb169) (o := .cells #[.int .i64 (wrap64 (t166)), .string t170, u170002] 37 (0, 0)) (by (with_reducible repeat (first | refine blk_drewN ?_ _ | refine blk_drew ?_ | refine blk_alloc ?_ _)); refine blk_far ?_ NB169_179.out _; (with_reducible repeat (first | refine blk_drewN ?_ _ | refine blk_drew ?_ | refine blk_alloc ?_ _)); exact BK169.out) NB169_165.out (by simp)); have n3_ := Aside0.mk (KeepBut.blk hk (g' := gb179) (o := .cells #[.string t180, .string (⟨#[]⟩ : ByteArray), .bool (t176 == 1)] 54 (0, 0)) (by (with_reducible repeat (first | refine blk_drewN ?_ _ | refine blk_drew ?_ | refine blk_alloc ?_ _)); refine blk_put (cs := #[.string (⟨#[]⟩ : ByteArray), .string (⟨#[]⟩ : ByteArray), .bool (t176 == 1)]) ?_ 0 _ rfl; (with_reducible repeat (first | refine blk_drewN ?_ _ | refine blk_drew ?_ | refine blk_alloc ?_ _)); exact BK179.out) NB179_165.out (by simp)); have n4_ := Aside0.mk (hb); have n5_ := Aside0.mk (hi); clear HO_170002; clear BK162; clear BK169; clear BK179; clear HB; clear HI165; have HO_170002 := n0_; have BK162 := n1_; have BK169 := n2_; have BK179 := n3_; have HB := n4_; have HI165 := n5_; clear n0_ n1_ n2_ n3_ n4_ n5_; (try clear hb); (try clear hb2); (try clear hk); (try clear hi); have hcz36_0 : w35.cell? ⟨gb179, 0, none⟩ = some (.string t180) := (blk_cell BK179.out 0).trans rfl; have hcz36_1 : w35.cell? ⟨gb179, 1, none⟩ = some (.string (⟨#[]⟩ : ByteArray)) := (blk_cell BK179.out 1).trans rfl; have hcz36_2 : w35.cell? ⟨gb179, 2, none⟩ = some (.bool (t176 == 1)) := (blk_cell BK179.out 2).trans rfl; have hfz36_0 := blk_frozen BK179.out 0; have hfz36_1 := blk_frozen BK179.out 1; have hfz36_2 := blk_frozen BK179.out 2; have hnb37 := NB169_162.out; have hnc37 := NB162_169.out; have hnb38 := NB169_165.out; have hnc38 := NB165_169.out; have hcz39_0 : w35.cell? ⟨gb169, 0, none⟩ = some (.int .i64 (wrap64 (t166))) := (blk_cell BK169.out 0).trans rfl; have hcz39_1 : w35.cell? ⟨gb169, 1, none⟩ = some (.string t170) := (blk_cell BK169.out 1).trans rfl; have hcz39_2 : w35.cell? ⟨gb169, 2, none⟩ = some (u170002) := (blk_cell BK169.out 2).trans rfl; have hfz39_0 := blk_frozen BK169.out 0; have hfz39_1 := blk_frozen BK169.out 1; have hfz39_2 := blk_frozen BK169.out 2) | ((with_reducible refine gate_builtin (b := .append) (xs := #[.tmp 56, .tmp 58]) rfl ?_); at_builtin; refine Kd.R_append k54 (w0 := w) w.heap.size rfl (.tmp 56) (.tmp 58) 35 54 (.agg #[(.string ⟨#[]⟩), (.string ⟨#[]⟩), (.bool false)]) 40 rfl Try.underlying35 info54 rfl (by decide) (by omega) u170002 x170002_1 (⟨t180, t183, (t176 == 1)⟩ : S54) [.string t180, .string t183, .bool (t176 == 1)] (fun k_ => k_ ≠ gb179) (fun _ => False) rfl ?aX ?aP (fun _ hk => hk.elim) ?aF ?aO ?aB ?aS ?aL ?_; (case aX => first | (go_simp; done) | (go_simp; rfl)); (case aP => exact k54_mkM _ _ _ (⟨t180, t183, (t176 == 1)⟩ : S54)); (case aB => exact (by repeat (first | (with_reducible first | exact HB.out | apply below_alloc | apply pw_below_drewN | apply below_drew1 | refine below_set ?_ (IsS86.ge HI165.out) | refine below_set ?_ GE162.out | refine below_set ?_ GE169.out | refine below_set ?_ GE179.out) | exact HB.out))); (case aF => exact (fun k_ hk => Kd.freshB (g := gb179) (o := .cells #[.string t180, .string t183, .bool (t176 == 1)] 54 (0, 0)) (by (with_reducible repeat (first | refine blk_drewN ?_ _ | refine blk_drew ?_ | refine blk_alloc ?_ _)); refine blk_put (cs := #[.string t180, .string (⟨#[]⟩ : ByteArray), .bool (t176 == 1)]) ?_ 1 _ rfl; (with_reducible repeat (first | refine blk_drewN ?_ _ | refine blk_drew ?_ | refine blk_alloc ?_ _)); exact BK179.out) k_ hk)); (case aO => exact (by (with_reducible repeat (first | apply Kd.R_alloc | apply Kd.R_drewN | apply Kd.R_drew)); exact Kd.R_mono (Kd.R_far (p := ⟨gb179, 1, none⟩) (Kd.R_mono HO_170002.out (fun k_ hk => (⟨hk, hk.2⟩ : _ ∧ k_ ≠ gb179))) (fun _ hk => hk.2) (.string t183)) (fun _ hk => hk.1.2))); (case aS => exact (below_size (by repeat (first | (with_reducible first | exact HB.out | apply below_alloc | apply pw_below_drewN | apply below_drew1 | refine below_set ?_ (IsS86.ge HI165.out) | refine below_set ?_ GE162.out | refine below_set ?_ GE169.out | refine below_set ?_ GE179.out) | exact HB.out)))); (case aL => have := LMc23.out; omega); intro v187 w40 ho hb hg hat; rw [← Ny186.out] at ho; have n0_ := Aside0.mk (blk_grown (g := gb162) (o := .cells #[.int .i64 0, .string (⟨#[]⟩ : ByteArray), .slice none 0 0] 37 (0, 0)) (by (with_reducible repeat (first | refine blk_drewN ?_ _ | refine blk_drew ?_ | refine blk_alloc ?_ _)); refine blk_far ?_ NB162_179.out _; (with_reducible repeat (first | refine blk_drewN ?_ _ | refine blk_drew ?_ | refine blk_alloc ?_ _)); exact BK162.out) hg (Kd.R_ne HO_170002.out BK162.out (by decide))); have n1_ := Aside0.mk (blk_grown (g := gb169) (o := .cells #[.int .i64 (wrap64 (t166)), .string t170, u170002] 37 (0, 0)) (by (with_reducible repeat (first | refine blk_drewN ?_ _ | refine blk_drew ?_ | refine blk_alloc ?_ _)); refine blk_far ?_ NB169_179.out _; (with_reducible repeat (first | refine blk_drewN ?_ _ | refine blk_drew ?_ | refine blk_alloc ?_ _)); exact BK169.out) hg (Kd.R_ne HO_170002.out BK169.out (by decide))); have n2_ := Aside0.mk (IsS86.grown (show IsS86 w _ g165 t184 t185 from by repeat (first | (with_reducible first | exact HI165.out | apply IsS86.alloc | apply IsS86.drewN | apply IsS86.drew | apply IsS86.set_0 | apply IsS86.set_1 | refine IsS86.far ?_ NB165_162.out _ | refine IsS86.far ?_ NB165_169.out _ | refine IsS86.far ?_ NB165_179.out _) | exact HI165.out)) hg (IsS86.own_ne HI165.out HO_170002.out (by decide))); have n3_ := Aside0.mk (blk_grown (g := gb179) (o := .cells #[.string t180, .string t183, .bool (t176 == 1)] 54 (0, 0)) (by (with_reducible repeat (first | refine blk_drewN ?_ _ | refine blk_drew ?_ | refine blk_alloc ?_ _)); refine blk_put (cs := #[.string t180, .string (⟨#[]⟩ : ByteArray), .bool (t176 == 1)]) ?_ 1 _ rfl; (with_reducible repeat (first | refine blk_drewN ?_ _ | refine blk_drew ?_ | refine blk_alloc ?_ _)); exact BK179.out) hg (Kd.R_away HO_170002.out (fun _ hk => hk.2))); have n4_ := Aside0.mk (hb); have n5_ := Aside0.mk (ho); clear BK162; clear BK169; clear HI165; clear BK179; clear HB; clear HO_170002; have BK162 := n0_; have BK169 := n1_; have HI165 := n2_; have BK179 := n3_; have HB := n4_; have HO188 := n5_; clear n0_ n1_ n2_ n3_ n4_ n5_; clear ho hb hg hat; obtain ⟨Ao41, co41, eo41⟩ := Kd.R_slice HO188.out; subst eo41; have hcz42_0 : w40.cell? ⟨gb169, 0, none⟩ = some (.int .i64 (wrap64 (t166))) := (blk_cell BK169.out 0).trans rfl; have hcz42_1 : w40.cell? ⟨gb169, 1, none⟩ = some (.string t170) := (blk_cell BK169.out 1).trans rfl; have hcz42_2 : w40.cell? ⟨gb169, 2, none⟩ = some (u170002) := (blk_cell BK169.out 2).trans rfl; have hfz42_0 := blk_frozen BK169.out 0; have hfz42_1 := blk_frozen BK169.out 1; have hfz42_2 := blk_frozen BK169.out 2))
          go_roundg k1
          case measure => have := HK1.out; omega
          case rel => exact ⟨(IntKind.u64.wrap (x31_1 + 1)), (t184), (t185), (y186), (.slice Ao41 y186.length co41), (by first | rfl | (simp; done) | (simp [*]; done)), H', ⟨by have := HK1.out; omega⟩, ⟨by (with_reducible repeat (first | apply Kd.R_alloc | apply Kd.R_drewN | apply Kd.R_drew)); exact Kd.R_mono (Kd.R_far (p := ⟨gb169, 2, none⟩) (Kd.R_types HO188.out BK169.out (by decide)) (fun _ hk => hk.2) (.slice Ao41 y186.length co41)) (fun _ hk => trivial)⟩, ⟨by (with_reducible repeat (first | refine blk_drewN ?_ _ | refine blk_drew ?_ | refine blk_alloc ?_ _)); refine blk_far ?_ NB162_169.out _; (with_reducible repeat (first | refine blk_drewN ?_ _ | refine blk_drew ?_ | refine blk_alloc ?_ _)); exact BK162.out⟩, ⟨by (with_reducible repeat (first | refine blk_drewN ?_ _ | refine blk_drew ?_ | refine blk_alloc ?_ _)); refine blk_put (cs := #[.int .i64 (wrap64 (t166)), .string t170, u170002]) ?_ 2 _ rfl; (with_reducible repeat (first | refine blk_drewN ?_ _ | refine blk_drew ?_ | refine blk_alloc ?_ _)); exact BK169.out⟩, ⟨by repeat (first | (with_reducible first | exact HI165.out | apply IsS86.alloc | apply IsS86.drewN | apply IsS86.drew | apply IsS86.set_0 | apply IsS86.set_1 | refine IsS86.far ?_ NB165_162.out _ | refine IsS86.far ?_ NB165_169.out _ | refine IsS86.far ?_ NB165_179.out _) | exact HI165.out)⟩, ⟨by repeat (first | (with_reducible first | exact HB.out | apply below_alloc | apply pw_below_drewN | apply below_drew1 | refine below_set ?_ (IsS86.ge HI165.out) | refine below_set ?_ GE162.out | refine below_set ?_ GE169.out | refine below_set ?_ GE179.out) | exact HB.out)⟩⟩
        · rw [if_neg c23] at H
          exact absurd H (by simp)
      · rw [if_neg c19] at H
        have c19b0 : decide (x31_1 < t173) = false := decide_eq_false c19
        clear c19
        by_cases c43 : x166001_1 = true
        · subst c43
          have H1 : (if x166000_1.toList = ([] : List UInt8) then ((batch_May.f k1 (wrap64 (t166)) t170 x170002_1).bind fun t189 => (if t189 = true then (some ((wrap64 (t166)), t170, x170002_1, 0)) else (some (0, (⟨#[]⟩ : ByteArray), ([] : List (S54)), 3)))) else (some (0, (⟨#[]⟩ : ByteArray), ([] : List (S54)), 3))) = some (r1, r2, r3, r4) := by rw [if_pos rfl] at H; exact H
          clear H
          have H := H1
          clear H1
          by_cases c44 : x166000_1.toList = ([] : List UInt8)
          · rw [if_pos c44] at H
            have c44b0 : (x166000_1.toList == ([] : List UInt8)) = true := beq_iff_eq.mpr c44
            have c44b1 : (x166000_1.toList != ([] : List UInt8)) = false := bne_eq_false_iff_eq.mpr c44
            clear c44
            replace H := Option.bind_eq_some_iff.mp H
            obtain ⟨t189, A450, H⟩ := H
            replace H : (if t189 = true then (some ((wrap64 (t166)), t170, x170002_1, 0)) else (some (0, (⟨#[]⟩ : ByteArray), ([] : List (S54)), 3))) = some (r1, r2, r3, r4) := H
            have A45 := Aside0.mk A450
            clear A450
            by_cases c46 : t189 = true
            · subst c46
              have H1 : (some ((wrap64 (t166)), t170, x170002_1, 0)) = some (r1, r2, r3, r4) := by rw [if_pos rfl] at H; exact H
              clear H
              have H := H1
              clear H1
              simp only [Option.some.injEq, Prod.mk.injEq] at H
              obtain ⟨rfl, rfl, rfl, rfl⟩ := H
              obtain ⟨HGz47, hgz47⟩ := HI165.out
              have hcz47_0 := cellS86_0 HGz47
              have hcz47_1 := cellS86_1 HGz47
              have hcz47_2 := cellS86_2 HGz47
              have hcz47_3 := cellS86_3 HGz47
              have hfz47_0 := blk_frozen HGz47 0
              have hfz47_1 := blk_frozen HGz47 1
              clear HGz47 hgz47
              have hnb48 := NB169_162.out
              have hnc48 := NB162_169.out
              have hnb49 := NB169_165.out
              have hnc49 := NB165_169.out
              have hcz50_0 : wr.cell? ⟨gb169, 0, none⟩ = some (.int .i64 (wrap64 (t166))) := (blk_cell BK169.out 0).trans rfl
              have hcz50_1 : wr.cell? ⟨gb169, 1, none⟩ = some (.string t170) := (blk_cell BK169.out 1).trans rfl
              have hcz50_2 : wr.cell? ⟨gb169, 2, none⟩ = some (u170002) := (blk_cell BK169.out 2).trans rfl
              have hfz50_0 := blk_frozen BK169.out 0
              have hfz50_1 := blk_frozen BK169.out 1
              have hfz50_2 := blk_frozen BK169.out 2
              obtain ⟨Ao51, co51, eo51⟩ := Kd.R_slice HO_170002.out
              subst eo51
              go_wp2_with (first | (go_at_call 23; (with_reducible refine (batch_May.calls k1 (wrap64 (t166)) t170 _ _ x170002_1 true _ ?side1 ?side2 A45.out).mono ?_); (case side1 => repeat (first | exact (Kd.R_reads' HO_170002.out).2.2 | (with_reducible refine Kd.C_alloc ?_ _) | (with_reducible refine Kd.C_drewN ?_ _) | (with_reducible refine Kd.C_drew ?_))); (case side2 => exact (Kd.R_reads' HO_170002.out).2.1); rintro e w52 ⟨rfl, hb⟩; have n0_ := Aside0.mk (Kd.R_below (by (with_reducible repeat (first | apply Kd.R_alloc | apply Kd.R_drewN | apply Kd.R_drew)); exact HO_170002.out) hb); have n1_ := Aside0.mk (blk_below (g := gb162) (o := .cells #[.int .i64 0, .string (⟨#[]⟩ : ByteArray), .slice none 0 0] 37 (0, 0)) (by (with_reducible repeat (first | refine blk_drewN ?_ _ | refine blk_drew ?_ | refine blk_alloc ?_ _)); exact BK162.out) hb); have n2_ := Aside0.mk (blk_below (g := gb169) (o := .cells #[.int .i64 (wrap64 (t166)), .string t170, .slice Ao51 x170002_1.length co51] 37 (0, 0)) (by (with_reducible repeat (first | refine blk_drewN ?_ _ | refine blk_drew ?_ | refine blk_alloc ?_ _)); exact BK169.out) hb); have n3_ := Aside0.mk (IsS86.below (by repeat (first | (with_reducible first | exact HI165.out | apply IsS86.alloc | apply IsS86.drewN | apply IsS86.drew | apply IsS86.set_0 | apply IsS86.set_1 | refine IsS86.far ?_ NB165_162.out _ | refine IsS86.far ?_ NB165_169.out _) | exact HI165.out)) hb); have n4_ := Aside0.mk (below_step (by repeat (first | (with_reducible first | exact HB.out | apply below_alloc | apply pw_below_drewN | apply below_drew1 | refine below_set ?_ (IsS86.ge HI165.out) | refine below_set ?_ GE162.out | refine below_set ?_ GE169.out) | exact HB.out)) hb); clear HO_170002; clear BK162; clear BK169; clear HI165; clear HB; have HO_170002 := n0_; have BK162 := n1_; have BK169 := n2_; have HI165 := n3_; have HB := n4_; clear n0_ n1_ n2_ n3_ n4_; (try clear hb); (try clear hb2); (try clear hk); (try clear hi); have hcz53_0 : w52.cell? ⟨gb169, 0, none⟩ = some (.int .i64 (wrap64 (t166))) := (blk_cell BK169.out 0).trans rfl; have hcz53_1 : w52.cell? ⟨gb169, 1, none⟩ = some (.string t170) := (blk_cell BK169.out 1).trans rfl; have hcz53_2 : w52.cell? ⟨gb169, 2, none⟩ = some (.slice Ao51 x170002_1.length co51) := (blk_cell BK169.out 2).trans rfl; have hfz53_0 := blk_frozen BK169.out 0; have hfz53_1 := blk_frozen BK169.out 1; have hfz53_2 := blk_frozen BK169.out 2; have hnb54 := NB162_165.out; have hnc54 := NB165_162.out; have hcz55_0 : w52.cell? ⟨gb162, 0, none⟩ = some (.int .i64 0) := (blk_cell BK162.out 0).trans rfl; have hcz55_1 : w52.cell? ⟨gb162, 1, none⟩ = some (.string (⟨#[]⟩ : ByteArray)) := (blk_cell BK162.out 1).trans rfl; have hcz55_2 : w52.cell? ⟨gb162, 2, none⟩ = some (.slice none 0 0) := (blk_cell BK162.out 2).trans rfl; have hfz55_0 := blk_frozen BK162.out 0; have hfz55_1 := blk_frozen BK162.out 1; have hfz55_2 := blk_frozen BK162.out 2))
              refine bodyPost_ret (results_ct rfl _ _ gb162 37 #[.int .i64 (wrap64 (t166)), .string t170, .slice Ao51 x170002_1.length co51] (0, 0) _ rfl (by (with_reducible repeat (first | refine blk_drewN ?_ _ | refine blk_drew ?_ | refine blk_alloc ?_ _)); refine blk_put (cs := #[.int .i64 (wrap64 (t166)), .string t170, .slice none 0 0]) ?_ 2 _ rfl; (with_reducible repeat (first | refine blk_drewN ?_ _ | refine blk_drew ?_ | refine blk_alloc ?_ _)); refine blk_put (cs := #[.int .i64 (wrap64 (t166)), .string (⟨#[]⟩ : ByteArray), .slice none 0 0]) ?_ 1 _ rfl; (with_reducible repeat (first | refine blk_drewN ?_ _ | refine blk_drew ?_ | refine blk_alloc ?_ _)); refine blk_put (cs := #[.int .i64 0, .string (⟨#[]⟩ : ByteArray), .slice none 0 0]) ?_ 0 _ rfl; (with_reducible repeat (first | refine blk_drewN ?_ _ | refine blk_drew ?_ | refine blk_alloc ?_ _)); exact BK162.out) Try.underlying37 rfl (by kernel_rfl)) rfl ?_
              exact ⟨_, by first | rfl | (simp [errW_none, errW_some] <;> rfl) | (simp [*, errW_none, errW_some] <;> rfl), by (with_reducible repeat (first | apply Kd.R_alloc | apply Kd.R_drewN | apply Kd.R_drew)); exact Kd.R_mono (Kd.R_far (p := ⟨gb162, 2, none⟩) (Kd.R_far (p := ⟨gb162, 1, none⟩) (Kd.R_far (p := ⟨gb162, 0, none⟩) (Kd.R_types HO_170002.out BK162.out (by decide)) (fun _ hk => hk.2) (.int .i64 (wrap64 (t166)))) (fun _ hk => hk.2) (.string t170)) (fun _ hk => hk.2) (.slice Ao51 x170002_1.length co51)) (fun _ hk => trivial), by repeat (first | (with_reducible first | exact HB.out | apply below_alloc | apply pw_below_drewN | apply below_drew1 | refine below_set ?_ (IsS86.ge HI165.out) | refine below_set ?_ GE162.out | refine below_set ?_ GE169.out) | exact HB.out)⟩
            · replace c46 := Bool.eq_false_iff.mpr c46
              subst c46
              have H1 : (some (0, (⟨#[]⟩ : ByteArray), ([] : List (S54)), 3)) = some (r1, r2, r3, r4) := by rw [if_neg (show ¬ (false = true) by decide)] at H; exact H
              clear H
              have H := H1
              clear H1
              simp only [Option.some.injEq, Prod.mk.injEq] at H
              obtain ⟨rfl, rfl, rfl, rfl⟩ := H
              obtain ⟨HGz56, hgz56⟩ := HI165.out
              have hcz56_0 := cellS86_0 HGz56
              have hcz56_1 := cellS86_1 HGz56
              have hcz56_2 := cellS86_2 HGz56
              have hcz56_3 := cellS86_3 HGz56
              have hfz56_0 := blk_frozen HGz56 0
              have hfz56_1 := blk_frozen HGz56 1
              clear HGz56 hgz56
              have hnb57 := NB169_162.out
              have hnc57 := NB162_169.out
              have hnb58 := NB169_165.out
              have hnc58 := NB165_169.out
              have hcz59_0 : wr.cell? ⟨gb169, 0, none⟩ = some (.int .i64 (wrap64 (t166))) := (blk_cell BK169.out 0).trans rfl
              have hcz59_1 : wr.cell? ⟨gb169, 1, none⟩ = some (.string t170) := (blk_cell BK169.out 1).trans rfl
              have hcz59_2 : wr.cell? ⟨gb169, 2, none⟩ = some (u170002) := (blk_cell BK169.out 2).trans rfl
              have hfz59_0 := blk_frozen BK169.out 0
              have hfz59_1 := blk_frozen BK169.out 1
              have hfz59_2 := blk_frozen BK169.out 2
              obtain ⟨Ao60, co60, eo60⟩ := Kd.R_slice HO_170002.out
              subst eo60
              go_wp2_with (first | (go_at_call 23; (with_reducible refine (batch_May.calls k1 (wrap64 (t166)) t170 _ _ x170002_1 false _ ?side1 ?side2 A45.out).mono ?_); (case side1 => repeat (first | exact (Kd.R_reads' HO_170002.out).2.2 | (with_reducible refine Kd.C_alloc ?_ _) | (with_reducible refine Kd.C_drewN ?_ _) | (with_reducible refine Kd.C_drew ?_))); (case side2 => exact (Kd.R_reads' HO_170002.out).2.1); rintro e w61 ⟨rfl, hb⟩; have n0_ := Aside0.mk (Kd.R_below (by (with_reducible repeat (first | apply Kd.R_alloc | apply Kd.R_drewN | apply Kd.R_drew)); exact HO_170002.out) hb); have n1_ := Aside0.mk (blk_below (g := gb162) (o := .cells #[.int .i64 0, .string (⟨#[]⟩ : ByteArray), .slice none 0 0] 37 (0, 0)) (by (with_reducible repeat (first | refine blk_drewN ?_ _ | refine blk_drew ?_ | refine blk_alloc ?_ _)); exact BK162.out) hb); have n2_ := Aside0.mk (blk_below (g := gb169) (o := .cells #[.int .i64 (wrap64 (t166)), .string t170, .slice Ao60 x170002_1.length co60] 37 (0, 0)) (by (with_reducible repeat (first | refine blk_drewN ?_ _ | refine blk_drew ?_ | refine blk_alloc ?_ _)); exact BK169.out) hb); have n3_ := Aside0.mk (IsS86.below (by repeat (first | (with_reducible first | exact HI165.out | apply IsS86.alloc | apply IsS86.drewN | apply IsS86.drew | apply IsS86.set_0 | apply IsS86.set_1 | refine IsS86.far ?_ NB165_162.out _ | refine IsS86.far ?_ NB165_169.out _) | exact HI165.out)) hb); have n4_ := Aside0.mk (below_step (by repeat (first | (with_reducible first | exact HB.out | apply below_alloc | apply pw_below_drewN | apply below_drew1 | refine below_set ?_ (IsS86.ge HI165.out) | refine below_set ?_ GE162.out | refine below_set ?_ GE169.out) | exact HB.out)) hb); clear HO_170002; clear BK162; clear BK169; clear HI165; clear HB; have HO_170002 := n0_; have BK162 := n1_; have BK169 := n2_; have HI165 := n3_; have HB := n4_; clear n0_ n1_ n2_ n3_ n4_; (try clear hb); (try clear hb2); (try clear hk); (try clear hi); have hnb62 := NB162_165.out; have hnc62 := NB165_162.out; have hcz63_0 : w61.cell? ⟨gb162, 0, none⟩ = some (.int .i64 0) := (blk_cell BK162.out 0).trans rfl; have hcz63_1 : w61.cell? ⟨gb162, 1, none⟩ = some (.string (⟨#[]⟩ : ByteArray)) := (blk_cell BK162.out 1).trans rfl; have hcz63_2 : w61.cell? ⟨gb162, 2, none⟩ = some (.slice none 0 0) := (blk_cell BK162.out 2).trans rfl; have hfz63_0 := blk_frozen BK162.out 0; have hfz63_1 := blk_frozen BK162.out 1; have hfz63_2 := blk_frozen BK162.out 2))
              refine bodyPost_ret (results_ct rfl _ _ gb162 37 #[.int .i64 0, .string (⟨#[]⟩ : ByteArray), .slice none 0 0] (0, 0) _ rfl (by (with_reducible repeat (first | refine blk_drewN ?_ _ | refine blk_drew ?_ | refine blk_alloc ?_ _)); refine blk_put (cs := #[.int .i64 0, .string (⟨#[]⟩ : ByteArray), .slice none 0 0]) ?_ 2 _ rfl; (with_reducible repeat (first | refine blk_drewN ?_ _ | refine blk_drew ?_ | refine blk_alloc ?_ _)); refine blk_put (cs := #[.int .i64 0, .string (⟨#[]⟩ : ByteArray), .slice none 0 0]) ?_ 1 _ rfl; (with_reducible repeat (first | refine blk_drewN ?_ _ | refine blk_drew ?_ | refine blk_alloc ?_ _)); refine blk_put (cs := #[.int .i64 0, .string (⟨#[]⟩ : ByteArray), .slice none 0 0]) ?_ 0 _ rfl; (with_reducible repeat (first | refine blk_drewN ?_ _ | refine blk_drew ?_ | refine blk_alloc ?_ _)); exact BK162.out) Try.underlying37 rfl (by kernel_rfl)) rfl ?_
              exact ⟨_, by first | rfl | (simp [errW_none, errW_some] <;> rfl) | (simp [*, errW_none, errW_some] <;> rfl), by first | exact Kd.R_nil _ _ _ _ _ | exact Kd.N_nil _ _ _ _ _ | exact Kd.V_nil _ _ _ _ _ | exact Kd.Q_nil _ _ _ _ _ | exact Kd.S_nil _ _ _ _ _, by repeat (first | (with_reducible first | exact HB.out | apply below_alloc | apply pw_below_drewN | apply below_drew1 | refine below_set ?_ (IsS86.ge HI165.out) | refine below_set ?_ GE162.out | refine below_set ?_ GE169.out) | exact HB.out)⟩
          · rw [if_neg c44] at H
            have c44b0 : (x166000_1.toList == ([] : List UInt8)) = false := beq_eq_false_iff_ne.mpr c44
            have c44b1 : (x166000_1.toList != ([] : List UInt8)) = true := bne_iff_ne.mpr c44
            simp only [Option.some.injEq, Prod.mk.injEq] at H
            obtain ⟨rfl, rfl, rfl, rfl⟩ := H
            obtain ⟨HGz64, hgz64⟩ := HI165.out
            have hcz64_0 := cellS86_0 HGz64
            have hcz64_1 := cellS86_1 HGz64
            have hcz64_2 := cellS86_2 HGz64
            have hcz64_3 := cellS86_3 HGz64
            have hfz64_0 := blk_frozen HGz64 0
            have hfz64_1 := blk_frozen HGz64 1
            clear HGz64 hgz64
            have hnb65 := NB162_169.out
            have hnc65 := NB169_162.out
            have hnb66 := NB162_165.out
            have hnc66 := NB165_162.out
            have hcz67_0 : wr.cell? ⟨gb162, 0, none⟩ = some (.int .i64 0) := (blk_cell BK162.out 0).trans rfl
            have hcz67_1 : wr.cell? ⟨gb162, 1, none⟩ = some (.string (⟨#[]⟩ : ByteArray)) := (blk_cell BK162.out 1).trans rfl
            have hcz67_2 : wr.cell? ⟨gb162, 2, none⟩ = some (.slice none 0 0) := (blk_cell BK162.out 2).trans rfl
            have hfz67_0 := blk_frozen BK162.out 0
            have hfz67_1 := blk_frozen BK162.out 1
            have hfz67_2 := blk_frozen BK162.out 2
            go_wp2
            refine bodyPost_ret (results_ct rfl _ _ gb162 37 #[.int .i64 0, .string (⟨#[]⟩ : ByteArray), .slice none 0 0] (0, 0) _ rfl (by (with_reducible repeat (first | refine blk_drewN ?_ _ | refine blk_drew ?_ | refine blk_alloc ?_ _)); refine blk_put (cs := #[.int .i64 0, .string (⟨#[]⟩ : ByteArray), .slice none 0 0]) ?_ 2 _ rfl; (with_reducible repeat (first | refine blk_drewN ?_ _ | refine blk_drew ?_ | refine blk_alloc ?_ _)); refine blk_put (cs := #[.int .i64 0, .string (⟨#[]⟩ : ByteArray), .slice none 0 0]) ?_ 1 _ rfl; (with_reducible repeat (first | refine blk_drewN ?_ _ | refine blk_drew ?_ | refine blk_alloc ?_ _)); refine blk_put (cs := #[.int .i64 0, .string (⟨#[]⟩ : ByteArray), .slice none 0 0]) ?_ 0 _ rfl; (with_reducible repeat (first | refine blk_drewN ?_ _ | refine blk_drew ?_ | refine blk_alloc ?_ _)); exact BK162.out) Try.underlying37 rfl (by kernel_rfl)) rfl ?_
            exact ⟨_, by first | rfl | (simp [errW_none, errW_some] <;> rfl) | (simp [*, errW_none, errW_some] <;> rfl), by first | exact Kd.R_nil _ _ _ _ _ | exact Kd.N_nil _ _ _ _ _ | exact Kd.V_nil _ _ _ _ _ | exact Kd.Q_nil _ _ _ _ _ | exact Kd.S_nil _ _ _ _ _, by repeat (first | (with_reducible first | exact HB.out | apply below_alloc | apply pw_below_drewN | apply below_drew1 | refine below_set ?_ (IsS86.ge HI165.out) | refine below_set ?_ GE162.out | refine below_set ?_ GE169.out) | exact HB.out)⟩
        · replace c43 := Bool.eq_false_iff.mpr c43
          subst c43
          have H1 : (some (0, (⟨#[]⟩ : ByteArray), ([] : List (S54)), 3)) = some (r1, r2, r3, r4) := by rw [if_neg (show ¬ (false = true) by decide)] at H; exact H
          clear H
          have H := H1
          clear H1
          simp only [Option.some.injEq, Prod.mk.injEq] at H
          obtain ⟨rfl, rfl, rfl, rfl⟩ := H
          obtain ⟨HGz68, hgz68⟩ := HI165.out
          have hcz68_0 := cellS86_0 HGz68
          have hcz68_1 := cellS86_1 HGz68
          have hcz68_2 := cellS86_2 HGz68
          have hcz68_3 := cellS86_3 HGz68
          have hfz68_0 := blk_frozen HGz68 0
          have hfz68_1 := blk_frozen HGz68 1
          clear HGz68 hgz68
          have hnb69 := NB162_169.out
          have hnc69 := NB169_162.out
          have hnb70 := NB162_165.out
          have hnc70 := NB165_162.out
          have hcz71_0 : wr.cell? ⟨gb162, 0, none⟩ = some (.int .i64 0) := (blk_cell BK162.out 0).trans rfl
          have hcz71_1 : wr.cell? ⟨gb162, 1, none⟩ = some (.string (⟨#[]⟩ : ByteArray)) := (blk_cell BK162.out 1).trans rfl
          have hcz71_2 : wr.cell? ⟨gb162, 2, none⟩ = some (.slice none 0 0) := (blk_cell BK162.out 2).trans rfl
          have hfz71_0 := blk_frozen BK162.out 0
          have hfz71_1 := blk_frozen BK162.out 1
          have hfz71_2 := blk_frozen BK162.out 2
          go_wp2
          refine bodyPost_ret (results_ct rfl _ _ gb162 37 #[.int .i64 0, .string (⟨#[]⟩ : ByteArray), .slice none 0 0] (0, 0) _ rfl (by (with_reducible repeat (first | refine blk_drewN ?_ _ | refine blk_drew ?_ | refine blk_alloc ?_ _)); refine blk_put (cs := #[.int .i64 0, .string (⟨#[]⟩ : ByteArray), .slice none 0 0]) ?_ 2 _ rfl; (with_reducible repeat (first | refine blk_drewN ?_ _ | refine blk_drew ?_ | refine blk_alloc ?_ _)); refine blk_put (cs := #[.int .i64 0, .string (⟨#[]⟩ : ByteArray), .slice none 0 0]) ?_ 1 _ rfl; (with_reducible repeat (first | refine blk_drewN ?_ _ | refine blk_drew ?_ | refine blk_alloc ?_ _)); refine blk_put (cs := #[.int .i64 0, .string (⟨#[]⟩ : ByteArray), .slice none 0 0]) ?_ 0 _ rfl; (with_reducible repeat (first | refine blk_drewN ?_ _ | refine blk_drew ?_ | refine blk_alloc ?_ _)); exact BK162.out) Try.underlying37 rfl (by kernel_rfl)) rfl ?_
          exact ⟨_, by first | rfl | (simp [errW_none, errW_some] <;> rfl) | (simp [*, errW_none, errW_some] <;> rfl), by first | exact Kd.R_nil _ _ _ _ _ | exact Kd.N_nil _ _ _ _ _ | exact Kd.V_nil _ _ _ _ _ | exact Kd.Q_nil _ _ _ _ _ | exact Kd.S_nil _ _ _ _ _, by repeat (first | (with_reducible first | exact HB.out | apply below_alloc | apply pw_below_drewN | apply below_drew1 | refine below_set ?_ (IsS86.ge HI165.out) | refine below_set ?_ GE162.out | refine below_set ?_ GE169.out) | exact HB.out)⟩

/-! ### stanchionref01_TakeNum: function 41 -/
set_option maxHeartbeats 8000000 in
set_option maxRecDepth 100000 in
theorem stanchionref01_TakeNum.calls (k : Nat) (a0 : ByteArray) (r1 : Int) (r2 : ByteArray) (r3 : Int) (w : World) (h : stanchionref01_TakeNum.f k a0 = some (r1, r2, r3)) :
    Calls Try.prog 41 #[.string a0] w fun e w' => e = .returned (.tuple #[.int .u64 r1, .string r2, .int .i64 r3]) ∧ Drawn0 w w' := by
  have H : (stanchionref01_TakeNum.l0 k a0 0) = some (r1, r2, r3) := h
  clear h
  have HC2 := Aside0.mk H
  clear H
  go_enter Try.func41, Try.ntmps41
  go_upto_block 0 with (fail)
  repeat (go_quiet (fail); go_upto_block 0 with (fail))
  go_cut [5] (fun v5 wc => ∃ (kq : Nat) (x5_1 : Int), v5 = .int .i64 x5_1 ∧ Aside0 (stanchionref01_TakeNum.j1 kq a0 x5_1 = some (r1, r2, r3)) ∧ Aside0 (kq ≤ k) ∧ Drawn0 w wc)
  case first =>
    have H := HC2.out
    clear HC2
    have H' := Aside0.mk H
    clear H
    go_wp2
    repeat (go_quiet (fail); try go_wp2)
    go_loopg [5] k (fun kq v5 w' => ∃ (x5_1 : Int), v5 = .int .i64 x5_1 ∧ Aside0 (stanchionref01_TakeNum.l0 kq a0 x5_1 = some (r1, r2, r3)) ∧ Aside0 (kq ≤ k) ∧ Drawn0 w w')
    case atStart => exact ⟨(0), (by first | rfl | (simp; done) | (simp [*]; done)), H', ⟨Nat.le_refl _⟩, by repeat (first | exact Drawn0.refl _ | apply Drawn0.step)⟩
    case round =>
      clear H'
      try clear p2
      obtain ⟨x5_1, rfl, HA, HK1, ⟨m1, rfl⟩⟩ := hrel
      cases gk with
      | zero => exact absurd HA.out (by simp [stanchionref01_TakeNum.l0])
      | succ k1 =>
        have H := HA.out
        clear HA
        simp only [stanchionref01_TakeNum.l0] at H
        by_cases c3 : x5_1 < (a0.size : Int)
        · rw [if_pos c3] at H
          have c3b0 : decide (x5_1 < (a0.size : Int)) = true := decide_eq_true c3
          clear c3
          (first | rw [c3b0] | (simp only [i64_w, i32_w]; rw [c3b0]) | skip)
          by_cases c4 : 0 ≤ x5_1
          · rw [if_pos c4] at H
            have c4b0 : decide (0 ≤ x5_1) = true := decide_eq_true c4
            clear c4
            by_cases c6 : (bt a0 x5_1) ≥ 48
            · rw [if_pos c6] at H
              have c6b0 : decide (48 ≤ (bt a0 x5_1)) = true := decide_eq_true c6
              clear c6
              by_cases c8 : (bt a0 x5_1) ≤ 57
              · rw [if_pos c8] at H
                have c8b0 : decide ((bt a0 x5_1) ≤ 57) = true := decide_eq_true c8
                clear c8
                have H' := Aside0.mk H
                clear H
                have p5 : 0 ≤ (x5_1 : Int) := of_decide_eq_true (by first | (with_reducible assumption) | assumption)
                have q5 : x5_1 < (a0.size : Int) := of_decide_eq_true (by first | (with_reducible assumption) | assumption)
                have hx5 := bt_at a0 x5_1
                replace p5 := eq_true p5
                replace q5 := eq_true q5
                have p7 : 0 ≤ (x5_1 : Int) := of_decide_eq_true (by first | (with_reducible assumption) | assumption)
                have q7 : x5_1 < (a0.size : Int) := of_decide_eq_true (by first | (with_reducible assumption) | assumption)
                have hx7 := bt_at a0 x5_1
                replace p7 := eq_true p7
                replace q7 := eq_true q7
                go_wp2
                repeat (go_quiet (fail); try go_wp2)
                go_roundg k1
                case measure => have := HK1.out; omega
                case rel => exact ⟨(wrap64 (x5_1 + 1)), (by first | rfl | (simp; done) | (simp [*]; done)), H', ⟨by have := HK1.out; omega⟩, by repeat (first | exact Drawn0.refl _ | apply Drawn0.step)⟩
              · rw [if_neg c8] at H
                have c8b0 : decide ((bt a0 x5_1) ≤ 57) = false := decide_eq_false c8
                clear c8
                have H' := Aside0.mk H
                clear H
                have p5 : 0 ≤ (x5_1 : Int) := of_decide_eq_true (by first | (with_reducible assumption) | assumption)
                have q5 : x5_1 < (a0.size : Int) := of_decide_eq_true (by first | (with_reducible assumption) | assumption)
                have hx5 := bt_at a0 x5_1
                replace p5 := eq_true p5
                replace q5 := eq_true q5
                have p7 : 0 ≤ (x5_1 : Int) := of_decide_eq_true (by first | (with_reducible assumption) | assumption)
                have q7 : x5_1 < (a0.size : Int) := of_decide_eq_true (by first | (with_reducible assumption) | assumption)
                have hx7 := bt_at a0 x5_1
                replace p7 := eq_true p7
                replace q7 := eq_true q7
                go_wp2
                repeat (go_quiet (fail); try go_wp2)
                go_meet
                case rel => exact ⟨_, (x5_1), (by first | rfl | (simp; done) | (simp [*]; done)), H', ⟨by have := HK1.out; first | omega | exact Nat.le_refl _⟩, by repeat (first | exact Drawn0.refl _ | apply Drawn0.step)⟩
            · rw [if_neg c6] at H
              have c6b0 : decide (48 ≤ (bt a0 x5_1)) = false := decide_eq_false c6
              clear c6
              have H' := Aside0.mk H
              clear H
              have p5 : 0 ≤ (x5_1 : Int) := of_decide_eq_true (by first | (with_reducible assumption) | assumption)
              have q5 : x5_1 < (a0.size : Int) := of_decide_eq_true (by first | (with_reducible assumption) | assumption)
              have hx5 := bt_at a0 x5_1
              replace p5 := eq_true p5
              replace q5 := eq_true q5
              go_wp2
              repeat (go_quiet (fail); try go_wp2)
              go_meet
              case rel => exact ⟨_, (x5_1), (by first | rfl | (simp; done) | (simp [*]; done)), H', ⟨by have := HK1.out; first | omega | exact Nat.le_refl _⟩, by repeat (first | exact Drawn0.refl _ | apply Drawn0.step)⟩
          · rw [if_neg c4] at H
            exact absurd H (by simp)
        · rw [if_neg c3] at H
          have c3b0 : decide (x5_1 < (a0.size : Int)) = false := decide_eq_false c3
          clear c3
          (first | rw [c3b0] | (simp only [i64_w, i32_w]; rw [c3b0]) | skip)
          have H' := Aside0.mk H
          clear H
          go_wp2
          repeat (go_quiet (fail); try go_wp2)
          go_meet
          case rel => exact ⟨_, (x5_1), (by first | rfl | (simp; done) | (simp [*]; done)), H', ⟨by have := HK1.out; first | omega | exact Nat.le_refl _⟩, by repeat (first | exact Drawn0.refl _ | apply Drawn0.step)⟩
  case rest =>
    clear HC2
    try clear p2
    try clear c3
    try clear c3b0
    try clear c4
    try clear c4b0
    try clear p5
    try clear q5
    try clear hx5
    try clear c6
    try clear c6b0
    try clear p6
    try clear p7
    try clear q7
    try clear hx7
    try clear c8
    try clear c8b0
    try clear p2
    try clear p5
    try clear p7
    try clear q5
    try clear q7
    obtain ⟨kq, x5_1, rfl, HA, HJ1, ⟨mc1, rfl⟩⟩ := hcut
    cases kq with
    | zero => exact absurd HA.out (by simp [stanchionref01_TakeNum.j1])
    | succ kj1 =>
      have H := HA.out
      clear HA
      simp only [stanchionref01_TakeNum.j1] at H
      have HC9 := Aside0.mk H
      clear H
      go_upto_region 4 with (fail)
      repeat (go_quiet (fail); go_upto_region 4 with (fail))
      go_cut [37] (fun v37 wc => ∃ (kq : Nat) (x37_8 : Bool), v37 = .bool x37_8 ∧ Aside0 (stanchionref01_TakeNum.j2 kq a0 x5_1 x37_8 = some (r1, r2, r3)) ∧ Aside0 (kq ≤ kj1) ∧ Drawn0 w wc)
      case first =>
        have H := HC9.out
        clear HC9
        by_cases c10 : x5_1 > 20
        · rw [if_pos c10] at H
          have c10b0 : decide (20 < x5_1) = true := decide_eq_true c10
          clear c10
          (first | rw [c10b0] | (simp only [i64_w, i32_w]; rw [c10b0]) | skip)
          have H' := Aside0.mk H
          clear H
          go_wp2
          repeat (go_quiet (fail); try go_wp2)
          go_meet
          case rel => exact ⟨_, (true), (by first | rfl | (simp; done) | (simp [*]; done)), H', ⟨by have := HJ1.out; first | omega | exact Nat.le_refl _⟩, by repeat (first | exact Drawn0.refl _ | apply Drawn0.step)⟩
        · rw [if_neg c10] at H
          have c10b0 : decide (20 < x5_1) = false := decide_eq_false c10
          clear c10
          (first | rw [c10b0] | (simp only [i64_w, i32_w]; rw [c10b0]) | skip)
          by_cases c11 : x5_1 > 1
          · rw [if_pos c11] at H
            have c11b0 : decide (1 < x5_1) = true := decide_eq_true c11
            clear c11
            by_cases c12 : 0 < (a0.size : Int)
            · rw [if_pos c12] at H
              have c12b0 : decide (0 < (a0.size : Int)) = true := decide_eq_true c12
              have c12b1 : decide (0 < a0.size) = true := decide_eq_true (by omega)
              clear c12
              have H' := Aside0.mk H
              clear H
              have p13 : 0 ≤ (0 : Int) := (by omega)
              have q13 : 0 < a0.size := (by have : (0 : Int) < (a0.size : Int) := of_decide_eq_true (by first | (with_reducible assumption) | assumption); omega)
              have hx13 : ∀ h : 0 < a0.size, ((a0[0]'h).toNat : Int) = bt a0 0 := bt_at a0 0
              clear p13
              have qi13 : (0 < (a0.size : Int)) = True := eq_true (of_decide_eq_true (by first | (with_reducible assumption) | assumption))
              replace q13 := eq_true q13
              go_wp2
              repeat (go_quiet (fail); try go_wp2)
              go_meet
              case rel => exact ⟨_, (((bt a0 0) == 48)), (by first | rfl | (simp; done) | (simp [*]; done)), H', ⟨by have := HJ1.out; first | omega | exact Nat.le_refl _⟩, by repeat (first | exact Drawn0.refl _ | apply Drawn0.step)⟩
            · rw [if_neg c12] at H
              exact absurd H (by simp)
          · rw [if_neg c11] at H
            have c11b0 : decide (1 < x5_1) = false := decide_eq_false c11
            clear c11
            have H' := Aside0.mk H
            clear H
            go_wp2
            repeat (go_quiet (fail); try go_wp2)
            go_meet
            case rel => exact ⟨_, (false), (by first | rfl | (simp; done) | (simp [*]; done)), H', ⟨by have := HJ1.out; first | omega | exact Nat.le_refl _⟩, by repeat (first | exact Drawn0.refl _ | apply Drawn0.step)⟩
      case rest =>
        clear HC9
        try clear c1
        try clear p1
        try clear q1
        try clear hx1
        try clear qi1
        try clear p2
        try clear c3
        try clear c3b0
        try clear c4
        try clear c4b0
        try clear p5
        try clear q5
        try clear hx5
        try clear c6
        try clear c6b0
        try clear p6
        try clear p7
        try clear q7
        try clear hx7
        try clear c8
        try clear c8b0
        try clear c10
        try clear c10b0
        try clear c11
        try clear c11b0
        try clear c12
        try clear c12b0
        try clear c12b1
        try clear p13
        try clear q13
        try clear hx13
        try clear qi13
        try clear p13
        try clear p2
        try clear p5
        try clear p6
        try clear p7
        try clear q13
        try clear q5
        try clear q7
        obtain ⟨kq, x37_8, rfl, HA, HJ8, ⟨mc8, rfl⟩⟩ := hcut
        cases kq with
        | zero => exact absurd HA.out (by simp [stanchionref01_TakeNum.j2])
        | succ kj8 =>
          have H := HA.out
          clear HA
          simp only [stanchionref01_TakeNum.j2] at H
          by_cases c14 : x37_8 = true
          · subst c14
            have H1 : (some (0, (⟨#[]⟩ : ByteArray), 3)) = some (r1, r2, r3) := by rw [if_pos rfl] at H; exact H
            clear H
            have H := H1
            clear H1
            simp only [Option.some.injEq, Prod.mk.injEq] at H
            obtain ⟨rfl, rfl, rfl⟩ := H
            go_wp2
            repeat (go_quiet (fail); try go_wp2)
            go_ret3
            exact ⟨by first | rfl | (simp; done) | (simp [*]; done), by repeat (first | exact Drawn0.refl _ | apply Drawn0.step)⟩
          · replace c14 := Bool.eq_false_iff.mpr c14
            subst c14
            have H1 : (stanchionref01_TakeNum.l1 kj8 a0 x5_1 0 0) = some (r1, r2, r3) := by rw [if_neg (show ¬ (false = true) by decide)] at H; exact H
            clear H
            have H := H1
            clear H1
            have H' := Aside0.mk H
            clear H
            go_wp2
            repeat (go_quiet (fail); try go_wp2)
            go_loopg [6, 7] kj8 (fun kq v6 v7 w' => ∃ (x6_3 : Int) (x7_3 : Int), v6 = .int .u64 x6_3 ∧ v7 = .int .i64 x7_3 ∧ Aside0 (stanchionref01_TakeNum.l1 kq a0 x5_1 x6_3 x7_3 = some (r1, r2, r3)) ∧ Aside0 (kq ≤ kj8) ∧ Drawn0 w w')
            case atStart => exact ⟨(0), (0), (by first | rfl | (simp; done) | (simp [*]; done)), (by first | rfl | (simp; done) | (simp [*]; done)), H', ⟨Nat.le_refl _⟩, by repeat (first | exact Drawn0.refl _ | apply Drawn0.step)⟩
            case round =>
              clear H'
              try clear c1
              try clear p1
              try clear q1
              try clear hx1
              try clear qi1
              try clear p2
              try clear c3
              try clear c3b0
              try clear c4
              try clear c4b0
              try clear p5
              try clear q5
              try clear hx5
              try clear c6
              try clear c6b0
              try clear p6
              try clear p7
              try clear q7
              try clear hx7
              try clear c8
              try clear c8b0
              try clear c10
              try clear c10b0
              try clear c11
              try clear c11b0
              try clear c12
              try clear c12b0
              try clear c12b1
              try clear p13
              try clear q13
              try clear hx13
              try clear qi13
              try clear c14
              try clear p1
              try clear p13
              try clear p2
              try clear p5
              try clear p6
              try clear p7
              try clear q1
              try clear q13
              try clear q5
              try clear q7
              obtain ⟨x6_3, x7_3, rfl, rfl, HA, HK3, ⟨m3, rfl⟩⟩ := hrel
              cases gk with
              | zero => exact absurd HA.out (by simp [stanchionref01_TakeNum.l1])
              | succ k3 =>
                have H := HA.out
                clear HA
                simp only [stanchionref01_TakeNum.l1] at H
                by_cases c15 : x7_3 < x5_1
                · rw [if_pos c15] at H
                  have c15b0 : decide (x7_3 < x5_1) = true := decide_eq_true c15
                  clear c15
                  by_cases c16 : 0 ≤ x7_3
                  · rw [if_pos c16] at H
                    have c16b0 : decide (0 ≤ x7_3) = true := decide_eq_true c16
                    clear c16
                    by_cases c17 : x7_3 < (a0.size : Int)
                    · rw [if_pos c17] at H
                      have c17b0 : decide (x7_3 < (a0.size : Int)) = true := decide_eq_true c17
                      clear c17
                      by_cases c19 : x6_3 > 1844674407370955161
                      · rw [if_pos c19] at H
                        have c19b0 : decide (1844674407370955161 < x6_3) = true := decide_eq_true c19
                        clear c19
                        simp only [Option.some.injEq, Prod.mk.injEq] at H
                        obtain ⟨rfl, rfl, rfl⟩ := H
                        have p18 : 0 ≤ (x7_3 : Int) := of_decide_eq_true (by first | (with_reducible assumption) | assumption)
                        have q18 : x7_3 < (a0.size : Int) := of_decide_eq_true (by first | (with_reducible assumption) | assumption)
                        have hx18 := bt_at a0 x7_3
                        replace p18 := eq_true p18
                        replace q18 := eq_true q18
                        go_wp2
                        repeat (go_quiet (fail); try go_wp2)
                        go_ret3
                        exact ⟨by first | rfl | (simp; done) | (simp [*]; done), by repeat (first | exact Drawn0.refl _ | apply Drawn0.step)⟩
                      · rw [if_neg c19] at H
                        have c19b0 : decide (1844674407370955161 < x6_3) = false := decide_eq_false c19
                        clear c19
                        by_cases c20 : x6_3 = 1844674407370955161
                        · rw [if_pos c20] at H
                          have c20b0 : (x6_3 == 1844674407370955161) = true := beq_iff_eq.mpr c20
                          have c20b1 : (x6_3 != 1844674407370955161) = false := bne_eq_false_iff_eq.mpr c20
                          clear c20
                          by_cases c21 : (((bt a0 x7_3) - 48) % 256) > 5
                          · rw [if_pos c21] at H
                            have c21b0 : decide (5 < (((bt a0 x7_3) - 48) % 256)) = true := decide_eq_true c21
                            clear c21
                            simp only [Option.some.injEq, Prod.mk.injEq] at H
                            obtain ⟨rfl, rfl, rfl⟩ := H
                            have p18 : 0 ≤ (x7_3 : Int) := of_decide_eq_true (by first | (with_reducible assumption) | assumption)
                            have q18 : x7_3 < (a0.size : Int) := of_decide_eq_true (by first | (with_reducible assumption) | assumption)
                            have hx18 := bt_at a0 x7_3
                            replace p18 := eq_true p18
                            replace q18 := eq_true q18
                            go_wp2
                            repeat (go_quiet (fail); try go_wp2)
                            go_ret3
                            exact ⟨by first | rfl | (simp; done) | (simp [*]; done), by repeat (first | exact Drawn0.refl _ | apply Drawn0.step)⟩
                          · rw [if_neg c21] at H
                            have c21b0 : decide (5 < (((bt a0 x7_3) - 48) % 256)) = false := decide_eq_false c21
                            clear c21
                            have H' := Aside0.mk H
                            clear H
                            have p18 : 0 ≤ (x7_3 : Int) := of_decide_eq_true (by first | (with_reducible assumption) | assumption)
                            have q18 : x7_3 < (a0.size : Int) := of_decide_eq_true (by first | (with_reducible assumption) | assumption)
                            have hx18 := bt_at a0 x7_3
                            replace p18 := eq_true p18
                            replace q18 := eq_true q18
                            go_wp2
                            repeat (go_quiet (fail); try go_wp2)
                            go_roundg k3
                            case measure => have := HJ1.out; have := HJ8.out; have := HK3.out; omega
                            case rel => exact ⟨(IntKind.u64.wrap ((IntKind.u64.wrap (10 * x6_3)) + (((bt a0 x7_3) - 48) % 256))), (wrap64 (x7_3 + 1)), (by first | rfl | (simp; done) | (simp [*]; done)), (by first | rfl | (simp; done) | (simp [*]; done)), H', ⟨by have := HJ1.out; have := HJ8.out; have := HK3.out; omega⟩, by repeat (first | exact Drawn0.refl _ | apply Drawn0.step)⟩
                        · rw [if_neg c20] at H
                          have c20b0 : (x6_3 == 1844674407370955161) = false := beq_eq_false_iff_ne.mpr c20
                          have c20b1 : (x6_3 != 1844674407370955161) = true := bne_iff_ne.mpr c20
                          have H' := Aside0.mk H
                          clear H
                          have p18 : 0 ≤ (x7_3 : Int) := of_decide_eq_true (by first | (with_reducible assumption) | assumption)
                          have q18 : x7_3 < (a0.size : Int) := of_decide_eq_true (by first | (with_reducible assumption) | assumption)
                          have hx18 := bt_at a0 x7_3
                          replace p18 := eq_true p18
                          replace q18 := eq_true q18
                          go_wp2
                          repeat (go_quiet (fail); try go_wp2)
                          go_roundg k3
                          case measure => have := HJ1.out; have := HJ8.out; have := HK3.out; omega
                          case rel => exact ⟨(IntKind.u64.wrap ((IntKind.u64.wrap (10 * x6_3)) + (((bt a0 x7_3) - 48) % 256))), (wrap64 (x7_3 + 1)), (by first | rfl | (simp; done) | (simp [*]; done)), (by first | rfl | (simp; done) | (simp [*]; done)), H', ⟨by have := HJ1.out; have := HJ8.out; have := HK3.out; omega⟩, by repeat (first | exact Drawn0.refl _ | apply Drawn0.step)⟩
                    · rw [if_neg c17] at H
                      exact absurd H (by simp)
                  · rw [if_neg c16] at H
                    exact absurd H (by simp)
                · rw [if_neg c15] at H
                  have c15b0 : decide (x7_3 < x5_1) = false := decide_eq_false c15
                  clear c15
                  by_cases c22 : x5_1 = (a0.size : Int)
                  · rw [if_pos c22] at H
                    have c22b0 : (x5_1 == (a0.size : Int)) = true := beq_iff_eq.mpr c22
                    have c22b1 : (x5_1 != (a0.size : Int)) = false := bne_eq_false_iff_eq.mpr c22
                    clear c22
                    simp only [Option.some.injEq, Prod.mk.injEq] at H
                    obtain ⟨rfl, rfl, rfl⟩ := H
                    go_wp2
                    repeat (go_quiet (fail); try go_wp2)
                    go_ret3
                    exact ⟨by first | rfl | (simp; done) | (simp [*]; done), by repeat (first | exact Drawn0.refl _ | apply Drawn0.step)⟩
                  · rw [if_neg c22] at H
                    have c22b0 : (x5_1 == (a0.size : Int)) = false := beq_eq_false_iff_ne.mpr c22
                    have c22b1 : (x5_1 != (a0.size : Int)) = true := bne_iff_ne.mpr c22
                    by_cases c23 : 0 ≤ x5_1
                    · rw [if_pos c23] at H
                      have c23b0 : decide (0 ≤ x5_1) = true := decide_eq_true c23
                      clear c23
                      by_cases c24 : x5_1 < (a0.size : Int)
                      · rw [if_pos c24] at H
                        have c24b0 : decide (x5_1 < (a0.size : Int)) = true := decide_eq_true c24
                        clear c24
                        by_cases c26 : (bt a0 x5_1) = 59
                        · rw [if_pos c26] at H
                          have c26b0 : ((bt a0 x5_1) == 59) = true := beq_iff_eq.mpr c26
                          have c26b1 : ((bt a0 x5_1) != 59) = false := bne_eq_false_iff_eq.mpr c26
                          clear c26
                          by_cases c27 : x5_1 = 0
                          · rw [if_pos c27] at H
                            have c27b0 : (x5_1 == 0) = true := beq_iff_eq.mpr c27
                            have c27b1 : (x5_1 != 0) = false := bne_eq_false_iff_eq.mpr c27
                            clear c27
                            simp only [Option.some.injEq, Prod.mk.injEq] at H
                            obtain ⟨rfl, rfl, rfl⟩ := H
                            have p25 : 0 ≤ (x5_1 : Int) := of_decide_eq_true (by first | (with_reducible assumption) | assumption)
                            have q25 : x5_1 < (a0.size : Int) := of_decide_eq_true (by first | (with_reducible assumption) | assumption)
                            have hx25 := bt_at a0 x5_1
                            replace p25 := eq_true p25
                            replace q25 := eq_true q25
                            go_wp2
                            repeat (go_quiet (fail); try go_wp2)
                            go_ret3
                            exact ⟨by first | rfl | (simp; done) | (simp [*]; done), by repeat (first | exact Drawn0.refl _ | apply Drawn0.step)⟩
                          · rw [if_neg c27] at H
                            have c27b0 : (x5_1 == 0) = false := beq_eq_false_iff_ne.mpr c27
                            have c27b1 : (x5_1 != 0) = true := bne_iff_ne.mpr c27
                            obtain ⟨ji28, hji28⟩ : ∃ j_ : Int, (wrap64 (x5_1 + 1)) = j_ := ⟨_, rfl⟩
                            replace H : (if 0 ≤ (ji28) then (if (ji28) ≤ (a0.size : Int) then (some (x6_3, a0.extract ((ji28) : Int).toNat a0.size, 0)) else (none)) else (none)) = some (r1, r2, r3) := by first | (rw [hji28] at H; exact H) | (simp only [hji28] at H ⊢; exact H)
                            have hji28w : (IntKind.i64.wrap (x5_1 + 1)) = ji28 := (i64_w _).trans hji28
                            by_cases c29 : 0 ≤ (ji28)
                            · rw [if_pos c29] at H
                              have c29b0 := eq_true c29
                              have c29b1 : decide (0 ≤ (ji28)) = true := decide_eq_true c29
                              clear c29
                              by_cases c30 : (ji28) ≤ (a0.size : Int)
                              · rw [if_pos c30] at H
                                have c30b0 := eq_true c30
                                have c30b1 : decide ((ji28) ≤ (a0.size : Int)) = true := decide_eq_true c30
                                clear c30
                                simp only [Option.some.injEq, Prod.mk.injEq] at H
                                obtain ⟨rfl, rfl, rfl⟩ := H
                                have p25 : 0 ≤ (x5_1 : Int) := of_decide_eq_true (by first | (with_reducible assumption) | assumption)
                                have q25 : x5_1 < (a0.size : Int) := of_decide_eq_true (by first | (with_reducible assumption) | assumption)
                                have hx25 := bt_at a0 x5_1
                                replace p25 := eq_true p25
                                replace q25 := eq_true q25
                                go_wp2
                                repeat (go_quiet (fail); try go_wp2)
                                go_ret3
                                exact ⟨by first | rfl | (simp; done) | (simp only [← hji28] <;> (first | rfl | simp)) | (simp [*]; done), by repeat (first | exact Drawn0.refl _ | apply Drawn0.step)⟩
                              · rw [if_neg c30] at H
                                exact absurd H (by simp)
                            · rw [if_neg c29] at H
                              exact absurd H (by simp)
                        · rw [if_neg c26] at H
                          have c26b0 : ((bt a0 x5_1) == 59) = false := beq_eq_false_iff_ne.mpr c26
                          have c26b1 : ((bt a0 x5_1) != 59) = true := bne_iff_ne.mpr c26
                          simp only [Option.some.injEq, Prod.mk.injEq] at H
                          obtain ⟨rfl, rfl, rfl⟩ := H
                          have p25 : 0 ≤ (x5_1 : Int) := of_decide_eq_true (by first | (with_reducible assumption) | assumption)
                          have q25 : x5_1 < (a0.size : Int) := of_decide_eq_true (by first | (with_reducible assumption) | assumption)
                          have hx25 := bt_at a0 x5_1
                          replace p25 := eq_true p25
                          replace q25 := eq_true q25
                          go_wp2
                          repeat (go_quiet (fail); try go_wp2)
                          go_ret3
                          exact ⟨by first | rfl | (simp; done) | (simp [*]; done), by repeat (first | exact Drawn0.refl _ | apply Drawn0.step)⟩
                      · rw [if_neg c24] at H
                        exact absurd H (by simp)
                    · rw [if_neg c23] at H
                      exact absurd H (by simp)

/-! ### stanchionref01_TakeText: function 42 -/
set_option maxHeartbeats 8000000 in
set_option maxRecDepth 100000 in
theorem stanchionref01_TakeText.calls (k : Nat) (a0 : ByteArray) (a1 : Int) (r1 : ByteArray) (r2 : ByteArray) (r3 : Int) (w : World) (h : stanchionref01_TakeText.f k a0 a1 = some (r1, r2, r3)) :
    Calls Try.prog 42 #[.string a0, .int .i64 a1] w fun e w' => e = .returned (.tuple #[.string r1, .string r2, .int .i64 r3]) ∧ Drawn0 w w' := by
  have H : ((stanchionref01_TakeNum.f k a0).bind fun bt190 => (if bt190.2.2 = 0 then (if a1 < 0 then (stanchionref01_TakeText.j0 k bt190.1 bt190.2.1 true) else (stanchionref01_TakeText.j0 k bt190.1 bt190.2.1 (decide (bt190.1 > (IntKind.u64.wrap (a1)))))) else (some ((⟨#[]⟩ : ByteArray), (⟨#[]⟩ : ByteArray), bt190.2.2)))) = some (r1, r2, r3) := h
  clear h
  replace H := Option.bind_eq_some_iff.mp H
  obtain ⟨⟨t190, t191, t192⟩, A30, H⟩ := H
  replace H : (if t192 = 0 then (if a1 < 0 then (stanchionref01_TakeText.j0 k t190 t191 true) else (stanchionref01_TakeText.j0 k t190 t191 (decide (t190 > (IntKind.u64.wrap (a1)))))) else (some ((⟨#[]⟩ : ByteArray), (⟨#[]⟩ : ByteArray), t192))) = some (r1, r2, r3) := H
  have A3 := Aside0.mk A30
  clear A30
  by_cases c4 : t192 = 0
  · rw [if_pos c4] at H
    have c4b0 : (t192 == 0) = true := beq_iff_eq.mpr c4
    have c4b1 : (t192 != 0) = false := bne_eq_false_iff_eq.mpr c4
    clear c4
    have HC5 := Aside0.mk H
    clear H
    go_enter Try.func42, Try.ntmps42
    go_upto_region 4 with (first | (go_at_call 41; (with_reducible refine (stanchionref01_TakeNum.calls k a0 t190 t191 t192 _ A3.out).mono ?_); rintro e w' ⟨rfl, ⟨nd, rfl⟩⟩; (try first | exact ⟨rfl, _, World.drewN_drewN _ _ _⟩ | exact ⟨rfl, _, Eq.trans (World.drewN_drewN _ _ _) (congrArg (World.drewN _) (Nat.add_assoc _ _ _))⟩)))
    repeat (go_quiet (first | (go_at_call 41; (with_reducible refine (stanchionref01_TakeNum.calls k a0 t190 t191 t192 _ A3.out).mono ?_); rintro e w' ⟨rfl, ⟨nd, rfl⟩⟩; (try first | exact ⟨rfl, _, World.drewN_drewN _ _ _⟩ | exact ⟨rfl, _, Eq.trans (World.drewN_drewN _ _ _) (congrArg (World.drewN _) (Nat.add_assoc _ _ _))⟩))); go_upto_region 4 with (first | (go_at_call 41; (with_reducible refine (stanchionref01_TakeNum.calls k a0 t190 t191 t192 _ A3.out).mono ?_); rintro e w' ⟨rfl, ⟨nd, rfl⟩⟩; (try first | exact ⟨rfl, _, World.drewN_drewN _ _ _⟩ | exact ⟨rfl, _, Eq.trans (World.drewN_drewN _ _ _) (congrArg (World.drewN _) (Nat.add_assoc _ _ _))⟩))))
    (try simp only [Act.put, List.setIfInBounds_toArray, List.set_cons_zero, List.set_cons_succ])
    go_cut [26] (fun v26 wc => ∃ (kq : Nat) (x26_4 : Bool), v26 = .bool x26_4 ∧ Aside0 (stanchionref01_TakeText.j0 kq t190 t191 x26_4 = some (r1, r2, r3)) ∧ Aside0 (kq ≤ k) ∧ Drawn0 w wc)
    case first =>
      have H := HC5.out
      clear HC5
      by_cases c6 : a1 < 0
      · rw [if_pos c6] at H
        have c6b0 : decide (a1 < 0) = true := decide_eq_true c6
        clear c6
        (first | rw [c6b0] | (simp only [i64_w, i32_w]; rw [c6b0]) | skip)
        have H' := Aside0.mk H
        clear H
        go_wp2
        repeat (go_quiet (fail); try go_wp2)
        go_meet
        case rel => exact ⟨_, (true), (by first | rfl | (simp; done) | (simp [*]; done)), H', ⟨by first | omega | exact Nat.le_refl _⟩, by repeat (first | exact Drawn0.refl _ | apply Drawn0.step)⟩
      · rw [if_neg c6] at H
        have c6b0 : decide (a1 < 0) = false := decide_eq_false c6
        clear c6
        (first | rw [c6b0] | (simp only [i64_w, i32_w]; rw [c6b0]) | skip)
        have H' := Aside0.mk H
        clear H
        go_wp2
        repeat (go_quiet (fail); try go_wp2)
        go_meet
        case rel => exact ⟨_, (decide (t190 > (IntKind.u64.wrap (a1)))), (by first | rfl | (simp; done) | (simp [*]; done)), H', ⟨by first | omega | exact Nat.le_refl _⟩, by repeat (first | exact Drawn0.refl _ | apply Drawn0.step)⟩
    case rest =>
      clear HC5
      try clear p2
      try clear c4
      try clear c4b0
      try clear c4b1
      try clear c6
      try clear c6b0
      obtain ⟨kq, x26_4, rfl, HA, HJ4, ⟨mc4, rfl⟩⟩ := hcut
      cases kq with
      | zero => exact absurd HA.out (by simp [stanchionref01_TakeText.j0])
      | succ kj4 =>
        have H := HA.out
        clear HA
        simp only [stanchionref01_TakeText.j0] at H
        by_cases c7 : x26_4 = true
        · subst c7
          have H1 : (some ((⟨#[]⟩ : ByteArray), (⟨#[]⟩ : ByteArray), 4)) = some (r1, r2, r3) := by rw [if_pos rfl] at H; exact H
          clear H
          have H := H1
          clear H1
          simp only [Option.some.injEq, Prod.mk.injEq] at H
          obtain ⟨rfl, rfl, rfl⟩ := H
          go_wp2
          repeat (go_quiet (fail); try go_wp2)
          go_ret3
          exact ⟨by first | rfl | (simp; done) | (simp [*]; done), by repeat (first | exact Drawn0.refl _ | apply Drawn0.step)⟩
        · replace c7 := Bool.eq_false_iff.mpr c7
          subst c7
          have H1 : (if t190 > (IntKind.u64.wrap ((t191.size : Int))) then (some ((⟨#[]⟩ : ByteArray), (⟨#[]⟩ : ByteArray), 2)) else (if 0 ≤ t190 then (if t190 ≤ (t191.size : Int) then (some (t191.extract 0 (t190 : Int).toNat, t191.extract (t190 : Int).toNat t191.size, 0)) else (none)) else (none))) = some (r1, r2, r3) := by rw [if_neg (show ¬ (false = true) by decide)] at H; exact H
          clear H
          have H := H1
          clear H1
          by_cases c8 : t190 > (IntKind.u64.wrap ((t191.size : Int)))
          · rw [if_pos c8] at H
            have c8b0 : decide ((IntKind.u64.wrap ((t191.size : Int))) < t190) = true := decide_eq_true c8
            clear c8
            simp only [Option.some.injEq, Prod.mk.injEq] at H
            obtain ⟨rfl, rfl, rfl⟩ := H
            go_wp2
            repeat (go_quiet (fail); try go_wp2)
            go_ret3
            exact ⟨by first | rfl | (simp; done) | (simp [*]; done), by repeat (first | exact Drawn0.refl _ | apply Drawn0.step)⟩
          · rw [if_neg c8] at H
            have c8b0 : decide ((IntKind.u64.wrap ((t191.size : Int))) < t190) = false := decide_eq_false c8
            clear c8
            by_cases c9 : 0 ≤ t190
            · rw [if_pos c9] at H
              have c9b0 := eq_true c9
              have c9b1 : decide (0 ≤ t190) = true := decide_eq_true c9
              clear c9
              by_cases c10 : t190 ≤ (t191.size : Int)
              · rw [if_pos c10] at H
                have c10b0 := eq_true c10
                have c10b1 : decide (t190 ≤ (t191.size : Int)) = true := decide_eq_true c10
                clear c10
                have c11b0 := eq_true (of_decide_eq_true (by first | (with_reducible assumption) | assumption) : 0 ≤ t190)
                have c12b0 := eq_true (of_decide_eq_true (by first | (with_reducible assumption) | assumption) : t190 ≤ (t191.size : Int))
                simp only [Option.some.injEq, Prod.mk.injEq] at H
                obtain ⟨rfl, rfl, rfl⟩ := H
                go_wp2
                repeat (go_quiet (fail); try go_wp2)
                go_ret3
                exact ⟨by first | rfl | (simp; done) | (simp [*]; done), by repeat (first | exact Drawn0.refl _ | apply Drawn0.step)⟩
              · rw [if_neg c10] at H
                exact absurd H (by simp)
            · rw [if_neg c9] at H
              exact absurd H (by simp)
  · rw [if_neg c4] at H
    have c4b0 : (t192 == 0) = false := beq_eq_false_iff_ne.mpr c4
    have c4b1 : (t192 != 0) = true := bne_iff_ne.mpr c4
    simp only [Option.some.injEq, Prod.mk.injEq] at H
    obtain ⟨rfl, rfl, rfl⟩ := H
    go_enter Try.func42, Try.ntmps42
    go_wp2_with (first | (go_at_call 41; (with_reducible refine (stanchionref01_TakeNum.calls k a0 t190 t191 t192 _ A3.out).mono ?_); rintro e w' ⟨rfl, ⟨nd, rfl⟩⟩; (try first | exact ⟨rfl, _, World.drewN_drewN _ _ _⟩ | exact ⟨rfl, _, Eq.trans (World.drewN_drewN _ _ _) (congrArg (World.drewN _) (Nat.add_assoc _ _ _))⟩)))
    repeat (go_quiet (first | (go_at_call 41; (with_reducible refine (stanchionref01_TakeNum.calls k a0 t190 t191 t192 _ A3.out).mono ?_); rintro e w' ⟨rfl, ⟨nd, rfl⟩⟩; (try first | exact ⟨rfl, _, World.drewN_drewN _ _ _⟩ | exact ⟨rfl, _, Eq.trans (World.drewN_drewN _ _ _) (congrArg (World.drewN _) (Nat.add_assoc _ _ _))⟩))); try go_wp2_with (first | (go_at_call 41; (with_reducible refine (stanchionref01_TakeNum.calls k a0 t190 t191 t192 _ A3.out).mono ?_); rintro e w' ⟨rfl, ⟨nd, rfl⟩⟩; (try first | exact ⟨rfl, _, World.drewN_drewN _ _ _⟩ | exact ⟨rfl, _, Eq.trans (World.drewN_drewN _ _ _) (congrArg (World.drewN _) (Nat.add_assoc _ _ _))⟩))))
    go_ret3
    exact ⟨by first | rfl | (simp; done) | (simp [*]; done), by repeat (first | exact Drawn0.refl _ | apply Drawn0.step)⟩

end Go.Proofs.Ythcdlgphabaidaa.PR
