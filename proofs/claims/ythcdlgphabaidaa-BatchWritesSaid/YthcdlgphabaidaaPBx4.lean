-- Made by a program of this workplace out of the translation (wip/tools in the repo). Not trusted: Lean checks it.
import Derived.Test.YthcdlgphabaidaaPBx0
import Derived.Test.YthcdlgphabaidaaPBx2
import Derived.Test.YthcdlgphabaidaaPBx3
namespace Go.Proofs.Ythcdlgphabaidaa.PB
open Go.RowKit Go.Proofs.YthcdlgphabaidaaW.PrintWords Go.Proofs.YthcdlgphabaidaaW.PrintLast Go.Proofs.YthcdlgphabaidaaW.PrintMore
attribute [local go_sem] max2_int min2_int max_two min_two max_three min_three max_four min_four   -- for this text's walks alone
set_option linter.unusedVariables false
set_option linter.unusedSimpArgs false

/-- a builder at block b that holds these bytes; all that was there ahead of b is as it was -/
def Bu (b : Nat) (s : ByteArray) (w : World) : Prop := Lib.IsBuilderF 73 5 b b (Lib.strCells s) w
theorem Bu.below {b : Nat} {s : ByteArray} {W W' : World} (h : Bu b s W) (hb : Below W.heap.size W W') : Bu b s W' := by
  have go : ∀ p, Lib.BuilderAtF 73 5 b b p (Lib.strCells s) W → Lib.BuilderAtF 73 5 b b p (Lib.strCells s) W' := fun p h => by
    obtain ⟨hB, v, hv, ho, hne⟩ := h
    obtain ⟨hl, ho⟩ := ho
    refine ⟨hB, v, blk_below hv hb, ⟨hl, ?_⟩, hne⟩
    rcases ho with ho | ⟨g, cap, cur, fz, h1, h2, h3, h4⟩
    · exact .inl ho
    · exact .inr ⟨g, cap, cur, fz, h1, h2, blk_below h3 hb, h4⟩
  exact h.elim (fun x => .inl (go _ x)) (fun x => .inr (go _ x))
theorem Bu.drew {b : Nat} {s : ByteArray} {w : World} (h : Bu b s w) : Bu b s w.drew := h
theorem Bu.drewN {b : Nat} {s : ByteArray} {w : World} (h : Bu b s w) (n : Nat) : Bu b s (w.drewN n) := h
theorem Bu.alloc {b : Nat} {s : ByteArray} {w : World} (h : Bu b s w) (o : Obj) : Bu b s (w.alloc o) := h.below ((Below.refl _ _).alloc (Nat.le_refl _) o)
theorem Bu.blk {b : Nat} {s : ByteArray} {w : World} (h : Bu b s w) : ∃ p v, w.heap[b]? = some (.cells #[p, v] 73 (0, 0)) := h.elim (fun ⟨_, v, hv, _⟩ => ⟨_, v, hv⟩) (fun ⟨_, v, hv, _⟩ => ⟨_, v, hv⟩)
theorem Bu.far {b g i : Nat} {s : ByteArray} {w : World} {t : TypeId} {cs : Array Value} {u : Value} (h : Bu b s w) (hg : w.heap[g]? = some (.cells cs t (0, 0))) (ht : t ≠ 73) (h5 : t ≠ 5) : Bu b s (w.setCell ⟨g, i, none⟩ u) := by
  have go : ∀ p, Lib.BuilderAtF 73 5 b b p (Lib.strCells s) w → Lib.BuilderAtF 73 5 b b p (Lib.strCells s) (w.setCell ⟨g, i, none⟩ u) := fun p h => by
    obtain ⟨hB, v, hv, ⟨hl, ho⟩, hne⟩ := h
    refine ⟨hB, v, blk_far hv (fun e => ?_) u, ⟨hl, ?_⟩, hne⟩
    · subst e
      rw [hv] at hg
      injection hg with hg
      injection hg with _ hg
      exact ht hg.symm
    · rcases ho with ho | ⟨g1, cap, cur, fz, h1, h2, h3, h4⟩
      · exact .inl ho
      · refine .inr ⟨g1, cap, cur, fz, h1, h2, (Below.heap_setCell w ⟨g, i, none⟩ u g1 (fun e => ?_)).trans h3, h4⟩
        have e : g1 = g := e
        subst e
        rw [h3] at hg
        injection hg with hg
        injection hg with _ hg
        exact h5 hg.symm
  exact h.elim (fun x => .inl (go _ x)) (fun x => .inr (go _ x))
theorem bu_kept {b g : Nat} {s : ByteArray} {w w' : World} {t : TypeId} {cs : Array Value} (hk : Lib.OthersKept 5 (some b) w w') (h : Bu b s w) (hg : w.heap[g]? = some (.cells cs t (0, 0))) (ht : t ≠ 73) (h5 : t ≠ 5) : w'.heap[g]? = some (.cells cs t (0, 0)) := by
  refine hk g _ hg (fun e => ?_) (fun c fz e => ?_)
  · obtain ⟨p, v, hv⟩ := h.blk
    cases e
    rw [hv] at hg
    injection hg with hg
    injection hg with _ hg
    exact ht hg.symm
  · injection e with _ e
    exact h5 e
theorem Bu.lt {b : Nat} {s : ByteArray} {w : World} (h : Bu b s w) : b < w.heap.size := h.elim (·.lt) (·.lt)
theorem Bu.new {b : Nat} {w : World} (h : w.heap[b]? = some (.cells #[.pointer none, .slice none 0 0] 73 (0, 0))) : Bu b ⟨#[]⟩ w :=
  .inl ⟨Nat.le_refl _, .slice none 0 0, h, ⟨by decide, .inl ⟨rfl, rfl⟩⟩, by simp [Value.ownBlock]⟩
theorem strCells_append (a b : ByteArray) : Lib.strCells (a ++ b) = Lib.strCells a ++ Lib.strCells b := by
  simp [Lib.strCells]
set_option maxHeartbeats 2000000 in
set_option maxRecDepth 100000 in
theorem bu_check.calls (b : Nat) (bs : List Value) (w : World) (h : Lib.IsBuilderF 73 5 b b bs w) :
    Calls Try.prog 54 #[.pointer (some ⟨b, 0, none⟩)] w fun e w' => e = .returned (.tuple #[]) ∧ Lib.BuilderAtF 73 5 b b (.pointer (some ⟨b, 0, none⟩)) bs w' ∧ Below b w w' ∧ Lib.OthersKept 5 (some b) w w' := by
  have hj0 : (Try.prog.info? 73).map (·.size) = some 2 := by kernel_rfl
  obtain ⟨j, hj, hjs⟩ := Option.map_eq_some_iff.1 hj0
  rcases h with h | h
  · have h0 := h.cell0
    have hsh := h.shape
    have hfz := h.frozen0
    have H := Aside0.mk h
    clear h
    go_enter Try.func54, Try.ntmps54
    go_wp2
    rw [Lib.run_to_unsafe w ⟨b, 0, none⟩ Try.underlying70 Try.underlying112 hj (by rw [hjs]; decide) hsh (Nat.zero_lt_succ 1)]
    simp only [Result.andThen]
    rw [Oper.upon_value]
    go_wp2
    rw [run_callFunc_extern Try.func67 (by kernel_rfl) (by kernel_rfl) (by kernel_rfl) (e := Extern.AbiNoEscape.same) (by kernel_rfl)]
    rw [Lib.run_noEscape]
    simp only [Result.andThen]
    rw [Oper.upon_value]
    go_wp2
    rw [Lib.run_from_unsafe w ⟨b, 0, none⟩ Try.underlying112 Try.underlying70 hj hsh (by kernel_rfl)]
    simp only [Result.andThen]
    rw [Oper.upon_value]
    go_wp2
    go_end0
    exact ⟨rfl, H.out.used _, (Below.refl b w).setCell (p := ⟨b, 0, none⟩) (Nat.le_refl _) _, (Lib.OthersKept.refl _ _ w).setCell ⟨b, 0, none⟩ rfl _⟩
  · have h0 := h.cell0
    have H := Aside0.mk h
    clear h
    go_enter Try.func54, Try.ntmps54
    go_wp2
    rw [Lib.run_neq_ptr_same w _ Try.underlying70 hj]
    go_wp2
    go_end0
    exact ⟨rfl, H.out, Below.refl b _, Lib.OthersKept.refl _ _ _⟩
set_option maxHeartbeats 2000000 in
set_option maxRecDepth 100000 in
theorem bu_write.calls (b : Nat) (acc s : ByteArray) (w : World) (h : Bu b acc w) (hlen : acc.size + s.size ≤ 140737488355328) :
    Calls Try.prog 33 #[.pointer (some ⟨b, 0, none⟩), .string s] w fun e w' => ∃ n : Int, e = .returned (.tuple #[.int .i64 n, .nilIface]) ∧ Bu b (acc ++ s) w' ∧ Below b w w' ∧ Lib.OthersKept 5 (some b) w w' := by
  have hi0 : (Try.prog.info? 5).map (fun i => (i.zero, i.size, i.bytes)) = some (some (.int .u8 0), 1, 1) := by kernel_rfl
  obtain ⟨i0, hi, hz0, hz1, hz2⟩ := info_parts hi0
  have HL := h.lt
  have hl := Lib.strCells_length acc
  go_enter Try.func33, Try.ntmps33
  go_wp2_with (go_at_call 54; refine (bu_check.calls b (Lib.strCells acc) w h).mono ?_)
  rintro e w1 ⟨rfl, h1, hb1, hk1⟩
  obtain ⟨hB, v, hbk, hown, hne⟩ := h1
  have c0 : w1.cell? ⟨b, 0, none⟩ = some (.pointer (some ⟨b, 0, none⟩)) := (blk_cell hbk 0).trans rfl
  have c1 : w1.cell? ⟨b, 1, none⟩ = some v := (blk_cell hbk 1).trans rfl
  go_wp2_with (at_builtin; refine Lib.wpList_append_own_stringF _ rfl _ _ 71 9 rfl b 5 i0 Try.underlying71 Try.underlying9 hi hz0 hz1 hz2 _ _ _ rfl hown s rfl ?c3 ?c4 ?c5 ?_)
  case c3 => unfold maxLen; omega
  case c4 => omega
  case c5 => have := hb1.size; omega
  intro v' w2 hown' hgrow _
  have hb2 : w2.heap[b]? = some (.cells #[.pointer (some ⟨b, 0, none⟩), v] 73 (0, 0)) := blk_grown hbk hgrow (fun e => hne e.symm)
  have d0 : w2.cell? ⟨b, 0, none⟩ = some (.pointer (some ⟨b, 0, none⟩)) := (blk_cell hb2 0).trans rfl
  have d1 : w2.cell? ⟨b, 1, none⟩ = some v := (blk_cell hb2 1).trans rfl
  have f1 : w2.frozen? ⟨b, 1, none⟩ = false := blk_frozen hb2 1
  obtain ⟨ao, n', cap, rfl⟩ : ∃ ao n' cap, v' = .slice ao n' cap := by
    rcases hown'.2 with ⟨hv, _⟩ | ⟨g, cap, cur, fz, hv, _⟩
    · exact ⟨_, _, _, hv⟩
    · exact ⟨_, _, _, hv⟩
  go_wp2
  go_ret2
  refine ⟨_, rfl, .inr ?_, ?_, (hk1.grown hgrow (Lib.ownsRowF_kind hown)).setCell ⟨b, 1, none⟩ rfl _⟩
  · rw [strCells_append]
    exact Lib.BuilderAtF.put (T := 73) (e := 5) hB hb2 (bs' := Lib.strCells acc ++ Lib.strCells s) (by simpa [Lib.strCells_length] using hown') (by decide)
  · exact (hb1.grown hgrow (by have := hb1.size; omega) (fun k hk => (hown.lt k hk).1)).setCell (p := ⟨b, 1, none⟩) hB _
theorem bu_string.calls (b : Nat) (s : ByteArray) (w : World) (h : Bu b s w) :
    Calls Try.prog 36 #[.pointer (some ⟨b, 0, none⟩)] w fun e w' => e = .returned (.string s) ∧ Below b w w' :=
  (Go.Proofs.Try.Builder_String_any_k b b s.data.toList w h (Nat.le_of_lt h.lt)).mono (fun e w' hh => ⟨hh.1, hh.2.2.1⟩)
/-! ### batch_Bytes: function 18 -/
def batch_Bytes.T4 : Bool × List (List Nat × List Nat) := (true, [([], []), ([0], [0]), ([1], [1]), ([2], [2]), ([], []), ([4], [4]), ([5, 3], [5]), ([3, 6], [3, 6]), ([], []), ([8], [8]), ([9], [9]), ([10], [10]), ([11, 6], [11]), ([7, 12], [7, 12]), ([13, 12], [13])])
def batch_Bytes.B4 : List Nat := [0, 1, 3, 7, 0, 16, 63, 127, 0, 256, 768, 1792, 3967, 8191, 16383]
theorem batch_Bytes.tab4 : rtab .any (opsOf Try.f18 4) = batch_Bytes.T4 := by kernel_rfl
theorem batch_Bytes.bits4 : waitsOk batch_Bytes.T4.2 batch_Bytes.B4 = true := by kernel_rfl
def batch_Bytes.T11 : Bool × List (List Nat × List Nat) := (true, [([], []), ([0], [0]), ([], []), ([2], [2]), ([3, 1], [3]), ([1, 4], [1, 4]), ([], []), ([6], [6]), ([7, 4], [7]), ([5, 8], [5, 8]), ([9, 8], [9])])
def batch_Bytes.B11 : List Nat := [0, 1, 0, 4, 15, 31, 0, 64, 223, 511, 1023]
theorem batch_Bytes.tab11 : rtab .any (opsOf Try.f18 11) = batch_Bytes.T11 := by kernel_rfl
theorem batch_Bytes.bits11 : waitsOk batch_Bytes.T11.2 batch_Bytes.B11 = true := by kernel_rfl
set_option maxHeartbeats 8000000 in
set_option maxRecDepth 100000 in
theorem batch_Bytes.calls (k : Nat) (a0_0 : Int) (a0_1 : ByteArray) (A0_2 : Option Addr) (c0_2 : Nat) (l0_2 : List (S54)) (r1 : ByteArray) (r2 : Int) (w : World) (hr0_2 : Kd.C k54 w A0_2 l0_2.length l0_2) (hc0_2 : l0_2.length ≤ c0_2) (h : batch_Bytes.f k a0_0 a0_1 l0_2 = some (r1, r2)) :
    Calls Try.prog 18 #[.agg #[.int .i64 a0_0, .string a0_1, .slice A0_2 l0_2.length c0_2]] w fun e w' => e = .returned (.tuple #[.string r1, .int .i64 r2]) ∧ Below w.heap.size w w' := by
  have hu37 := Try.underlying37
  have hu54 := Try.underlying54
  have HR0_2 := Aside0.mk hr0_2
  have HC0_2 := Aside0.mk hc0_2
  clear hr0_2 hc0_2
  have HB := Aside0.mk (Below.refl w.heap.size w)
  have H : ((batch_May.f k a0_0 a0_1 l0_2).bind fun t108 => (if t108 = true then ((dec_Num.f (IntKind.u64.wrap (a0_0))).bind fun t109 => ((dec_Text.f a0_1).bind fun t110 => (if t109.size + t110.size ≤ 9223372036854775807 then ((dec_Num.f (IntKind.u64.wrap ((l0_2.length : Int)))).bind fun t111 => (if (t109 ++ t110).size + t111.size ≤ 9223372036854775807 then (if 0 + ((t109 ++ t110) ++ t111).size ≤ 140737488355328 then (batch_Bytes.l0 k ((⟨#[]⟩ : ByteArray) ++ ((t109 ++ t110) ++ t111)) l0_2 (l0_2.length : Int) 0) else (none)) else (none))) else (none)))) else (some ((⟨#[]⟩ : ByteArray), 1)))) = some (r1, r2) := h
  clear h
  replace H := Option.bind_eq_some_iff.mp H
  obtain ⟨t108, A20, H⟩ := H
  replace H : (if t108 = true then ((dec_Num.f (IntKind.u64.wrap (a0_0))).bind fun t109 => ((dec_Text.f a0_1).bind fun t110 => (if t109.size + t110.size ≤ 9223372036854775807 then ((dec_Num.f (IntKind.u64.wrap ((l0_2.length : Int)))).bind fun t111 => (if (t109 ++ t110).size + t111.size ≤ 9223372036854775807 then (if 0 + ((t109 ++ t110) ++ t111).size ≤ 140737488355328 then (batch_Bytes.l0 k ((⟨#[]⟩ : ByteArray) ++ ((t109 ++ t110) ++ t111)) l0_2 (l0_2.length : Int) 0) else (none)) else (none))) else (none)))) else (some ((⟨#[]⟩ : ByteArray), 1))) = some (r1, r2) := H
  have A2 := Aside0.mk A20
  clear A20
  by_cases c3 : t108 = true
  · subst c3
    have H1 : ((dec_Num.f (IntKind.u64.wrap (a0_0))).bind fun t109 => ((dec_Text.f a0_1).bind fun t110 => (if t109.size + t110.size ≤ 9223372036854775807 then ((dec_Num.f (IntKind.u64.wrap ((l0_2.length : Int)))).bind fun t111 => (if (t109 ++ t110).size + t111.size ≤ 9223372036854775807 then (if 0 + ((t109 ++ t110) ++ t111).size ≤ 140737488355328 then (batch_Bytes.l0 k ((⟨#[]⟩ : ByteArray) ++ ((t109 ++ t110) ++ t111)) l0_2 (l0_2.length : Int) 0) else (none)) else (none))) else (none)))) = some (r1, r2) := by rw [if_pos rfl] at H; exact H
    clear H
    have H := H1
    clear H1
    replace H := Option.bind_eq_some_iff.mp H
    obtain ⟨t109, A40, H⟩ := H
    replace H : ((dec_Text.f a0_1).bind fun t110 => (if t109.size + t110.size ≤ 9223372036854775807 then ((dec_Num.f (IntKind.u64.wrap ((l0_2.length : Int)))).bind fun t111 => (if (t109 ++ t110).size + t111.size ≤ 9223372036854775807 then (if 0 + ((t109 ++ t110) ++ t111).size ≤ 140737488355328 then (batch_Bytes.l0 k ((⟨#[]⟩ : ByteArray) ++ ((t109 ++ t110) ++ t111)) l0_2 (l0_2.length : Int) 0) else (none)) else (none))) else (none))) = some (r1, r2) := H
    have A4 := Aside0.mk A40
    clear A40
    replace H := Option.bind_eq_some_iff.mp H
    obtain ⟨t110, A50, H⟩ := H
    replace H : (if t109.size + t110.size ≤ 9223372036854775807 then ((dec_Num.f (IntKind.u64.wrap ((l0_2.length : Int)))).bind fun t111 => (if (t109 ++ t110).size + t111.size ≤ 9223372036854775807 then (if 0 + ((t109 ++ t110) ++ t111).size ≤ 140737488355328 then (batch_Bytes.l0 k ((⟨#[]⟩ : ByteArray) ++ ((t109 ++ t110) ++ t111)) l0_2 (l0_2.length : Int) 0) else (none)) else (none))) else (none)) = some (r1, r2) := H
    have A5 := Aside0.mk A50
    clear A50
    by_cases c6 : t109.size + t110.size ≤ 9223372036854775807
    · rw [if_pos c6] at H
      have c6b0 := eq_true c6
      have c6b1 : decide (t109.size + t110.size ≤ 9223372036854775807) = true := decide_eq_true c6
      try have c6b2 : (9223372036854775807 < t109.size + t110.size) = False := eq_false (Nat.not_lt.2 c6)
      replace H := Option.bind_eq_some_iff.mp H
      obtain ⟨t111, A70, H⟩ := H
      replace H : (if (t109 ++ t110).size + t111.size ≤ 9223372036854775807 then (if 0 + ((t109 ++ t110) ++ t111).size ≤ 140737488355328 then (batch_Bytes.l0 k ((⟨#[]⟩ : ByteArray) ++ ((t109 ++ t110) ++ t111)) l0_2 (l0_2.length : Int) 0) else (none)) else (none)) = some (r1, r2) := H
      have A7 := Aside0.mk A70
      clear A70
      by_cases c8 : (t109 ++ t110).size + t111.size ≤ 9223372036854775807
      · rw [if_pos c8] at H
        have c8b0 := eq_true c8
        have c8b1 : decide ((t109 ++ t110).size + t111.size ≤ 9223372036854775807) = true := decide_eq_true c8
        try have c8b2 : (9223372036854775807 < (t109 ++ t110).size + t111.size) = False := eq_false (Nat.not_lt.2 c8)
        try (have c8b3 := c8b2; simp only [ByteArray.size_append] at c8b3)
        by_cases c9 : 0 + ((t109 ++ t110) ++ t111).size ≤ 140737488355328
        · rw [if_pos c9] at H
          have c9b0 := eq_true c9
          have c9b1 : decide (0 + ((t109 ++ t110) ++ t111).size ≤ 140737488355328) = true := decide_eq_true c9
          try have c9b2 : (9223372036854775807 < 0 + ((t109 ++ t110) ++ t111).size) = False := eq_false (Nat.not_lt.2 c9)
          try (have c9b3 := c9b2; simp only [ByteArray.size_append] at c9b3)
          have H' := Aside0.mk H
          clear H
          go_enter Try.func18, Try.ntmps18
          try go_wp2_with (first | ((with_reducible refine gate_dst (N := 1) rfl ?_); refine box_event ?hg (N := 1) ?hd (cs := #[.int .i64 a0_0, .string a0_1, .slice A0_2 l0_2.length c0_2]) (t := 37) ?hr ?_; (case hd => rfl); (case hg => rfl); (case hr => first | (go_simp; done) | (go_simp; rfl)); intro gb107 hg w10 hbox hb; have n0_ := Aside0.mk (below_step (by repeat (first | (with_reducible first | exact HB.out | apply below_alloc | apply pw_below_drewN | apply below_drew1) | exact HB.out)) hb); have n1_ := Aside0.mk (hbox); have n2_ := Aside0.mk ((by rw [hg]; exact (below_size (by repeat (first | (with_reducible first | exact HB.out | apply below_alloc | apply pw_below_drewN | apply below_drew1) | exact HB.out))) : w.heap.size ≤ gb107)); have n3_ := Aside0.mk ((by rw [hg]; exact (below_size (by repeat (first | (with_reducible first | exact HB.out | apply below_alloc | apply pw_below_drewN | apply below_drew1) | exact HB.out))) : w.heap.size ≤ gb107)); clear HB; have HB := n0_; have BK107 := n1_; have GW107 := n2_; have GE107 := n3_; clear n0_ n1_ n2_ n3_; clear hb hbox hg; have hcz11_0 : w10.cell? ⟨gb107, 0, none⟩ = some (.int .i64 a0_0) := (blk_cell BK107.out 0).trans rfl; have hcz11_1 : w10.cell? ⟨gb107, 1, none⟩ = some (.string a0_1) := (blk_cell BK107.out 1).trans rfl; have hcz11_2 : w10.cell? ⟨gb107, 2, none⟩ = some (.slice A0_2 l0_2.length c0_2) := (blk_cell BK107.out 2).trans rfl; have hfz11_0 := blk_frozen BK107.out 0; have hfz11_1 := blk_frozen BK107.out 1; have hfz11_2 := blk_frozen BK107.out 2) | ((with_reducible refine gate_callee (f := 23) rfl ?_); refine goesL_ (some 9) rfl rfl Try.func23 (by kernel_rfl) rfl #[.agg #[.int .i64 a0_0, .string a0_1, .slice A0_2 l0_2.length c0_2]] rfl (by (try simp only [List.map_toArray, List.map_cons, List.map_nil]); first | done | rfl | (simp only [List.length_drop, List.length_take]; rfl)) ?_; (with_reducible refine (batch_May.calls k a0_0 a0_1 _ _ l0_2 true _ ?side1 ?side2 A2.out).mono ?_); (case side1 => repeat (first | exact (Kd.C_below HR0_2.out HB.out) | (with_reducible refine Kd.C_alloc ?_ _) | (with_reducible refine Kd.C_drewN ?_ _) | (with_reducible refine Kd.C_drew ?_))); (case side2 => exact HC0_2.out); rintro e w12 ⟨rfl, hb⟩; refine ⟨_, rfl, ?_⟩; have n0_ := Aside0.mk (blk_below (g := gb107) (o := .cells #[.int .i64 a0_0, .string a0_1, .slice A0_2 l0_2.length c0_2] 37 (0, 0)) (by (with_reducible repeat (first | refine blk_drewN ?_ _ | refine blk_drew ?_ | refine blk_alloc ?_ _)); exact BK107.out) hb); have n1_ := Aside0.mk (below_step (by repeat (first | (with_reducible first | exact HB.out | apply below_alloc | apply pw_below_drewN | apply below_drew1 | refine below_set ?_ GE107.out) | exact HB.out)) hb); clear BK107; clear HB; have BK107 := n0_; have HB := n1_; clear n0_ n1_; (try clear hb); (try clear hb2); (try clear hk); (try clear hi)) | ((with_reducible refine gate_dst (N := 4) rfl ?_); (try (refine gate_guard (by rfl) ?_; dsimp only)); refine box_event ?hg (N := 4) ?hd (cs := #[.pointer none, .slice none 0 0]) (t := 73) ?hr ?_; (case hd => rfl); (case hg => rfl); (case hr => first | (go_simp; done) | (go_simp; rfl)); intro gbU hg w12U hbox hb; have n0_ := Aside0.mk (blk_below (g := gb107) (o := .cells #[.int .i64 a0_0, .string a0_1, .slice A0_2 l0_2.length c0_2] 37 (0, 0)) (by (with_reducible repeat (first | refine blk_drewN ?_ _ | refine blk_drew ?_ | refine blk_alloc ?_ _)); exact BK107.out) hb); have n1_ := Aside0.mk (below_step (by repeat (first | (with_reducible first | exact HB.out | apply below_alloc | apply pw_below_drewN | apply below_drew1 | refine below_set ?_ GE107.out) | exact HB.out)) hb); have GEU := Aside0.mk ((by rw [hg]; exact below_size HB.out) : w.heap.size ≤ gbU); clear BK107 HB; have BK107 := n0_; have HB := n1_; clear n0_ n1_; have BKU := Aside0.mk (Bu.new hbox); clear hbox hb hg))
          have n0_ := Aside0.mk (blk_drew BK107.out); have nU_ := Aside0.mk (Bu.drew BKU.out)
          have n1_ := Aside0.mk (below_drew1 HB.out)
          clear BK107 BKU
          clear HB
          have BK107 := n0_; have BKU := nU_
          have HB := n1_
          clear n0_ n1_; (try clear nU_)
          refine start_ (n := 15) (S := fun w' => w'.cell? ⟨gb107, 0, none⟩ = some (.int .i64 a0_0) ∧ w'.cell? ⟨gb107, 1, none⟩ = some (.string a0_1) ∧ w'.cell? ⟨gb107, 2, none⟩ = some (.slice A0_2 l0_2.length c0_2)) (ds := []) #[false, false, false, false, false, false, false, false, false, false, false, false, false, false, false] (by kernel_rfl) rfl rfl ⟨(blk_cell BK107.out 0).trans rfl, (blk_cell BK107.out 1).trans rfl, (blk_cell BK107.out 2).trans rfl⟩ (fun hHeld => ?_); refine with_tabW batch_Bytes.tab4 batch_Bytes.bits4 (fun HT_ HW_ => ?_)
          generalize w12U.drew = w13 at BKU BK107 HB hHeld ⊢
          refine pure_ (i := 0) (N := some 11) (v := ?_) (a' := ?_) #[true, false, false, false, false, false, false, false, false, false, false, false, false, false, false] rfl rfl (any_of HT_.out (by kernel_rfl)) (fun _ _ _ h => h) (Or.inl ⟨by rfl, ?_⟩) ?_ ?_
          rotate_left
          · intro w'
            go_simp
            with_reducible rfl
          rotate_left
          · simp only [Act.put, List.setIfInBounds_toArray, List.set_cons_zero, List.set_cons_succ, i64_w, i32_w]
            rfl
          refine pure_ (i := 4) (N := some 15) (v := ?_) (a' := ?_) #[true, false, false, false, true, false, false, false, false, false, false, false, false, false, false] rfl rfl (any_of HT_.out (by kernel_rfl)) (fun _ _ _ h => h) (Or.inl ⟨by rfl, ?_⟩) ?_ ?_
          rotate_left
          · intro w'
            go_simp
            with_reducible rfl
          rotate_left
          · simp only [Act.put, List.setIfInBounds_toArray, List.set_cons_zero, List.set_cons_succ, i64_w, i32_w]
            rfl
          refine pure_ (i := 8) (N := some 19) (v := ?_) (a' := ?_) #[true, false, false, false, true, false, false, false, true, false, false, false, false, false, false] rfl rfl (any_of HT_.out (by kernel_rfl)) (fun _ _ _ h => h) (Or.inl ⟨by rfl, ?_⟩) ?_ ?_
          rotate_left
          · intro w'
            go_simp
            with_reducible rfl
          rotate_left
          · simp only [Act.put, List.setIfInBounds_toArray, List.set_cons_zero, List.set_cons_succ, i64_w, i32_w]
            rfl
          refine take_ (i := 1) (N := some 12) (v := ?_) (a' := ?_) #[true, true, false, false, true, false, false, false, true, false, false, false, false, false, false] rfl rfl (take_ofW HT_.out HW_.out (by kernel_rfl)) (fun _ _ _ h => h) (Or.inl ⟨by rfl, ?_⟩) hHeld ?_ ?_
          rotate_left
          · rintro w' ⟨s0, s1, s2⟩
            go_simp
            with_reducible rfl
          rotate_left
          · simp only [Act.put, List.setIfInBounds_toArray, List.set_cons_zero, List.set_cons_succ, i64_w, i32_w]
            rfl
          refine pure_ (i := 2) (N := some 13) (v := ?_) (a' := ?_) #[true, true, true, false, true, false, false, false, true, false, false, false, false, false, false] rfl rfl (any_of HT_.out (by kernel_rfl)) (fun _ _ _ h => h) (Or.inl ⟨by rfl, ?_⟩) ?_ ?_
          rotate_left
          · intro w'
            go_simp
            with_reducible rfl
          rotate_left
          · simp only [Act.put, List.setIfInBounds_toArray, List.set_cons_zero, List.set_cons_succ, i64_w, i32_w]
            rfl
          refine take_ (i := 5) (N := some 16) (v := ?_) (a' := ?_) #[true, true, true, false, true, true, false, false, true, false, false, false, false, false, false] rfl rfl (take_ofW HT_.out HW_.out (by kernel_rfl)) (fun _ _ _ h => h) (Or.inl ⟨by rfl, ?_⟩) hHeld ?_ ?_
          rotate_left
          · rintro w' ⟨s0, s1, s2⟩
            go_simp
            with_reducible rfl
          rotate_left
          · simp only [Act.put, List.setIfInBounds_toArray, List.set_cons_zero, List.set_cons_succ, i64_w, i32_w]
            rfl
          refine take_ (i := 9) (N := some 20) (v := ?_) (a' := ?_) #[true, true, true, false, true, true, false, false, true, true, false, false, false, false, false] rfl rfl (take_ofW HT_.out HW_.out (by kernel_rfl)) (fun _ _ _ h => h) (Or.inl ⟨by rfl, ?_⟩) hHeld ?_ ?_
          rotate_left
          · rintro w' ⟨s0, s1, s2⟩
            go_simp
            with_reducible rfl
          rotate_left
          · simp only [Act.put, List.setIfInBounds_toArray, List.set_cons_zero, List.set_cons_succ, i64_w, i32_w]
            rfl
          refine pure_ (i := 10) (N := some 21) (v := ?_) (a' := ?_) #[true, true, true, false, true, true, false, false, true, true, true, false, false, false, false] rfl rfl (any_of HT_.out (by kernel_rfl)) (fun _ _ _ h => h) (Or.inl ⟨by rfl, ?_⟩) ?_ ?_
          rotate_left
          · intro w'
            go_simp
            with_reducible rfl
          rotate_left
          · simp only [Act.put, List.setIfInBounds_toArray, List.set_cons_zero, List.set_cons_succ, i64_w, i32_w]
            rfl
          refine pure_ (i := 11) (N := some 22) (v := ?_) (a' := ?_) #[true, true, true, false, true, true, false, false, true, true, true, true, false, false, false] rfl rfl (any_of HT_.out (by kernel_rfl)) (fun _ _ _ h => h) (Or.inl ⟨by rfl, ?_⟩) ?_ ?_
          rotate_left
          · intro w'
            go_simp
            with_reducible rfl
          rotate_left
          · simp only [Act.put, List.setIfInBounds_toArray, List.set_cons_zero, List.set_cons_succ, i64_w, i32_w]
            rfl
          refine one_ (i := 3) (N := some 14) #[true, true, true, true, true, true, false, false, true, true, true, true, false, false, false] rfl rfl (one_of HT_.out (by kernel_rfl)) (by decide) (fun K hK => ?_)
          refine goes_ Try.func34 (by kernel_rfl) rfl #[.int .u64 (IntKind.u64.wrap (a0_0))] (by rfl) rfl rfl (by (try simp only [List.map_toArray, List.map_cons, List.map_nil]); first | done | rfl | (simp only [List.length_drop, List.length_take]; rfl) | (simp (disch := omega) only [IntWalk.u64_in]; first | done | rfl)) ?_
          with_reducible refine (dec_Num.calls (IntKind.u64.wrap (a0_0)) t109 _ A4.out).mono ?_
          rintro e w14 ⟨rfl, hb⟩
          refine ⟨_, rfl, ?_⟩
          have n0_ := Aside0.mk (blk_below (g := gb107) (o := .cells #[.int .i64 a0_0, .string a0_1, .slice A0_2 l0_2.length c0_2] 37 (0, 0)) (by (with_reducible repeat (first | refine blk_drewN ?_ _ | refine blk_drew ?_ | refine blk_alloc ?_ _)); exact BK107.out) hb); have nU_ := Aside0.mk (Bu.below (by (with_reducible repeat (first | refine Bu.drewN ?_ _ | refine Bu.drew ?_ | refine Bu.alloc ?_ _)); exact BKU.out) hb)
          have n1_ := Aside0.mk (below_step (by repeat (first | (with_reducible first | exact HB.out | apply below_alloc | apply pw_below_drewN | apply below_drew1 | refine below_set ?_ GE107.out) | exact HB.out)) hb)
          clear BK107 BKU
          clear HB
          have BK107 := n0_; have BKU := nU_
          have HB := n1_
          clear n0_ n1_; (try clear nU_)
          (try clear hb)
          (try clear hb2)
          (try clear hk)
          (try clear hi)
          refine hK.out _ _ ⟨(blk_cell BK107.out 0).trans rfl, (blk_cell BK107.out 1).trans rfl, (blk_cell BK107.out 2).trans rfl⟩ (fun hHeld => ?_)
          clear hK K
          refine norm_ (a' := ?_) ?_ ?_
          rotate_left
          · show Act.put _ (some 14) _ = _
            simp only [Act.put, List.setIfInBounds_toArray, List.set_cons_zero, List.set_cons_succ, i64_w, i32_w]
            rfl
          refine one_ (i := 6) (N := some 17) #[true, true, true, true, true, true, true, false, true, true, true, true, false, false, false] rfl rfl (one_of HT_.out (by kernel_rfl)) (by decide) (fun K hK => ?_)
          refine goes_ Try.func35 (by kernel_rfl) rfl #[.string a0_1] (by rfl) rfl rfl (by (try simp only [List.map_toArray, List.map_cons, List.map_nil]); first | done | rfl | (simp only [List.length_drop, List.length_take]; rfl)) ?_
          with_reducible refine (dec_Text.calls a0_1 t110 _ A5.out).mono ?_
          rintro e w15 ⟨rfl, hb⟩
          refine ⟨_, rfl, ?_⟩
          have n0_ := Aside0.mk (blk_below (g := gb107) (o := .cells #[.int .i64 a0_0, .string a0_1, .slice A0_2 l0_2.length c0_2] 37 (0, 0)) (by (with_reducible repeat (first | refine blk_drewN ?_ _ | refine blk_drew ?_ | refine blk_alloc ?_ _)); exact BK107.out) hb); have nU_ := Aside0.mk (Bu.below (by (with_reducible repeat (first | refine Bu.drewN ?_ _ | refine Bu.drew ?_ | refine Bu.alloc ?_ _)); exact BKU.out) hb)
          have n1_ := Aside0.mk (below_step (by repeat (first | (with_reducible first | exact HB.out | apply below_alloc | apply pw_below_drewN | apply below_drew1 | refine below_set ?_ GE107.out) | exact HB.out)) hb)
          clear BK107 BKU
          clear HB
          have BK107 := n0_; have BKU := nU_
          have HB := n1_
          clear n0_ n1_; (try clear nU_)
          (try clear hb)
          (try clear hb2)
          (try clear hk)
          (try clear hi)
          refine hK.out _ _ ⟨(blk_cell BK107.out 0).trans rfl, (blk_cell BK107.out 1).trans rfl, (blk_cell BK107.out 2).trans rfl⟩ (fun hHeld => ?_)
          clear hK K
          refine norm_ (a' := ?_) ?_ ?_
          rotate_left
          · show Act.put _ (some 17) _ = _
            simp only [Act.put, List.setIfInBounds_toArray, List.set_cons_zero, List.set_cons_succ, i64_w, i32_w]
            rfl
          refine pure_ (i := 7) (N := some 18) (v := ?_) (a' := ?_) #[true, true, true, true, true, true, true, true, true, true, true, true, false, false, false] rfl rfl (any_of HT_.out (by kernel_rfl)) (fun _ _ _ h => h) (Or.inl ⟨by rfl, ?_⟩) ?_ ?_
          rotate_left
          · intro w'
            go_simp
            with_reducible rfl
          rotate_left
          · simp only [Act.put, List.setIfInBounds_toArray, List.set_cons_zero, List.set_cons_succ, i64_w, i32_w]
            rfl
          refine one_ (i := 12) (N := some 23) #[true, true, true, true, true, true, true, true, true, true, true, true, true, false, false] rfl rfl (one_of HT_.out (by kernel_rfl)) (by decide) (fun K hK => ?_)
          refine goes_ Try.func34 (by kernel_rfl) rfl #[.int .u64 (IntKind.u64.wrap ((l0_2.length : Int)))] (by rfl) rfl rfl (by (try simp only [List.map_toArray, List.map_cons, List.map_nil]); first | done | rfl | (simp only [List.length_drop, List.length_take]; rfl) | (simp (disch := omega) only [IntWalk.u64_in]; first | done | rfl)) ?_
          with_reducible refine (dec_Num.calls (IntKind.u64.wrap ((l0_2.length : Int))) t111 _ A7.out).mono ?_
          rintro e w16 ⟨rfl, hb⟩
          refine ⟨_, rfl, ?_⟩
          have n0_ := Aside0.mk (blk_below (g := gb107) (o := .cells #[.int .i64 a0_0, .string a0_1, .slice A0_2 l0_2.length c0_2] 37 (0, 0)) (by (with_reducible repeat (first | refine blk_drewN ?_ _ | refine blk_drew ?_ | refine blk_alloc ?_ _)); exact BK107.out) hb); have nU_ := Aside0.mk (Bu.below (by (with_reducible repeat (first | refine Bu.drewN ?_ _ | refine Bu.drew ?_ | refine Bu.alloc ?_ _)); exact BKU.out) hb)
          have n1_ := Aside0.mk (below_step (by repeat (first | (with_reducible first | exact HB.out | apply below_alloc | apply pw_below_drewN | apply below_drew1 | refine below_set ?_ GE107.out) | exact HB.out)) hb)
          clear BK107 BKU
          clear HB
          have BK107 := n0_; have BKU := nU_
          have HB := n1_
          clear n0_ n1_; (try clear nU_)
          (try clear hb)
          (try clear hb2)
          (try clear hk)
          (try clear hi)
          refine hK.out _ _ ⟨(blk_cell BK107.out 0).trans rfl, (blk_cell BK107.out 1).trans rfl, (blk_cell BK107.out 2).trans rfl⟩ (fun hHeld => ?_)
          clear hK K
          refine norm_ (a' := ?_) ?_ ?_
          rotate_left
          · show Act.put _ (some 23) _ = _
            simp only [Act.put, List.setIfInBounds_toArray, List.set_cons_zero, List.set_cons_succ, i64_w, i32_w]
            rfl
          refine pure_ (i := 13) (N := some 24) (v := ?_) (a' := ?_) #[true, true, true, true, true, true, true, true, true, true, true, true, true, true, false] rfl rfl (any_of HT_.out (by kernel_rfl)) (fun _ _ _ h => h) (Or.inl ⟨by rfl, ?_⟩) ?_ ?_
          rotate_left
          · intro w'
            go_simp
            with_reducible rfl
          rotate_left
          · simp only [Act.put, List.setIfInBounds_toArray, List.set_cons_zero, List.set_cons_succ, i64_w, i32_w]
            rfl
          refine one_ (i := 14) (N := some 25) #[true, true, true, true, true, true, true, true, true, true, true, true, true, true, true] rfl rfl (one_of HT_.out (by kernel_rfl)) (by decide) (fun K hK => ?_)
          refine goes_ Try.func33 (by kernel_rfl) rfl #[.pointer (some ⟨gbU, 0, none⟩), .string (((t109 ++ t110) ++ t111))] (by rfl) rfl rfl (by (try simp only [List.map_toArray, List.map_cons, List.map_nil]); first | done | rfl) ?_
          with_reducible refine (bu_write.calls gbU (⟨#[]⟩ : ByteArray) (((t109 ++ t110) ++ t111)) _ BKU.out (by first | exact c9 | omega | (have e_ : (⟨#[]⟩ : ByteArray).size = 0 := rfl; have q_ := c9; simp only [ByteArray.size_append] at q_ ⊢; omega))).mono ?_
          rintro e w16U ⟨nW_, rfl, hbu, hb, hkp⟩
          refine ⟨_, rfl, ?_⟩
          have nk0_ := Aside0.mk (bu_kept hkp BKU.out BK107.out (by decide) (by decide))
          have nb_ := Aside0.mk (below_weaken HB.out GEU.out hb)
          clear BK107 HB BKU
          have BK107 := nk0_
          have HB := nb_
          have BKU := Aside0.mk hbu
          clear nb_ hbu hb hkp nk0_
          refine hK.out _ _ ⟨(blk_cell BK107.out 0).trans rfl, (blk_cell BK107.out 1).trans rfl, (blk_cell BK107.out 2).trans rfl⟩ (fun hHeld => ?_)
          clear hK K
          refine norm_ (a' := ?_) ?_ ?_
          rotate_left
          · show Act.put _ (some 25) _ = _
            simp only [Act.put, List.setIfInBounds_toArray, List.set_cons_zero, List.set_cons_succ, i64_w, i32_w]
            rfl
          refine done_ (done_of HT_.out (by kernel_rfl)) ?_
          have hcz17_0 : w16U.cell? ⟨gb107, 0, none⟩ = some (.int .i64 a0_0) := (blk_cell BK107.out 0).trans rfl
          have hcz17_1 : w16U.cell? ⟨gb107, 1, none⟩ = some (.string a0_1) := (blk_cell BK107.out 1).trans rfl
          have hcz17_2 : w16U.cell? ⟨gb107, 2, none⟩ = some (.slice A0_2 l0_2.length c0_2) := (blk_cell BK107.out 2).trans rfl
          have hfz17_0 := blk_frozen BK107.out 0
          have hfz17_1 := blk_frozen BK107.out 1
          have hfz17_2 := blk_frozen BK107.out 2
          try go_wp2
          go_loopg [29] k (fun kq v29 w' => ∃ (x4_1 : ByteArray) (x29_1 : Int), v29 = .int .i64 x29_1 ∧ Aside0 (batch_Bytes.l0 kq x4_1 l0_2 (l0_2.length : Int) x29_1 = some (r1, r2)) ∧ Aside0 (kq ≤ k) ∧ Aside0 (w'.heap[gb107]? = some (.cells #[.int .i64 a0_0, .string a0_1, (.slice A0_2 l0_2.length c0_2)] 37 (0, 0))) ∧ Aside0 (Below w.heap.size w w') ∧ Aside0 (Bu gbU x4_1 w'))
          case atStart => exact ⟨((⟨#[]⟩ : ByteArray) ++ ((t109 ++ t110) ++ t111)), (0), (by first | rfl | (simp; done) | (simp [*]; done)), H', ⟨Nat.le_refl _⟩, ⟨by (with_reducible repeat (first | refine blk_drewN ?_ _ | refine blk_drew ?_ | refine blk_alloc ?_ _)); exact BK107.out⟩, ⟨by repeat (first | (with_reducible first | exact HB.out | apply below_alloc | apply pw_below_drewN | apply below_drew1 | refine below_set ?_ GE107.out) | exact HB.out)⟩, ⟨by (with_reducible repeat (first | refine Bu.drewN ?_ _ | refine Bu.drew ?_ | refine Bu.alloc ?_ _)); exact BKU.out⟩⟩
          case round =>
            clear H'
            try clear c1
            try clear c2
            try clear p2
            try clear c3
            try clear c6
            try clear c6b0
            try clear c6b1
            try clear c6b2
            try clear c8
            try clear c8b0
            try clear c8b1
            try clear c8b2
            try clear c9
            try clear c9b0
            try clear c9b1
            try clear c9b2
            try clear hcz11_0
            try clear hcz11_1
            try clear hcz11_2
            try clear hcz17_0
            try clear hcz17_1
            try clear hcz17_2
            try clear hfz11_0
            try clear hfz11_1
            try clear hfz11_2
            try clear hfz17_0
            try clear hfz17_1
            try clear hfz17_2
            obtain ⟨x4_1, x29_1, rfl, HA, HK1, BK107, HB, BKU⟩ := hrel
            cases gk with
            | zero => exact absurd HA.out (by simp [batch_Bytes.l0])
            | succ k1 =>
              have H := HA.out
              clear HA
              simp only [batch_Bytes.l0] at H
              by_cases c18 : x29_1 < (l0_2.length : Int)
              · rw [if_pos c18] at H
                have c18b0 : decide (x29_1 < (l0_2.length : Int)) = true := decide_eq_true c18
                clear c18
                by_cases c19 : 0 ≤ x29_1
                · rw [if_pos c19] at H
                  have c19b0 : decide (0 ≤ x29_1) = true := decide_eq_true c19
                  clear c19
                  by_cases c20 : x29_1 < (l0_2.length : Int)
                  · rw [if_pos c20] at H
                    have c20b0 : decide (x29_1 < (l0_2.length : Int)) = true := decide_eq_true c20
                    clear c20
                    obtain ⟨bq21, hbq21⟩ : ∃ b_ : Bool, b_ = ((rd_T54 l0_2 x29_1).f2) := ⟨_, rfl⟩
                    replace H : (if bq21 = true then ((dec_Num.f 1).bind fun t114 => ((dec_Text.f ((rd_T54 l0_2 x29_1).f0)).bind fun t115 => (if t114.size + t115.size ≤ 9223372036854775807 then ((dec_Text.f ((rd_T54 l0_2 x29_1).f1)).bind fun t116 => (if (t114 ++ t115).size + t116.size ≤ 9223372036854775807 then (if x4_1.size + ((t114 ++ t115) ++ t116).size ≤ 140737488355328 then (batch_Bytes.l0 k1 (x4_1 ++ ((t114 ++ t115) ++ t116)) l0_2 (l0_2.length : Int) (wrap64 (x29_1 + 1))) else (none)) else (none))) else (none)))) else ((dec_Num.f 0).bind fun t117 => ((dec_Text.f ((rd_T54 l0_2 x29_1).f0)).bind fun t118 => (if t117.size + t118.size ≤ 9223372036854775807 then ((dec_Text.f ((rd_T54 l0_2 x29_1).f1)).bind fun t119 => (if (t117 ++ t118).size + t119.size ≤ 9223372036854775807 then (if x4_1.size + ((t117 ++ t118) ++ t119).size ≤ 140737488355328 then (batch_Bytes.l0 k1 (x4_1 ++ ((t117 ++ t118) ++ t119)) l0_2 (l0_2.length : Int) (wrap64 (x29_1 + 1))) else (none)) else (none))) else (none))))) = some (r1, r2) := by rw [← hbq21] at H; exact H
                    have Nbq21 := Aside0.mk hbq21
                    clear hbq21
                    by_cases c22 : bq21 = true
                    · subst c22
                      have H1 : ((dec_Num.f 1).bind fun t114 => ((dec_Text.f ((rd_T54 l0_2 x29_1).f0)).bind fun t115 => (if t114.size + t115.size ≤ 9223372036854775807 then ((dec_Text.f ((rd_T54 l0_2 x29_1).f1)).bind fun t116 => (if (t114 ++ t115).size + t116.size ≤ 9223372036854775807 then (if x4_1.size + ((t114 ++ t115) ++ t116).size ≤ 140737488355328 then (batch_Bytes.l0 k1 (x4_1 ++ ((t114 ++ t115) ++ t116)) l0_2 (l0_2.length : Int) (wrap64 (x29_1 + 1))) else (none)) else (none))) else (none)))) = some (r1, r2) := by rw [if_pos rfl] at H; exact H
                      clear H
                      have H := H1
                      clear H1
                      replace H := Option.bind_eq_some_iff.mp H
                      obtain ⟨t114, A230, H⟩ := H
                      replace H : ((dec_Text.f ((rd_T54 l0_2 x29_1).f0)).bind fun t115 => (if t114.size + t115.size ≤ 9223372036854775807 then ((dec_Text.f ((rd_T54 l0_2 x29_1).f1)).bind fun t116 => (if (t114 ++ t115).size + t116.size ≤ 9223372036854775807 then (if x4_1.size + ((t114 ++ t115) ++ t116).size ≤ 140737488355328 then (batch_Bytes.l0 k1 (x4_1 ++ ((t114 ++ t115) ++ t116)) l0_2 (l0_2.length : Int) (wrap64 (x29_1 + 1))) else (none)) else (none))) else (none))) = some (r1, r2) := H
                      have A23 := Aside0.mk A230
                      clear A230
                      replace H := Option.bind_eq_some_iff.mp H
                      obtain ⟨t115, A240, H⟩ := H
                      replace H : (if t114.size + t115.size ≤ 9223372036854775807 then ((dec_Text.f ((rd_T54 l0_2 x29_1).f1)).bind fun t116 => (if (t114 ++ t115).size + t116.size ≤ 9223372036854775807 then (if x4_1.size + ((t114 ++ t115) ++ t116).size ≤ 140737488355328 then (batch_Bytes.l0 k1 (x4_1 ++ ((t114 ++ t115) ++ t116)) l0_2 (l0_2.length : Int) (wrap64 (x29_1 + 1))) else (none)) else (none))) else (none)) = some (r1, r2) := H
                      have A24 := Aside0.mk A240
                      clear A240
                      by_cases c25 : t114.size + t115.size ≤ 9223372036854775807
                      · rw [if_pos c25] at H
                        have c25b0 := eq_true c25
                        have c25b1 : decide (t114.size + t115.size ≤ 9223372036854775807) = true := decide_eq_true c25
                        try have c25b2 : (9223372036854775807 < t114.size + t115.size) = False := eq_false (Nat.not_lt.2 c25)
                        replace H := Option.bind_eq_some_iff.mp H
                        obtain ⟨t116, A260, H⟩ := H
                        replace H : (if (t114 ++ t115).size + t116.size ≤ 9223372036854775807 then (if x4_1.size + ((t114 ++ t115) ++ t116).size ≤ 140737488355328 then (batch_Bytes.l0 k1 (x4_1 ++ ((t114 ++ t115) ++ t116)) l0_2 (l0_2.length : Int) (wrap64 (x29_1 + 1))) else (none)) else (none)) = some (r1, r2) := H
                        have A26 := Aside0.mk A260
                        clear A260
                        by_cases c27 : (t114 ++ t115).size + t116.size ≤ 9223372036854775807
                        · rw [if_pos c27] at H
                          have c27b0 := eq_true c27
                          have c27b1 : decide ((t114 ++ t115).size + t116.size ≤ 9223372036854775807) = true := decide_eq_true c27
                          try have c27b2 : (9223372036854775807 < (t114 ++ t115).size + t116.size) = False := eq_false (Nat.not_lt.2 c27)
                          try (have c27b3 := c27b2; simp only [ByteArray.size_append] at c27b3)
                          by_cases c28 : x4_1.size + ((t114 ++ t115) ++ t116).size ≤ 140737488355328
                          · rw [if_pos c28] at H
                            have c28b0 := eq_true c28
                            have c28b1 : decide (x4_1.size + ((t114 ++ t115) ++ t116).size ≤ 140737488355328) = true := decide_eq_true c28
                            try have c28b2 : (9223372036854775807 < x4_1.size + ((t114 ++ t115) ++ t116).size) = False := eq_false (Nat.not_lt.2 c28)
                            try (have c28b3 := c28b2; simp only [ByteArray.size_append] at c28b3)
                            have H' := Aside0.mk H
                            clear H
                            have p112 : 0 ≤ (x29_1 : Int) := of_decide_eq_true (by first | (with_reducible assumption) | assumption)
                            have q112 : x29_1 < (l0_2.length : Int) := of_decide_eq_true (by first | (with_reducible assumption) | assumption)
                            obtain ⟨ad112, e112, hx112_0, hx112_1, hx112_2⟩ := at_T54 HR0_2.out x29_1 p112 q112
                            (try rw [← Nbq21.out] at hx112_2); (try rw [← Nbq21.out] at hw112_2)
                            cases e112
                            replace hx112_0 := (HB.out.cell (World.block_lt_of_cell? w _ hx112_0)).trans hx112_0
                            replace hx112_1 := (HB.out.cell (World.block_lt_of_cell? w _ hx112_1)).trans hx112_1
                            replace hx112_2 := (HB.out.cell (World.block_lt_of_cell? w _ hx112_2)).trans hx112_2
                            replace p112 := eq_true p112
                            replace q112 := eq_true q112
                            try go_wp2_with (first | ((with_reducible refine gate_dst (N := 6) rfl ?_); refine box_event ?hg (N := 6) ?hd (cs := #[.string (⟨#[]⟩ : ByteArray), .string (⟨#[]⟩ : ByteArray), .bool false]) (t := 54) ?hr ?_; (case hd => rfl); (case hg => rfl); (case hr => first | (go_simp; done) | (go_simp; rfl)); intro gb113 hg w29 hbox hb; have n0_ := Aside0.mk (blk_below (g := gb107) (o := .cells #[.int .i64 a0_0, .string a0_1, .slice (some ad112) l0_2.length c0_2] 37 (0, 0)) (by (with_reducible repeat (first | refine blk_drewN ?_ _ | refine blk_drew ?_ | refine blk_alloc ?_ _)); exact BK107.out) hb); have nU_ := Aside0.mk (Bu.below (by (with_reducible repeat (first | refine Bu.drewN ?_ _ | refine Bu.drew ?_ | refine Bu.alloc ?_ _)); exact BKU.out) hb); have n1_ := Aside0.mk (below_step (by repeat (first | (with_reducible first | exact HB.out | apply below_alloc | apply pw_below_drewN | apply below_drew1 | refine below_set ?_ GE107.out) | exact HB.out)) hb); have n2_ := Aside0.mk (hbox); have n3_ := Aside0.mk ((by rw [hg]; exact (below_size (by repeat (first | (with_reducible first | exact HB.out | apply below_alloc | apply pw_below_drewN | apply below_drew1 | refine below_set ?_ GE107.out) | exact HB.out))) : w.heap.size ≤ gb113)); have n4_ := Aside0.mk ((by rw [hg]; exact (below_size (by repeat (first | (with_reducible first | exact HB.out | apply below_alloc | apply pw_below_drewN | apply below_drew1 | refine below_set ?_ GE107.out) | exact HB.out))) : w.heap.size ≤ gb113)); have n5_ := Aside0.mk ((by rw [hg]; exact Nat.ne_of_lt (blk_lt (g := gb107) (o := .cells #[.int .i64 a0_0, .string a0_1, .slice (some ad112) l0_2.length c0_2] 37 (0, 0)) (by (with_reducible repeat (first | refine blk_drewN ?_ _ | refine blk_drew ?_ | refine blk_alloc ?_ _)); exact BK107.out)) : gb107 ≠ gb113)); have n6_ := Aside0.mk ((by rw [hg]; exact Nat.ne_of_gt (blk_lt (g := gb107) (o := .cells #[.int .i64 a0_0, .string a0_1, .slice (some ad112) l0_2.length c0_2] 37 (0, 0)) (by (with_reducible repeat (first | refine blk_drewN ?_ _ | refine blk_drew ?_ | refine blk_alloc ?_ _)); exact BK107.out)) : gb113 ≠ gb107)); clear BK107 BKU; clear HB; have BK107 := n0_; have BKU := nU_; have HB := n1_; have BK113 := n2_; have GW113 := n3_; have GE113 := n4_; have NB107_113 := n5_; have NB113_107 := n6_; clear n0_ n1_ n2_ n3_ n4_ n5_ n6_; (try clear nU_); clear hb hbox hg; have hnb30 := NB113_107.out; have hnc30 := NB107_113.out; have hcz31_0 : w29.cell? ⟨gb113, 0, none⟩ = some (.string (⟨#[]⟩ : ByteArray)) := (blk_cell BK113.out 0).trans rfl; have hcz31_1 : w29.cell? ⟨gb113, 1, none⟩ = some (.string (⟨#[]⟩ : ByteArray)) := (blk_cell BK113.out 1).trans rfl; have hcz31_2 : w29.cell? ⟨gb113, 2, none⟩ = some (.bool false) := (blk_cell BK113.out 2).trans rfl; have hfz31_0 := blk_frozen BK113.out 0; have hfz31_1 := blk_frozen BK113.out 1; have hfz31_2 := blk_frozen BK113.out 2))
                            have nU_ : Aside0 (Bu gbU x4_1 (((w29.setCell ⟨gb113, 0, none⟩ (.string ((rd_T54 l0_2 x29_1).f0))).setCell ⟨gb113, 1, none⟩ (.string ((rd_T54 l0_2 x29_1).f1))).setCell ⟨gb113, 2, none⟩ (.bool true))) := ⟨(Bu.far (Bu.far (Bu.far BKU.out BK113.out (by decide) (by decide)) (blk_set BK113.out 0 _) (by decide) (by decide)) (blk_set (blk_set BK113.out 0 _) 1 _) (by decide) (by decide))⟩
                            have n0_ : Aside0 ((((w29.setCell ⟨gb113, 0, none⟩ (.string ((rd_T54 l0_2 x29_1).f0))).setCell ⟨gb113, 1, none⟩ (.string ((rd_T54 l0_2 x29_1).f1))).setCell ⟨gb113, 2, none⟩ (.bool true)).heap[gb107]? = some (.cells #[.int .i64 a0_0, .string a0_1, .slice (some ad112) l0_2.length c0_2] 37 (0, 0))) := ⟨by (with_reducible repeat (first | refine blk_drewN ?_ _ | refine blk_drew ?_ | refine blk_alloc ?_ _)); refine blk_far ?_ NB107_113.out _; (with_reducible repeat (first | refine blk_drewN ?_ _ | refine blk_drew ?_ | refine blk_alloc ?_ _)); refine blk_far ?_ NB107_113.out _; (with_reducible repeat (first | refine blk_drewN ?_ _ | refine blk_drew ?_ | refine blk_alloc ?_ _)); refine blk_far ?_ NB107_113.out _; (with_reducible repeat (first | refine blk_drewN ?_ _ | refine blk_drew ?_ | refine blk_alloc ?_ _)); exact BK107.out⟩
                            have n1_ : Aside0 ((((w29.setCell ⟨gb113, 0, none⟩ (.string ((rd_T54 l0_2 x29_1).f0))).setCell ⟨gb113, 1, none⟩ (.string ((rd_T54 l0_2 x29_1).f1))).setCell ⟨gb113, 2, none⟩ (.bool true)).heap[gb113]? = some (.cells #[.string ((rd_T54 l0_2 x29_1).f0), .string ((rd_T54 l0_2 x29_1).f1), .bool true] 54 (0, 0))) := ⟨by (with_reducible repeat (first | refine blk_drewN ?_ _ | refine blk_drew ?_ | refine blk_alloc ?_ _)); refine blk_put (cs := #[.string ((rd_T54 l0_2 x29_1).f0), .string ((rd_T54 l0_2 x29_1).f1), .bool false]) ?_ 2 _ rfl; (with_reducible repeat (first | refine blk_drewN ?_ _ | refine blk_drew ?_ | refine blk_alloc ?_ _)); refine blk_put (cs := #[.string ((rd_T54 l0_2 x29_1).f0), .string (⟨#[]⟩ : ByteArray), .bool false]) ?_ 1 _ rfl; (with_reducible repeat (first | refine blk_drewN ?_ _ | refine blk_drew ?_ | refine blk_alloc ?_ _)); refine blk_put (cs := #[.string (⟨#[]⟩ : ByteArray), .string (⟨#[]⟩ : ByteArray), .bool false]) ?_ 0 _ rfl; (with_reducible repeat (first | refine blk_drewN ?_ _ | refine blk_drew ?_ | refine blk_alloc ?_ _)); exact BK113.out⟩
                            have n2_ : Aside0 (Below w.heap.size w (((w29.setCell ⟨gb113, 0, none⟩ (.string ((rd_T54 l0_2 x29_1).f0))).setCell ⟨gb113, 1, none⟩ (.string ((rd_T54 l0_2 x29_1).f1))).setCell ⟨gb113, 2, none⟩ (.bool true))) := ⟨by repeat (first | (with_reducible first | exact HB.out | apply below_alloc | apply pw_below_drewN | apply below_drew1 | refine below_set ?_ GE107.out | refine below_set ?_ GE113.out) | exact HB.out)⟩
                            (try clear BK107 BKU)
                            (try clear BK113)
                            (try clear HB)
                            generalize (((w29.setCell ⟨gb113, 0, none⟩ (.string ((rd_T54 l0_2 x29_1).f0))).setCell ⟨gb113, 1, none⟩ (.string ((rd_T54 l0_2 x29_1).f1))).setCell ⟨gb113, 2, none⟩ (.bool true)) = w32 at nU_ n0_ n1_ n2_ ⊢
                            have BK107 := n0_; have BKU := nU_
                            have BK113 := n1_
                            have HB := n2_
                            clear n0_ n1_ n2_; (try clear nU_)
                            have n0_ := Aside0.mk (blk_drew BK107.out); have nU_ := Aside0.mk (Bu.drew BKU.out)
                            have n1_ := Aside0.mk (blk_drew BK113.out)
                            have n2_ := Aside0.mk (below_drew1 HB.out)
                            clear BK107 BKU
                            clear BK113
                            clear HB
                            have BK107 := n0_; have BKU := nU_
                            have BK113 := n1_
                            have HB := n2_
                            clear n0_ n1_ n2_; (try clear nU_)
                            refine start_ (n := 11) (S := fun w' => w'.cell? ⟨gb113, 0, none⟩ = some (.string ((rd_T54 l0_2 x29_1).f0)) ∧ w'.cell? ⟨gb113, 1, none⟩ = some (.string ((rd_T54 l0_2 x29_1).f1)) ∧ w'.cell? ⟨gb113, 2, none⟩ = some (.bool true)) (ds := []) #[false, false, false, false, false, false, false, false, false, false, false] (by kernel_rfl) rfl rfl ⟨(blk_cell BK113.out 0).trans rfl, (blk_cell BK113.out 1).trans rfl, (blk_cell BK113.out 2).trans rfl⟩ (fun hHeld => ?_); refine with_tabW batch_Bytes.tab11 batch_Bytes.bits11 (fun HT_ HW_ => ?_)
                            generalize w32.drew = w33 at BKU BK107 BK113 HB hHeld ⊢
                            refine pure_ (i := 0) (N := some 35) (v := ?_) (a' := ?_) #[true, false, false, false, false, false, false, false, false, false, false] rfl rfl (any_of HT_.out (by kernel_rfl)) (fun _ _ _ h => h) (Or.inl ⟨by rfl, ?_⟩) ?_ ?_
                            rotate_left
                            · intro w'
                              go_simp
                              with_reducible rfl
                            rotate_left
                            · simp only [Act.put, List.setIfInBounds_toArray, List.set_cons_zero, List.set_cons_succ, i64_w, i32_w]
                              rfl
                            refine pure_ (i := 2) (N := some 37) (v := ?_) (a' := ?_) #[true, false, true, false, false, false, false, false, false, false, false] rfl rfl (any_of HT_.out (by kernel_rfl)) (fun _ _ _ h => h) (Or.inl ⟨by rfl, ?_⟩) ?_ ?_
                            rotate_left
                            · intro w'
                              go_simp
                              with_reducible rfl
                            rotate_left
                            · simp only [Act.put, List.setIfInBounds_toArray, List.set_cons_zero, List.set_cons_succ, i64_w, i32_w]
                              rfl
                            refine pure_ (i := 6) (N := some 41) (v := ?_) (a' := ?_) #[true, false, true, false, false, false, true, false, false, false, false] rfl rfl (any_of HT_.out (by kernel_rfl)) (fun _ _ _ h => h) (Or.inl ⟨by rfl, ?_⟩) ?_ ?_
                            rotate_left
                            · intro w'
                              go_simp
                              with_reducible rfl
                            rotate_left
                            · simp only [Act.put, List.setIfInBounds_toArray, List.set_cons_zero, List.set_cons_succ, i64_w, i32_w]
                              rfl
                            refine take_ (i := 3) (N := some 38) (v := ?_) (a' := ?_) #[true, false, true, true, false, false, true, false, false, false, false] rfl rfl (take_ofW HT_.out HW_.out (by kernel_rfl)) (fun _ _ _ h => h) (Or.inl ⟨by rfl, ?_⟩) hHeld ?_ ?_
                            rotate_left
                            · rintro w' ⟨s0, s1, s2⟩
                              go_simp
                              with_reducible rfl
                            rotate_left
                            · simp only [Act.put, List.setIfInBounds_toArray, List.set_cons_zero, List.set_cons_succ, i64_w, i32_w]
                              rfl
                            refine take_ (i := 7) (N := some 42) (v := ?_) (a' := ?_) #[true, false, true, true, false, false, true, true, false, false, false] rfl rfl (take_ofW HT_.out HW_.out (by kernel_rfl)) (fun _ _ _ h => h) (Or.inl ⟨by rfl, ?_⟩) hHeld ?_ ?_
                            rotate_left
                            · rintro w' ⟨s0, s1, s2⟩
                              go_simp
                              with_reducible rfl
                            rotate_left
                            · simp only [Act.put, List.setIfInBounds_toArray, List.set_cons_zero, List.set_cons_succ, i64_w, i32_w]
                              rfl
                            refine one_ (i := 1) (N := some 36) #[true, true, true, true, false, false, true, true, false, false, false] rfl rfl (one_of HT_.out (by kernel_rfl)) (by decide) (fun K hK => ?_)
                            refine goes_ Try.func34 (by kernel_rfl) rfl #[.int .u64 1] (by rfl) rfl rfl (by (try simp only [List.map_toArray, List.map_cons, List.map_nil]); first | done | rfl | (simp only [List.length_drop, List.length_take]; rfl)) ?_
                            with_reducible refine (dec_Num.calls 1 t114 _ A23.out).mono ?_
                            rintro e w34 ⟨rfl, hb⟩
                            refine ⟨_, rfl, ?_⟩
                            have n0_ := Aside0.mk (blk_below (g := gb107) (o := .cells #[.int .i64 a0_0, .string a0_1, .slice (some ad112) l0_2.length c0_2] 37 (0, 0)) (by (with_reducible repeat (first | refine blk_drewN ?_ _ | refine blk_drew ?_ | refine blk_alloc ?_ _)); exact BK107.out) hb); have nU_ := Aside0.mk (Bu.below (by (with_reducible repeat (first | refine Bu.drewN ?_ _ | refine Bu.drew ?_ | refine Bu.alloc ?_ _)); exact BKU.out) hb)
                            have n1_ := Aside0.mk (blk_below (g := gb113) (o := .cells #[.string ((rd_T54 l0_2 x29_1).f0), .string ((rd_T54 l0_2 x29_1).f1), .bool true] 54 (0, 0)) (by (with_reducible repeat (first | refine blk_drewN ?_ _ | refine blk_drew ?_ | refine blk_alloc ?_ _)); exact BK113.out) hb)
                            have n2_ := Aside0.mk (below_step (by repeat (first | (with_reducible first | exact HB.out | apply below_alloc | apply pw_below_drewN | apply below_drew1 | refine below_set ?_ GE107.out | refine below_set ?_ GE113.out) | exact HB.out)) hb)
                            clear BK107 BKU
                            clear BK113
                            clear HB
                            have BK107 := n0_; have BKU := nU_
                            have BK113 := n1_
                            have HB := n2_
                            clear n0_ n1_ n2_; (try clear nU_)
                            (try clear hb)
                            (try clear hb2)
                            (try clear hk)
                            (try clear hi)
                            refine hK.out _ _ ⟨(blk_cell BK113.out 0).trans rfl, (blk_cell BK113.out 1).trans rfl, (blk_cell BK113.out 2).trans rfl⟩ (fun hHeld => ?_)
                            clear hK K
                            refine norm_ (a' := ?_) ?_ ?_
                            rotate_left
                            · show Act.put _ (some 36) _ = _
                              simp only [Act.put, List.setIfInBounds_toArray, List.set_cons_zero, List.set_cons_succ, i64_w, i32_w]
                              rfl
                            refine one_ (i := 4) (N := some 39) #[true, true, true, true, true, false, true, true, false, false, false] rfl rfl (one_of HT_.out (by kernel_rfl)) (by decide) (fun K hK => ?_)
                            refine goes_ Try.func35 (by kernel_rfl) rfl #[.string ((rd_T54 l0_2 x29_1).f0)] (by rfl) rfl rfl (by (try simp only [List.map_toArray, List.map_cons, List.map_nil]); first | done | rfl | (simp only [List.length_drop, List.length_take]; rfl)) ?_
                            with_reducible refine (dec_Text.calls ((rd_T54 l0_2 x29_1).f0) t115 _ A24.out).mono ?_
                            rintro e w35 ⟨rfl, hb⟩
                            refine ⟨_, rfl, ?_⟩
                            have n0_ := Aside0.mk (blk_below (g := gb107) (o := .cells #[.int .i64 a0_0, .string a0_1, .slice (some ad112) l0_2.length c0_2] 37 (0, 0)) (by (with_reducible repeat (first | refine blk_drewN ?_ _ | refine blk_drew ?_ | refine blk_alloc ?_ _)); exact BK107.out) hb); have nU_ := Aside0.mk (Bu.below (by (with_reducible repeat (first | refine Bu.drewN ?_ _ | refine Bu.drew ?_ | refine Bu.alloc ?_ _)); exact BKU.out) hb)
                            have n1_ := Aside0.mk (blk_below (g := gb113) (o := .cells #[.string ((rd_T54 l0_2 x29_1).f0), .string ((rd_T54 l0_2 x29_1).f1), .bool true] 54 (0, 0)) (by (with_reducible repeat (first | refine blk_drewN ?_ _ | refine blk_drew ?_ | refine blk_alloc ?_ _)); exact BK113.out) hb)
                            have n2_ := Aside0.mk (below_step (by repeat (first | (with_reducible first | exact HB.out | apply below_alloc | apply pw_below_drewN | apply below_drew1 | refine below_set ?_ GE107.out | refine below_set ?_ GE113.out) | exact HB.out)) hb)
                            clear BK107 BKU
                            clear BK113
                            clear HB
                            have BK107 := n0_; have BKU := nU_
                            have BK113 := n1_
                            have HB := n2_
                            clear n0_ n1_ n2_; (try clear nU_)
                            (try clear hb)
                            (try clear hb2)
                            (try clear hk)
                            (try clear hi)
                            refine hK.out _ _ ⟨(blk_cell BK113.out 0).trans rfl, (blk_cell BK113.out 1).trans rfl, (blk_cell BK113.out 2).trans rfl⟩ (fun hHeld => ?_)
                            clear hK K
                            refine norm_ (a' := ?_) ?_ ?_
                            rotate_left
                            · show Act.put _ (some 39) _ = _
                              simp only [Act.put, List.setIfInBounds_toArray, List.set_cons_zero, List.set_cons_succ, i64_w, i32_w]
                              rfl
                            refine pure_ (i := 5) (N := some 40) (v := ?_) (a' := ?_) #[true, true, true, true, true, true, true, true, false, false, false] rfl rfl (any_of HT_.out (by kernel_rfl)) (fun _ _ _ h => h) (Or.inl ⟨by rfl, ?_⟩) ?_ ?_
                            rotate_left
                            · intro w'
                              go_simp
                              with_reducible rfl
                            rotate_left
                            · simp only [Act.put, List.setIfInBounds_toArray, List.set_cons_zero, List.set_cons_succ, i64_w, i32_w]
                              rfl
                            refine one_ (i := 8) (N := some 43) #[true, true, true, true, true, true, true, true, true, false, false] rfl rfl (one_of HT_.out (by kernel_rfl)) (by decide) (fun K hK => ?_)
                            refine goes_ Try.func35 (by kernel_rfl) rfl #[.string ((rd_T54 l0_2 x29_1).f1)] (by rfl) rfl rfl (by (try simp only [List.map_toArray, List.map_cons, List.map_nil]); first | done | rfl | (simp only [List.length_drop, List.length_take]; rfl)) ?_
                            with_reducible refine (dec_Text.calls ((rd_T54 l0_2 x29_1).f1) t116 _ A26.out).mono ?_
                            rintro e w36 ⟨rfl, hb⟩
                            refine ⟨_, rfl, ?_⟩
                            have n0_ := Aside0.mk (blk_below (g := gb107) (o := .cells #[.int .i64 a0_0, .string a0_1, .slice (some ad112) l0_2.length c0_2] 37 (0, 0)) (by (with_reducible repeat (first | refine blk_drewN ?_ _ | refine blk_drew ?_ | refine blk_alloc ?_ _)); exact BK107.out) hb); have nU_ := Aside0.mk (Bu.below (by (with_reducible repeat (first | refine Bu.drewN ?_ _ | refine Bu.drew ?_ | refine Bu.alloc ?_ _)); exact BKU.out) hb)
                            have n1_ := Aside0.mk (blk_below (g := gb113) (o := .cells #[.string ((rd_T54 l0_2 x29_1).f0), .string ((rd_T54 l0_2 x29_1).f1), .bool true] 54 (0, 0)) (by (with_reducible repeat (first | refine blk_drewN ?_ _ | refine blk_drew ?_ | refine blk_alloc ?_ _)); exact BK113.out) hb)
                            have n2_ := Aside0.mk (below_step (by repeat (first | (with_reducible first | exact HB.out | apply below_alloc | apply pw_below_drewN | apply below_drew1 | refine below_set ?_ GE107.out | refine below_set ?_ GE113.out) | exact HB.out)) hb)
                            clear BK107 BKU
                            clear BK113
                            clear HB
                            have BK107 := n0_; have BKU := nU_
                            have BK113 := n1_
                            have HB := n2_
                            clear n0_ n1_ n2_; (try clear nU_)
                            (try clear hb)
                            (try clear hb2)
                            (try clear hk)
                            (try clear hi)
                            refine hK.out _ _ ⟨(blk_cell BK113.out 0).trans rfl, (blk_cell BK113.out 1).trans rfl, (blk_cell BK113.out 2).trans rfl⟩ (fun hHeld => ?_)
                            clear hK K
                            refine norm_ (a' := ?_) ?_ ?_
                            rotate_left
                            · show Act.put _ (some 43) _ = _
                              simp only [Act.put, List.setIfInBounds_toArray, List.set_cons_zero, List.set_cons_succ, i64_w, i32_w]
                              rfl
                            refine pure_ (i := 9) (N := some 44) (v := ?_) (a' := ?_) #[true, true, true, true, true, true, true, true, true, true, false] rfl rfl (any_of HT_.out (by kernel_rfl)) (fun _ _ _ h => h) (Or.inl ⟨by rfl, ?_⟩) ?_ ?_
                            rotate_left
                            · intro w'
                              go_simp
                              with_reducible rfl
                            rotate_left
                            · simp only [Act.put, List.setIfInBounds_toArray, List.set_cons_zero, List.set_cons_succ, i64_w, i32_w]
                              rfl
                            refine one_ (i := 10) (N := some 45) #[true, true, true, true, true, true, true, true, true, true, true] rfl rfl (one_of HT_.out (by kernel_rfl)) (by decide) (fun K hK => ?_)
                            refine goes_ Try.func33 (by kernel_rfl) rfl #[.pointer (some ⟨gbU, 0, none⟩), .string (((t114 ++ t115) ++ t116))] (by rfl) rfl rfl (by (try simp only [List.map_toArray, List.map_cons, List.map_nil]); first | done | rfl) ?_
                            with_reducible refine (bu_write.calls gbU x4_1 (((t114 ++ t115) ++ t116)) _ BKU.out (by first | exact c28 | omega | (have e_ : (⟨#[]⟩ : ByteArray).size = 0 := rfl; have q_ := c28; simp only [ByteArray.size_append] at q_ ⊢; omega))).mono ?_
                            rintro e w36U ⟨nW_, rfl, hbu, hb, hkp⟩
                            refine ⟨_, rfl, ?_⟩
                            have nk0_ := Aside0.mk (bu_kept hkp BKU.out BK107.out (by decide) (by decide))
                            have nk1_ := Aside0.mk (bu_kept hkp BKU.out BK113.out (by decide) (by decide))
                            have nb_ := Aside0.mk (below_weaken HB.out GEU.out hb)
                            clear BK107 BK113 HB BKU
                            have BK107 := nk0_
                            have BK113 := nk1_
                            have HB := nb_
                            have BKU := Aside0.mk hbu
                            clear nb_ hbu hb hkp nk0_ nk1_
                            refine hK.out _ _ ⟨(blk_cell BK113.out 0).trans rfl, (blk_cell BK113.out 1).trans rfl, (blk_cell BK113.out 2).trans rfl⟩ (fun hHeld => ?_)
                            clear hK K
                            refine norm_ (a' := ?_) ?_ ?_
                            rotate_left
                            · show Act.put _ (some 45) _ = _
                              simp only [Act.put, List.setIfInBounds_toArray, List.set_cons_zero, List.set_cons_succ, i64_w, i32_w]
                              rfl
                            refine done_ (done_of HT_.out (by kernel_rfl)) ?_
                            try go_wp2
                            go_roundg k1
                            case measure => have := HK1.out; omega
                            case rel => exact ⟨(x4_1 ++ ((t114 ++ t115) ++ t116)), (wrap64 (x29_1 + 1)), (by first | rfl | (simp; done) | (simp [*]; done)), H', ⟨by have := HK1.out; omega⟩, ⟨by (with_reducible repeat (first | refine blk_drewN ?_ _ | refine blk_drew ?_ | refine blk_alloc ?_ _)); exact BK107.out⟩, ⟨by repeat (first | (with_reducible first | exact HB.out | apply below_alloc | apply pw_below_drewN | apply below_drew1 | refine below_set ?_ GE107.out | refine below_set ?_ GE113.out) | exact HB.out)⟩, ⟨by (with_reducible repeat (first | refine Bu.drewN ?_ _ | refine Bu.drew ?_ | refine Bu.alloc ?_ _)); exact BKU.out⟩⟩
                          · rw [if_neg c28] at H
                            exact absurd H (by simp)
                        · rw [if_neg c27] at H
                          exact absurd H (by simp)
                      · rw [if_neg c25] at H
                        exact absurd H (by simp)
                    · replace c22 := Bool.eq_false_iff.mpr c22
                      subst c22
                      have H1 : ((dec_Num.f 0).bind fun t117 => ((dec_Text.f ((rd_T54 l0_2 x29_1).f0)).bind fun t118 => (if t117.size + t118.size ≤ 9223372036854775807 then ((dec_Text.f ((rd_T54 l0_2 x29_1).f1)).bind fun t119 => (if (t117 ++ t118).size + t119.size ≤ 9223372036854775807 then (if x4_1.size + ((t117 ++ t118) ++ t119).size ≤ 140737488355328 then (batch_Bytes.l0 k1 (x4_1 ++ ((t117 ++ t118) ++ t119)) l0_2 (l0_2.length : Int) (wrap64 (x29_1 + 1))) else (none)) else (none))) else (none)))) = some (r1, r2) := by rw [if_neg (show ¬ (false = true) by decide)] at H; exact H
                      clear H
                      have H := H1
                      clear H1
                      replace H := Option.bind_eq_some_iff.mp H
                      obtain ⟨t117, A370, H⟩ := H
                      replace H : ((dec_Text.f ((rd_T54 l0_2 x29_1).f0)).bind fun t118 => (if t117.size + t118.size ≤ 9223372036854775807 then ((dec_Text.f ((rd_T54 l0_2 x29_1).f1)).bind fun t119 => (if (t117 ++ t118).size + t119.size ≤ 9223372036854775807 then (if x4_1.size + ((t117 ++ t118) ++ t119).size ≤ 140737488355328 then (batch_Bytes.l0 k1 (x4_1 ++ ((t117 ++ t118) ++ t119)) l0_2 (l0_2.length : Int) (wrap64 (x29_1 + 1))) else (none)) else (none))) else (none))) = some (r1, r2) := H
                      have A37 := Aside0.mk A370
                      clear A370
                      replace H := Option.bind_eq_some_iff.mp H
                      obtain ⟨t118, A380, H⟩ := H
                      replace H : (if t117.size + t118.size ≤ 9223372036854775807 then ((dec_Text.f ((rd_T54 l0_2 x29_1).f1)).bind fun t119 => (if (t117 ++ t118).size + t119.size ≤ 9223372036854775807 then (if x4_1.size + ((t117 ++ t118) ++ t119).size ≤ 140737488355328 then (batch_Bytes.l0 k1 (x4_1 ++ ((t117 ++ t118) ++ t119)) l0_2 (l0_2.length : Int) (wrap64 (x29_1 + 1))) else (none)) else (none))) else (none)) = some (r1, r2) := H
                      have A38 := Aside0.mk A380
                      clear A380
                      by_cases c39 : t117.size + t118.size ≤ 9223372036854775807
                      · rw [if_pos c39] at H
                        have c39b0 := eq_true c39
                        have c39b1 : decide (t117.size + t118.size ≤ 9223372036854775807) = true := decide_eq_true c39
                        try have c39b2 : (9223372036854775807 < t117.size + t118.size) = False := eq_false (Nat.not_lt.2 c39)
                        replace H := Option.bind_eq_some_iff.mp H
                        obtain ⟨t119, A400, H⟩ := H
                        replace H : (if (t117 ++ t118).size + t119.size ≤ 9223372036854775807 then (if x4_1.size + ((t117 ++ t118) ++ t119).size ≤ 140737488355328 then (batch_Bytes.l0 k1 (x4_1 ++ ((t117 ++ t118) ++ t119)) l0_2 (l0_2.length : Int) (wrap64 (x29_1 + 1))) else (none)) else (none)) = some (r1, r2) := H
                        have A40 := Aside0.mk A400
                        clear A400
                        by_cases c41 : (t117 ++ t118).size + t119.size ≤ 9223372036854775807
                        · rw [if_pos c41] at H
                          have c41b0 := eq_true c41
                          have c41b1 : decide ((t117 ++ t118).size + t119.size ≤ 9223372036854775807) = true := decide_eq_true c41
                          try have c41b2 : (9223372036854775807 < (t117 ++ t118).size + t119.size) = False := eq_false (Nat.not_lt.2 c41)
                          try (have c41b3 := c41b2; simp only [ByteArray.size_append] at c41b3)
                          by_cases c42 : x4_1.size + ((t117 ++ t118) ++ t119).size ≤ 140737488355328
                          · rw [if_pos c42] at H
                            have c42b0 := eq_true c42
                            have c42b1 : decide (x4_1.size + ((t117 ++ t118) ++ t119).size ≤ 140737488355328) = true := decide_eq_true c42
                            try have c42b2 : (9223372036854775807 < x4_1.size + ((t117 ++ t118) ++ t119).size) = False := eq_false (Nat.not_lt.2 c42)
                            try (have c42b3 := c42b2; simp only [ByteArray.size_append] at c42b3)
                            have H' := Aside0.mk H
                            clear H
                            have p112 : 0 ≤ (x29_1 : Int) := of_decide_eq_true (by first | (with_reducible assumption) | assumption)
                            have q112 : x29_1 < (l0_2.length : Int) := of_decide_eq_true (by first | (with_reducible assumption) | assumption)
                            obtain ⟨ad112, e112, hx112_0, hx112_1, hx112_2⟩ := at_T54 HR0_2.out x29_1 p112 q112
                            (try rw [← Nbq21.out] at hx112_2); (try rw [← Nbq21.out] at hw112_2)
                            cases e112
                            replace hx112_0 := (HB.out.cell (World.block_lt_of_cell? w _ hx112_0)).trans hx112_0
                            replace hx112_1 := (HB.out.cell (World.block_lt_of_cell? w _ hx112_1)).trans hx112_1
                            replace hx112_2 := (HB.out.cell (World.block_lt_of_cell? w _ hx112_2)).trans hx112_2
                            replace p112 := eq_true p112
                            replace q112 := eq_true q112
                            try go_wp2_with (first | ((with_reducible refine gate_dst (N := 6) rfl ?_); refine box_event ?hg (N := 6) ?hd (cs := #[.string (⟨#[]⟩ : ByteArray), .string (⟨#[]⟩ : ByteArray), .bool false]) (t := 54) ?hr ?_; (case hd => rfl); (case hg => rfl); (case hr => first | (go_simp; done) | (go_simp; rfl)); intro gb113 hg w43 hbox hb; have n0_ := Aside0.mk (blk_below (g := gb107) (o := .cells #[.int .i64 a0_0, .string a0_1, .slice (some ad112) l0_2.length c0_2] 37 (0, 0)) (by (with_reducible repeat (first | refine blk_drewN ?_ _ | refine blk_drew ?_ | refine blk_alloc ?_ _)); exact BK107.out) hb); have nU_ := Aside0.mk (Bu.below (by (with_reducible repeat (first | refine Bu.drewN ?_ _ | refine Bu.drew ?_ | refine Bu.alloc ?_ _)); exact BKU.out) hb); have n1_ := Aside0.mk (below_step (by repeat (first | (with_reducible first | exact HB.out | apply below_alloc | apply pw_below_drewN | apply below_drew1 | refine below_set ?_ GE107.out) | exact HB.out)) hb); have n2_ := Aside0.mk (hbox); have n3_ := Aside0.mk ((by rw [hg]; exact (below_size (by repeat (first | (with_reducible first | exact HB.out | apply below_alloc | apply pw_below_drewN | apply below_drew1 | refine below_set ?_ GE107.out) | exact HB.out))) : w.heap.size ≤ gb113)); have n4_ := Aside0.mk ((by rw [hg]; exact (below_size (by repeat (first | (with_reducible first | exact HB.out | apply below_alloc | apply pw_below_drewN | apply below_drew1 | refine below_set ?_ GE107.out) | exact HB.out))) : w.heap.size ≤ gb113)); have n5_ := Aside0.mk ((by rw [hg]; exact Nat.ne_of_lt (blk_lt (g := gb107) (o := .cells #[.int .i64 a0_0, .string a0_1, .slice (some ad112) l0_2.length c0_2] 37 (0, 0)) (by (with_reducible repeat (first | refine blk_drewN ?_ _ | refine blk_drew ?_ | refine blk_alloc ?_ _)); exact BK107.out)) : gb107 ≠ gb113)); have n6_ := Aside0.mk ((by rw [hg]; exact Nat.ne_of_gt (blk_lt (g := gb107) (o := .cells #[.int .i64 a0_0, .string a0_1, .slice (some ad112) l0_2.length c0_2] 37 (0, 0)) (by (with_reducible repeat (first | refine blk_drewN ?_ _ | refine blk_drew ?_ | refine blk_alloc ?_ _)); exact BK107.out)) : gb113 ≠ gb107)); clear BK107 BKU; clear HB; have BK107 := n0_; have BKU := nU_; have HB := n1_; have BK113 := n2_; have GW113 := n3_; have GE113 := n4_; have NB107_113 := n5_; have NB113_107 := n6_; clear n0_ n1_ n2_ n3_ n4_ n5_ n6_; (try clear nU_); clear hb hbox hg; have hnb44 := NB113_107.out; have hnc44 := NB107_113.out; have hcz45_0 : w43.cell? ⟨gb113, 0, none⟩ = some (.string (⟨#[]⟩ : ByteArray)) := (blk_cell BK113.out 0).trans rfl; have hcz45_1 : w43.cell? ⟨gb113, 1, none⟩ = some (.string (⟨#[]⟩ : ByteArray)) := (blk_cell BK113.out 1).trans rfl; have hcz45_2 : w43.cell? ⟨gb113, 2, none⟩ = some (.bool false) := (blk_cell BK113.out 2).trans rfl; have hfz45_0 := blk_frozen BK113.out 0; have hfz45_1 := blk_frozen BK113.out 1; have hfz45_2 := blk_frozen BK113.out 2))
                            have nU_ : Aside0 (Bu gbU x4_1 (((w43.setCell ⟨gb113, 0, none⟩ (.string ((rd_T54 l0_2 x29_1).f0))).setCell ⟨gb113, 1, none⟩ (.string ((rd_T54 l0_2 x29_1).f1))).setCell ⟨gb113, 2, none⟩ (.bool false))) := ⟨(Bu.far (Bu.far (Bu.far BKU.out BK113.out (by decide) (by decide)) (blk_set BK113.out 0 _) (by decide) (by decide)) (blk_set (blk_set BK113.out 0 _) 1 _) (by decide) (by decide))⟩
                            have n0_ : Aside0 ((((w43.setCell ⟨gb113, 0, none⟩ (.string ((rd_T54 l0_2 x29_1).f0))).setCell ⟨gb113, 1, none⟩ (.string ((rd_T54 l0_2 x29_1).f1))).setCell ⟨gb113, 2, none⟩ (.bool false)).heap[gb107]? = some (.cells #[.int .i64 a0_0, .string a0_1, .slice (some ad112) l0_2.length c0_2] 37 (0, 0))) := ⟨by (with_reducible repeat (first | refine blk_drewN ?_ _ | refine blk_drew ?_ | refine blk_alloc ?_ _)); refine blk_far ?_ NB107_113.out _; (with_reducible repeat (first | refine blk_drewN ?_ _ | refine blk_drew ?_ | refine blk_alloc ?_ _)); refine blk_far ?_ NB107_113.out _; (with_reducible repeat (first | refine blk_drewN ?_ _ | refine blk_drew ?_ | refine blk_alloc ?_ _)); refine blk_far ?_ NB107_113.out _; (with_reducible repeat (first | refine blk_drewN ?_ _ | refine blk_drew ?_ | refine blk_alloc ?_ _)); exact BK107.out⟩
                            have n1_ : Aside0 ((((w43.setCell ⟨gb113, 0, none⟩ (.string ((rd_T54 l0_2 x29_1).f0))).setCell ⟨gb113, 1, none⟩ (.string ((rd_T54 l0_2 x29_1).f1))).setCell ⟨gb113, 2, none⟩ (.bool false)).heap[gb113]? = some (.cells #[.string ((rd_T54 l0_2 x29_1).f0), .string ((rd_T54 l0_2 x29_1).f1), .bool false] 54 (0, 0))) := ⟨by (with_reducible repeat (first | refine blk_drewN ?_ _ | refine blk_drew ?_ | refine blk_alloc ?_ _)); refine blk_put (cs := #[.string ((rd_T54 l0_2 x29_1).f0), .string ((rd_T54 l0_2 x29_1).f1), .bool false]) ?_ 2 _ rfl; (with_reducible repeat (first | refine blk_drewN ?_ _ | refine blk_drew ?_ | refine blk_alloc ?_ _)); refine blk_put (cs := #[.string ((rd_T54 l0_2 x29_1).f0), .string (⟨#[]⟩ : ByteArray), .bool false]) ?_ 1 _ rfl; (with_reducible repeat (first | refine blk_drewN ?_ _ | refine blk_drew ?_ | refine blk_alloc ?_ _)); refine blk_put (cs := #[.string (⟨#[]⟩ : ByteArray), .string (⟨#[]⟩ : ByteArray), .bool false]) ?_ 0 _ rfl; (with_reducible repeat (first | refine blk_drewN ?_ _ | refine blk_drew ?_ | refine blk_alloc ?_ _)); exact BK113.out⟩
                            have n2_ : Aside0 (Below w.heap.size w (((w43.setCell ⟨gb113, 0, none⟩ (.string ((rd_T54 l0_2 x29_1).f0))).setCell ⟨gb113, 1, none⟩ (.string ((rd_T54 l0_2 x29_1).f1))).setCell ⟨gb113, 2, none⟩ (.bool false))) := ⟨by repeat (first | (with_reducible first | exact HB.out | apply below_alloc | apply pw_below_drewN | apply below_drew1 | refine below_set ?_ GE107.out | refine below_set ?_ GE113.out) | exact HB.out)⟩
                            (try clear BK107 BKU)
                            (try clear BK113)
                            (try clear HB)
                            generalize (((w43.setCell ⟨gb113, 0, none⟩ (.string ((rd_T54 l0_2 x29_1).f0))).setCell ⟨gb113, 1, none⟩ (.string ((rd_T54 l0_2 x29_1).f1))).setCell ⟨gb113, 2, none⟩ (.bool false)) = w46 at nU_ n0_ n1_ n2_ ⊢
                            have BK107 := n0_; have BKU := nU_
                            have BK113 := n1_
                            have HB := n2_
                            clear n0_ n1_ n2_; (try clear nU_)
                            have n0_ := Aside0.mk (blk_drew BK107.out); have nU_ := Aside0.mk (Bu.drew BKU.out)
                            have n1_ := Aside0.mk (blk_drew BK113.out)
                            have n2_ := Aside0.mk (below_drew1 HB.out)
                            clear BK107 BKU
                            clear BK113
                            clear HB
                            have BK107 := n0_; have BKU := nU_
                            have BK113 := n1_
                            have HB := n2_
                            clear n0_ n1_ n2_; (try clear nU_)
                            refine start_ (n := 11) (S := fun w' => w'.cell? ⟨gb113, 0, none⟩ = some (.string ((rd_T54 l0_2 x29_1).f0)) ∧ w'.cell? ⟨gb113, 1, none⟩ = some (.string ((rd_T54 l0_2 x29_1).f1)) ∧ w'.cell? ⟨gb113, 2, none⟩ = some (.bool false)) (ds := []) #[false, false, false, false, false, false, false, false, false, false, false] (by kernel_rfl) rfl rfl ⟨(blk_cell BK113.out 0).trans rfl, (blk_cell BK113.out 1).trans rfl, (blk_cell BK113.out 2).trans rfl⟩ (fun hHeld => ?_); refine with_tabW batch_Bytes.tab11 batch_Bytes.bits11 (fun HT_ HW_ => ?_)
                            generalize w46.drew = w47 at BKU BK107 BK113 HB hHeld ⊢
                            refine pure_ (i := 0) (N := some 35) (v := ?_) (a' := ?_) #[true, false, false, false, false, false, false, false, false, false, false] rfl rfl (any_of HT_.out (by kernel_rfl)) (fun _ _ _ h => h) (Or.inl ⟨by rfl, ?_⟩) ?_ ?_
                            rotate_left
                            · intro w'
                              go_simp
                              with_reducible rfl
                            rotate_left
                            · simp only [Act.put, List.setIfInBounds_toArray, List.set_cons_zero, List.set_cons_succ, i64_w, i32_w]
                              rfl
                            refine pure_ (i := 2) (N := some 37) (v := ?_) (a' := ?_) #[true, false, true, false, false, false, false, false, false, false, false] rfl rfl (any_of HT_.out (by kernel_rfl)) (fun _ _ _ h => h) (Or.inl ⟨by rfl, ?_⟩) ?_ ?_
                            rotate_left
                            · intro w'
                              go_simp
                              with_reducible rfl
                            rotate_left
                            · simp only [Act.put, List.setIfInBounds_toArray, List.set_cons_zero, List.set_cons_succ, i64_w, i32_w]
                              rfl
                            refine pure_ (i := 6) (N := some 41) (v := ?_) (a' := ?_) #[true, false, true, false, false, false, true, false, false, false, false] rfl rfl (any_of HT_.out (by kernel_rfl)) (fun _ _ _ h => h) (Or.inl ⟨by rfl, ?_⟩) ?_ ?_
                            rotate_left
                            · intro w'
                              go_simp
                              with_reducible rfl
                            rotate_left
                            · simp only [Act.put, List.setIfInBounds_toArray, List.set_cons_zero, List.set_cons_succ, i64_w, i32_w]
                              rfl
                            refine take_ (i := 3) (N := some 38) (v := ?_) (a' := ?_) #[true, false, true, true, false, false, true, false, false, false, false] rfl rfl (take_ofW HT_.out HW_.out (by kernel_rfl)) (fun _ _ _ h => h) (Or.inl ⟨by rfl, ?_⟩) hHeld ?_ ?_
                            rotate_left
                            · rintro w' ⟨s0, s1, s2⟩
                              go_simp
                              with_reducible rfl
                            rotate_left
                            · simp only [Act.put, List.setIfInBounds_toArray, List.set_cons_zero, List.set_cons_succ, i64_w, i32_w]
                              rfl
                            refine take_ (i := 7) (N := some 42) (v := ?_) (a' := ?_) #[true, false, true, true, false, false, true, true, false, false, false] rfl rfl (take_ofW HT_.out HW_.out (by kernel_rfl)) (fun _ _ _ h => h) (Or.inl ⟨by rfl, ?_⟩) hHeld ?_ ?_
                            rotate_left
                            · rintro w' ⟨s0, s1, s2⟩
                              go_simp
                              with_reducible rfl
                            rotate_left
                            · simp only [Act.put, List.setIfInBounds_toArray, List.set_cons_zero, List.set_cons_succ, i64_w, i32_w]
                              rfl
                            refine one_ (i := 1) (N := some 36) #[true, true, true, true, false, false, true, true, false, false, false] rfl rfl (one_of HT_.out (by kernel_rfl)) (by decide) (fun K hK => ?_)
                            refine goes_ Try.func34 (by kernel_rfl) rfl #[.int .u64 0] (by rfl) rfl rfl (by (try simp only [List.map_toArray, List.map_cons, List.map_nil]); first | done | rfl | (simp only [List.length_drop, List.length_take]; rfl)) ?_
                            with_reducible refine (dec_Num.calls 0 t117 _ A37.out).mono ?_
                            rintro e w48 ⟨rfl, hb⟩
                            refine ⟨_, rfl, ?_⟩
                            have n0_ := Aside0.mk (blk_below (g := gb107) (o := .cells #[.int .i64 a0_0, .string a0_1, .slice (some ad112) l0_2.length c0_2] 37 (0, 0)) (by (with_reducible repeat (first | refine blk_drewN ?_ _ | refine blk_drew ?_ | refine blk_alloc ?_ _)); exact BK107.out) hb); have nU_ := Aside0.mk (Bu.below (by (with_reducible repeat (first | refine Bu.drewN ?_ _ | refine Bu.drew ?_ | refine Bu.alloc ?_ _)); exact BKU.out) hb)
                            have n1_ := Aside0.mk (blk_below (g := gb113) (o := .cells #[.string ((rd_T54 l0_2 x29_1).f0), .string ((rd_T54 l0_2 x29_1).f1), .bool false] 54 (0, 0)) (by (with_reducible repeat (first | refine blk_drewN ?_ _ | refine blk_drew ?_ | refine blk_alloc ?_ _)); exact BK113.out) hb)
                            have n2_ := Aside0.mk (below_step (by repeat (first | (with_reducible first | exact HB.out | apply below_alloc | apply pw_below_drewN | apply below_drew1 | refine below_set ?_ GE107.out | refine below_set ?_ GE113.out) | exact HB.out)) hb)
                            clear BK107 BKU
                            clear BK113
                            clear HB
                            have BK107 := n0_; have BKU := nU_
                            have BK113 := n1_
                            have HB := n2_
                            clear n0_ n1_ n2_; (try clear nU_)
                            (try clear hb)
                            (try clear hb2)
                            (try clear hk)
                            (try clear hi)
                            refine hK.out _ _ ⟨(blk_cell BK113.out 0).trans rfl, (blk_cell BK113.out 1).trans rfl, (blk_cell BK113.out 2).trans rfl⟩ (fun hHeld => ?_)
                            clear hK K
                            refine norm_ (a' := ?_) ?_ ?_
                            rotate_left
                            · show Act.put _ (some 36) _ = _
                              simp only [Act.put, List.setIfInBounds_toArray, List.set_cons_zero, List.set_cons_succ, i64_w, i32_w]
                              rfl
                            refine one_ (i := 4) (N := some 39) #[true, true, true, true, true, false, true, true, false, false, false] rfl rfl (one_of HT_.out (by kernel_rfl)) (by decide) (fun K hK => ?_)
                            refine goes_ Try.func35 (by kernel_rfl) rfl #[.string ((rd_T54 l0_2 x29_1).f0)] (by rfl) rfl rfl (by (try simp only [List.map_toArray, List.map_cons, List.map_nil]); first | done | rfl | (simp only [List.length_drop, List.length_take]; rfl)) ?_
                            with_reducible refine (dec_Text.calls ((rd_T54 l0_2 x29_1).f0) t118 _ A38.out).mono ?_
                            rintro e w49 ⟨rfl, hb⟩
                            refine ⟨_, rfl, ?_⟩
                            have n0_ := Aside0.mk (blk_below (g := gb107) (o := .cells #[.int .i64 a0_0, .string a0_1, .slice (some ad112) l0_2.length c0_2] 37 (0, 0)) (by (with_reducible repeat (first | refine blk_drewN ?_ _ | refine blk_drew ?_ | refine blk_alloc ?_ _)); exact BK107.out) hb); have nU_ := Aside0.mk (Bu.below (by (with_reducible repeat (first | refine Bu.drewN ?_ _ | refine Bu.drew ?_ | refine Bu.alloc ?_ _)); exact BKU.out) hb)
                            have n1_ := Aside0.mk (blk_below (g := gb113) (o := .cells #[.string ((rd_T54 l0_2 x29_1).f0), .string ((rd_T54 l0_2 x29_1).f1), .bool false] 54 (0, 0)) (by (with_reducible repeat (first | refine blk_drewN ?_ _ | refine blk_drew ?_ | refine blk_alloc ?_ _)); exact BK113.out) hb)
                            have n2_ := Aside0.mk (below_step (by repeat (first | (with_reducible first | exact HB.out | apply below_alloc | apply pw_below_drewN | apply below_drew1 | refine below_set ?_ GE107.out | refine below_set ?_ GE113.out) | exact HB.out)) hb)
                            clear BK107 BKU
                            clear BK113
                            clear HB
                            have BK107 := n0_; have BKU := nU_
                            have BK113 := n1_
                            have HB := n2_
                            clear n0_ n1_ n2_; (try clear nU_)
                            (try clear hb)
                            (try clear hb2)
                            (try clear hk)
                            (try clear hi)
                            refine hK.out _ _ ⟨(blk_cell BK113.out 0).trans rfl, (blk_cell BK113.out 1).trans rfl, (blk_cell BK113.out 2).trans rfl⟩ (fun hHeld => ?_)
                            clear hK K
                            refine norm_ (a' := ?_) ?_ ?_
                            rotate_left
                            · show Act.put _ (some 39) _ = _
                              simp only [Act.put, List.setIfInBounds_toArray, List.set_cons_zero, List.set_cons_succ, i64_w, i32_w]
                              rfl
                            refine pure_ (i := 5) (N := some 40) (v := ?_) (a' := ?_) #[true, true, true, true, true, true, true, true, false, false, false] rfl rfl (any_of HT_.out (by kernel_rfl)) (fun _ _ _ h => h) (Or.inl ⟨by rfl, ?_⟩) ?_ ?_
                            rotate_left
                            · intro w'
                              go_simp
                              with_reducible rfl
                            rotate_left
                            · simp only [Act.put, List.setIfInBounds_toArray, List.set_cons_zero, List.set_cons_succ, i64_w, i32_w]
                              rfl
                            refine one_ (i := 8) (N := some 43) #[true, true, true, true, true, true, true, true, true, false, false] rfl rfl (one_of HT_.out (by kernel_rfl)) (by decide) (fun K hK => ?_)
                            refine goes_ Try.func35 (by kernel_rfl) rfl #[.string ((rd_T54 l0_2 x29_1).f1)] (by rfl) rfl rfl (by (try simp only [List.map_toArray, List.map_cons, List.map_nil]); first | done | rfl | (simp only [List.length_drop, List.length_take]; rfl)) ?_
                            with_reducible refine (dec_Text.calls ((rd_T54 l0_2 x29_1).f1) t119 _ A40.out).mono ?_
                            rintro e w50 ⟨rfl, hb⟩
                            refine ⟨_, rfl, ?_⟩
                            have n0_ := Aside0.mk (blk_below (g := gb107) (o := .cells #[.int .i64 a0_0, .string a0_1, .slice (some ad112) l0_2.length c0_2] 37 (0, 0)) (by (with_reducible repeat (first | refine blk_drewN ?_ _ | refine blk_drew ?_ | refine blk_alloc ?_ _)); exact BK107.out) hb); have nU_ := Aside0.mk (Bu.below (by (with_reducible repeat (first | refine Bu.drewN ?_ _ | refine Bu.drew ?_ | refine Bu.alloc ?_ _)); exact BKU.out) hb)
                            have n1_ := Aside0.mk (blk_below (g := gb113) (o := .cells #[.string ((rd_T54 l0_2 x29_1).f0), .string ((rd_T54 l0_2 x29_1).f1), .bool false] 54 (0, 0)) (by (with_reducible repeat (first | refine blk_drewN ?_ _ | refine blk_drew ?_ | refine blk_alloc ?_ _)); exact BK113.out) hb)
                            have n2_ := Aside0.mk (below_step (by repeat (first | (with_reducible first | exact HB.out | apply below_alloc | apply pw_below_drewN | apply below_drew1 | refine below_set ?_ GE107.out | refine below_set ?_ GE113.out) | exact HB.out)) hb)
                            clear BK107 BKU
                            clear BK113
                            clear HB
                            have BK107 := n0_; have BKU := nU_
                            have BK113 := n1_
                            have HB := n2_
                            clear n0_ n1_ n2_; (try clear nU_)
                            (try clear hb)
                            (try clear hb2)
                            (try clear hk)
                            (try clear hi)
                            refine hK.out _ _ ⟨(blk_cell BK113.out 0).trans rfl, (blk_cell BK113.out 1).trans rfl, (blk_cell BK113.out 2).trans rfl⟩ (fun hHeld => ?_)
                            clear hK K
                            refine norm_ (a' := ?_) ?_ ?_
                            rotate_left
                            · show Act.put _ (some 43) _ = _
                              simp only [Act.put, List.setIfInBounds_toArray, List.set_cons_zero, List.set_cons_succ, i64_w, i32_w]
                              rfl
                            refine pure_ (i := 9) (N := some 44) (v := ?_) (a' := ?_) #[true, true, true, true, true, true, true, true, true, true, false] rfl rfl (any_of HT_.out (by kernel_rfl)) (fun _ _ _ h => h) (Or.inl ⟨by rfl, ?_⟩) ?_ ?_
                            rotate_left
                            · intro w'
                              go_simp
                              with_reducible rfl
                            rotate_left
                            · simp only [Act.put, List.setIfInBounds_toArray, List.set_cons_zero, List.set_cons_succ, i64_w, i32_w]
                              rfl
                            refine one_ (i := 10) (N := some 45) #[true, true, true, true, true, true, true, true, true, true, true] rfl rfl (one_of HT_.out (by kernel_rfl)) (by decide) (fun K hK => ?_)
                            refine goes_ Try.func33 (by kernel_rfl) rfl #[.pointer (some ⟨gbU, 0, none⟩), .string (((t117 ++ t118) ++ t119))] (by rfl) rfl rfl (by (try simp only [List.map_toArray, List.map_cons, List.map_nil]); first | done | rfl) ?_
                            with_reducible refine (bu_write.calls gbU x4_1 (((t117 ++ t118) ++ t119)) _ BKU.out (by first | exact c42 | omega | (have e_ : (⟨#[]⟩ : ByteArray).size = 0 := rfl; have q_ := c42; simp only [ByteArray.size_append] at q_ ⊢; omega))).mono ?_
                            rintro e w50U ⟨nW_, rfl, hbu, hb, hkp⟩
                            refine ⟨_, rfl, ?_⟩
                            have nk0_ := Aside0.mk (bu_kept hkp BKU.out BK107.out (by decide) (by decide))
                            have nk1_ := Aside0.mk (bu_kept hkp BKU.out BK113.out (by decide) (by decide))
                            have nb_ := Aside0.mk (below_weaken HB.out GEU.out hb)
                            clear BK107 BK113 HB BKU
                            have BK107 := nk0_
                            have BK113 := nk1_
                            have HB := nb_
                            have BKU := Aside0.mk hbu
                            clear nb_ hbu hb hkp nk0_ nk1_
                            refine hK.out _ _ ⟨(blk_cell BK113.out 0).trans rfl, (blk_cell BK113.out 1).trans rfl, (blk_cell BK113.out 2).trans rfl⟩ (fun hHeld => ?_)
                            clear hK K
                            refine norm_ (a' := ?_) ?_ ?_
                            rotate_left
                            · show Act.put _ (some 45) _ = _
                              simp only [Act.put, List.setIfInBounds_toArray, List.set_cons_zero, List.set_cons_succ, i64_w, i32_w]
                              rfl
                            refine done_ (done_of HT_.out (by kernel_rfl)) ?_
                            try go_wp2
                            go_roundg k1
                            case measure => have := HK1.out; omega
                            case rel => exact ⟨(x4_1 ++ ((t117 ++ t118) ++ t119)), (wrap64 (x29_1 + 1)), (by first | rfl | (simp; done) | (simp [*]; done)), H', ⟨by have := HK1.out; omega⟩, ⟨by (with_reducible repeat (first | refine blk_drewN ?_ _ | refine blk_drew ?_ | refine blk_alloc ?_ _)); exact BK107.out⟩, ⟨by repeat (first | (with_reducible first | exact HB.out | apply below_alloc | apply pw_below_drewN | apply below_drew1 | refine below_set ?_ GE107.out | refine below_set ?_ GE113.out) | exact HB.out)⟩, ⟨by (with_reducible repeat (first | refine Bu.drewN ?_ _ | refine Bu.drew ?_ | refine Bu.alloc ?_ _)); exact BKU.out⟩⟩
                          · rw [if_neg c42] at H
                            exact absurd H (by simp)
                        · rw [if_neg c41] at H
                          exact absurd H (by simp)
                      · rw [if_neg c39] at H
                        exact absurd H (by simp)
                  · rw [if_neg c20] at H
                    exact absurd H (by simp)
                · rw [if_neg c19] at H
                  exact absurd H (by simp)
              · rw [if_neg c18] at H
                have c18b0 : decide (x29_1 < (l0_2.length : Int)) = false := decide_eq_false c18
                clear c18
                simp only [Option.some.injEq, Prod.mk.injEq] at H
                obtain ⟨rfl, rfl⟩ := H
                go_wp2_with ((with_reducible refine gate_callee (f := 36) rfl ?_); refine goesL_ (some 47) rfl rfl Try.func36 (by kernel_rfl) rfl #[.pointer (some ⟨gbU, 0, none⟩)] rfl (by (try simp only [List.map_toArray, List.map_cons, List.map_nil]); first | done | rfl) ?_; (with_reducible refine (bu_string.calls gbU _ _ (by (with_reducible repeat (first | refine Bu.drewN ?_ _ | refine Bu.drew ?_ | refine Bu.alloc ?_ _)); exact BKU.out)).mono ?_); rintro e wS ⟨rfl, hb⟩; refine ⟨_, rfl, ?_⟩; have nb_ := Aside0.mk (below_weaken HB.out GEU.out hb); clear HB; have HB := nb_; clear nb_ hb)
                go_ret2
                exact ⟨by first | rfl | (simp [errW_none, errW_some] <;> rfl) | (simp [*, errW_none, errW_some] <;> rfl), by repeat (first | (with_reducible first | exact HB.out | apply below_alloc | apply pw_below_drewN | apply below_drew1 | refine below_set ?_ GE107.out) | exact HB.out)⟩
        · rw [if_neg c9] at H
          exact absurd H (by simp)
      · rw [if_neg c8] at H
        exact absurd H (by simp)
    · rw [if_neg c6] at H
      exact absurd H (by simp)
  · replace c3 := Bool.eq_false_iff.mpr c3
    subst c3
    have H1 : (some ((⟨#[]⟩ : ByteArray), 1)) = some (r1, r2) := by rw [if_neg (show ¬ (false = true) by decide)] at H; exact H
    clear H
    have H := H1
    clear H1
    simp only [Option.some.injEq, Prod.mk.injEq] at H
    obtain ⟨rfl, rfl⟩ := H
    go_enter Try.func18, Try.ntmps18
    go_wp2_with (first | ((with_reducible refine gate_dst (N := 1) rfl ?_); refine box_event ?hg (N := 1) ?hd (cs := #[.int .i64 a0_0, .string a0_1, .slice A0_2 l0_2.length c0_2]) (t := 37) ?hr ?_; (case hd => rfl); (case hg => rfl); (case hr => first | (go_simp; done) | (go_simp; rfl)); intro gb107 hg w51 hbox hb; have n0_ := Aside0.mk (below_step (by repeat (first | (with_reducible first | exact HB.out | apply below_alloc | apply pw_below_drewN | apply below_drew1) | exact HB.out)) hb); have n1_ := Aside0.mk (hbox); have n2_ := Aside0.mk ((by rw [hg]; exact (below_size (by repeat (first | (with_reducible first | exact HB.out | apply below_alloc | apply pw_below_drewN | apply below_drew1) | exact HB.out))) : w.heap.size ≤ gb107)); have n3_ := Aside0.mk ((by rw [hg]; exact (below_size (by repeat (first | (with_reducible first | exact HB.out | apply below_alloc | apply pw_below_drewN | apply below_drew1) | exact HB.out))) : w.heap.size ≤ gb107)); clear HB; have HB := n0_; have BK107 := n1_; have GW107 := n2_; have GE107 := n3_; clear n0_ n1_ n2_ n3_; clear hb hbox hg; have hcz52_0 : w51.cell? ⟨gb107, 0, none⟩ = some (.int .i64 a0_0) := (blk_cell BK107.out 0).trans rfl; have hcz52_1 : w51.cell? ⟨gb107, 1, none⟩ = some (.string a0_1) := (blk_cell BK107.out 1).trans rfl; have hcz52_2 : w51.cell? ⟨gb107, 2, none⟩ = some (.slice A0_2 l0_2.length c0_2) := (blk_cell BK107.out 2).trans rfl; have hfz52_0 := blk_frozen BK107.out 0; have hfz52_1 := blk_frozen BK107.out 1; have hfz52_2 := blk_frozen BK107.out 2) | ((with_reducible refine gate_callee (f := 23) rfl ?_); refine goesL_ (some 9) rfl rfl Try.func23 (by kernel_rfl) rfl #[.agg #[.int .i64 a0_0, .string a0_1, .slice A0_2 l0_2.length c0_2]] rfl (by (try simp only [List.map_toArray, List.map_cons, List.map_nil]); first | done | rfl | (simp only [List.length_drop, List.length_take]; rfl)) ?_; (with_reducible refine (batch_May.calls k a0_0 a0_1 _ _ l0_2 false _ ?side1 ?side2 A2.out).mono ?_); (case side1 => repeat (first | exact (Kd.C_below HR0_2.out HB.out) | (with_reducible refine Kd.C_alloc ?_ _) | (with_reducible refine Kd.C_drewN ?_ _) | (with_reducible refine Kd.C_drew ?_))); (case side2 => exact HC0_2.out); rintro e w53 ⟨rfl, hb⟩; refine ⟨_, rfl, ?_⟩; have n0_ := Aside0.mk (blk_below (g := gb107) (o := .cells #[.int .i64 a0_0, .string a0_1, .slice A0_2 l0_2.length c0_2] 37 (0, 0)) (by (with_reducible repeat (first | refine blk_drewN ?_ _ | refine blk_drew ?_ | refine blk_alloc ?_ _)); exact BK107.out) hb); have n1_ := Aside0.mk (below_step (by repeat (first | (with_reducible first | exact HB.out | apply below_alloc | apply pw_below_drewN | apply below_drew1 | refine below_set ?_ GE107.out) | exact HB.out)) hb); clear BK107; clear HB; have BK107 := n0_; have HB := n1_; clear n0_ n1_; (try clear hb); (try clear hb2); (try clear hk); (try clear hi)))
    go_ret2
    exact ⟨by first | rfl | (simp [errW_none, errW_some] <;> rfl) | (simp [*, errW_none, errW_some] <;> rfl), by repeat (first | (with_reducible first | exact HB.out | apply below_alloc | apply pw_below_drewN | apply below_drew1 | refine below_set ?_ GE107.out) | exact HB.out)⟩

end Go.Proofs.Ythcdlgphabaidaa.PB
