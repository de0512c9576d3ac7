-- Made by a program of this workplace out of the translation (wip/tools in the repo). Not trusted: Lean checks it.
import Derived.Test.YtlacmlceedkfoaaPCx0
import Derived.Test.YtlacmlceedkfoaaPCx2
import Derived.Test.YtlacmlceedkfoaaPCx3
import Derived.Test.YtlacmlceedkfoaaPCx4
namespace Go.Proofs.Ytlacmlceedkfoaa.PC
open Go.RowKit Go.Proofs.YtlacmlceedkfoaaW.PrintWords Go.Proofs.YtlacmlceedkfoaaW.PrintLast Go.Proofs.YtlacmlceedkfoaaW.PrintMore
attribute [local go_sem] max2_int min2_int max_two min_two max_three min_three max_four min_four   -- for this text's walks alone
set_option linter.unusedVariables false
set_option linter.unusedSimpArgs false

open Go.Proofs.Ytlacmlceedkfoaa.Cp
/-! ### view_Set: function 26 -/
set_option maxHeartbeats 8000000 in
set_option maxRecDepth 100000 in
theorem api_Write_41.growC (a : Addr) (b i n c : Nat) (cur : List Value) (vs : List Value) (w : World) (hi : i < n) (hnc : n ≤ c) (hroom : c < n + 1) (hbig : (n + 1) * 40 ≤ 140737488355328) (hcur : cur.length = n * 3) (hvl : vs.length = 3)
    (hsrc : ∀ j v, cur[j]? = some v → w.cell? (a.add j) = some v) (hb : w.heap[b]? = some (.cells vs.toArray 61 (0, 0))) (h1c : ∀ v ∈ cur.take (n * 3), v.oneCell' = true) (h1v : ∀ v ∈ vs, v.oneCell' = true) :
    Calls Try.prog 41 #[.slice (some a) n c, .int .i64 i, .slice (some ⟨b, 0, none⟩) 1 1] w fun e w' => ∃ (G : Nat) (cur2 : List Value),
      e = .returned (.slice (some ⟨w.heap.size, 0, none⟩) (n + 1) G) ∧ n + 1 ≤ G ∧ G ≤ maxLen ∧ (∃ W : World, W.heap.size = w.heap.size + 1 ∧ Below w.heap.size w W ∧ W.heap[w.heap.size]? = some (.cells cur2.toArray 61 (0, 0)) ∧ w' = W) ∧ cur2.length = G * 3 ∧ cur2.take ((n + 1) * 3) = (cur.take (n * 3)).take (i * 3) ++ vs ++ (cur.take (n * 3)).drop (i * 3) := by
  have hu61 := Try.underlying61
  obtain ⟨i0, hi0, hz0, hzs, hzb⟩ := info_parts info61
  have hsz : (Try.prog.info? 61).map (·.size) = some 3 := by rw [hi0]; simp [hzs]
  have hbw : b < w.heap.size := (Array.getElem?_eq_some_iff.1 hb).1
  have hkk : (n : Int) + 1 - (i : Int) = ((n + 1 - i : Nat) : Int) := by omega
  have hik : i + (n + 1 - i) = n + 1 := by omega
  have hold : (Builtin.firstCells i0.size i (.slice (some a) i c)).run Try.prog w.drew = .ok (cur.take (i * 3)).toArray w.drew := by
    rw [hzs]
    exact run_firstCells_some w.drew 3 i a i c (cur.take (i * 3)) (by rw [List.length_take]; omega) (fun j v hj => by
      show w.cell? _ = _
      rw [List.getElem?_take] at hj
      split at hj
      · exact hsrc j v hj
      · cases hj)
  obtain ⟨G, hG⟩ : ∃ G, G = grownCap w (n + 1) c 61 := ⟨_, rfl⟩
  obtain ⟨Z, hZ⟩ : ∃ Z, Z = ((.agg #[(.string ⟨#[]⟩), (.string ⟨#[]⟩), (.bool false)]) : Value) := ⟨_, rfl⟩
  have hzc : Z.cells.size = 3 := by rw [hZ]; rfl
  rw [← hZ] at hz0
  obtain ⟨ROW, hROW⟩ : ∃ ROW : Array Value, ROW = (cur.take (i * 3)).toArray ++ Builtin.zeroCells Z.cells (n + 1 - i) ++ Builtin.zeroCells Z.cells (G - (n + 1)) := ⟨_, rfl⟩
  have hrz : ∀ ty, (Builtin.append_ #[22, 3] ty #[.slice (some a) i c, .int .i64 ((n : Int) + 1 - (i : Int))]).run Try.prog w =
      .ok (.slice (some ⟨w.heap.size, 0, none⟩) (n + 1) G) (w.drew.alloc (.cells ROW 61)) := fun ty => by
    have h := Lib.run_append_grow_zeros w 22 3 ty 61 i0 Z .i64 .i64 Try.underlying22 Try.underlying3 hi0 hz0 (some a) i c (cur.take (i * 3)) hold (n + 1 - i) (by omega) (by omega) (by omega) (by omega) (by rw [hzb]; omega) (by rw [hzb, hik]; exact growslice_fits hroom hbig)
    rw [hik, ← hG, ← hROW] at h
    rw [hkk]
    exact h
  have hGn : n + 1 ≤ G := by rw [hG]; exact grownCap_ge w _ _ _
  have hGm : G ≤ maxLen := by rw [hG]; exact grownCap_le_maxLen w _ _ _ (by unfold maxLen; omega)
  have hG63 : G ≤ 9223372036854775807 := by have := hGm; unfold maxLen at this; omega
  have hRsz : ROW.size = G * 3 := by
    rw [hROW, Array.size_append, Array.size_append, zero_size, zero_size, hzc, List.size_toArray, List.length_take]
    omega
  have hRA : ROW.toList.take (i * 3) = cur.take (i * 3) := by
    rw [hROW, Array.toList_append, Array.toList_append, List.append_assoc]
    exact List.take_left' (by simp only [List.length_take]; omega)
  obtain ⟨RA, hcA⟩ : ∃ RA, RA = ROW.toList.take (i * 3) ++ vs ++ ROW.toList.drop (i * 3 + vs.length) := ⟨_, rfl⟩
  obtain ⟨cs, hcs⟩ : ∃ cs, cs = (cur.drop (i * 3)).take ((n - i) * 3) := ⟨_, rfl⟩
  obtain ⟨RB, hcB⟩ : ∃ RB, RB = RA.take ((i + 1) * 3) ++ cs ++ RA.drop ((i + 1) * 3 + cs.length) := ⟨_, rfl⟩
  have lR : ROW.toList.length = G * 3 := Array.length_toList.trans hRsz
  obtain ⟨lcs, l1, l2, hins⟩ := ins_grow cur vs ROW.toList i n 3 (by omega) hvl (by omega) (by rw [lR]; omega) hRA cs RA RB hcs hcA hcB
  have l1 : RA.length = G * 3 := l1.trans lR
  have l2 : RB.length = G * 3 := l2.trans lR
  have f1 : i * 3 + 3 ≤ ROW.size := by omega
  have f2 : (i + 1) * 3 + (n - i) * 3 ≤ RA.toArray.size := by
    rw [show RA.toArray.size = RA.length from rfl, l1]
    omega
  have hN : ∀ W : World, W.heap = (w.alloc (.cells ROW 61)).heap → W.heap[w.heap.size]? = some (.cells ROW 61 (0, 0)) := fun W hW => by rw [hW]; exact heap_alloc_new w _
  have hold2 : ∀ k, k < w.heap.size → (w.alloc (.cells ROW 61)).heap[k]? = w.heap[k]? := fun k hk => heap_alloc_old w _ hk
  have hcpA : ∀ (W : World), W.heap = (w.alloc (.cells ROW 61)).heap → ∀ ty dc, (Builtin.copy_ #[22, 22] ty #[.slice (some ⟨w.heap.size, i * 3, none⟩) (n + 1 - i) dc, .slice (some ⟨b, 0, none⟩) 1 1]).run Try.prog W = .ok (goInt (Nat.min 1 (n + 1 - i))) (W.setRow w.heap.size RA.toArray) := fun W hW ty dc => by
    have h := run_copy_rowK (P := Try.prog) W 22 22 ty 61 w.heap.size (i * 3) (n + 1 - i) dc ⟨b, 0, none⟩ 1 1 ROW 61 vs 3 Try.underlying22 hsz (hN W hW)
      (by rw [hvl, show Nat.min 1 (n + 1 - i) = 1 by simp only [Nat.min_def]; split <;> omega])
      (fun j v hj => by
        have hb2 : W.heap[b]? = some (.cells vs.toArray 61 (0, 0)) := by rw [hW, hold2 b hbw]; exact hb
        rw [Addr.add_lit, cell_of_blk hb2]
        simpa using hj)
      (by rw [hvl]; exact f1) h1v
    rw [← hcA] at h
    exact h
  have hcpB : ∀ (W : World), W.heap = ((w.alloc (.cells ROW 61)).setRow w.heap.size RA.toArray).heap → ∀ ty dc sc, (Builtin.copy_ #[22, 22] ty #[.slice (some ⟨w.heap.size, (i + 1) * 3, none⟩) (n - i) dc, .slice (some (a.add (i * 3))) (n - i) sc]).run Try.prog W = .ok (goInt (Nat.min (n - i) (n - i))) (W.setRow w.heap.size RB.toArray) := fun W hW ty dc sc => by
    have hNW : W.heap[w.heap.size]? = some (.cells RA.toArray 61 (0, 0)) := by rw [hW]; exact setRow_heap _ _ ROW _ 61 _ (hN _ rfl)
    have hcW : ∀ j v, cur[j]? = some v → W.cell? (a.add j) = some v := fun j v hj => by
      have h0 := hsrc j v hj
      have hlt := World.block_lt_of_cell? w _ h0
      exact (World.cell?_of_block (by rw [hW, setRow_other _ _ _ _ (by omega)]; exact hold2 _ hlt)).trans h0
    have h := run_copy_rowK (P := Try.prog) W 22 22 ty 61 w.heap.size ((i + 1) * 3) (n - i) dc (a.add (i * 3)) (n - i) sc RA.toArray 61 cs 3 Try.underlying22 hsz hNW
      (by rw [lcs]; congr 1; simp only [Nat.min_def]; split <;> rfl)
      (fun j v hj => by
        rw [hcs, List.getElem?_take] at hj
        split at hj
        · rw [List.getElem?_drop] at hj
          rw [add_add]
          exact hcW _ v hj
        · cases hj)
      (by rw [lcs]; exact f2)
      (fun v hv => h1c v (by
        rw [hcs] at hv
        have h2 : (cur.drop (i * 3)).take ((n - i) * 3) = (cur.take (n * 3)).drop (i * 3) := by rw [List.drop_take]; congr 1; omega
        rw [h2] at hv
        exact List.mem_of_mem_drop hv))
    rw [List.toList_toArray, ← hcB] at h
    exact h
  have hA2 := hcpA ((w.alloc (.cells ROW 61)).drew) rfl
  have hB2 := hcpB (((w.alloc (.cells ROW 61)).drew.setRow w.heap.size RA.toArray).drew) rfl
  clear hcpA hcpB
  have hw1 : IntKind.i64.wrap ((i : Int) + 1) = (i : Int) + 1 := by rw [IntKind.wrap_i64]; omega
  have hw2 : IntKind.i64.wrap ((n : Int) + 1) = (n : Int) + 1 := by rw [IntKind.wrap_i64]; omega
  have hb0 : (0 : Int) ≤ (i : Int) + 1 := by omega
  have hin : i ≤ n := by omega
  have htn : ((i : Int) + 1).toNat = i + 1 := by omega
  have hz2 : ((i : Int) == (n : Int)) = false := by simp; omega
  have hz3 : decide ((c : Int) < (n : Int) + 1) = true := decide_eq_true (by omega)
  have hb2 : ¬ (G = i + 1) := by omega
  have hb3 : (i : Int) + 1 ≤ (n : Int) + 1 := by omega
  have hb4 : ¬ (c = i) := by omega
  have hb5 : ¬ (G = i) := by omega
  have hb7 : (i : Int) ≤ (n : Int) + 1 := by omega
  have hb8 : (i : Int) ≤ (n : Int) := by omega
  have X1 := Aside0.mk hins
  have X2 := Aside0.mk l2
  have X3 := Aside0.mk hN
  have X4 := Aside0.mk hold2
  have X5 := Aside0.mk hGm
  clear hins l1 l2 lR lcs hcs hcA hcB hRA hRsz hROW hG hkk hik hold f1 f2 hN hold2 hzc hZ hz0 hGm hzs hzb
  go_enter Try.func41, Try.ntmps41
  go_wp2_with (first
    | (at_builtin; refine wpList_append_run _ rfl _ _ _ _ rfl _ _ rfl rfl (hrz _) ?_)
    | (at_builtin; refine wpList_copy_run _ rfl _ _ 22 22 rfl _ _ rfl rfl (hA2 _ _) ?_))
  go_region_law (refine step_copy_run rfl _ _ 22 22 rfl _ _ (by simp [Act.eval, Act.put]) (by simp [Act.eval, Act.put]) (hB2 _ _ _) ?_)
  go_wp2
  go_ret
  exact ⟨G, RB, rfl, hGn, X5.out, ⟨_, by simp [World.setRow], below_setRow (Below.drew (below_setRow (Below.drew (Below.alloc (Below.refl _ _) (Nat.le_refl _) _)) (Nat.le_refl _) _)) (Nat.le_refl _) _, setRow_heap _ _ RA.toArray _ 61 _ (setRow_heap (w.alloc (.cells ROW 61)).drew _ ROW _ 61 _ (heap_alloc_new w _)), rfl⟩, X2.out, X1.out⟩
theorem C_cells61 {w : World} {b : Addr} {n : Nat} {xs : List S61} (h : Kd.C k61 w (some b) n xs) : ∀ j u, (xs.flatMap c61)[j]? = some u → w.cell? (b.add j) = some u := by
  intro j u hj
  have hlj : j < (xs.flatMap c61).length := (List.getElem?_eq_some_iff.1 hj).1
  rw [flat_len c61 c61_len] at hlj
  have hq : j / 3 < xs.length := by omega
  have hxn : xs.length = n := h.1
  obtain ⟨ad, c, e, _, hK, hc0⟩ := Kd.C_get h z61 ((j / 3 : Nat) : Int) (by omega) (by omega)
  cases e
  have hcx : c = c61 (xs[j / 3]) := by
    have := k61_open hK
    rw [this]
    rw [show xs.getD ((j / 3 : Nat) : Int).toNat z61 = xs[j / 3] by rw [Int.toNat_natCast, List.getD_eq_getElem?_getD, List.getElem?_eq_getElem hq]; rfl]
    rfl
  have hd : (xs.flatMap c61)[j]? = (c61 xs[j / 3])[j % 3]? := by
    have h1 : (xs.flatMap c61)[j]? = ((xs.flatMap c61).drop (j / 3 * 3))[j % 3]? := by
      rw [List.getElem?_drop]
      congr 1
      omega
    rw [h1, flat_drop c61 c61_len, List.drop_eq_getElem_cons hq, List.flatMap_cons, List.getElem?_append_left (by rw [c61_len]; omega)]
  rw [hd, ← hcx] at hj
  have := hc0 _ u hj
  rw [show (((j / 3 : Nat) : Int)).toNat * k61.sz + j % 3 = j by show (((j / 3 : Nat) : Int)).toNat * 3 + j % 3 = j; omega] at this
  exact this
theorem enters38 : ∀ args w, (callFunc 38 args).run Try.prog w = .ok (.enter 38 args) w := enters_of Try.func38 (by kernel_rfl) rfl
theorem enters40 : ∀ args w, (callFunc 40 args).run Try.prog w = .ok (.enter 40 args) w := enters_of Try.func40 (by kernel_rfl) rfl
set_option maxHeartbeats 8000000 in
theorem view_Set_1.calls (x : S61) (key : ByteArray) (B : Nat) (W : World) (hc : W.cell? ⟨B, 0, none⟩ = some (.string key)) :
    Calls Try.prog 38 #[.agg #[.string x.f0, .string x.f1, .bool x.f2], .pointer (some ⟨B, 0, none⟩)] W fun e w' => e = .returned (.bool (seq61 key x)) ∧ Below W.heap.size W w' := by
  have hu61 := Try.underlying61
  have hB := World.block_lt_of_cell? W _ hc
  go_enter Try.func38, Try.ntmps38
  go_wp2
  go_ret
  exact ⟨rfl, (Below.refl _ _).alloc (Nat.le_refl _) _⟩
set_option maxHeartbeats 8000000 in
theorem view_Set_2.calls (x : S61) (key : ByteArray) (B : Nat) (W : World) (hc : W.cell? ⟨B, 0, none⟩ = some (.string key)) :
    Calls Try.prog 40 #[.agg #[.string x.f0, .string x.f1, .bool x.f2], .pointer (some ⟨B, 0, none⟩)] W fun e w' => e = .returned (.bool (sgt61 key x)) ∧ Below W.heap.size W w' := by
  have hu61 := Try.underlying61
  have hB := World.block_lt_of_cell? W _ hc
  go_enter Try.func40, Try.ntmps40
  go_wp2
  go_ret
  exact ⟨rfl, (Below.refl _ _).alloc (Nat.le_refl _) _⟩
theorem ixOf_two {α : Type} (p : α → Bool) (l : List α) : ixOf p l = -1 ∨ ∃ i : Nat, i < l.length ∧ ixOf p l = (i : Int) := by
  unfold ixOf
  split
  · exact .inr ⟨_, by assumption, rfl⟩
  · exact .inl rfl
set_option maxHeartbeats 8000000 in
set_option maxRecDepth 100000 in
theorem view_Set.calls (A0 : Option Addr) (c0 : Nat) (l0 : List (S61)) (a1_0 a1_1 : ByteArray) (a1_2 : Bool) (r : List S61) (w : World) (hr0 : Kd.C k61 w A0 l0.length l0) (hc0 : l0.length ≤ c0) (h : view_Set.f l0 a1_0 a1_1 a1_2 = some r) :
    Calls Try.prog 26 #[.slice A0 l0.length c0, .agg #[.string a1_0, .string a1_1, .bool a1_2]] w fun e w' => ∃ v0_ : Value, e = .returned (v0_) ∧ Kd.R k61 61 w' w.heap.size (fun _ => True) v0_ r ∧ Below w.heap.size w w' := by
  have hu61 := Try.underlying61
  obtain ⟨y, hy, h2⟩ := Option.bind_eq_some_iff.1 h
  have hlen : l0.length < 3518437208000 := by
    by_cases e : l0.length < 3518437208000
    · exact e
    · rw [if_neg e] at h2; cases h2
  rw [if_pos hlen] at h2
  obtain rfl := Option.some.inj h2
  have hyl : y = l0 := by
    have hy' := hy
    unfold api_Write_39.f at hy'
    simp only [Option.bind_some] at hy'
    split at hy'
    · cases hy'; simp
    · cases hy'
  subst hyl
  clear h h2
  obtain ⟨x, hx⟩ : ∃ x : S61, x = ⟨a1_0, a1_1, a1_2⟩ := ⟨_, rfl⟩
  rw [← hx]
  have hx0 : x.f0 = a1_0 := by rw [hx]
  have hcx : c61 x = [.string a1_0, .string a1_1, .bool a1_2] := by rw [hx]; rfl
  obtain ⟨W1, hW1⟩ : ∃ W1, W1 = w.alloc (.cells #[.string a1_0, .string a1_1, .bool a1_2] 61) := ⟨_, rfl⟩
  have hs1 : W1.heap.size = w.heap.size + 1 := by rw [hW1]; simp
  have hB1 : Below w.heap.size w W1 := by rw [hW1]; exact Below.alloc (Below.refl _ _) (Nat.le_refl _) _
  have hbk : W1.heap[w.heap.size]? = some (.cells #[.string a1_0, .string a1_1, .bool a1_2] 61 (0, 0)) := by rw [hW1]; exact heap_alloc_new w _
  have hk1 : W1.cell? ⟨w.heap.size, 0, none⟩ = some (.string x.f0) := by rw [hx0]; exact (blk_cell hbk 0).trans rfl
  have hR1 : Kd.C k61 W1 A0 y.length y := by rw [hW1]; exact Kd.C_alloc hr0 _
  have hF : ∀ W2 : World, Below W1.heap.size W1 W2 → Calls Try.prog 34 #[.slice A0 y.length y.length, .func (.func 38) #[] #[.pointer (some ⟨w.heap.size, 0, none⟩)]] W2 fun e w' => e = .returned (.int .i64 (ixOf (seq61 x.f0) y)) ∧ Below W2.heap.size W2 w' := fun W2 hb =>
    api_Write_34.calls (seq61 x.f0) 38 _ enters38 A0 y.length y W2 (Kd.C_below hR1 hb) (fun W z hb2 => view_Set_1.calls z x.f0 w.heap.size W (((hb.trans (hb2.mono hb.size)).cell (World.block_lt_of_cell? W1 _ hk1)).trans hk1))
  have hG : ∀ W2 : World, Below W1.heap.size W1 W2 → Calls Try.prog 34 #[.slice A0 y.length y.length, .func (.func 40) #[] #[.pointer (some ⟨w.heap.size, 0, none⟩)]] W2 fun e w' => e = .returned (.int .i64 (ixOf (sgt61 x.f0) y)) ∧ Below W2.heap.size W2 w' := fun W2 hb =>
    api_Write_34.calls (sgt61 x.f0) 40 _ enters40 A0 y.length y W2 (Kd.C_below hR1 hb) (fun W z hb2 => view_Set_2.calls z x.f0 w.heap.size W (((hb.trans (hb2.mono hb.size)).cell (World.block_lt_of_cell? W1 _ hk1)).trans hk1))
  have hcz : (y.length : Int) ≤ (c0 : Int) := by omega
  have hc0z : (0 : Int) ≤ (y.length : Int) := by omega
  have hmx := hr0.2.1
  have hnone : A0 = none → y.length = 0 := fun e => by
    rcases Nat.eq_zero_or_pos y.length with h | h
    · exact h
    · obtain ⟨_, e2, _⟩ := hr0.2.2 h
      rw [e] at e2; cases e2
  have CELL : ∀ W2 : World, Below W1.heap.size W1 W2 → W2.heap[w.heap.size]? = some (.cells #[.string a1_0, .string a1_1, .bool a1_2] 61 (0, 0)) := fun W2 hb => (hb.block _ (by omega)).trans hbk
  rcases ixOf_two (seq61 x.f0) y with hE | ⟨i, hil, hE⟩
  · have hng : ¬ ((0 : Int) ≤ -1) := by decide
    rw [hE] at hF
    rcases ixOf_two (sgt61 x.f0) y with hT | ⟨j, hjl, hT⟩
    · have hres : setL61 y x = y ++ [x] := by unfold setL61; rw [hE, if_neg hng, hT]; rfl
      rw [hres]
      rw [hT] at hG
      obtain ⟨i0, hi0, hz0, hzs, hzb⟩ := info_parts info61
      have I0 := Aside0.mk hi0
      have I1 := Aside0.mk hz0
      have I2 := Aside0.mk hzs
      have I3 := Aside0.mk hzb
      have F0 := Aside0.mk (hF W1 (Below.refl _ _))
      rw [hW1] at F0
      have GG := Aside0.mk hG
      have CC := Aside0.mk CELL
      have B1 := Aside0.mk hB1
      have R1 := Aside0.mk hR1
      have NN := Aside0.mk hnone
      have CX := Aside0.mk hcx
      have S1 := Aside0.mk hs1
      have V1 := Aside0.mk (show ∀ v ∈ c61 x, v.oneCell' = true by have := c61_one [x]; simpa using this)
      have NB := Aside0.mk (show ∀ w3 : World, ∀ j u, (c61 x)[j]? = some u → (w3.alloc (.cells #[.string a1_0, .string a1_1, .bool a1_2] 61)).cell? ((⟨w3.heap.size, 0, none⟩ : Addr).add j) = some u from fun w3 j u hj => by
        rw [hcx] at hj
        rw [Addr.add_lit, cell_of_blk (heap_alloc_new _ _), Nat.zero_add]
        simpa using hj)
      clear hF hG CELL hB1 hR1 hnone hcx hs1 hbk hk1 hr0 hE hT hres hng hx0 hy hi0 hz0 hzs hzb
      rcases A0 with _ | a
      all_goals
        go_enter Try.func26, Try.ntmps26
        go_wp2_with (first
          | (go_at_call 34; with_reducible refine F0.out.mono ?_; rintro e w2 ⟨rfl, hb⟩; rw [← hW1] at hb; have H2 := Aside0.mk hb; clear hb)
          | (go_at_call 34; refine (GG.out w2 H2.out).mono ?_; rintro e w3 ⟨rfl, hb⟩; have H3 := Aside0.mk (below_step H2.out hb); clear hb; have k5 := CC.out w3 H3.out; have k6 : w3.cell? ⟨w.heap.size, 0, none⟩ = some (.string a1_0) := (blk_cell k5 0).trans rfl; have k7 : w3.cell? ⟨w.heap.size, 1, none⟩ = some (.string a1_1) := (blk_cell k5 1).trans rfl; have k8 : w3.cell? ⟨w.heap.size, 2, none⟩ = some (.bool a1_2) := (blk_cell k5 2).trans rfl)
          | (at_builtin; refine wpList_append_grows _ rfl (.tmp 30) (.tmp 32) 22 rfl 61 i0 (.agg #[(.string ⟨#[]⟩), (.string ⟨#[]⟩), (.bool false)]) 3 40 Try.underlying22 I0.out I1.out I2.out I3.out rfl (by decide) _ y.length y.length (y.flatMap c61) rfl ?n1 (flat_len c61 c61_len y) ?n3 ⟨w3.heap.size, 0, none⟩ 1 1 (c61 x) (by first | (go_simp; done) | (go_simp; rfl) | rfl) rfl (NB.out w3) V1.out (Nat.lt_succ_self _) (by unfold maxLen; omega) (by omega) ?_; (case n1 => intro e; first | (cases e; done) | exact ⟨NN.out rfl, NN.out rfl⟩ | exact ⟨NN.out trivial, NN.out trivial⟩); (case n3 => intro b e j u hj; first | (cases e; done) | (cases e; exact C_cells61 (Kd.C_alloc (Kd.C_below R1.out H3.out) _) j u hj)); intro v5 w5 hown hgr; have O5 := Aside0.mk hown; have G5 := Aside0.mk hgr; clear hown hgr))
        go_ret
        have hB3 : Below w.heap.size w w3 := B1.out.trans (H3.out.mono (by have := S1.out; omega))
        have hB4 : Below w.heap.size w (w3.alloc (.cells #[.string a1_0, .string a1_1, .bool a1_2] 61)) := hB3.alloc hB3.size _
        refine ⟨_, rfl, row61 (fun _ _ => trivial) ?_, hB4.trans ⟨G5.out.os, G5.out.tape, G5.out.output, G5.out.size, fun k hk => G5.out.block k (Nat.lt_of_lt_of_le hk hB4.size) (by simp)⟩⟩
        have e1 : (y ++ [x]).length = y.length + 1 := by simp
        have e2 : (y ++ [x]).flatMap c61 = y.flatMap c61 ++ c61 x := by simp
        rw [e1, e2]
        exact own_weaken O5.out hB4.size
    · have hnj : ¬ ((j : Int) < 0) := by omega
      have hres : setL61 y x = y.take j ++ x :: y.drop j := by unfold setL61; rw [hE, if_neg hng, hT, if_neg hnj]; rfl
      rw [hres]
      rw [hT] at hG
      have hz4 : decide ((j : Int) < 0) = false := decide_eq_false hnj
      have F0 := Aside0.mk (hF W1 (Below.refl _ _))
      rw [hW1] at F0
      have GG := Aside0.mk hG
      have CC := Aside0.mk CELL
      have B1 := Aside0.mk hB1
      have R1 := Aside0.mk hR1
      have NN := Aside0.mk hnone
      have CX := Aside0.mk hcx
      have S1 := Aside0.mk hs1
      have V1 := Aside0.mk (show ∀ v ∈ c61 x, v.oneCell' = true by have := c61_one [x]; simpa using this)
      have NB := Aside0.mk (show ∀ w3 : World, ∀ j u, (c61 x)[j]? = some u → (w3.alloc (.cells #[.string a1_0, .string a1_1, .bool a1_2] 61)).cell? ((⟨w3.heap.size, 0, none⟩ : Addr).add j) = some u from fun w3 j u hj => by
        rw [hcx] at hj
        rw [Addr.add_lit, cell_of_blk (heap_alloc_new _ _), Nat.zero_add]
        simpa using hj)
      rcases A0 with _ | a
      · have := hnone rfl; omega
      · clear hF hG CELL hB1 hR1 hnone hcx hs1 hbk hk1 hr0 hE hT hres hng hx0 hy
        go_enter Try.func26, Try.ntmps26
        go_wp2_with (first
          | (go_at_call 34; with_reducible refine F0.out.mono ?_; rintro e w2 ⟨rfl, hb⟩; rw [← hW1] at hb; have H2 := Aside0.mk hb; clear hb)
          | (go_at_call 34; refine (GG.out w2 H2.out).mono ?_; rintro e w3 ⟨rfl, hb⟩; have H3 := Aside0.mk (below_step H2.out hb); clear hb; have k5 := CC.out w3 H3.out; have k6 : w3.cell? ⟨w.heap.size, 0, none⟩ = some (.string a1_0) := (blk_cell k5 0).trans rfl; have k7 : w3.cell? ⟨w.heap.size, 1, none⟩ = some (.string a1_1) := (blk_cell k5 1).trans rfl; have k8 : w3.cell? ⟨w.heap.size, 2, none⟩ = some (.bool a1_2) := (blk_cell k5 2).trans rfl)
          | (go_at_call 41; refine (api_Write_41.growC a w3.heap.size j y.length y.length (y.flatMap c61) (c61 x) _ hjl (Nat.le_refl _) (Nat.lt_succ_self _) (by omega) (flat_len c61 c61_len y) rfl (C_cells61 (Kd.C_alloc (Kd.C_below R1.out H3.out) _)) ?s1 (fun v hv => c61_one y v (List.mem_of_mem_take hv)) V1.out).mono ?_; (case s1 => rw [CX.out]; exact heap_alloc_new _ _); rintro e w5 ⟨G, cur2, rfl, hG, hGm, ⟨W, hWs, hWb, hWh, rfl⟩, hl2, ht2⟩; have O1 := Aside0.mk hG; have O2 := Aside0.mk hGm; have O3 := Aside0.mk hWb; have O4 := Aside0.mk hWh; have O5 := Aside0.mk hl2; have O6 := Aside0.mk ht2; clear hG hGm hWs hWb hWh hl2 ht2))
        go_ret
        have hB3 : Below w.heap.size w w3 := B1.out.trans (H3.out.mono (by have := S1.out; omega))
        have hB4 : Below w.heap.size w (w3.alloc (.cells #[.string a1_0, .string a1_1, .bool a1_2] 61)) := hB3.alloc hB3.size _
        have hlen' : (y.take j ++ x :: y.drop j).length = y.length + 1 := by simp only [List.length_append, List.length_cons, List.length_take, List.length_drop]; omega
        have hfl : (y.take j ++ x :: y.drop j).flatMap c61 = ((y.flatMap c61).take (j * 3)) ++ c61 x ++ ((y.flatMap c61).drop (j * 3)) := by
          rw [flat_take c61 c61_len, flat_drop c61 c61_len, List.flatMap_append, List.flatMap_cons, List.append_assoc]
        have htk : (y.flatMap c61).take (y.length * 3) = y.flatMap c61 := List.take_of_length_le (by rw [flat_len c61 c61_len]; exact Nat.le_refl _)
        refine ⟨_, rfl, row61 (fun _ _ => trivial) ⟨flat_len c61 c61_len _, .inr ⟨(w3.alloc (.cells #[.string a1_0, .string a1_1, .bool a1_2] 61)).heap.size, G, cur2.toArray, by rw [hlen']; show Value.slice (some ⟨w3.heap.size + 1, 0, none⟩) _ _ = _; simp, hB4.size, O4.out, by rw [hlen']; exact O1.out, O2.out, by rw [List.size_toArray, O5.out], by rw [hlen', List.toList_toArray, O6.out, htk, hfl]⟩⟩, hB4.trans (O3.out.mono hB4.size)⟩
  · have hz1 : (0 : Int) ≤ (i : Int) := by omega
    have hz2 : (i : Int) < (y.length : Int) := by omega
    have hres : setL61 y x = y.set i x := by unfold setL61; rw [hE, if_pos hz1]; rfl
    rw [hres]
    rw [hE] at hF
    have F0 := Aside0.mk (hF W1 (Below.refl _ _))
    rw [hW1] at F0
    have GG := Aside0.mk hG
    have CC := Aside0.mk CELL
    have B1 := Aside0.mk hB1
    have R1 := Aside0.mk hR1
    have NN := Aside0.mk hnone
    have CX := Aside0.mk hcx
    have S1 := Aside0.mk hs1
    have V1 := Aside0.mk (show ∀ v ∈ c61 x, v.oneCell' = true by have := c61_one [x]; simpa using this)
    have NB := Aside0.mk (show ∀ w3 : World, ∀ j u, (c61 x)[j]? = some u → (w3.alloc (.cells #[.string a1_0, .string a1_1, .bool a1_2] 61)).cell? ((⟨w3.heap.size, 0, none⟩ : Addr).add j) = some u from fun w3 j u hj => by
      rw [hcx] at hj
      rw [Addr.add_lit, cell_of_blk (heap_alloc_new _ _), Nat.zero_add]
      simpa using hj)
    have CLN := Aside0.mk (show ∀ w2 : World, Below W1.heap.size W1 w2 → Calls Try.prog 39 #[.slice A0 y.length y.length] w2 fun e w' => ∃ v0_ : Value, e = .returned (v0_) ∧ Kd.R k61 61 w' w2.heap.size (fun _ => True) v0_ y ∧ Below w2.heap.size w2 w' from fun w2 hb => api_Write_39.calls A0 y.length y y w2 (Kd.C_below R1.out hb) (Nat.le_refl _) hy)
    clear hF hG CELL hB1 hR1 hcx hs1 hbk hk1 hr0 hE hres hx0 hy
    rcases A0 with _ | a
    · have := NN.out rfl; omega
    · clear hnone
      go_enter Try.func26, Try.ntmps26
      go_wp2_with (first
        | (go_at_call 34; with_reducible refine F0.out.mono ?_; rintro e w2 ⟨rfl, hb⟩; rw [← hW1] at hb; have H2 := Aside0.mk hb; clear hb)
        | (go_at_call 39; refine (CLN.out w2 H2.out).mono ?_; rintro e w3 ⟨v0, rfl, hR, hb⟩; have H3 := Aside0.mk (below_step H2.out hb); have n1 := Aside0.mk (Kd.R_lower hR (below_size H2.out)); obtain ⟨g, c, rfl, hcc, hC⟩ := row_form61 hR (Nat.lt_of_le_of_lt (Nat.zero_le _) hil); have n3 := Aside0.mk (Kd.R_lower n1.out (by have := S1.out; omega : w.heap.size ≤ W1.heap.size)); have n4 := Aside0.mk (B1.out.trans (H3.out.mono (by have := S1.out; omega))); clear hR hb hcc hC n1; have k5 := CC.out w3 H3.out; have k6 : w3.cell? ⟨w.heap.size, 0, none⟩ = some (.string a1_0) := (blk_cell k5 0).trans rfl; have k7 : w3.cell? ⟨w.heap.size, 1, none⟩ = some (.string a1_1) := (blk_cell k5 1).trans rfl; have k8 : w3.cell? ⟨w.heap.size, 2, none⟩ = some (.bool a1_2) := (blk_cell k5 2).trans rfl)
        | ((with_reducible refine gate_ (.store 61 (.tmp 23) (.tmp 22)) rfl ?_); obtain ⟨cc, hcl, hcc⟩ := row_old61 (row_C61 n3.out) i hil; refine Kd.R_store k61 (w0 := w) w.heap.size rfl rfl 61 (.tmp 23) (.tmp 22) rfl 61 (i : Int) 0 y x (.agg #[.string a1_0, .string a1_1, .bool a1_2]) [.string a1_0, .string a1_1, .bool a1_2] cc (fun _ => True) (fun _ => False) rfl (by simp; rfl) rfl rfl (by kernel_rfl) ?s1 n3.out hz1 hz2 hcl hcc (by show 0 + 3 ≤ 3; decide) ?s2 (fun _ hk => hk.elim) n4.out ?_; (case s1 => intro q hq; simp only [List.mem_cons, List.not_mem_nil, or_false] at hq; rcases hq with rfl | rfl | rfl <;> rfl); (case s2 => rw [List.take_zero, List.nil_append, List.drop_of_length_le (by rw [hcl]; simp), List.append_nil, hx]; exact k61_mkM _ _ _ (⟨a1_0, a1_1, a1_2⟩ : S61)); intro w5 hr3 hb3 hg3; have K8 := Aside0.mk hr3; have K9 := Aside0.mk hb3; clear hr3 hb3 hg3))
      go_ret
      exact ⟨_, rfl, K8.out, K9.out⟩

/-! ### audit_Step: function 11 -/
def audit_Step.T8 : Bool × List (List Nat × List Nat) := (true, [([], []), ([], []), ([], []), ([2], [2]), ([1, 3], [1, 3]), ([4], [4]), ([5], [5]), ([5], [5]), ([7, 5], [5, 7]), ([6, 8, 5], [5, 6, 8]), ([5, 9], [5, 9]), ([0, 5, 0], [0]), ([10, 11, 0, 1, 2, 3, 4, 5, 6, 7, 8, 9, 10, 11], [10])])
def audit_Step.B8 : List Nat := [0, 0, 0, 4, 14, 30, 62, 62, 190, 510, 1022, 63, 4095]
theorem audit_Step.tab8 : rtab .any (opsOf Try.f11 8) = audit_Step.T8 := by kernel_rfl
theorem audit_Step.bits8 : waitsOk audit_Step.T8.2 audit_Step.B8 = true := by kernel_rfl
def audit_Step.T9 : Bool × List (List Nat × List Nat) := (true, [([], []), ([], []), ([], []), ([], []), ([3], [3]), ([4], [4]), ([], []), ([6], [6]), ([7], [7]), ([], []), ([9], [9]), ([10], [10]), ([1, 2, 5, 8, 11], [1, 2, 5, 8, 11]), ([], []), ([13], [13]), ([12, 14, 12], [12, 14]), ([0, 15, 0], [0]), ([15, 16, 0, 1, 2, 3, 4, 5, 6, 7, 8, 9, 10, 11, 12, 13, 14, 15, 16], [15])])
def audit_Step.B9 : List Nat := [0, 0, 0, 0, 8, 24, 0, 64, 192, 0, 512, 1536, 4094, 0, 8192, 32766, 65535, 131071]
theorem audit_Step.tab9 : rtab .any (opsOf Try.f11 9) = audit_Step.T9 := by kernel_rfl
theorem audit_Step.bits9 : waitsOk audit_Step.T9.2 audit_Step.B9 = true := by kernel_rfl
theorem sc_same (W : World) (b : Nat) (v v' : Value) : (W.setCell ⟨b, 2, none⟩ v).setCell ⟨b, 2, none⟩ v' = W.setCell ⟨b, 2, none⟩ v' := by
  rw [Go.Sort.setCell_eq, Go.Sort.setCell_eq, Go.Sort.mapBlock_mapBlock, Go.Sort.setCell_eq]
  congr 1
  funext c
  simp
theorem sc_swap (W : World) (b : Nat) (v0 v1 v2 v3 : Value) : (((W.setCell ⟨b, 0, none⟩ v0).setCell ⟨b, 1, none⟩ v1).setCell ⟨b, 2, none⟩ v2).setCell ⟨b, 1, none⟩ v3 = ((W.setCell ⟨b, 0, none⟩ v0).setCell ⟨b, 1, none⟩ v3).setCell ⟨b, 2, none⟩ v2 := by
  simp only [Go.Sort.setCell_eq, Go.Sort.mapBlock_mapBlock]
  congr 1
  funext c
  simp [Array.setIfInBounds_comm]
set_option maxHeartbeats 8000000 in
set_option maxRecDepth 100000 in
theorem audit_Step.calls (k : Nat) (P0_ : Nat → Prop) (A0 : Option Addr) (c0 : Nat) (l0 : List (S61)) (A1 : Option Addr) (c1 : Nat) (l1 : List (S59)) (a2_0 : Int) (a2_1 : ByteArray) (a2_2 : ByteArray) (a2_3 : ByteArray) (a2_4 : ByteArray) (a2_5 : Int) (a2_6 : ByteArray) (a2_7 : Bool) (A2_8 : Option Addr) (c2_8 : Nat) (l2_8 : List (S59)) (r1 : List (S61)) (r2 : Bool) (w : World) (hs0 : Kd.V k61 61 w w.heap.size (fun k_ => P0_ k_) (.slice A0 l0.length c0) l0) (hr1 : Kd.C k59 w A1 l1.length l1) (hc1 : l1.length ≤ c1) (hr2_8 : Kd.C k59 w A2_8 l2_8.length l2_8) (hc2_8 : l2_8.length ≤ c2_8) (h : audit_Step.f k l0 l1 a2_0 a2_1 a2_2 a2_3 a2_4 a2_5 a2_6 a2_7 l2_8 = some (r1, r2)) :
    Calls Try.prog 11 #[.slice A0 l0.length c0, .slice A1 l1.length c1, .agg #[.int .i64 a2_0, .string a2_1, .string a2_2, .string a2_3, .string a2_4, .int .i64 a2_5, .string a2_6, .bool a2_7, .slice A2_8 l2_8.length c2_8]] w fun e w' => ∃ v0_ : Value, e = .returned (.tuple #[v0_, .bool r2]) ∧ Kd.V k61 61 w' w.heap.size (fun k_ => (P0_ k_ ∨ w.heap.size ≤ k_)) v0_ r1 ∧ Below w.heap.size w w' := by
  have hu27 := Try.underlying27
  have hu61 := Try.underlying61
  have HO0 := Aside0.mk (show Kd.V k61 61 w w.heap.size (fun k_ => (P0_ k_ ∨ w.heap.size ≤ k_)) (.slice A0 l0.length c0) l0 from Kd.V_mono hs0 (fun k_ hk => .inl hk))
  have HR1 := Aside0.mk hr1
  have HC1 := Aside0.mk hc1
  clear hr1 hc1
  have HR2_8 := Aside0.mk hr2_8
  have HC2_8 := Aside0.mk hc2_8
  clear hr2_8 hc2_8
  have HB := Aside0.mk (Below.refl w.heap.size w)
  have H : (if a2_0 = 1 then ((view_Get.f l0 l1 a2_1).bind fun bt141 => (if bt141.1.toList = a2_6.toList then (some (l0, (bt141.2 == a2_7))) else (some (l0, false)))) else (if a2_0 = 4 then ((view_Scan.f k l0 l1 a2_3 a2_4 a2_5).bind fun t131 => ((api_Pair_24.f k t131 l2_8).bind fun t134 => (some (l0, t134)))) else (if a2_0 = 3 then ((view_Set.f l0 a2_1 (⟨#[]⟩ : ByteArray) true).bind fun t135 => (some (t135, true))) else (if a2_0 = 2 then ((view_Set.f l0 a2_1 a2_2 false).bind fun t138 => (some (t138, true))) else (some (l0, true)))))) = some (r1, r2) := h
  clear h
  by_cases c4 : a2_0 = 1
  · rw [if_pos c4] at H
    have c4b0 : (a2_0 == 1) = true := beq_iff_eq.mpr c4
    have c4b1 : (a2_0 != 1) = false := bne_eq_false_iff_eq.mpr c4
    clear c4
    replace H := Option.bind_eq_some_iff.mp H
    obtain ⟨⟨t141, t142⟩, A50, H⟩ := H
    replace H : (if t141.toList = a2_6.toList then (some (l0, (t142 == a2_7))) else (some (l0, false))) = some (r1, r2) := H
    have A5 := Aside0.mk A50
    clear A50
    by_cases c6 : t141.toList = a2_6.toList
    · rw [if_pos c6] at H
      have c6b0 : (t141.toList == a2_6.toList) = true := beq_iff_eq.mpr c6
      have c6b1 : (t141.toList != a2_6.toList) = false := bne_eq_false_iff_eq.mpr c6
      clear c6
      simp only [Option.some.injEq, Prod.mk.injEq] at H
      obtain ⟨rfl, rfl⟩ := H
      go_enter Try.func11, Try.ntmps11
      try go_wp2_with (first | ((with_reducible refine gate_dst (N := 5) rfl ?_); refine box_event ?hg (N := 5) ?hd (cs := #[.int .i64 a2_0, .string a2_1, .string a2_2, .string a2_3, .string a2_4, .int .i64 a2_5, .string a2_6, .bool a2_7, .slice A2_8 l2_8.length c2_8]) (t := 27) ?hr ?_; (case hd => rfl); (case hg => rfl); (case hr => first | (go_simp; done) | (go_simp; rfl)); intro gb129 hg w7 hbox hb; have n0_ := Aside0.mk (Kd.V_below (Kd.V_elderB (by (with_reducible repeat (first | apply Kd.V_alloc | apply Kd.V_drewN | apply Kd.V_drew)); exact HO0.out) gb129 (Nat.le_of_eq hg.symm)) hb); have n1_ := Aside0.mk (below_step (by repeat (first | (with_reducible first | exact HB.out | apply below_alloc | apply pw_below_drewN | apply below_drew1) | exact HB.out)) hb); have n2_ := Aside0.mk (hbox); have n3_ := Aside0.mk ((by rw [hg]; exact (below_size (by repeat (first | (with_reducible first | exact HB.out | apply below_alloc | apply pw_below_drewN | apply below_drew1) | exact HB.out))) : w.heap.size ≤ gb129)); have n4_ := Aside0.mk ((by rw [hg]; exact (below_size (by repeat (first | (with_reducible first | exact HB.out | apply below_alloc | apply pw_below_drewN | apply below_drew1) | exact HB.out))) : w.heap.size ≤ gb129)); clear HO0; clear HB; have HO0 := n0_; have HB := n1_; have BK129 := n2_; have GW129 := n3_; have GE129 := n4_; clear n0_ n1_ n2_ n3_ n4_; clear hb hbox hg; have hcz8_0 : w7.cell? ⟨gb129, 0, none⟩ = some (.int .i64 a2_0) := (blk_cell BK129.out 0).trans rfl; have hcz8_1 : w7.cell? ⟨gb129, 1, none⟩ = some (.string a2_1) := (blk_cell BK129.out 1).trans rfl; have hcz8_2 : w7.cell? ⟨gb129, 2, none⟩ = some (.string a2_2) := (blk_cell BK129.out 2).trans rfl; have hcz8_3 : w7.cell? ⟨gb129, 3, none⟩ = some (.string a2_3) := (blk_cell BK129.out 3).trans rfl; have hcz8_4 : w7.cell? ⟨gb129, 4, none⟩ = some (.string a2_4) := (blk_cell BK129.out 4).trans rfl; have hcz8_5 : w7.cell? ⟨gb129, 5, none⟩ = some (.int .i64 a2_5) := (blk_cell BK129.out 5).trans rfl; have hcz8_6 : w7.cell? ⟨gb129, 6, none⟩ = some (.string a2_6) := (blk_cell BK129.out 6).trans rfl; have hcz8_7 : w7.cell? ⟨gb129, 7, none⟩ = some (.bool a2_7) := (blk_cell BK129.out 7).trans rfl; have hcz8_8 : w7.cell? ⟨gb129, 8, none⟩ = some (.slice A2_8 l2_8.length c2_8) := (blk_cell BK129.out 8).trans rfl; have hfz8_0 := blk_frozen BK129.out 0; have hfz8_1 := blk_frozen BK129.out 1; have hfz8_2 := blk_frozen BK129.out 2; have hfz8_3 := blk_frozen BK129.out 3; have hfz8_4 := blk_frozen BK129.out 4; have hfz8_5 := blk_frozen BK129.out 5; have hfz8_6 := blk_frozen BK129.out 6; have hfz8_7 := blk_frozen BK129.out 7; have hfz8_8 := blk_frozen BK129.out 8) | ((with_reducible refine gate_dst (N := 8) rfl ?_); refine box_event ?hg (N := 8) ?hd (cs := #[.string (⟨#[]⟩ : ByteArray), .string (⟨#[]⟩ : ByteArray), .bool false]) (t := 61) ?hr ?_; (case hd => rfl); (case hg => rfl); (case hr => first | (go_simp; done) | (go_simp; rfl)); intro gb130 hg w9 hbox hb; have n0_ := Aside0.mk (Kd.V_below (Kd.V_elderB (by (with_reducible repeat (first | apply Kd.V_alloc | apply Kd.V_drewN | apply Kd.V_drew)); exact HO0.out) gb130 (Nat.le_of_eq hg.symm)) hb); have n1_ := Aside0.mk (blk_below (g := gb129) (o := .cells #[.int .i64 a2_0, .string a2_1, .string a2_2, .string a2_3, .string a2_4, .int .i64 a2_5, .string a2_6, .bool a2_7, .slice A2_8 l2_8.length c2_8] 27 (0, 0)) (by (with_reducible repeat (first | refine blk_drewN ?_ _ | refine blk_drew ?_ | refine blk_alloc ?_ _)); exact BK129.out) hb); have n2_ := Aside0.mk (below_step (by repeat (first | (with_reducible first | exact HB.out | apply below_alloc | apply pw_below_drewN | apply below_drew1 | refine below_set ?_ GE129.out) | exact HB.out)) hb); have n3_ := Aside0.mk (hbox); have n4_ := Aside0.mk ((by rw [hg]; exact (below_size (by repeat (first | (with_reducible first | exact HB.out | apply below_alloc | apply pw_below_drewN | apply below_drew1 | refine below_set ?_ GE129.out) | exact HB.out))) : w.heap.size ≤ gb130)); have n5_ := Aside0.mk ((by rw [hg]; exact (below_size (by repeat (first | (with_reducible first | exact HB.out | apply below_alloc | apply pw_below_drewN | apply below_drew1 | refine below_set ?_ GE129.out) | exact HB.out))) : w.heap.size ≤ gb130)); have n6_ := Aside0.mk ((by rw [hg]; exact Nat.ne_of_lt (blk_lt (g := gb129) (o := .cells #[.int .i64 a2_0, .string a2_1, .string a2_2, .string a2_3, .string a2_4, .int .i64 a2_5, .string a2_6, .bool a2_7, .slice A2_8 l2_8.length c2_8] 27 (0, 0)) (by (with_reducible repeat (first | refine blk_drewN ?_ _ | refine blk_drew ?_ | refine blk_alloc ?_ _)); exact BK129.out)) : gb129 ≠ gb130)); have n7_ := Aside0.mk ((by rw [hg]; exact Nat.ne_of_gt (blk_lt (g := gb129) (o := .cells #[.int .i64 a2_0, .string a2_1, .string a2_2, .string a2_3, .string a2_4, .int .i64 a2_5, .string a2_6, .bool a2_7, .slice A2_8 l2_8.length c2_8] 27 (0, 0)) (by (with_reducible repeat (first | refine blk_drewN ?_ _ | refine blk_drew ?_ | refine blk_alloc ?_ _)); exact BK129.out)) : gb130 ≠ gb129)); clear HO0; clear BK129; clear HB; have HO0 := n0_; have BK129 := n1_; have HB := n2_; have BK130 := n3_; have GW130 := n4_; have GE130 := n5_; have NB129_130 := n6_; have NB130_129 := n7_; clear n0_ n1_ n2_ n3_ n4_ n5_ n6_ n7_; clear hb hbox hg; have hnb10 := NB130_129.out; have hnc10 := NB129_130.out; have hcz11_0 : w9.cell? ⟨gb130, 0, none⟩ = some (.string (⟨#[]⟩ : ByteArray)) := (blk_cell BK130.out 0).trans rfl; have hcz11_1 : w9.cell? ⟨gb130, 1, none⟩ = some (.string (⟨#[]⟩ : ByteArray)) := (blk_cell BK130.out 1).trans rfl; have hcz11_2 : w9.cell? ⟨gb130, 2, none⟩ = some (.bool false) := (blk_cell BK130.out 2).trans rfl; have hfz11_0 := blk_frozen BK130.out 0; have hfz11_1 := blk_frozen BK130.out 1; have hfz11_2 := blk_frozen BK130.out 2; have hcz12_0 : w9.cell? ⟨gb129, 0, none⟩ = some (.int .i64 a2_0) := (blk_cell BK129.out 0).trans rfl; have hcz12_1 : w9.cell? ⟨gb129, 1, none⟩ = some (.string a2_1) := (blk_cell BK129.out 1).trans rfl; have hcz12_2 : w9.cell? ⟨gb129, 2, none⟩ = some (.string a2_2) := (blk_cell BK129.out 2).trans rfl; have hcz12_3 : w9.cell? ⟨gb129, 3, none⟩ = some (.string a2_3) := (blk_cell BK129.out 3).trans rfl; have hcz12_4 : w9.cell? ⟨gb129, 4, none⟩ = some (.string a2_4) := (blk_cell BK129.out 4).trans rfl; have hcz12_5 : w9.cell? ⟨gb129, 5, none⟩ = some (.int .i64 a2_5) := (blk_cell BK129.out 5).trans rfl; have hcz12_6 : w9.cell? ⟨gb129, 6, none⟩ = some (.string a2_6) := (blk_cell BK129.out 6).trans rfl; have hcz12_7 : w9.cell? ⟨gb129, 7, none⟩ = some (.bool a2_7) := (blk_cell BK129.out 7).trans rfl; have hcz12_8 : w9.cell? ⟨gb129, 8, none⟩ = some (.slice A2_8 l2_8.length c2_8) := (blk_cell BK129.out 8).trans rfl; have hfz12_0 := blk_frozen BK129.out 0; have hfz12_1 := blk_frozen BK129.out 1; have hfz12_2 := blk_frozen BK129.out 2; have hfz12_3 := blk_frozen BK129.out 3; have hfz12_4 := blk_frozen BK129.out 4; have hfz12_5 := blk_frozen BK129.out 5; have hfz12_6 := blk_frozen BK129.out 6; have hfz12_7 := blk_frozen BK129.out 7; have hfz12_8 := blk_frozen BK129.out 8) | ((with_reducible refine gate_callee (f := 23) rfl ?_); refine goesL_ (some 35) rfl rfl Try.func23 (by kernel_rfl) rfl #[.slice A0 l0.length c0, .slice A1 l1.length c1, .string a2_1] rfl (by (try simp only [List.map_toArray, List.map_cons, List.map_nil]); first | done | rfl | (simp only [List.length_drop, List.length_take]; rfl)) ?_; (with_reducible refine (view_Get.calls _ _ l0 _ _ l1 a2_1 t141 t142 _ ?side1 ?side2 ?side3 ?side4 A5.out).mono ?_); (case side1 => refine (Kd.V_reads' (e := 61) (base := w.heap.size) (ok := fun k_ => (((P0_ k_ ∨ w.heap.size ≤ k_) ∧ k_ ≠ gb129) ∧ k_ ≠ gb130)) (n := l0.length) (c := c0) ?_).2.2; exact (by (with_reducible repeat (first | apply Kd.V_alloc | apply Kd.V_drewN | apply Kd.V_drew)); exact (Kd.V_mono (Kd.V_far (p := ⟨gb130, 2, none⟩) (Kd.V_far (p := ⟨gb130, 1, none⟩) (Kd.V_far (p := ⟨gb130, 0, none⟩) (Kd.V_mono HO0.out (fun k_ hk => (⟨hk, hk.2⟩ : _ ∧ k_ ≠ gb130))) (fun _ hk => hk.2) (.string a2_1)) (fun _ hk => hk.2) (.string a2_2)) (fun _ hk => hk.2) (.bool false)) (fun _ h_ => h_.1)))); (case side2 => exact (Kd.V_reads' HO0.out).2.1); (case side3 => exact Kd.C_below HR1.out (by repeat (first | (with_reducible first | exact HB.out | apply below_alloc | apply pw_below_drewN | apply below_drew1 | refine below_set ?_ GE129.out | refine below_set ?_ GE130.out) | exact HB.out))); (case side4 => exact HC1.out); rintro e w13 ⟨rfl, hb⟩; refine ⟨_, rfl, ?_⟩; have n0_ := Aside0.mk (Kd.V_below (by (with_reducible repeat (first | apply Kd.V_alloc | apply Kd.V_drewN | apply Kd.V_drew)); exact (Kd.V_mono (Kd.V_far (p := ⟨gb130, 2, none⟩) (Kd.V_far (p := ⟨gb130, 1, none⟩) (Kd.V_far (p := ⟨gb130, 0, none⟩) (Kd.V_mono HO0.out (fun k_ hk => (⟨hk, hk.2⟩ : _ ∧ k_ ≠ gb130))) (fun _ hk => hk.2) (.string a2_1)) (fun _ hk => hk.2) (.string a2_2)) (fun _ hk => hk.2) (.bool false)) (fun _ h_ => h_.1))) hb); have n1_ := Aside0.mk (blk_below (g := gb129) (o := .cells #[.int .i64 a2_0, .string a2_1, .string a2_2, .string a2_3, .string a2_4, .int .i64 a2_5, .string a2_6, .bool a2_7, .slice A2_8 l2_8.length c2_8] 27 (0, 0)) (by (with_reducible repeat (first | refine blk_drewN ?_ _ | refine blk_drew ?_ | refine blk_alloc ?_ _)); refine blk_far ?_ NB129_130.out _; (with_reducible repeat (first | refine blk_drewN ?_ _ | refine blk_drew ?_ | refine blk_alloc ?_ _)); refine blk_far ?_ NB129_130.out _; (with_reducible repeat (first | refine blk_drewN ?_ _ | refine blk_drew ?_ | refine blk_alloc ?_ _)); refine blk_far ?_ NB129_130.out _; (with_reducible repeat (first | refine blk_drewN ?_ _ | refine blk_drew ?_ | refine blk_alloc ?_ _)); exact BK129.out) hb); have n2_ := Aside0.mk (blk_below (g := gb130) (o := .cells #[.string a2_1, .string a2_2, .bool false] 61 (0, 0)) (by (with_reducible repeat (first | refine blk_drewN ?_ _ | refine blk_drew ?_ | refine blk_alloc ?_ _)); refine blk_put (cs := #[.string a2_1, .string a2_2, .bool false]) ?_ 2 _ rfl; (with_reducible repeat (first | refine blk_drewN ?_ _ | refine blk_drew ?_ | refine blk_alloc ?_ _)); refine blk_put (cs := #[.string a2_1, .string (⟨#[]⟩ : ByteArray), .bool false]) ?_ 1 _ rfl; (with_reducible repeat (first | refine blk_drewN ?_ _ | refine blk_drew ?_ | refine blk_alloc ?_ _)); refine blk_put (cs := #[.string (⟨#[]⟩ : ByteArray), .string (⟨#[]⟩ : ByteArray), .bool false]) ?_ 0 _ rfl; (with_reducible repeat (first | refine blk_drewN ?_ _ | refine blk_drew ?_ | refine blk_alloc ?_ _)); exact BK130.out) hb); have n3_ := Aside0.mk (below_step (by repeat (first | (with_reducible first | exact HB.out | apply below_alloc | apply pw_below_drewN | apply below_drew1 | refine below_set ?_ GE129.out | refine below_set ?_ GE130.out) | exact HB.out)) hb); clear HO0; clear BK129; clear BK130; clear HB; have HO0 := n0_; have BK129 := n1_; have BK130 := n2_; have HB := n3_; clear n0_ n1_ n2_ n3_; (try clear hb); (try clear hb2); (try clear hk); (try clear hi)))
      have n0_ := Aside0.mk (Kd.V_drew HO0.out)
      have n1_ := Aside0.mk (blk_drew BK129.out)
      have n2_ := Aside0.mk (blk_drew BK130.out)
      have n3_ := Aside0.mk (below_drew1 HB.out)
      clear HO0
      clear BK129
      clear BK130
      clear HB
      have HO0 := n0_
      have BK129 := n1_
      have BK130 := n2_
      have HB := n3_
      clear n0_ n1_ n2_ n3_
      refine start_ (n := 13) (S := fun w' => w'.cell? ⟨gb129, 0, none⟩ = some (.int .i64 a2_0) ∧ w'.cell? ⟨gb129, 1, none⟩ = some (.string a2_1) ∧ w'.cell? ⟨gb129, 2, none⟩ = some (.string a2_2) ∧ w'.cell? ⟨gb129, 3, none⟩ = some (.string a2_3) ∧ w'.cell? ⟨gb129, 4, none⟩ = some (.string a2_4) ∧ w'.cell? ⟨gb129, 5, none⟩ = some (.int .i64 a2_5) ∧ w'.cell? ⟨gb129, 6, none⟩ = some (.string a2_6) ∧ w'.cell? ⟨gb129, 7, none⟩ = some (.bool a2_7) ∧ w'.cell? ⟨gb129, 8, none⟩ = some (.slice A2_8 l2_8.length c2_8)) (ds := []) #[false, false, false, false, false, false, false, false, false, false, false, false, false] (by kernel_rfl) rfl rfl ⟨(blk_cell BK129.out 0).trans rfl, (blk_cell BK129.out 1).trans rfl, (blk_cell BK129.out 2).trans rfl, (blk_cell BK129.out 3).trans rfl, (blk_cell BK129.out 4).trans rfl, (blk_cell BK129.out 5).trans rfl, (blk_cell BK129.out 6).trans rfl, (blk_cell BK129.out 7).trans rfl, (blk_cell BK129.out 8).trans rfl⟩ (fun hHeld => ?_); refine with_tabW audit_Step.tab8 audit_Step.bits8 (fun HT_ HW_ => ?_)
      generalize w13.drew = w14 at HO0 BK129 BK130 HB hHeld ⊢
      refine pure_ (i := 0) (N := some 38) (v := ?_) (a' := ?_) #[true, false, false, false, false, false, false, false, false, false, false, false, false] rfl rfl (any_of HT_.out (by kernel_rfl)) (fun _ _ _ h => h) (Or.inl ⟨by rfl, ?_⟩) ?_ ?_
      rotate_left
      · intro w'
        go_simp
        with_reducible rfl
      rotate_left
      · simp only [Act.put, List.setIfInBounds_toArray, List.set_cons_zero, List.set_cons_succ, i64_w, i32_w]
        rfl
      refine pure_ (i := 1) (N := some 39) (v := ?_) (a' := ?_) #[true, true, false, false, false, false, false, false, false, false, false, false, false] rfl rfl (any_of HT_.out (by kernel_rfl)) (fun _ _ _ h => h) (Or.inl ⟨by rfl, ?_⟩) ?_ ?_
      rotate_left
      · intro w'
        go_simp
        with_reducible rfl
      rotate_left
      · simp only [Act.put, List.setIfInBounds_toArray, List.set_cons_zero, List.set_cons_succ, i64_w, i32_w]
        rfl
      refine pure_ (i := 2) (N := some 40) (v := ?_) (a' := ?_) #[true, true, true, false, false, false, false, false, false, false, false, false, false] rfl rfl (any_of HT_.out (by kernel_rfl)) (fun _ _ _ h => h) (Or.inl ⟨by rfl, ?_⟩) ?_ ?_
      rotate_left
      · intro w'
        go_simp
        with_reducible rfl
      rotate_left
      · simp only [Act.put, List.setIfInBounds_toArray, List.set_cons_zero, List.set_cons_succ, i64_w, i32_w]
        rfl
      refine take_ (i := 3) (N := some 41) (v := ?_) (a' := ?_) #[true, true, true, true, false, false, false, false, false, false, false, false, false] rfl rfl (take_ofW HT_.out HW_.out (by kernel_rfl)) (fun _ _ _ h => h) (Or.inl ⟨by rfl, ?_⟩) hHeld ?_ ?_
      rotate_left
      · rintro w' ⟨s0, s1, s2, s3, s4, s5, s6, s7, s8⟩
        go_simp
        with_reducible rfl
      rotate_left
      · simp only [Act.put, List.setIfInBounds_toArray, List.set_cons_zero, List.set_cons_succ, i64_w, i32_w]
        rfl
      refine pure_ (i := 4) (N := some 42) (v := ?_) (a' := ?_) #[true, true, true, true, true, false, false, false, false, false, false, false, false] rfl rfl (any_of HT_.out (by kernel_rfl)) (fun _ _ _ h => h) (Or.inl ⟨by rfl, ?_⟩) ?_ ?_
      rotate_left
      · intro w'
        go_simp
        with_reducible rfl
      rotate_left
      · simp only [Act.put, List.setIfInBounds_toArray, List.set_cons_zero, List.set_cons_succ, i64_w, i32_w]
        rfl
      refine pure_ (i := 5) (N := some 43) (v := ?_) (a' := ?_) #[true, true, true, true, true, true, false, false, false, false, false, false, false] rfl rfl (any_of HT_.out (by kernel_rfl)) (fun _ _ _ h => h) (Or.inl ⟨by rfl, ?_⟩) ?_ ?_
      rotate_left
      · intro w'
        go_simp
        with_reducible rfl
      rotate_left
      · simp only [Act.put, List.setIfInBounds_toArray, List.set_cons_zero, List.set_cons_succ, i64_w, i32_w]
        rfl
      refine pure_ (i := 6) (N := some 44) (v := ?_) (a' := ?_) #[true, true, true, true, true, true, true, false, false, false, false, false, false] rfl rfl (any_of HT_.out (by kernel_rfl)) (fun _ _ _ h => h) (Or.inl ⟨by rfl, ?_⟩) ?_ ?_
      rotate_left
      · intro w'
        go_simp
        with_reducible rfl
      rotate_left
      · simp only [Act.put, List.setIfInBounds_toArray, List.set_cons_zero, List.set_cons_succ, i64_w, i32_w]
        rfl
      refine pure_ (i := 7) (N := some 45) (v := ?_) (a' := ?_) #[true, true, true, true, true, true, true, true, false, false, false, false, false] rfl rfl (any_of HT_.out (by kernel_rfl)) (fun _ _ _ h => h) (Or.inl ⟨by rfl, ?_⟩) ?_ ?_
      rotate_left
      · intro w'
        go_simp
        with_reducible rfl
      rotate_left
      · simp only [Act.put, List.setIfInBounds_toArray, List.set_cons_zero, List.set_cons_succ, i64_w, i32_w]
        rfl
      refine pure_ (i := 11) (N := some 6) (v := ?_) (a' := ?_) #[true, true, true, true, true, true, true, true, false, false, false, true, false] rfl rfl (any_of HT_.out (by kernel_rfl)) (fun _ _ _ h => h) (Or.inl ⟨by rfl, ?_⟩) ?_ ?_
      rotate_left
      · intro w'
        go_simp
        with_reducible rfl
      rotate_left
      · simp only [Act.put, List.setIfInBounds_toArray, List.set_cons_zero, List.set_cons_succ, i64_w, i32_w]
        rfl
      refine take_ (i := 8) (N := some 46) (v := ?_) (a' := ?_) #[true, true, true, true, true, true, true, true, true, false, false, true, false] rfl rfl (take_ofW HT_.out HW_.out (by kernel_rfl)) (fun _ _ _ h => h) (Or.inl ⟨by rfl, ?_⟩) hHeld ?_ ?_
      rotate_left
      · rintro w' ⟨s0, s1, s2, s3, s4, s5, s6, s7, s8⟩
        go_simp
        with_reducible rfl
      rotate_left
      · simp only [Act.put, List.setIfInBounds_toArray, List.set_cons_zero, List.set_cons_succ, i64_w, i32_w]
        rfl
      refine pure_ (i := 9) (N := some 47) (v := ?_) (a' := ?_) #[true, true, true, true, true, true, true, true, true, true, false, true, false] rfl rfl (any_of HT_.out (by kernel_rfl)) (fun _ _ _ h => h) (Or.inl ⟨by rfl, ?_⟩) ?_ ?_
      rotate_left
      · intro w'
        go_simp
        with_reducible rfl
      rotate_left
      · simp only [Act.put, List.setIfInBounds_toArray, List.set_cons_zero, List.set_cons_succ, i64_w, i32_w]
        rfl
      refine pure_ (i := 10) (N := some 48) (v := ?_) (a' := ?_) #[true, true, true, true, true, true, true, true, true, true, true, true, false] rfl rfl (any_of HT_.out (by kernel_rfl)) (fun _ _ _ h => h) (Or.inl ⟨by rfl, ?_⟩) ?_ ?_
      rotate_left
      · intro w'
        go_simp
        with_reducible rfl
      rotate_left
      · simp only [Act.put, List.setIfInBounds_toArray, List.set_cons_zero, List.set_cons_succ, i64_w, i32_w]
        rfl
      refine pure_ (i := 12) (N := some 7) (v := ?_) (a' := ?_) #[true, true, true, true, true, true, true, true, true, true, true, true, true] rfl rfl (any_of HT_.out (by kernel_rfl)) (fun _ _ _ h => h) (Or.inl ⟨by rfl, ?_⟩) ?_ ?_
      rotate_left
      · intro w'
        go_simp
        with_reducible rfl
      rotate_left
      · simp only [Act.put, List.setIfInBounds_toArray, List.set_cons_zero, List.set_cons_succ, i64_w, i32_w]
        rfl
      refine done_ (done_of HT_.out (by kernel_rfl)) ?_
      try go_wp2
      go_ret2
      exact ⟨_, by first | rfl | (simp [errW_none, errW_some] <;> rfl) | (simp [*, errW_none, errW_some] <;> rfl), by (with_reducible repeat (first | apply Kd.V_alloc | apply Kd.V_drewN | apply Kd.V_drew)); exact Kd.V_mono HO0.out (fun _ hk => hk.1.1), by repeat (first | (with_reducible first | exact HB.out | apply below_alloc | apply pw_below_drewN | apply below_drew1 | refine below_set ?_ GE129.out | refine below_set ?_ GE130.out) | exact HB.out)⟩
    · rw [if_neg c6] at H
      have c6b0 : (t141.toList == a2_6.toList) = false := beq_eq_false_iff_ne.mpr c6
      have c6b1 : (t141.toList != a2_6.toList) = true := bne_iff_ne.mpr c6
      simp only [Option.some.injEq, Prod.mk.injEq] at H
      obtain ⟨rfl, rfl⟩ := H
      go_enter Try.func11, Try.ntmps11
      try go_wp2_with (first | ((with_reducible refine gate_dst (N := 5) rfl ?_); refine box_event ?hg (N := 5) ?hd (cs := #[.int .i64 a2_0, .string a2_1, .string a2_2, .string a2_3, .string a2_4, .int .i64 a2_5, .string a2_6, .bool a2_7, .slice A2_8 l2_8.length c2_8]) (t := 27) ?hr ?_; (case hd => rfl); (case hg => rfl); (case hr => first | (go_simp; done) | (go_simp; rfl)); intro gb129 hg w15 hbox hb; have n0_ := Aside0.mk (Kd.V_below (Kd.V_elderB (by (with_reducible repeat (first | apply Kd.V_alloc | apply Kd.V_drewN | apply Kd.V_drew)); exact HO0.out) gb129 (Nat.le_of_eq hg.symm)) hb); have n1_ := Aside0.mk (below_step (by repeat (first | (with_reducible first | exact HB.out | apply below_alloc | apply pw_below_drewN | apply below_drew1) | exact HB.out)) hb); have n2_ := Aside0.mk (hbox); have n3_ := Aside0.mk ((by rw [hg]; exact (below_size (by repeat (first | (with_reducible first | exact HB.out | apply below_alloc | apply pw_below_drewN | apply below_drew1) | exact HB.out))) : w.heap.size ≤ gb129)); have n4_ := Aside0.mk ((by rw [hg]; exact (below_size (by repeat (first | (with_reducible first | exact HB.out | apply below_alloc | apply pw_below_drewN | apply below_drew1) | exact HB.out))) : w.heap.size ≤ gb129)); clear HO0; clear HB; have HO0 := n0_; have HB := n1_; have BK129 := n2_; have GW129 := n3_; have GE129 := n4_; clear n0_ n1_ n2_ n3_ n4_; clear hb hbox hg; have hcz16_0 : w15.cell? ⟨gb129, 0, none⟩ = some (.int .i64 a2_0) := (blk_cell BK129.out 0).trans rfl; have hcz16_1 : w15.cell? ⟨gb129, 1, none⟩ = some (.string a2_1) := (blk_cell BK129.out 1).trans rfl; have hcz16_2 : w15.cell? ⟨gb129, 2, none⟩ = some (.string a2_2) := (blk_cell BK129.out 2).trans rfl; have hcz16_3 : w15.cell? ⟨gb129, 3, none⟩ = some (.string a2_3) := (blk_cell BK129.out 3).trans rfl; have hcz16_4 : w15.cell? ⟨gb129, 4, none⟩ = some (.string a2_4) := (blk_cell BK129.out 4).trans rfl; have hcz16_5 : w15.cell? ⟨gb129, 5, none⟩ = some (.int .i64 a2_5) := (blk_cell BK129.out 5).trans rfl; have hcz16_6 : w15.cell? ⟨gb129, 6, none⟩ = some (.string a2_6) := (blk_cell BK129.out 6).trans rfl; have hcz16_7 : w15.cell? ⟨gb129, 7, none⟩ = some (.bool a2_7) := (blk_cell BK129.out 7).trans rfl; have hcz16_8 : w15.cell? ⟨gb129, 8, none⟩ = some (.slice A2_8 l2_8.length c2_8) := (blk_cell BK129.out 8).trans rfl; have hfz16_0 := blk_frozen BK129.out 0; have hfz16_1 := blk_frozen BK129.out 1; have hfz16_2 := blk_frozen BK129.out 2; have hfz16_3 := blk_frozen BK129.out 3; have hfz16_4 := blk_frozen BK129.out 4; have hfz16_5 := blk_frozen BK129.out 5; have hfz16_6 := blk_frozen BK129.out 6; have hfz16_7 := blk_frozen BK129.out 7; have hfz16_8 := blk_frozen BK129.out 8) | ((with_reducible refine gate_dst (N := 8) rfl ?_); refine box_event ?hg (N := 8) ?hd (cs := #[.string (⟨#[]⟩ : ByteArray), .string (⟨#[]⟩ : ByteArray), .bool false]) (t := 61) ?hr ?_; (case hd => rfl); (case hg => rfl); (case hr => first | (go_simp; done) | (go_simp; rfl)); intro gb130 hg w17 hbox hb; have n0_ := Aside0.mk (Kd.V_below (Kd.V_elderB (by (with_reducible repeat (first | apply Kd.V_alloc | apply Kd.V_drewN | apply Kd.V_drew)); exact HO0.out) gb130 (Nat.le_of_eq hg.symm)) hb); have n1_ := Aside0.mk (blk_below (g := gb129) (o := .cells #[.int .i64 a2_0, .string a2_1, .string a2_2, .string a2_3, .string a2_4, .int .i64 a2_5, .string a2_6, .bool a2_7, .slice A2_8 l2_8.length c2_8] 27 (0, 0)) (by (with_reducible repeat (first | refine blk_drewN ?_ _ | refine blk_drew ?_ | refine blk_alloc ?_ _)); exact BK129.out) hb); have n2_ := Aside0.mk (below_step (by repeat (first | (with_reducible first | exact HB.out | apply below_alloc | apply pw_below_drewN | apply below_drew1 | refine below_set ?_ GE129.out) | exact HB.out)) hb); have n3_ := Aside0.mk (hbox); have n4_ := Aside0.mk ((by rw [hg]; exact (below_size (by repeat (first | (with_reducible first | exact HB.out | apply below_alloc | apply pw_below_drewN | apply below_drew1 | refine below_set ?_ GE129.out) | exact HB.out))) : w.heap.size ≤ gb130)); have n5_ := Aside0.mk ((by rw [hg]; exact (below_size (by repeat (first | (with_reducible first | exact HB.out | apply below_alloc | apply pw_below_drewN | apply below_drew1 | refine below_set ?_ GE129.out) | exact HB.out))) : w.heap.size ≤ gb130)); have n6_ := Aside0.mk ((by rw [hg]; exact Nat.ne_of_lt (blk_lt (g := gb129) (o := .cells #[.int .i64 a2_0, .string a2_1, .string a2_2, .string a2_3, .string a2_4, .int .i64 a2_5, .string a2_6, .bool a2_7, .slice A2_8 l2_8.length c2_8] 27 (0, 0)) (by (with_reducible repeat (first | refine blk_drewN ?_ _ | refine blk_drew ?_ | refine blk_alloc ?_ _)); exact BK129.out)) : gb129 ≠ gb130)); have n7_ := Aside0.mk ((by rw [hg]; exact Nat.ne_of_gt (blk_lt (g := gb129) (o := .cells #[.int .i64 a2_0, .string a2_1, .string a2_2, .string a2_3, .string a2_4, .int .i64 a2_5, .string a2_6, .bool a2_7, .slice A2_8 l2_8.length c2_8] 27 (0, 0)) (by (with_reducible repeat (first | refine blk_drewN ?_ _ | refine blk_drew ?_ | refine blk_alloc ?_ _)); exact BK129.out)) : gb130 ≠ gb129)); clear HO0; clear BK129; clear HB; have HO0 := n0_; have BK129 := n1_; have HB := n2_; have BK130 := n3_; have GW130 := n4_; have GE130 := n5_; have NB129_130 := n6_; have NB130_129 := n7_; clear n0_ n1_ n2_ n3_ n4_ n5_ n6_ n7_; clear hb hbox hg; have hnb18 := NB130_129.out; have hnc18 := NB129_130.out; have hcz19_0 : w17.cell? ⟨gb130, 0, none⟩ = some (.string (⟨#[]⟩ : ByteArray)) := (blk_cell BK130.out 0).trans rfl; have hcz19_1 : w17.cell? ⟨gb130, 1, none⟩ = some (.string (⟨#[]⟩ : ByteArray)) := (blk_cell BK130.out 1).trans rfl; have hcz19_2 : w17.cell? ⟨gb130, 2, none⟩ = some (.bool false) := (blk_cell BK130.out 2).trans rfl; have hfz19_0 := blk_frozen BK130.out 0; have hfz19_1 := blk_frozen BK130.out 1; have hfz19_2 := blk_frozen BK130.out 2; have hcz20_0 : w17.cell? ⟨gb129, 0, none⟩ = some (.int .i64 a2_0) := (blk_cell BK129.out 0).trans rfl; have hcz20_1 : w17.cell? ⟨gb129, 1, none⟩ = some (.string a2_1) := (blk_cell BK129.out 1).trans rfl; have hcz20_2 : w17.cell? ⟨gb129, 2, none⟩ = some (.string a2_2) := (blk_cell BK129.out 2).trans rfl; have hcz20_3 : w17.cell? ⟨gb129, 3, none⟩ = some (.string a2_3) := (blk_cell BK129.out 3).trans rfl; have hcz20_4 : w17.cell? ⟨gb129, 4, none⟩ = some (.string a2_4) := (blk_cell BK129.out 4).trans rfl; have hcz20_5 : w17.cell? ⟨gb129, 5, none⟩ = some (.int .i64 a2_5) := (blk_cell BK129.out 5).trans rfl; have hcz20_6 : w17.cell? ⟨gb129, 6, none⟩ = some (.string a2_6) := (blk_cell BK129.out 6).trans rfl; have hcz20_7 : w17.cell? ⟨gb129, 7, none⟩ = some (.bool a2_7) := (blk_cell BK129.out 7).trans rfl; have hcz20_8 : w17.cell? ⟨gb129, 8, none⟩ = some (.slice A2_8 l2_8.length c2_8) := (blk_cell BK129.out 8).trans rfl; have hfz20_0 := blk_frozen BK129.out 0; have hfz20_1 := blk_frozen BK129.out 1; have hfz20_2 := blk_frozen BK129.out 2; have hfz20_3 := blk_frozen BK129.out 3; have hfz20_4 := blk_frozen BK129.out 4; have hfz20_5 := blk_frozen BK129.out 5; have hfz20_6 := blk_frozen BK129.out 6; have hfz20_7 := blk_frozen BK129.out 7; have hfz20_8 := blk_frozen BK129.out 8) | ((with_reducible refine gate_callee (f := 23) rfl ?_); refine goesL_ (some 35) rfl rfl Try.func23 (by kernel_rfl) rfl #[.slice A0 l0.length c0, .slice A1 l1.length c1, .string a2_1] rfl (by (try simp only [List.map_toArray, List.map_cons, List.map_nil]); first | done | rfl | (simp only [List.length_drop, List.length_take]; rfl)) ?_; (with_reducible refine (view_Get.calls _ _ l0 _ _ l1 a2_1 t141 t142 _ ?side1 ?side2 ?side3 ?side4 A5.out).mono ?_); (case side1 => refine (Kd.V_reads' (e := 61) (base := w.heap.size) (ok := fun k_ => (((P0_ k_ ∨ w.heap.size ≤ k_) ∧ k_ ≠ gb129) ∧ k_ ≠ gb130)) (n := l0.length) (c := c0) ?_).2.2; exact (by (with_reducible repeat (first | apply Kd.V_alloc | apply Kd.V_drewN | apply Kd.V_drew)); exact (Kd.V_mono (Kd.V_far (p := ⟨gb130, 2, none⟩) (Kd.V_far (p := ⟨gb130, 1, none⟩) (Kd.V_far (p := ⟨gb130, 0, none⟩) (Kd.V_mono HO0.out (fun k_ hk => (⟨hk, hk.2⟩ : _ ∧ k_ ≠ gb130))) (fun _ hk => hk.2) (.string a2_1)) (fun _ hk => hk.2) (.string a2_2)) (fun _ hk => hk.2) (.bool false)) (fun _ h_ => h_.1)))); (case side2 => exact (Kd.V_reads' HO0.out).2.1); (case side3 => exact Kd.C_below HR1.out (by repeat (first | (with_reducible first | exact HB.out | apply below_alloc | apply pw_below_drewN | apply below_drew1 | refine below_set ?_ GE129.out | refine below_set ?_ GE130.out) | exact HB.out))); (case side4 => exact HC1.out); rintro e w21 ⟨rfl, hb⟩; refine ⟨_, rfl, ?_⟩; have n0_ := Aside0.mk (Kd.V_below (by (with_reducible repeat (first | apply Kd.V_alloc | apply Kd.V_drewN | apply Kd.V_drew)); exact (Kd.V_mono (Kd.V_far (p := ⟨gb130, 2, none⟩) (Kd.V_far (p := ⟨gb130, 1, none⟩) (Kd.V_far (p := ⟨gb130, 0, none⟩) (Kd.V_mono HO0.out (fun k_ hk => (⟨hk, hk.2⟩ : _ ∧ k_ ≠ gb130))) (fun _ hk => hk.2) (.string a2_1)) (fun _ hk => hk.2) (.string a2_2)) (fun _ hk => hk.2) (.bool false)) (fun _ h_ => h_.1))) hb); have n1_ := Aside0.mk (blk_below (g := gb129) (o := .cells #[.int .i64 a2_0, .string a2_1, .string a2_2, .string a2_3, .string a2_4, .int .i64 a2_5, .string a2_6, .bool a2_7, .slice A2_8 l2_8.length c2_8] 27 (0, 0)) (by (with_reducible repeat (first | refine blk_drewN ?_ _ | refine blk_drew ?_ | refine blk_alloc ?_ _)); refine blk_far ?_ NB129_130.out _; (with_reducible repeat (first | refine blk_drewN ?_ _ | refine blk_drew ?_ | refine blk_alloc ?_ _)); refine blk_far ?_ NB129_130.out _; (with_reducible repeat (first | refine blk_drewN ?_ _ | refine blk_drew ?_ | refine blk_alloc ?_ _)); refine blk_far ?_ NB129_130.out _; (with_reducible repeat (first | refine blk_drewN ?_ _ | refine blk_drew ?_ | refine blk_alloc ?_ _)); exact BK129.out) hb); have n2_ := Aside0.mk (blk_below (g := gb130) (o := .cells #[.string a2_1, .string a2_2, .bool false] 61 (0, 0)) (by (with_reducible repeat (first | refine blk_drewN ?_ _ | refine blk_drew ?_ | refine blk_alloc ?_ _)); refine blk_put (cs := #[.string a2_1, .string a2_2, .bool false]) ?_ 2 _ rfl; (with_reducible repeat (first | refine blk_drewN ?_ _ | refine blk_drew ?_ | refine blk_alloc ?_ _)); refine blk_put (cs := #[.string a2_1, .string (⟨#[]⟩ : ByteArray), .bool false]) ?_ 1 _ rfl; (with_reducible repeat (first | refine blk_drewN ?_ _ | refine blk_drew ?_ | refine blk_alloc ?_ _)); refine blk_put (cs := #[.string (⟨#[]⟩ : ByteArray), .string (⟨#[]⟩ : ByteArray), .bool false]) ?_ 0 _ rfl; (with_reducible repeat (first | refine blk_drewN ?_ _ | refine blk_drew ?_ | refine blk_alloc ?_ _)); exact BK130.out) hb); have n3_ := Aside0.mk (below_step (by repeat (first | (with_reducible first | exact HB.out | apply below_alloc | apply pw_below_drewN | apply below_drew1 | refine below_set ?_ GE129.out | refine below_set ?_ GE130.out) | exact HB.out)) hb); clear HO0; clear BK129; clear BK130; clear HB; have HO0 := n0_; have BK129 := n1_; have BK130 := n2_; have HB := n3_; clear n0_ n1_ n2_ n3_; (try clear hb); (try clear hb2); (try clear hk); (try clear hi)))
      have n0_ := Aside0.mk (Kd.V_drew HO0.out)
      have n1_ := Aside0.mk (blk_drew BK129.out)
      have n2_ := Aside0.mk (blk_drew BK130.out)
      have n3_ := Aside0.mk (below_drew1 HB.out)
      clear HO0
      clear BK129
      clear BK130
      clear HB
      have HO0 := n0_
      have BK129 := n1_
      have BK130 := n2_
      have HB := n3_
      clear n0_ n1_ n2_ n3_
      refine start_ (n := 13) (S := fun w' => w'.cell? ⟨gb129, 0, none⟩ = some (.int .i64 a2_0) ∧ w'.cell? ⟨gb129, 1, none⟩ = some (.string a2_1) ∧ w'.cell? ⟨gb129, 2, none⟩ = some (.string a2_2) ∧ w'.cell? ⟨gb129, 3, none⟩ = some (.string a2_3) ∧ w'.cell? ⟨gb129, 4, none⟩ = some (.string a2_4) ∧ w'.cell? ⟨gb129, 5, none⟩ = some (.int .i64 a2_5) ∧ w'.cell? ⟨gb129, 6, none⟩ = some (.string a2_6) ∧ w'.cell? ⟨gb129, 7, none⟩ = some (.bool a2_7) ∧ w'.cell? ⟨gb129, 8, none⟩ = some (.slice A2_8 l2_8.length c2_8)) (ds := []) #[false, false, false, false, false, false, false, false, false, false, false, false, false] (by kernel_rfl) rfl rfl ⟨(blk_cell BK129.out 0).trans rfl, (blk_cell BK129.out 1).trans rfl, (blk_cell BK129.out 2).trans rfl, (blk_cell BK129.out 3).trans rfl, (blk_cell BK129.out 4).trans rfl, (blk_cell BK129.out 5).trans rfl, (blk_cell BK129.out 6).trans rfl, (blk_cell BK129.out 7).trans rfl, (blk_cell BK129.out 8).trans rfl⟩ (fun hHeld => ?_); refine with_tabW audit_Step.tab8 audit_Step.bits8 (fun HT_ HW_ => ?_)
      generalize w21.drew = w22 at HO0 BK129 BK130 HB hHeld ⊢
      refine pure_ (i := 0) (N := some 38) (v := ?_) (a' := ?_) #[true, false, false, false, false, false, false, false, false, false, false, false, false] rfl rfl (any_of HT_.out (by kernel_rfl)) (fun _ _ _ h => h) (Or.inl ⟨by rfl, ?_⟩) ?_ ?_
      rotate_left
      · intro w'
        go_simp
        with_reducible rfl
      rotate_left
      · simp only [Act.put, List.setIfInBounds_toArray, List.set_cons_zero, List.set_cons_succ, i64_w, i32_w]
        rfl
      refine pure_ (i := 1) (N := some 39) (v := ?_) (a' := ?_) #[true, true, false, false, false, false, false, false, false, false, false, false, false] rfl rfl (any_of HT_.out (by kernel_rfl)) (fun _ _ _ h => h) (Or.inl ⟨by rfl, ?_⟩) ?_ ?_
      rotate_left
      · intro w'
        go_simp
        with_reducible rfl
      rotate_left
      · simp only [Act.put, List.setIfInBounds_toArray, List.set_cons_zero, List.set_cons_succ, i64_w, i32_w]
        rfl
      refine pure_ (i := 2) (N := some 40) (v := ?_) (a' := ?_) #[true, true, true, false, false, false, false, false, false, false, false, false, false] rfl rfl (any_of HT_.out (by kernel_rfl)) (fun _ _ _ h => h) (Or.inl ⟨by rfl, ?_⟩) ?_ ?_
      rotate_left
      · intro w'
        go_simp
        with_reducible rfl
      rotate_left
      · simp only [Act.put, List.setIfInBounds_toArray, List.set_cons_zero, List.set_cons_succ, i64_w, i32_w]
        rfl
      refine take_ (i := 3) (N := some 41) (v := ?_) (a' := ?_) #[true, true, true, true, false, false, false, false, false, false, false, false, false] rfl rfl (take_ofW HT_.out HW_.out (by kernel_rfl)) (fun _ _ _ h => h) (Or.inl ⟨by rfl, ?_⟩) hHeld ?_ ?_
      rotate_left
      · rintro w' ⟨s0, s1, s2, s3, s4, s5, s6, s7, s8⟩
        go_simp
        with_reducible rfl
      rotate_left
      · simp only [Act.put, List.setIfInBounds_toArray, List.set_cons_zero, List.set_cons_succ, i64_w, i32_w]
        rfl
      refine pure_ (i := 4) (N := some 42) (v := ?_) (a' := ?_) #[true, true, true, true, true, false, false, false, false, false, false, false, false] rfl rfl (any_of HT_.out (by kernel_rfl)) (fun _ _ _ h => h) (Or.inl ⟨by rfl, ?_⟩) ?_ ?_
      rotate_left
      · intro w'
        go_simp
        with_reducible rfl
      rotate_left
      · simp only [Act.put, List.setIfInBounds_toArray, List.set_cons_zero, List.set_cons_succ, i64_w, i32_w]
        rfl
      refine pure_ (i := 5) (N := some 43) (v := ?_) (a' := ?_) #[true, true, true, true, true, true, false, false, false, false, false, false, false] rfl rfl (any_of HT_.out (by kernel_rfl)) (fun _ _ _ h => h) (Or.inl ⟨by rfl, ?_⟩) ?_ ?_
      rotate_left
      · intro w'
        go_simp
        with_reducible rfl
      rotate_left
      · simp only [Act.put, List.setIfInBounds_toArray, List.set_cons_zero, List.set_cons_succ, i64_w, i32_w]
        rfl
      refine pure_ (i := 6) (N := some 44) (v := undef) (a' := ?_) #[true, true, true, true, true, true, true, false, false, false, false, false, false] rfl rfl (any_of HT_.out (by kernel_rfl)) (fun _ _ _ h => h) (Or.inr ⟨by rfl, rfl⟩) ?_ ?_
      rotate_left
      · simp only [Act.put, List.setIfInBounds_toArray, List.set_cons_zero, List.set_cons_succ, i64_w, i32_w]
        rfl
      refine pure_ (i := 7) (N := some 45) (v := undef) (a' := ?_) #[true, true, true, true, true, true, true, true, false, false, false, false, false] rfl rfl (any_of HT_.out (by kernel_rfl)) (fun _ _ _ h => h) (Or.inr ⟨by rfl, rfl⟩) ?_ ?_
      rotate_left
      · simp only [Act.put, List.setIfInBounds_toArray, List.set_cons_zero, List.set_cons_succ, i64_w, i32_w]
        rfl
      refine pure_ (i := 8) (N := some 46) (v := undef) (a' := ?_) #[true, true, true, true, true, true, true, true, true, false, false, false, false] rfl rfl (any_of HT_.out (by kernel_rfl)) (fun _ _ _ h => h) (Or.inr ⟨by rfl, rfl⟩) ?_ ?_
      rotate_left
      · simp only [Act.put, List.setIfInBounds_toArray, List.set_cons_zero, List.set_cons_succ, i64_w, i32_w]
        rfl
      refine pure_ (i := 9) (N := some 47) (v := undef) (a' := ?_) #[true, true, true, true, true, true, true, true, true, true, false, false, false] rfl rfl (any_of HT_.out (by kernel_rfl)) (fun _ _ _ h => h) (Or.inr ⟨by rfl, rfl⟩) ?_ ?_
      rotate_left
      · simp only [Act.put, List.setIfInBounds_toArray, List.set_cons_zero, List.set_cons_succ, i64_w, i32_w]
        rfl
      refine pure_ (i := 10) (N := some 48) (v := ?_) (a' := ?_) #[true, true, true, true, true, true, true, true, true, true, true, false, false] rfl rfl (any_of HT_.out (by kernel_rfl)) (fun _ _ _ h => h) (Or.inl ⟨by rfl, ?_⟩) ?_ ?_
      rotate_left
      · intro w'
        go_simp
        with_reducible rfl
      rotate_left
      · simp only [Act.put, List.setIfInBounds_toArray, List.set_cons_zero, List.set_cons_succ, i64_w, i32_w]
        rfl
      refine pure_ (i := 11) (N := some 6) (v := ?_) (a' := ?_) #[true, true, true, true, true, true, true, true, true, true, true, true, false] rfl rfl (any_of HT_.out (by kernel_rfl)) (fun _ _ _ h => h) (Or.inl ⟨by rfl, ?_⟩) ?_ ?_
      rotate_left
      · intro w'
        go_simp
        with_reducible rfl
      rotate_left
      · simp only [Act.put, List.setIfInBounds_toArray, List.set_cons_zero, List.set_cons_succ, i64_w, i32_w]
        rfl
      refine pure_ (i := 12) (N := some 7) (v := ?_) (a' := ?_) #[true, true, true, true, true, true, true, true, true, true, true, true, true] rfl rfl (any_of HT_.out (by kernel_rfl)) (fun _ _ _ h => h) (Or.inl ⟨by rfl, ?_⟩) ?_ ?_
      rotate_left
      · intro w'
        go_simp
        with_reducible rfl
      rotate_left
      · simp only [Act.put, List.setIfInBounds_toArray, List.set_cons_zero, List.set_cons_succ, i64_w, i32_w]
        rfl
      refine done_ (done_of HT_.out (by kernel_rfl)) ?_
      try go_wp2
      go_ret2
      exact ⟨_, by first | rfl | (simp [errW_none, errW_some] <;> rfl) | (simp [*, errW_none, errW_some] <;> rfl), by (with_reducible repeat (first | apply Kd.V_alloc | apply Kd.V_drewN | apply Kd.V_drew)); exact Kd.V_mono HO0.out (fun _ hk => hk.1.1), by repeat (first | (with_reducible first | exact HB.out | apply below_alloc | apply pw_below_drewN | apply below_drew1 | refine below_set ?_ GE129.out | refine below_set ?_ GE130.out) | exact HB.out)⟩
  · rw [if_neg c4] at H
    have c4b0 : (a2_0 == 1) = false := beq_eq_false_iff_ne.mpr c4
    have c4b1 : (a2_0 != 1) = true := bne_iff_ne.mpr c4
    by_cases c23 : a2_0 = 4
    · rw [if_pos c23] at H
      have c23b0 : (a2_0 == 4) = true := beq_iff_eq.mpr c23
      have c23b1 : (a2_0 != 4) = false := bne_eq_false_iff_eq.mpr c23
      clear c23
      replace H := Option.bind_eq_some_iff.mp H
      obtain ⟨t131, A240, H⟩ := H
      replace H : ((api_Pair_24.f k t131 l2_8).bind fun t134 => (some (l0, t134))) = some (r1, r2) := H
      have A24 := Aside0.mk A240
      clear A240
      replace H := Option.bind_eq_some_iff.mp H
      obtain ⟨t134, A250, H⟩ := H
      replace H : (some (l0, t134)) = some (r1, r2) := H
      have A25 := Aside0.mk A250
      clear A250
      simp only [Option.some.injEq, Prod.mk.injEq] at H
      obtain ⟨rfl, rfl⟩ := H
      go_enter Try.func11, Try.ntmps11
      try go_wp2_with (first | ((with_reducible refine gate_dst (N := 5) rfl ?_); refine box_event ?hg (N := 5) ?hd (cs := #[.int .i64 a2_0, .string a2_1, .string a2_2, .string a2_3, .string a2_4, .int .i64 a2_5, .string a2_6, .bool a2_7, .slice A2_8 l2_8.length c2_8]) (t := 27) ?hr ?_; (case hd => rfl); (case hg => rfl); (case hr => first | (go_simp; done) | (go_simp; rfl)); intro gb129 hg w26 hbox hb; have n0_ := Aside0.mk (Kd.V_below (Kd.V_elderB (by (with_reducible repeat (first | apply Kd.V_alloc | apply Kd.V_drewN | apply Kd.V_drew)); exact HO0.out) gb129 (Nat.le_of_eq hg.symm)) hb); have n1_ := Aside0.mk (below_step (by repeat (first | (with_reducible first | exact HB.out | apply below_alloc | apply pw_below_drewN | apply below_drew1) | exact HB.out)) hb); have n2_ := Aside0.mk (hbox); have n3_ := Aside0.mk ((by rw [hg]; exact (below_size (by repeat (first | (with_reducible first | exact HB.out | apply below_alloc | apply pw_below_drewN | apply below_drew1) | exact HB.out))) : w.heap.size ≤ gb129)); have n4_ := Aside0.mk ((by rw [hg]; exact (below_size (by repeat (first | (with_reducible first | exact HB.out | apply below_alloc | apply pw_below_drewN | apply below_drew1) | exact HB.out))) : w.heap.size ≤ gb129)); clear HO0; clear HB; have HO0 := n0_; have HB := n1_; have BK129 := n2_; have GW129 := n3_; have GE129 := n4_; clear n0_ n1_ n2_ n3_ n4_; clear hb hbox hg; have hcz27_0 : w26.cell? ⟨gb129, 0, none⟩ = some (.int .i64 a2_0) := (blk_cell BK129.out 0).trans rfl; have hcz27_1 : w26.cell? ⟨gb129, 1, none⟩ = some (.string a2_1) := (blk_cell BK129.out 1).trans rfl; have hcz27_2 : w26.cell? ⟨gb129, 2, none⟩ = some (.string a2_2) := (blk_cell BK129.out 2).trans rfl; have hcz27_3 : w26.cell? ⟨gb129, 3, none⟩ = some (.string a2_3) := (blk_cell BK129.out 3).trans rfl; have hcz27_4 : w26.cell? ⟨gb129, 4, none⟩ = some (.string a2_4) := (blk_cell BK129.out 4).trans rfl; have hcz27_5 : w26.cell? ⟨gb129, 5, none⟩ = some (.int .i64 a2_5) := (blk_cell BK129.out 5).trans rfl; have hcz27_6 : w26.cell? ⟨gb129, 6, none⟩ = some (.string a2_6) := (blk_cell BK129.out 6).trans rfl; have hcz27_7 : w26.cell? ⟨gb129, 7, none⟩ = some (.bool a2_7) := (blk_cell BK129.out 7).trans rfl; have hcz27_8 : w26.cell? ⟨gb129, 8, none⟩ = some (.slice A2_8 l2_8.length c2_8) := (blk_cell BK129.out 8).trans rfl; have hfz27_0 := blk_frozen BK129.out 0; have hfz27_1 := blk_frozen BK129.out 1; have hfz27_2 := blk_frozen BK129.out 2; have hfz27_3 := blk_frozen BK129.out 3; have hfz27_4 := blk_frozen BK129.out 4; have hfz27_5 := blk_frozen BK129.out 5; have hfz27_6 := blk_frozen BK129.out 6; have hfz27_7 := blk_frozen BK129.out 7; have hfz27_8 := blk_frozen BK129.out 8) | ((with_reducible refine gate_dst (N := 8) rfl ?_); refine box_event ?hg (N := 8) ?hd (cs := #[.string (⟨#[]⟩ : ByteArray), .string (⟨#[]⟩ : ByteArray), .bool false]) (t := 61) ?hr ?_; (case hd => rfl); (case hg => rfl); (case hr => first | (go_simp; done) | (go_simp; rfl)); intro gb130 hg w28 hbox hb; have n0_ := Aside0.mk (Kd.V_below (Kd.V_elderB (by (with_reducible repeat (first | apply Kd.V_alloc | apply Kd.V_drewN | apply Kd.V_drew)); exact HO0.out) gb130 (Nat.le_of_eq hg.symm)) hb); have n1_ := Aside0.mk (blk_below (g := gb129) (o := .cells #[.int .i64 a2_0, .string a2_1, .string a2_2, .string a2_3, .string a2_4, .int .i64 a2_5, .string a2_6, .bool a2_7, .slice A2_8 l2_8.length c2_8] 27 (0, 0)) (by (with_reducible repeat (first | refine blk_drewN ?_ _ | refine blk_drew ?_ | refine blk_alloc ?_ _)); exact BK129.out) hb); have n2_ := Aside0.mk (below_step (by repeat (first | (with_reducible first | exact HB.out | apply below_alloc | apply pw_below_drewN | apply below_drew1 | refine below_set ?_ GE129.out) | exact HB.out)) hb); have n3_ := Aside0.mk (hbox); have n4_ := Aside0.mk ((by rw [hg]; exact (below_size (by repeat (first | (with_reducible first | exact HB.out | apply below_alloc | apply pw_below_drewN | apply below_drew1 | refine below_set ?_ GE129.out) | exact HB.out))) : w.heap.size ≤ gb130)); have n5_ := Aside0.mk ((by rw [hg]; exact (below_size (by repeat (first | (with_reducible first | exact HB.out | apply below_alloc | apply pw_below_drewN | apply below_drew1 | refine below_set ?_ GE129.out) | exact HB.out))) : w.heap.size ≤ gb130)); have n6_ := Aside0.mk ((by rw [hg]; exact Nat.ne_of_lt (blk_lt (g := gb129) (o := .cells #[.int .i64 a2_0, .string a2_1, .string a2_2, .string a2_3, .string a2_4, .int .i64 a2_5, .string a2_6, .bool a2_7, .slice A2_8 l2_8.length c2_8] 27 (0, 0)) (by (with_reducible repeat (first | refine blk_drewN ?_ _ | refine blk_drew ?_ | refine blk_alloc ?_ _)); exact BK129.out)) : gb129 ≠ gb130)); have n7_ := Aside0.mk ((by rw [hg]; exact Nat.ne_of_gt (blk_lt (g := gb129) (o := .cells #[.int .i64 a2_0, .string a2_1, .string a2_2, .string a2_3, .string a2_4, .int .i64 a2_5, .string a2_6, .bool a2_7, .slice A2_8 l2_8.length c2_8] 27 (0, 0)) (by (with_reducible repeat (first | refine blk_drewN ?_ _ | refine blk_drew ?_ | refine blk_alloc ?_ _)); exact BK129.out)) : gb130 ≠ gb129)); clear HO0; clear BK129; clear HB; have HO0 := n0_; have BK129 := n1_; have HB := n2_; have BK130 := n3_; have GW130 := n4_; have GE130 := n5_; have NB129_130 := n6_; have NB130_129 := n7_; clear n0_ n1_ n2_ n3_ n4_ n5_ n6_ n7_; clear hb hbox hg; have hnb29 := NB130_129.out; have hnc29 := NB129_130.out; have hcz30_0 : w28.cell? ⟨gb130, 0, none⟩ = some (.string (⟨#[]⟩ : ByteArray)) := (blk_cell BK130.out 0).trans rfl; have hcz30_1 : w28.cell? ⟨gb130, 1, none⟩ = some (.string (⟨#[]⟩ : ByteArray)) := (blk_cell BK130.out 1).trans rfl; have hcz30_2 : w28.cell? ⟨gb130, 2, none⟩ = some (.bool false) := (blk_cell BK130.out 2).trans rfl; have hfz30_0 := blk_frozen BK130.out 0; have hfz30_1 := blk_frozen BK130.out 1; have hfz30_2 := blk_frozen BK130.out 2; have hcz31_0 : w28.cell? ⟨gb129, 0, none⟩ = some (.int .i64 a2_0) := (blk_cell BK129.out 0).trans rfl; have hcz31_1 : w28.cell? ⟨gb129, 1, none⟩ = some (.string a2_1) := (blk_cell BK129.out 1).trans rfl; have hcz31_2 : w28.cell? ⟨gb129, 2, none⟩ = some (.string a2_2) := (blk_cell BK129.out 2).trans rfl; have hcz31_3 : w28.cell? ⟨gb129, 3, none⟩ = some (.string a2_3) := (blk_cell BK129.out 3).trans rfl; have hcz31_4 : w28.cell? ⟨gb129, 4, none⟩ = some (.string a2_4) := (blk_cell BK129.out 4).trans rfl; have hcz31_5 : w28.cell? ⟨gb129, 5, none⟩ = some (.int .i64 a2_5) := (blk_cell BK129.out 5).trans rfl; have hcz31_6 : w28.cell? ⟨gb129, 6, none⟩ = some (.string a2_6) := (blk_cell BK129.out 6).trans rfl; have hcz31_7 : w28.cell? ⟨gb129, 7, none⟩ = some (.bool a2_7) := (blk_cell BK129.out 7).trans rfl; have hcz31_8 : w28.cell? ⟨gb129, 8, none⟩ = some (.slice A2_8 l2_8.length c2_8) := (blk_cell BK129.out 8).trans rfl; have hfz31_0 := blk_frozen BK129.out 0; have hfz31_1 := blk_frozen BK129.out 1; have hfz31_2 := blk_frozen BK129.out 2; have hfz31_3 := blk_frozen BK129.out 3; have hfz31_4 := blk_frozen BK129.out 4; have hfz31_5 := blk_frozen BK129.out 5; have hfz31_6 := blk_frozen BK129.out 6; have hfz31_7 := blk_frozen BK129.out 7; have hfz31_8 := blk_frozen BK129.out 8))
      have n0_ : Aside0 (Kd.V k61 61 (((w28.setCell ⟨gb130, 0, none⟩ (.string a2_1)).setCell ⟨gb130, 1, none⟩ (.string a2_2)).setCell ⟨gb130, 2, none⟩ (.bool false)) w.heap.size (fun k_ => (P0_ k_ ∨ w.heap.size ≤ k_) ∧ k_ ≠ gb129 ∧ k_ ≠ gb130) (.slice A0 l0.length c0) l0) := ⟨by (with_reducible repeat (first | apply Kd.V_alloc | apply Kd.V_drewN | apply Kd.V_drew)); exact Kd.V_mono (Kd.V_far (p := ⟨gb130, 2, none⟩) (Kd.V_far (p := ⟨gb130, 1, none⟩) (Kd.V_far (p := ⟨gb130, 0, none⟩) (Kd.V_mono HO0.out (fun k_ hk => (⟨hk, hk.2⟩ : _ ∧ k_ ≠ gb130))) (fun _ hk => hk.2) (.string a2_1)) (fun _ hk => hk.2) (.string a2_2)) (fun _ hk => hk.2) (.bool false)) (fun _ hk => ⟨hk.1.1.1, ⟨hk.1.1.2, hk.1.2⟩⟩)⟩
      have n1_ : Aside0 ((((w28.setCell ⟨gb130, 0, none⟩ (.string a2_1)).setCell ⟨gb130, 1, none⟩ (.string a2_2)).setCell ⟨gb130, 2, none⟩ (.bool false)).heap[gb129]? = some (.cells #[.int .i64 a2_0, .string a2_1, .string a2_2, .string a2_3, .string a2_4, .int .i64 a2_5, .string a2_6, .bool a2_7, .slice A2_8 l2_8.length c2_8] 27 (0, 0))) := ⟨by (with_reducible repeat (first | refine blk_drewN ?_ _ | refine blk_drew ?_ | refine blk_alloc ?_ _)); refine blk_far ?_ NB129_130.out _; (with_reducible repeat (first | refine blk_drewN ?_ _ | refine blk_drew ?_ | refine blk_alloc ?_ _)); refine blk_far ?_ NB129_130.out _; (with_reducible repeat (first | refine blk_drewN ?_ _ | refine blk_drew ?_ | refine blk_alloc ?_ _)); refine blk_far ?_ NB129_130.out _; (with_reducible repeat (first | refine blk_drewN ?_ _ | refine blk_drew ?_ | refine blk_alloc ?_ _)); exact BK129.out⟩
      have n2_ : Aside0 ((((w28.setCell ⟨gb130, 0, none⟩ (.string a2_1)).setCell ⟨gb130, 1, none⟩ (.string a2_2)).setCell ⟨gb130, 2, none⟩ (.bool false)).heap[gb130]? = some (.cells #[.string a2_1, .string a2_2, .bool false] 61 (0, 0))) := ⟨by (with_reducible repeat (first | refine blk_drewN ?_ _ | refine blk_drew ?_ | refine blk_alloc ?_ _)); refine blk_put (cs := #[.string a2_1, .string a2_2, .bool false]) ?_ 2 _ rfl; (with_reducible repeat (first | refine blk_drewN ?_ _ | refine blk_drew ?_ | refine blk_alloc ?_ _)); refine blk_put (cs := #[.string a2_1, .string (⟨#[]⟩ : ByteArray), .bool false]) ?_ 1 _ rfl; (with_reducible repeat (first | refine blk_drewN ?_ _ | refine blk_drew ?_ | refine blk_alloc ?_ _)); refine blk_put (cs := #[.string (⟨#[]⟩ : ByteArray), .string (⟨#[]⟩ : ByteArray), .bool false]) ?_ 0 _ rfl; (with_reducible repeat (first | refine blk_drewN ?_ _ | refine blk_drew ?_ | refine blk_alloc ?_ _)); exact BK130.out⟩
      have n3_ : Aside0 (Below w.heap.size w (((w28.setCell ⟨gb130, 0, none⟩ (.string a2_1)).setCell ⟨gb130, 1, none⟩ (.string a2_2)).setCell ⟨gb130, 2, none⟩ (.bool false))) := ⟨by repeat (first | (with_reducible first | exact HB.out | apply below_alloc | apply pw_below_drewN | apply below_drew1 | refine below_set ?_ GE129.out | refine below_set ?_ GE130.out) | exact HB.out)⟩
      (try clear HO0)
      (try clear BK129)
      (try clear BK130)
      (try clear HB)
      generalize (((w28.setCell ⟨gb130, 0, none⟩ (.string a2_1)).setCell ⟨gb130, 1, none⟩ (.string a2_2)).setCell ⟨gb130, 2, none⟩ (.bool false)) = w32 at n0_ n1_ n2_ n3_ ⊢
      have HO0 := n0_
      have BK129 := n1_
      have BK130 := n2_
      have HB := n3_
      clear n0_ n1_ n2_ n3_
      have n0_ := Aside0.mk (Kd.V_drew HO0.out)
      have n1_ := Aside0.mk (blk_drew BK129.out)
      have n2_ := Aside0.mk (blk_drew BK130.out)
      have n3_ := Aside0.mk (below_drew1 HB.out)
      clear HO0
      clear BK129
      clear BK130
      clear HB
      have HO0 := n0_
      have BK129 := n1_
      have BK130 := n2_
      have HB := n3_
      clear n0_ n1_ n2_ n3_
      refine start_ (n := 18) (S := fun w' => w'.cell? ⟨gb129, 0, none⟩ = some (.int .i64 a2_0) ∧ w'.cell? ⟨gb129, 1, none⟩ = some (.string a2_1) ∧ w'.cell? ⟨gb129, 2, none⟩ = some (.string a2_2) ∧ w'.cell? ⟨gb129, 3, none⟩ = some (.string a2_3) ∧ w'.cell? ⟨gb129, 4, none⟩ = some (.string a2_4) ∧ w'.cell? ⟨gb129, 5, none⟩ = some (.int .i64 a2_5) ∧ w'.cell? ⟨gb129, 6, none⟩ = some (.string a2_6) ∧ w'.cell? ⟨gb129, 7, none⟩ = some (.bool a2_7) ∧ w'.cell? ⟨gb129, 8, none⟩ = some (.slice A2_8 l2_8.length c2_8)) (ds := []) #[false, false, false, false, false, false, false, false, false, false, false, false, false, false, false, false, false, false] (by kernel_rfl) rfl rfl ⟨(blk_cell BK129.out 0).trans rfl, (blk_cell BK129.out 1).trans rfl, (blk_cell BK129.out 2).trans rfl, (blk_cell BK129.out 3).trans rfl, (blk_cell BK129.out 4).trans rfl, (blk_cell BK129.out 5).trans rfl, (blk_cell BK129.out 6).trans rfl, (blk_cell BK129.out 7).trans rfl, (blk_cell BK129.out 8).trans rfl⟩ (fun hHeld => ?_); refine with_tabW audit_Step.tab9 audit_Step.bits9 (fun HT_ HW_ => ?_)
      generalize w32.drew = w33 at HO0 BK129 BK130 HB hHeld ⊢
      refine pure_ (i := 0) (N := some 49) (v := ?_) (a' := ?_) #[true, false, false, false, false, false, false, false, false, false, false, false, false, false, false, false, false, false] rfl rfl (any_of HT_.out (by kernel_rfl)) (fun _ _ _ h => h) (Or.inl ⟨by rfl, ?_⟩) ?_ ?_
      rotate_left
      · intro w'
        go_simp
        with_reducible rfl
      rotate_left
      · simp only [Act.put, List.setIfInBounds_toArray, List.set_cons_zero, List.set_cons_succ, i64_w, i32_w]
        rfl
      refine pure_ (i := 1) (N := some 50) (v := ?_) (a' := ?_) #[true, true, false, false, false, false, false, false, false, false, false, false, false, false, false, false, false, false] rfl rfl (any_of HT_.out (by kernel_rfl)) (fun _ _ _ h => h) (Or.inl ⟨by rfl, ?_⟩) ?_ ?_
      rotate_left
      · intro w'
        go_simp
        with_reducible rfl
      rotate_left
      · simp only [Act.put, List.setIfInBounds_toArray, List.set_cons_zero, List.set_cons_succ, i64_w, i32_w]
        rfl
      refine pure_ (i := 2) (N := some 51) (v := ?_) (a' := ?_) #[true, true, true, false, false, false, false, false, false, false, false, false, false, false, false, false, false, false] rfl rfl (any_of HT_.out (by kernel_rfl)) (fun _ _ _ h => h) (Or.inl ⟨by rfl, ?_⟩) ?_ ?_
      rotate_left
      · intro w'
        go_simp
        with_reducible rfl
      rotate_left
      · simp only [Act.put, List.setIfInBounds_toArray, List.set_cons_zero, List.set_cons_succ, i64_w, i32_w]
        rfl
      refine pure_ (i := 3) (N := some 52) (v := ?_) (a' := ?_) #[true, true, true, true, false, false, false, false, false, false, false, false, false, false, false, false, false, false] rfl rfl (any_of HT_.out (by kernel_rfl)) (fun _ _ _ h => h) (Or.inl ⟨by rfl, ?_⟩) ?_ ?_
      rotate_left
      · intro w'
        go_simp
        with_reducible rfl
      rotate_left
      · simp only [Act.put, List.setIfInBounds_toArray, List.set_cons_zero, List.set_cons_succ, i64_w, i32_w]
        rfl
      refine pure_ (i := 4) (N := some 53) (v := ?_) (a' := ?_) #[true, true, true, true, true, false, false, false, false, false, false, false, false, false, false, false, false, false] rfl rfl (any_of HT_.out (by kernel_rfl)) (fun _ _ _ h => h) (Or.inl ⟨by rfl, ?_⟩) ?_ ?_
      rotate_left
      · intro w'
        go_simp
        with_reducible rfl
      rotate_left
      · simp only [Act.put, List.setIfInBounds_toArray, List.set_cons_zero, List.set_cons_succ, i64_w, i32_w]
        rfl
      refine pure_ (i := 6) (N := some 55) (v := ?_) (a' := ?_) #[true, true, true, true, true, false, true, false, false, false, false, false, false, false, false, false, false, false] rfl rfl (any_of HT_.out (by kernel_rfl)) (fun _ _ _ h => h) (Or.inl ⟨by rfl, ?_⟩) ?_ ?_
      rotate_left
      · intro w'
        go_simp
        with_reducible rfl
      rotate_left
      · simp only [Act.put, List.setIfInBounds_toArray, List.set_cons_zero, List.set_cons_succ, i64_w, i32_w]
        rfl
      refine pure_ (i := 7) (N := some 56) (v := ?_) (a' := ?_) #[true, true, true, true, true, false, true, true, false, false, false, false, false, false, false, false, false, false] rfl rfl (any_of HT_.out (by kernel_rfl)) (fun _ _ _ h => h) (Or.inl ⟨by rfl, ?_⟩) ?_ ?_
      rotate_left
      · intro w'
        go_simp
        with_reducible rfl
      rotate_left
      · simp only [Act.put, List.setIfInBounds_toArray, List.set_cons_zero, List.set_cons_succ, i64_w, i32_w]
        rfl
      refine pure_ (i := 9) (N := some 58) (v := ?_) (a' := ?_) #[true, true, true, true, true, false, true, true, false, true, false, false, false, false, false, false, false, false] rfl rfl (any_of HT_.out (by kernel_rfl)) (fun _ _ _ h => h) (Or.inl ⟨by rfl, ?_⟩) ?_ ?_
      rotate_left
      · intro w'
        go_simp
        with_reducible rfl
      rotate_left
      · simp only [Act.put, List.setIfInBounds_toArray, List.set_cons_zero, List.set_cons_succ, i64_w, i32_w]
        rfl
      refine pure_ (i := 10) (N := some 59) (v := ?_) (a' := ?_) #[true, true, true, true, true, false, true, true, false, true, true, false, false, false, false, false, false, false] rfl rfl (any_of HT_.out (by kernel_rfl)) (fun _ _ _ h => h) (Or.inl ⟨by rfl, ?_⟩) ?_ ?_
      rotate_left
      · intro w'
        go_simp
        with_reducible rfl
      rotate_left
      · simp only [Act.put, List.setIfInBounds_toArray, List.set_cons_zero, List.set_cons_succ, i64_w, i32_w]
        rfl
      refine pure_ (i := 13) (N := some 62) (v := ?_) (a' := ?_) #[true, true, true, true, true, false, true, true, false, true, true, false, false, true, false, false, false, false] rfl rfl (any_of HT_.out (by kernel_rfl)) (fun _ _ _ h => h) (Or.inl ⟨by rfl, ?_⟩) ?_ ?_
      rotate_left
      · intro w'
        go_simp
        with_reducible rfl
      rotate_left
      · simp only [Act.put, List.setIfInBounds_toArray, List.set_cons_zero, List.set_cons_succ, i64_w, i32_w]
        rfl
      refine take_ (i := 5) (N := some 54) (v := ?_) (a' := ?_) #[true, true, true, true, true, true, true, true, false, true, true, false, false, true, false, false, false, false] rfl rfl (take_ofW HT_.out HW_.out (by kernel_rfl)) (fun _ _ _ h => h) (Or.inl ⟨by rfl, ?_⟩) hHeld ?_ ?_
      rotate_left
      · rintro w' ⟨s0, s1, s2, s3, s4, s5, s6, s7, s8⟩
        go_simp
        with_reducible rfl
      rotate_left
      · simp only [Act.put, List.setIfInBounds_toArray, List.set_cons_zero, List.set_cons_succ, i64_w, i32_w]
        rfl
      refine take_ (i := 8) (N := some 57) (v := ?_) (a' := ?_) #[true, true, true, true, true, true, true, true, true, true, true, false, false, true, false, false, false, false] rfl rfl (take_ofW HT_.out HW_.out (by kernel_rfl)) (fun _ _ _ h => h) (Or.inl ⟨by rfl, ?_⟩) hHeld ?_ ?_
      rotate_left
      · rintro w' ⟨s0, s1, s2, s3, s4, s5, s6, s7, s8⟩
        go_simp
        with_reducible rfl
      rotate_left
      · simp only [Act.put, List.setIfInBounds_toArray, List.set_cons_zero, List.set_cons_succ, i64_w, i32_w]
        rfl
      refine take_ (i := 11) (N := some 60) (v := ?_) (a' := ?_) #[true, true, true, true, true, true, true, true, true, true, true, true, false, true, false, false, false, false] rfl rfl (take_ofW HT_.out HW_.out (by kernel_rfl)) (fun _ _ _ h => h) (Or.inl ⟨by rfl, ?_⟩) hHeld ?_ ?_
      rotate_left
      · rintro w' ⟨s0, s1, s2, s3, s4, s5, s6, s7, s8⟩
        go_simp
        with_reducible rfl
      rotate_left
      · simp only [Act.put, List.setIfInBounds_toArray, List.set_cons_zero, List.set_cons_succ, i64_w, i32_w]
        rfl
      refine take_ (i := 14) (N := some 63) (v := ?_) (a' := ?_) #[true, true, true, true, true, true, true, true, true, true, true, true, false, true, true, false, false, false] rfl rfl (take_ofW HT_.out HW_.out (by kernel_rfl)) (fun _ _ _ h => h) (Or.inl ⟨by rfl, ?_⟩) hHeld ?_ ?_
      rotate_left
      · rintro w' ⟨s0, s1, s2, s3, s4, s5, s6, s7, s8⟩
        go_simp
        with_reducible rfl
      rotate_left
      · simp only [Act.put, List.setIfInBounds_toArray, List.set_cons_zero, List.set_cons_succ, i64_w, i32_w]
        rfl
      refine one_ (i := 12) (N := some 61) #[true, true, true, true, true, true, true, true, true, true, true, true, true, true, true, false, false, false] rfl rfl (one_of HT_.out (by kernel_rfl)) (by decide) (fun K hK => ?_)
      refine goes_ Try.func25 (by kernel_rfl) rfl #[.slice A0 l0.length c0, .slice A1 l1.length c1, .string a2_3, .string a2_4, .int .i64 a2_5] (by rfl) rfl rfl (by (try simp only [List.map_toArray, List.map_cons, List.map_nil]); first | done | rfl | (simp only [List.length_drop, List.length_take]; rfl)) ?_
      with_reducible refine (view_Scan.calls k _ _ l0 _ _ l1 a2_3 a2_4 a2_5 t131 _ ?side1 ?side2 ?side3 ?side4 A24.out).mono ?_
      (case side1 => repeat (first | exact (Kd.V_reads' HO0.out).2.2 | (with_reducible refine Kd.C_alloc ?_ _) | (with_reducible refine Kd.C_drewN ?_ _) | (with_reducible refine Kd.C_drew ?_)))
      (case side2 => exact (Kd.V_reads' HO0.out).2.1)
      (case side3 => repeat (first | exact (Kd.C_below HR1.out HB.out) | (with_reducible refine Kd.C_alloc ?_ _) | (with_reducible refine Kd.C_drewN ?_ _) | (with_reducible refine Kd.C_drew ?_)))
      (case side4 => exact HC1.out)
      rintro e w34 ⟨v132, rfl, ho0, hb⟩
      refine ⟨_, rfl, ?_⟩
      have n0_ := Aside0.mk (Kd.V_elder' (by (with_reducible repeat (first | apply Kd.V_alloc | apply Kd.V_drewN | apply Kd.V_drew)); exact HO0.out) (Kd.R_base ho0) hb)
      have n1_ := Aside0.mk (Kd.R_lower (Kd.R_newM (M := fun k_ => (w.heap.size ≤ k_)) ho0 (below_size (by repeat (first | (with_reducible first | exact HB.out | apply below_alloc | apply pw_below_drewN | apply below_drew1 | refine below_set ?_ GE129.out | refine below_set ?_ GE130.out) | exact HB.out))) (fun k_ h_ => h_)) (below_size (by repeat (first | (with_reducible first | exact HB.out | apply below_alloc | apply pw_below_drewN | apply below_drew1 | refine below_set ?_ GE129.out | refine below_set ?_ GE130.out) | exact HB.out))))
      have n2_ := Aside0.mk (blk_below (g := gb129) (o := .cells #[.int .i64 a2_0, .string a2_1, .string a2_2, .string a2_3, .string a2_4, .int .i64 a2_5, .string a2_6, .bool a2_7, .slice A2_8 l2_8.length c2_8] 27 (0, 0)) (by (with_reducible repeat (first | refine blk_drewN ?_ _ | refine blk_drew ?_ | refine blk_alloc ?_ _)); exact BK129.out) hb)
      have n3_ := Aside0.mk (blk_below (g := gb130) (o := .cells #[.string a2_1, .string a2_2, .bool false] 61 (0, 0)) (by (with_reducible repeat (first | refine blk_drewN ?_ _ | refine blk_drew ?_ | refine blk_alloc ?_ _)); exact BK130.out) hb)
      have n4_ := Aside0.mk (below_step (by repeat (first | (with_reducible first | exact HB.out | apply below_alloc | apply pw_below_drewN | apply below_drew1 | refine below_set ?_ GE129.out | refine below_set ?_ GE130.out) | exact HB.out)) hb)
      clear HO0
      clear BK129
      clear BK130
      clear HB
      have HO0 := n0_
      have HO133 := n1_
      have BK129 := n2_
      have BK130 := n3_
      have HB := n4_
      clear n0_ n1_ n2_ n3_ n4_
      (try clear hb)
      (try clear hb2)
      (try clear hk)
      (try clear hi)
      (try clear ho0)
      obtain ⟨Ao35, co35, eo35⟩ := Kd.R_slice HO133.out
      (first | subst eo35 | (injection eo35 with f1_ f2_ f3_; have f4_ := f1_.symm; have f5_ := f3_.symm; clear f1_ f2_ f3_; subst f4_; subst f5_))
      refine hK.out _ _ ⟨(blk_cell BK129.out 0).trans rfl, (blk_cell BK129.out 1).trans rfl, (blk_cell BK129.out 2).trans rfl, (blk_cell BK129.out 3).trans rfl, (blk_cell BK129.out 4).trans rfl, (blk_cell BK129.out 5).trans rfl, (blk_cell BK129.out 6).trans rfl, (blk_cell BK129.out 7).trans rfl, (blk_cell BK129.out 8).trans rfl⟩ (fun hHeld => ?_)
      clear hK K
      refine norm_ (a' := ?_) ?_ ?_
      rotate_left
      · show Act.put _ (some 61) _ = _
        simp only [Act.put, List.setIfInBounds_toArray, List.set_cons_zero, List.set_cons_succ, i64_w, i32_w]
        rfl
      refine one_ (i := 15) (N := some 64) #[true, true, true, true, true, true, true, true, true, true, true, true, true, true, true, true, false, false] rfl rfl (one_of HT_.out (by kernel_rfl)) (by decide) (fun K hK => ?_)
      refine goes_ Try.func24 (by kernel_rfl) rfl #[.slice Ao35 t131.length co35, .slice A2_8 l2_8.length c2_8] (by rfl) rfl rfl (by (try simp only [List.map_toArray, List.map_cons, List.map_nil]); first | done | rfl | (simp only [List.length_drop, List.length_take]; rfl)) ?_
      with_reducible refine (api_Pair_24.calls k _ _ t131 _ _ l2_8 t134 _ ?side1 ?side2 ?side3 ?side4 A25.out).mono ?_
      (case side1 => repeat (first | exact (Kd.R_reads' HO133.out).2.2 | (with_reducible refine Kd.C_alloc ?_ _) | (with_reducible refine Kd.C_drewN ?_ _) | (with_reducible refine Kd.C_drew ?_)))
      (case side2 => exact (Kd.R_reads' HO133.out).2.1)
      (case side3 => repeat (first | exact (Kd.C_below HR2_8.out HB.out) | (with_reducible refine Kd.C_alloc ?_ _) | (with_reducible refine Kd.C_drewN ?_ _) | (with_reducible refine Kd.C_drew ?_)))
      (case side4 => exact HC2_8.out)
      rintro e w' ⟨rfl, ⟨nd, rfl⟩⟩
      refine ⟨_, rfl, ?_⟩
      refine hK.out _ _ ⟨(blk_cell BK129.out 0).trans rfl, (blk_cell BK129.out 1).trans rfl, (blk_cell BK129.out 2).trans rfl, (blk_cell BK129.out 3).trans rfl, (blk_cell BK129.out 4).trans rfl, (blk_cell BK129.out 5).trans rfl, (blk_cell BK129.out 6).trans rfl, (blk_cell BK129.out 7).trans rfl, (blk_cell BK129.out 8).trans rfl⟩ (fun hHeld => ?_)
      clear hK K
      refine norm_ (a' := ?_) ?_ ?_
      rotate_left
      · show Act.put _ (some 64) _ = _
        simp only [Act.put, List.setIfInBounds_toArray, List.set_cons_zero, List.set_cons_succ, i64_w, i32_w]
        rfl
      refine pure_ (i := 16) (N := some 6) (v := ?_) (a' := ?_) #[true, true, true, true, true, true, true, true, true, true, true, true, true, true, true, true, true, false] rfl rfl (any_of HT_.out (by kernel_rfl)) (fun _ _ _ h => h) (Or.inl ⟨by rfl, ?_⟩) ?_ ?_
      rotate_left
      · intro w'
        go_simp
        with_reducible rfl
      rotate_left
      · simp only [Act.put, List.setIfInBounds_toArray, List.set_cons_zero, List.set_cons_succ, i64_w, i32_w]
        rfl
      refine pure_ (i := 17) (N := some 7) (v := ?_) (a' := ?_) #[true, true, true, true, true, true, true, true, true, true, true, true, true, true, true, true, true, true] rfl rfl (any_of HT_.out (by kernel_rfl)) (fun _ _ _ h => h) (Or.inl ⟨by rfl, ?_⟩) ?_ ?_
      rotate_left
      · intro w'
        go_simp
        with_reducible rfl
      rotate_left
      · simp only [Act.put, List.setIfInBounds_toArray, List.set_cons_zero, List.set_cons_succ, i64_w, i32_w]
        rfl
      refine done_ (done_of HT_.out (by kernel_rfl)) ?_
      try go_wp2
      go_ret2
      exact ⟨_, by first | rfl | (simp [errW_none, errW_some] <;> rfl) | (simp [*, errW_none, errW_some] <;> rfl), by (with_reducible repeat (first | apply Kd.V_alloc | apply Kd.V_drewN | apply Kd.V_drew)); exact Kd.V_mono HO0.out (fun _ hk => hk.1.1), by repeat (first | (with_reducible first | exact HB.out | apply below_alloc | apply pw_below_drewN | apply below_drew1 | refine below_set ?_ GE129.out | refine below_set ?_ GE130.out) | exact HB.out)⟩
    · rw [if_neg c23] at H
      have c23b0 : (a2_0 == 4) = false := beq_eq_false_iff_ne.mpr c23
      have c23b1 : (a2_0 != 4) = true := bne_iff_ne.mpr c23
      by_cases c36 : a2_0 = 3
      · rw [if_pos c36] at H
        have c36b0 : (a2_0 == 3) = true := beq_iff_eq.mpr c36
        have c36b1 : (a2_0 != 3) = false := bne_eq_false_iff_eq.mpr c36
        clear c36
        replace H := Option.bind_eq_some_iff.mp H
        obtain ⟨t135, A370, H⟩ := H
        replace H : (some (t135, true)) = some (r1, r2) := H
        have A37 := Aside0.mk A370
        clear A370
        simp only [Option.some.injEq, Prod.mk.injEq] at H
        obtain ⟨rfl, rfl⟩ := H
        have hss1_ : ∀ (W : World) (b : Nat) (v0 v1 v2 v3 : Value), (((W.setCell ⟨b, 0, none⟩ v0).setCell ⟨b, 1, none⟩ v1).setCell ⟨b, 2, none⟩ v2).setCell ⟨b, 1, none⟩ v3 = ((W.setCell ⟨b, 0, none⟩ v0).setCell ⟨b, 1, none⟩ v3).setCell ⟨b, 2, none⟩ v2 := sc_swap
        have hss2_ : ∀ (W : World) (b : Nat) (v v' : Value), (W.setCell ⟨b, 2, none⟩ v).setCell ⟨b, 2, none⟩ v' = W.setCell ⟨b, 2, none⟩ v' := sc_same
        go_enter Try.func11, Try.ntmps11
        go_wp2_with (first | ((with_reducible refine gate_dst (N := 5) rfl ?_); refine box_event ?hg (N := 5) ?hd (cs := #[.int .i64 a2_0, .string a2_1, .string a2_2, .string a2_3, .string a2_4, .int .i64 a2_5, .string a2_6, .bool a2_7, .slice A2_8 l2_8.length c2_8]) (t := 27) ?hr ?_; (case hd => rfl); (case hg => rfl); (case hr => first | (go_simp; done) | (go_simp; rfl)); intro gb129 hg w38 hbox hb; have n0_ := Aside0.mk (Kd.V_below (Kd.V_elderB (by (with_reducible repeat (first | apply Kd.V_alloc | apply Kd.V_drewN | apply Kd.V_drew)); exact HO0.out) gb129 (Nat.le_of_eq hg.symm)) hb); have n1_ := Aside0.mk (below_step (by repeat (first | (with_reducible first | exact HB.out | apply below_alloc | apply pw_below_drewN | apply below_drew1) | exact HB.out)) hb); have n2_ := Aside0.mk (hbox); have n3_ := Aside0.mk ((by rw [hg]; exact (below_size (by repeat (first | (with_reducible first | exact HB.out | apply below_alloc | apply pw_below_drewN | apply below_drew1) | exact HB.out))) : w.heap.size ≤ gb129)); have n4_ := Aside0.mk ((by rw [hg]; exact (below_size (by repeat (first | (with_reducible first | exact HB.out | apply below_alloc | apply pw_below_drewN | apply below_drew1) | exact HB.out))) : w.heap.size ≤ gb129)); clear HO0; clear HB; have HO0 := n0_; have HB := n1_; have BK129 := n2_; have GW129 := n3_; have GE129 := n4_; clear n0_ n1_ n2_ n3_ n4_; clear hb hbox hg; have hcz39_0 : w38.cell? ⟨gb129, 0, none⟩ = some (.int .i64 a2_0) := (blk_cell BK129.out 0).trans rfl; have hcz39_1 : w38.cell? ⟨gb129, 1, none⟩ = some (.string a2_1) := (blk_cell BK129.out 1).trans rfl; have hcz39_2 : w38.cell? ⟨gb129, 2, none⟩ = some (.string a2_2) := (blk_cell BK129.out 2).trans rfl; have hcz39_3 : w38.cell? ⟨gb129, 3, none⟩ = some (.string a2_3) := (blk_cell BK129.out 3).trans rfl; have hcz39_4 : w38.cell? ⟨gb129, 4, none⟩ = some (.string a2_4) := (blk_cell BK129.out 4).trans rfl; have hcz39_5 : w38.cell? ⟨gb129, 5, none⟩ = some (.int .i64 a2_5) := (blk_cell BK129.out 5).trans rfl; have hcz39_6 : w38.cell? ⟨gb129, 6, none⟩ = some (.string a2_6) := (blk_cell BK129.out 6).trans rfl; have hcz39_7 : w38.cell? ⟨gb129, 7, none⟩ = some (.bool a2_7) := (blk_cell BK129.out 7).trans rfl; have hcz39_8 : w38.cell? ⟨gb129, 8, none⟩ = some (.slice A2_8 l2_8.length c2_8) := (blk_cell BK129.out 8).trans rfl; have hfz39_0 := blk_frozen BK129.out 0; have hfz39_1 := blk_frozen BK129.out 1; have hfz39_2 := blk_frozen BK129.out 2; have hfz39_3 := blk_frozen BK129.out 3; have hfz39_4 := blk_frozen BK129.out 4; have hfz39_5 := blk_frozen BK129.out 5; have hfz39_6 := blk_frozen BK129.out 6; have hfz39_7 := blk_frozen BK129.out 7; have hfz39_8 := blk_frozen BK129.out 8) | ((with_reducible refine gate_dst (N := 8) rfl ?_); refine box_event ?hg (N := 8) ?hd (cs := #[.string (⟨#[]⟩ : ByteArray), .string (⟨#[]⟩ : ByteArray), .bool false]) (t := 61) ?hr ?_; (case hd => rfl); (case hg => rfl); (case hr => first | (go_simp; done) | (go_simp; rfl)); intro gb130 hg w40 hbox hb; have n0_ := Aside0.mk (Kd.V_below (Kd.V_elderB (by (with_reducible repeat (first | apply Kd.V_alloc | apply Kd.V_drewN | apply Kd.V_drew)); exact HO0.out) gb130 (Nat.le_of_eq hg.symm)) hb); have n1_ := Aside0.mk (blk_below (g := gb129) (o := .cells #[.int .i64 a2_0, .string a2_1, .string a2_2, .string a2_3, .string a2_4, .int .i64 a2_5, .string a2_6, .bool a2_7, .slice A2_8 l2_8.length c2_8] 27 (0, 0)) (by (with_reducible repeat (first | refine blk_drewN ?_ _ | refine blk_drew ?_ | refine blk_alloc ?_ _)); exact BK129.out) hb); have n2_ := Aside0.mk (below_step (by repeat (first | (with_reducible first | exact HB.out | apply below_alloc | apply pw_below_drewN | apply below_drew1 | refine below_set ?_ GE129.out) | exact HB.out)) hb); have n3_ := Aside0.mk (hbox); have n4_ := Aside0.mk ((by rw [hg]; exact (below_size (by repeat (first | (with_reducible first | exact HB.out | apply below_alloc | apply pw_below_drewN | apply below_drew1 | refine below_set ?_ GE129.out) | exact HB.out))) : w.heap.size ≤ gb130)); have n5_ := Aside0.mk ((by rw [hg]; exact (below_size (by repeat (first | (with_reducible first | exact HB.out | apply below_alloc | apply pw_below_drewN | apply below_drew1 | refine below_set ?_ GE129.out) | exact HB.out))) : w.heap.size ≤ gb130)); have n6_ := Aside0.mk ((by rw [hg]; exact Nat.ne_of_lt (blk_lt (g := gb129) (o := .cells #[.int .i64 a2_0, .string a2_1, .string a2_2, .string a2_3, .string a2_4, .int .i64 a2_5, .string a2_6, .bool a2_7, .slice A2_8 l2_8.length c2_8] 27 (0, 0)) (by (with_reducible repeat (first | refine blk_drewN ?_ _ | refine blk_drew ?_ | refine blk_alloc ?_ _)); exact BK129.out)) : gb129 ≠ gb130)); have n7_ := Aside0.mk ((by rw [hg]; exact Nat.ne_of_gt (blk_lt (g := gb129) (o := .cells #[.int .i64 a2_0, .string a2_1, .string a2_2, .string a2_3, .string a2_4, .int .i64 a2_5, .string a2_6, .bool a2_7, .slice A2_8 l2_8.length c2_8] 27 (0, 0)) (by (with_reducible repeat (first | refine blk_drewN ?_ _ | refine blk_drew ?_ | refine blk_alloc ?_ _)); exact BK129.out)) : gb130 ≠ gb129)); clear HO0; clear BK129; clear HB; have HO0 := n0_; have BK129 := n1_; have HB := n2_; have BK130 := n3_; have GW130 := n4_; have GE130 := n5_; have NB129_130 := n6_; have NB130_129 := n7_; clear n0_ n1_ n2_ n3_ n4_ n5_ n6_ n7_; clear hb hbox hg; have hnb41 := NB130_129.out; have hnc41 := NB129_130.out; have hcz42_0 : w40.cell? ⟨gb130, 0, none⟩ = some (.string (⟨#[]⟩ : ByteArray)) := (blk_cell BK130.out 0).trans rfl; have hcz42_1 : w40.cell? ⟨gb130, 1, none⟩ = some (.string (⟨#[]⟩ : ByteArray)) := (blk_cell BK130.out 1).trans rfl; have hcz42_2 : w40.cell? ⟨gb130, 2, none⟩ = some (.bool false) := (blk_cell BK130.out 2).trans rfl; have hfz42_0 := blk_frozen BK130.out 0; have hfz42_1 := blk_frozen BK130.out 1; have hfz42_2 := blk_frozen BK130.out 2; have hcz43_0 : w40.cell? ⟨gb129, 0, none⟩ = some (.int .i64 a2_0) := (blk_cell BK129.out 0).trans rfl; have hcz43_1 : w40.cell? ⟨gb129, 1, none⟩ = some (.string a2_1) := (blk_cell BK129.out 1).trans rfl; have hcz43_2 : w40.cell? ⟨gb129, 2, none⟩ = some (.string a2_2) := (blk_cell BK129.out 2).trans rfl; have hcz43_3 : w40.cell? ⟨gb129, 3, none⟩ = some (.string a2_3) := (blk_cell BK129.out 3).trans rfl; have hcz43_4 : w40.cell? ⟨gb129, 4, none⟩ = some (.string a2_4) := (blk_cell BK129.out 4).trans rfl; have hcz43_5 : w40.cell? ⟨gb129, 5, none⟩ = some (.int .i64 a2_5) := (blk_cell BK129.out 5).trans rfl; have hcz43_6 : w40.cell? ⟨gb129, 6, none⟩ = some (.string a2_6) := (blk_cell BK129.out 6).trans rfl; have hcz43_7 : w40.cell? ⟨gb129, 7, none⟩ = some (.bool a2_7) := (blk_cell BK129.out 7).trans rfl; have hcz43_8 : w40.cell? ⟨gb129, 8, none⟩ = some (.slice A2_8 l2_8.length c2_8) := (blk_cell BK129.out 8).trans rfl; have hfz43_0 := blk_frozen BK129.out 0; have hfz43_1 := blk_frozen BK129.out 1; have hfz43_2 := blk_frozen BK129.out 2; have hfz43_3 := blk_frozen BK129.out 3; have hfz43_4 := blk_frozen BK129.out 4; have hfz43_5 := blk_frozen BK129.out 5; have hfz43_6 := blk_frozen BK129.out 6; have hfz43_7 := blk_frozen BK129.out 7; have hfz43_8 := blk_frozen BK129.out 8) | ((with_reducible refine gate_callee (f := 26) rfl ?_); rw [← (show (((((w40).setCell ⟨gb130, 0, none⟩ (.string a2_1)).setCell ⟨gb130, 1, none⟩ (.string a2_2)).setCell ⟨gb130, 2, none⟩ (.bool false)).setCell ⟨gb130, 1, none⟩ (.string (⟨#[]⟩ : ByteArray))).setCell ⟨gb130, 2, none⟩ (.bool true) = (((w40).setCell ⟨gb130, 0, none⟩ (.string a2_1)).setCell ⟨gb130, 1, none⟩ (.string (⟨#[]⟩ : ByteArray))).setCell ⟨gb130, 2, none⟩ (.bool true) from by rw [sc_swap, sc_same])]; refine goesL_ (some 69) rfl rfl Try.func26 (by kernel_rfl) rfl #[.slice A0 l0.length c0, .agg #[.string a2_1, .string (⟨#[]⟩ : ByteArray), .bool true]] rfl (by (try simp only [List.map_toArray, List.map_cons, List.map_nil]); first | done | rfl | (simp only [List.length_drop, List.length_take]; rfl)) ?_; (with_reducible refine (view_Set.calls _ _ l0 a2_1 (⟨#[]⟩ : ByteArray) true t135 _ ?side1 ?side2 A37.out).mono ?_); (case side1 => refine (Kd.V_reads' (e := 61) (base := w.heap.size) (ok := fun k_ => (((P0_ k_ ∨ w.heap.size ≤ k_) ∧ k_ ≠ gb129) ∧ k_ ≠ gb130)) (n := l0.length) (c := c0) ?_).2.2; exact (by (with_reducible repeat (first | apply Kd.V_alloc | apply Kd.V_drewN | apply Kd.V_drew)); exact (Kd.V_mono (Kd.V_far (p := ⟨gb130, 2, none⟩) (Kd.V_far (p := ⟨gb130, 1, none⟩) (Kd.V_far (p := ⟨gb130, 2, none⟩) (Kd.V_far (p := ⟨gb130, 1, none⟩) (Kd.V_far (p := ⟨gb130, 0, none⟩) (Kd.V_mono HO0.out (fun k_ hk => (⟨hk, hk.2⟩ : _ ∧ k_ ≠ gb130))) (fun _ hk => hk.2) (.string a2_1)) (fun _ hk => hk.2) (.string a2_2)) (fun _ hk => hk.2) (.bool false)) (fun _ hk => hk.2) (.string (⟨#[]⟩ : ByteArray))) (fun _ hk => hk.2) (.bool true)) (fun _ h_ => h_.1)))); (case side2 => exact (Kd.V_reads' HO0.out).2.1); rintro e w44 ⟨v136, rfl, ho0, hb⟩; refine ⟨_, rfl, ?_⟩; have n0_ := Aside0.mk (Kd.V_elder' (by (with_reducible repeat (first | apply Kd.V_alloc | apply Kd.V_drewN | apply Kd.V_drew)); exact (Kd.V_mono (Kd.V_far (p := ⟨gb130, 2, none⟩) (Kd.V_far (p := ⟨gb130, 1, none⟩) (Kd.V_far (p := ⟨gb130, 2, none⟩) (Kd.V_far (p := ⟨gb130, 1, none⟩) (Kd.V_far (p := ⟨gb130, 0, none⟩) (Kd.V_mono HO0.out (fun k_ hk => (⟨hk, hk.2⟩ : _ ∧ k_ ≠ gb130))) (fun _ hk => hk.2) (.string a2_1)) (fun _ hk => hk.2) (.string a2_2)) (fun _ hk => hk.2) (.bool false)) (fun _ hk => hk.2) (.string (⟨#[]⟩ : ByteArray))) (fun _ hk => hk.2) (.bool true)) (fun _ h_ => h_.1))) (Kd.R_base ho0) hb); have n1_ := Aside0.mk (Kd.R_lower (Kd.R_newB (Kd.R_newM (M := fun k_ => (w.heap.size ≤ k_)) ho0 (below_size (by repeat (first | (with_reducible first | exact HB.out | apply below_alloc | apply pw_below_drewN | apply below_drew1 | refine below_set ?_ GE129.out | refine below_set ?_ GE130.out) | exact HB.out))) (fun k_ h_ => h_)) (g := gb130) (o := .cells #[.string a2_1, .string (⟨#[]⟩ : ByteArray), .bool true] 61 (0, 0)) (by (with_reducible repeat (first | refine blk_drewN ?_ _ | refine blk_drew ?_ | refine blk_alloc ?_ _)); refine blk_put (cs := #[.string a2_1, .string (⟨#[]⟩ : ByteArray), .bool false]) ?_ 2 _ rfl; (with_reducible repeat (first | refine blk_drewN ?_ _ | refine blk_drew ?_ | refine blk_alloc ?_ _)); refine blk_put (cs := #[.string a2_1, .string a2_2, .bool false]) ?_ 1 _ rfl; (with_reducible repeat (first | refine blk_drewN ?_ _ | refine blk_drew ?_ | refine blk_alloc ?_ _)); refine blk_put (cs := #[.string a2_1, .string a2_2, .bool false]) ?_ 2 _ rfl; (with_reducible repeat (first | refine blk_drewN ?_ _ | refine blk_drew ?_ | refine blk_alloc ?_ _)); refine blk_put (cs := #[.string a2_1, .string (⟨#[]⟩ : ByteArray), .bool false]) ?_ 1 _ rfl; (with_reducible repeat (first | refine blk_drewN ?_ _ | refine blk_drew ?_ | refine blk_alloc ?_ _)); refine blk_put (cs := #[.string (⟨#[]⟩ : ByteArray), .string (⟨#[]⟩ : ByteArray), .bool false]) ?_ 0 _ rfl; (with_reducible repeat (first | refine blk_drewN ?_ _ | refine blk_drew ?_ | refine blk_alloc ?_ _)); exact BK130.out)) (below_size (by repeat (first | (with_reducible first | exact HB.out | apply below_alloc | apply pw_below_drewN | apply below_drew1 | refine below_set ?_ GE129.out | refine below_set ?_ GE130.out) | exact HB.out)))); have n2_ := Aside0.mk (blk_below (g := gb129) (o := .cells #[.int .i64 a2_0, .string a2_1, .string a2_2, .string a2_3, .string a2_4, .int .i64 a2_5, .string a2_6, .bool a2_7, .slice A2_8 l2_8.length c2_8] 27 (0, 0)) (by (with_reducible repeat (first | refine blk_drewN ?_ _ | refine blk_drew ?_ | refine blk_alloc ?_ _)); refine blk_far ?_ NB129_130.out _; (with_reducible repeat (first | refine blk_drewN ?_ _ | refine blk_drew ?_ | refine blk_alloc ?_ _)); refine blk_far ?_ NB129_130.out _; (with_reducible repeat (first | refine blk_drewN ?_ _ | refine blk_drew ?_ | refine blk_alloc ?_ _)); refine blk_far ?_ NB129_130.out _; (with_reducible repeat (first | refine blk_drewN ?_ _ | refine blk_drew ?_ | refine blk_alloc ?_ _)); refine blk_far ?_ NB129_130.out _; (with_reducible repeat (first | refine blk_drewN ?_ _ | refine blk_drew ?_ | refine blk_alloc ?_ _)); refine blk_far ?_ NB129_130.out _; (with_reducible repeat (first | refine blk_drewN ?_ _ | refine blk_drew ?_ | refine blk_alloc ?_ _)); exact BK129.out) hb); have n3_ := Aside0.mk (blk_below (g := gb130) (o := .cells #[.string a2_1, .string (⟨#[]⟩ : ByteArray), .bool true] 61 (0, 0)) (by (with_reducible repeat (first | refine blk_drewN ?_ _ | refine blk_drew ?_ | refine blk_alloc ?_ _)); refine blk_put (cs := #[.string a2_1, .string (⟨#[]⟩ : ByteArray), .bool false]) ?_ 2 _ rfl; (with_reducible repeat (first | refine blk_drewN ?_ _ | refine blk_drew ?_ | refine blk_alloc ?_ _)); refine blk_put (cs := #[.string a2_1, .string a2_2, .bool false]) ?_ 1 _ rfl; (with_reducible repeat (first | refine blk_drewN ?_ _ | refine blk_drew ?_ | refine blk_alloc ?_ _)); refine blk_put (cs := #[.string a2_1, .string a2_2, .bool false]) ?_ 2 _ rfl; (with_reducible repeat (first | refine blk_drewN ?_ _ | refine blk_drew ?_ | refine blk_alloc ?_ _)); refine blk_put (cs := #[.string a2_1, .string (⟨#[]⟩ : ByteArray), .bool false]) ?_ 1 _ rfl; (with_reducible repeat (first | refine blk_drewN ?_ _ | refine blk_drew ?_ | refine blk_alloc ?_ _)); refine blk_put (cs := #[.string (⟨#[]⟩ : ByteArray), .string (⟨#[]⟩ : ByteArray), .bool false]) ?_ 0 _ rfl; (with_reducible repeat (first | refine blk_drewN ?_ _ | refine blk_drew ?_ | refine blk_alloc ?_ _)); exact BK130.out) hb); have n4_ := Aside0.mk (below_step (by repeat (first | (with_reducible first | exact HB.out | apply below_alloc | apply pw_below_drewN | apply below_drew1 | refine below_set ?_ GE129.out | refine below_set ?_ GE130.out) | exact HB.out)) hb); clear HO0; clear BK129; clear BK130; clear HB; have HO0 := n0_; have HO137 := n1_; have BK129 := n2_; have BK130 := n3_; have HB := n4_; clear n0_ n1_ n2_ n3_ n4_; (try clear hb); (try clear hb2); (try clear hk); (try clear hi); (try clear ho0)))
        go_ret2
        exact ⟨_, by first | rfl | (simp [errW_none, errW_some] <;> rfl) | (simp [*, errW_none, errW_some] <;> rfl), Kd.V_mono (Kd.R_V (by (with_reducible repeat (first | apply Kd.R_alloc | apply Kd.R_drewN | apply Kd.R_drew)); exact Kd.R_mono HO137.out (fun _ hk => hk.1.1))) (fun k_ hk => by first | exact ⟨(.inr (hk.1)), hk.2⟩ | exact (.inr (hk))), by repeat (first | (with_reducible first | exact HB.out | apply below_alloc | apply pw_below_drewN | apply below_drew1 | refine below_set ?_ GE129.out | refine below_set ?_ GE130.out) | exact HB.out)⟩
      · rw [if_neg c36] at H
        have c36b0 : (a2_0 == 3) = false := beq_eq_false_iff_ne.mpr c36
        have c36b1 : (a2_0 != 3) = true := bne_iff_ne.mpr c36
        by_cases c45 : a2_0 = 2
        · rw [if_pos c45] at H
          have c45b0 : (a2_0 == 2) = true := beq_iff_eq.mpr c45
          have c45b1 : (a2_0 != 2) = false := bne_eq_false_iff_eq.mpr c45
          clear c45
          replace H := Option.bind_eq_some_iff.mp H
          obtain ⟨t138, A460, H⟩ := H
          replace H : (some (t138, true)) = some (r1, r2) := H
          have A46 := Aside0.mk A460
          clear A460
          simp only [Option.some.injEq, Prod.mk.injEq] at H
          obtain ⟨rfl, rfl⟩ := H
          go_enter Try.func11, Try.ntmps11
          go_wp2_with (first | ((with_reducible refine gate_dst (N := 5) rfl ?_); refine box_event ?hg (N := 5) ?hd (cs := #[.int .i64 a2_0, .string a2_1, .string a2_2, .string a2_3, .string a2_4, .int .i64 a2_5, .string a2_6, .bool a2_7, .slice A2_8 l2_8.length c2_8]) (t := 27) ?hr ?_; (case hd => rfl); (case hg => rfl); (case hr => first | (go_simp; done) | (go_simp; rfl)); intro gb129 hg w47 hbox hb; have n0_ := Aside0.mk (Kd.V_below (Kd.V_elderB (by (with_reducible repeat (first | apply Kd.V_alloc | apply Kd.V_drewN | apply Kd.V_drew)); exact HO0.out) gb129 (Nat.le_of_eq hg.symm)) hb); have n1_ := Aside0.mk (below_step (by repeat (first | (with_reducible first | exact HB.out | apply below_alloc | apply pw_below_drewN | apply below_drew1) | exact HB.out)) hb); have n2_ := Aside0.mk (hbox); have n3_ := Aside0.mk ((by rw [hg]; exact (below_size (by repeat (first | (with_reducible first | exact HB.out | apply below_alloc | apply pw_below_drewN | apply below_drew1) | exact HB.out))) : w.heap.size ≤ gb129)); have n4_ := Aside0.mk ((by rw [hg]; exact (below_size (by repeat (first | (with_reducible first | exact HB.out | apply below_alloc | apply pw_below_drewN | apply below_drew1) | exact HB.out))) : w.heap.size ≤ gb129)); clear HO0; clear HB; have HO0 := n0_; have HB := n1_; have BK129 := n2_; have GW129 := n3_; have GE129 := n4_; clear n0_ n1_ n2_ n3_ n4_; clear hb hbox hg; have hcz48_0 : w47.cell? ⟨gb129, 0, none⟩ = some (.int .i64 a2_0) := (blk_cell BK129.out 0).trans rfl; have hcz48_1 : w47.cell? ⟨gb129, 1, none⟩ = some (.string a2_1) := (blk_cell BK129.out 1).trans rfl; have hcz48_2 : w47.cell? ⟨gb129, 2, none⟩ = some (.string a2_2) := (blk_cell BK129.out 2).trans rfl; have hcz48_3 : w47.cell? ⟨gb129, 3, none⟩ = some (.string a2_3) := (blk_cell BK129.out 3).trans rfl; have hcz48_4 : w47.cell? ⟨gb129, 4, none⟩ = some (.string a2_4) := (blk_cell BK129.out 4).trans rfl; have hcz48_5 : w47.cell? ⟨gb129, 5, none⟩ = some (.int .i64 a2_5) := (blk_cell BK129.out 5).trans rfl; have hcz48_6 : w47.cell? ⟨gb129, 6, none⟩ = some (.string a2_6) := (blk_cell BK129.out 6).trans rfl; have hcz48_7 : w47.cell? ⟨gb129, 7, none⟩ = some (.bool a2_7) := (blk_cell BK129.out 7).trans rfl; have hcz48_8 : w47.cell? ⟨gb129, 8, none⟩ = some (.slice A2_8 l2_8.length c2_8) := (blk_cell BK129.out 8).trans rfl; have hfz48_0 := blk_frozen BK129.out 0; have hfz48_1 := blk_frozen BK129.out 1; have hfz48_2 := blk_frozen BK129.out 2; have hfz48_3 := blk_frozen BK129.out 3; have hfz48_4 := blk_frozen BK129.out 4; have hfz48_5 := blk_frozen BK129.out 5; have hfz48_6 := blk_frozen BK129.out 6; have hfz48_7 := blk_frozen BK129.out 7; have hfz48_8 := blk_frozen BK129.out 8) | ((with_reducible refine gate_dst (N := 8) rfl ?_); refine box_event ?hg (N := 8) ?hd (cs := #[.string (⟨#[]⟩ : ByteArray), .string (⟨#[]⟩ : ByteArray), .bool false]) (t := 61) ?hr ?_; (case hd => rfl); (case hg => rfl); (case hr => first | (go_simp; done) | (go_simp; rfl)); intro gb130 hg w49 hbox hb; have n0_ := Aside0.mk (Kd.V_below (Kd.V_elderB (by (with_reducible repeat (first | apply Kd.V_alloc | apply Kd.V_drewN | apply Kd.V_drew)); exact HO0.out) gb130 (Nat.le_of_eq hg.symm)) hb); have n1_ := Aside0.mk (blk_below (g := gb129) (o := .cells #[.int .i64 a2_0, .string a2_1, .string a2_2, .string a2_3, .string a2_4, .int .i64 a2_5, .string a2_6, .bool a2_7, .slice A2_8 l2_8.length c2_8] 27 (0, 0)) (by (with_reducible repeat (first | refine blk_drewN ?_ _ | refine blk_drew ?_ | refine blk_alloc ?_ _)); exact BK129.out) hb); have n2_ := Aside0.mk (below_step (by repeat (first | (with_reducible first | exact HB.out | apply below_alloc | apply pw_below_drewN | apply below_drew1 | refine below_set ?_ GE129.out) | exact HB.out)) hb); have n3_ := Aside0.mk (hbox); have n4_ := Aside0.mk ((by rw [hg]; exact (below_size (by repeat (first | (with_reducible first | exact HB.out | apply below_alloc | apply pw_below_drewN | apply below_drew1 | refine below_set ?_ GE129.out) | exact HB.out))) : w.heap.size ≤ gb130)); have n5_ := Aside0.mk ((by rw [hg]; exact (below_size (by repeat (first | (with_reducible first | exact HB.out | apply below_alloc | apply pw_below_drewN | apply below_drew1 | refine below_set ?_ GE129.out) | exact HB.out))) : w.heap.size ≤ gb130)); have n6_ := Aside0.mk ((by rw [hg]; exact Nat.ne_of_lt (blk_lt (g := gb129) (o := .cells #[.int .i64 a2_0, .string a2_1, .string a2_2, .string a2_3, .string a2_4, .int .i64 a2_5, .string a2_6, .bool a2_7, .slice A2_8 l2_8.length c2_8] 27 (0, 0)) (by (with_reducible repeat (first | refine blk_drewN ?_ _ | refine blk_drew ?_ | refine blk_alloc ?_ _)); exact BK129.out)) : gb129 ≠ gb130)); have n7_ := Aside0.mk ((by rw [hg]; exact Nat.ne_of_gt (blk_lt (g := gb129) (o := .cells #[.int .i64 a2_0, .string a2_1, .string a2_2, .string a2_3, .string a2_4, .int .i64 a2_5, .string a2_6, .bool a2_7, .slice A2_8 l2_8.length c2_8] 27 (0, 0)) (by (with_reducible repeat (first | refine blk_drewN ?_ _ | refine blk_drew ?_ | refine blk_alloc ?_ _)); exact BK129.out)) : gb130 ≠ gb129)); clear HO0; clear BK129; clear HB; have HO0 := n0_; have BK129 := n1_; have HB := n2_; have BK130 := n3_; have GW130 := n4_; have GE130 := n5_; have NB129_130 := n6_; have NB130_129 := n7_; clear n0_ n1_ n2_ n3_ n4_ n5_ n6_ n7_; clear hb hbox hg; have hnb50 := NB130_129.out; have hnc50 := NB129_130.out; have hcz51_0 : w49.cell? ⟨gb130, 0, none⟩ = some (.string (⟨#[]⟩ : ByteArray)) := (blk_cell BK130.out 0).trans rfl; have hcz51_1 : w49.cell? ⟨gb130, 1, none⟩ = some (.string (⟨#[]⟩ : ByteArray)) := (blk_cell BK130.out 1).trans rfl; have hcz51_2 : w49.cell? ⟨gb130, 2, none⟩ = some (.bool false) := (blk_cell BK130.out 2).trans rfl; have hfz51_0 := blk_frozen BK130.out 0; have hfz51_1 := blk_frozen BK130.out 1; have hfz51_2 := blk_frozen BK130.out 2; have hcz52_0 : w49.cell? ⟨gb129, 0, none⟩ = some (.int .i64 a2_0) := (blk_cell BK129.out 0).trans rfl; have hcz52_1 : w49.cell? ⟨gb129, 1, none⟩ = some (.string a2_1) := (blk_cell BK129.out 1).trans rfl; have hcz52_2 : w49.cell? ⟨gb129, 2, none⟩ = some (.string a2_2) := (blk_cell BK129.out 2).trans rfl; have hcz52_3 : w49.cell? ⟨gb129, 3, none⟩ = some (.string a2_3) := (blk_cell BK129.out 3).trans rfl; have hcz52_4 : w49.cell? ⟨gb129, 4, none⟩ = some (.string a2_4) := (blk_cell BK129.out 4).trans rfl; have hcz52_5 : w49.cell? ⟨gb129, 5, none⟩ = some (.int .i64 a2_5) := (blk_cell BK129.out 5).trans rfl; have hcz52_6 : w49.cell? ⟨gb129, 6, none⟩ = some (.string a2_6) := (blk_cell BK129.out 6).trans rfl; have hcz52_7 : w49.cell? ⟨gb129, 7, none⟩ = some (.bool a2_7) := (blk_cell BK129.out 7).trans rfl; have hcz52_8 : w49.cell? ⟨gb129, 8, none⟩ = some (.slice A2_8 l2_8.length c2_8) := (blk_cell BK129.out 8).trans rfl; have hfz52_0 := blk_frozen BK129.out 0; have hfz52_1 := blk_frozen BK129.out 1; have hfz52_2 := blk_frozen BK129.out 2; have hfz52_3 := blk_frozen BK129.out 3; have hfz52_4 := blk_frozen BK129.out 4; have hfz52_5 := blk_frozen BK129.out 5; have hfz52_6 := blk_frozen BK129.out 6; have hfz52_7 := blk_frozen BK129.out 7; have hfz52_8 := blk_frozen BK129.out 8) | ((with_reducible refine gate_callee (f := 26) rfl ?_); refine goesL_ (some 69) rfl rfl Try.func26 (by kernel_rfl) rfl #[.slice A0 l0.length c0, .agg #[.string a2_1, .string a2_2, .bool false]] rfl (by (try simp only [List.map_toArray, List.map_cons, List.map_nil]); first | done | rfl | (simp only [List.length_drop, List.length_take]; rfl)) ?_; (with_reducible refine (view_Set.calls _ _ l0 a2_1 a2_2 false t138 _ ?side1 ?side2 A46.out).mono ?_); (case side1 => refine (Kd.V_reads' (e := 61) (base := w.heap.size) (ok := fun k_ => (((P0_ k_ ∨ w.heap.size ≤ k_) ∧ k_ ≠ gb129) ∧ k_ ≠ gb130)) (n := l0.length) (c := c0) ?_).2.2; exact (by (with_reducible repeat (first | apply Kd.V_alloc | apply Kd.V_drewN | apply Kd.V_drew)); exact (Kd.V_mono (Kd.V_far (p := ⟨gb130, 2, none⟩) (Kd.V_far (p := ⟨gb130, 1, none⟩) (Kd.V_far (p := ⟨gb130, 0, none⟩) (Kd.V_mono HO0.out (fun k_ hk => (⟨hk, hk.2⟩ : _ ∧ k_ ≠ gb130))) (fun _ hk => hk.2) (.string a2_1)) (fun _ hk => hk.2) (.string a2_2)) (fun _ hk => hk.2) (.bool false)) (fun _ h_ => h_.1)))); (case side2 => exact (Kd.V_reads' HO0.out).2.1); rintro e w53 ⟨v139, rfl, ho0, hb⟩; refine ⟨_, rfl, ?_⟩; have n0_ := Aside0.mk (Kd.V_elder' (by (with_reducible repeat (first | apply Kd.V_alloc | apply Kd.V_drewN | apply Kd.V_drew)); exact (Kd.V_mono (Kd.V_far (p := ⟨gb130, 2, none⟩) (Kd.V_far (p := ⟨gb130, 1, none⟩) (Kd.V_far (p := ⟨gb130, 0, none⟩) (Kd.V_mono HO0.out (fun k_ hk => (⟨hk, hk.2⟩ : _ ∧ k_ ≠ gb130))) (fun _ hk => hk.2) (.string a2_1)) (fun _ hk => hk.2) (.string a2_2)) (fun _ hk => hk.2) (.bool false)) (fun _ h_ => h_.1))) (Kd.R_base ho0) hb); have n1_ := Aside0.mk (Kd.R_lower (Kd.R_newB (Kd.R_newM (M := fun k_ => (w.heap.size ≤ k_)) ho0 (below_size (by repeat (first | (with_reducible first | exact HB.out | apply below_alloc | apply pw_below_drewN | apply below_drew1 | refine below_set ?_ GE129.out | refine below_set ?_ GE130.out) | exact HB.out))) (fun k_ h_ => h_)) (g := gb130) (o := .cells #[.string a2_1, .string a2_2, .bool false] 61 (0, 0)) (by (with_reducible repeat (first | refine blk_drewN ?_ _ | refine blk_drew ?_ | refine blk_alloc ?_ _)); refine blk_put (cs := #[.string a2_1, .string a2_2, .bool false]) ?_ 2 _ rfl; (with_reducible repeat (first | refine blk_drewN ?_ _ | refine blk_drew ?_ | refine blk_alloc ?_ _)); refine blk_put (cs := #[.string a2_1, .string (⟨#[]⟩ : ByteArray), .bool false]) ?_ 1 _ rfl; (with_reducible repeat (first | refine blk_drewN ?_ _ | refine blk_drew ?_ | refine blk_alloc ?_ _)); refine blk_put (cs := #[.string (⟨#[]⟩ : ByteArray), .string (⟨#[]⟩ : ByteArray), .bool false]) ?_ 0 _ rfl; (with_reducible repeat (first | refine blk_drewN ?_ _ | refine blk_drew ?_ | refine blk_alloc ?_ _)); exact BK130.out)) (below_size (by repeat (first | (with_reducible first | exact HB.out | apply below_alloc | apply pw_below_drewN | apply below_drew1 | refine below_set ?_ GE129.out | refine below_set ?_ GE130.out) | exact HB.out)))); have n2_ := Aside0.mk (blk_below (g := gb129) (o := .cells #[.int .i64 a2_0, .string a2_1, .string a2_2, .string a2_3, .string a2_4, .int .i64 a2_5, .string a2_6, .bool a2_7, .slice A2_8 l2_8.length c2_8] 27 (0, 0)) (by (with_reducible repeat (first | refine blk_drewN ?_ _ | refine blk_drew ?_ | refine blk_alloc ?_ _)); refine blk_far ?_ NB129_130.out _; (with_reducible repeat (first | refine blk_drewN ?_ _ | refine blk_drew ?_ | refine blk_alloc ?_ _)); refine blk_far ?_ NB129_130.out _; (with_reducible repeat (first | refine blk_drewN ?_ _ | refine blk_drew ?_ | refine blk_alloc ?_ _)); refine blk_far ?_ NB129_130.out _; (with_reducible repeat (first | refine blk_drewN ?_ _ | refine blk_drew ?_ | refine blk_alloc ?_ _)); exact BK129.out) hb); have n3_ := Aside0.mk (blk_below (g := gb130) (o := .cells #[.string a2_1, .string a2_2, .bool false] 61 (0, 0)) (by (with_reducible repeat (first | refine blk_drewN ?_ _ | refine blk_drew ?_ | refine blk_alloc ?_ _)); refine blk_put (cs := #[.string a2_1, .string a2_2, .bool false]) ?_ 2 _ rfl; (with_reducible repeat (first | refine blk_drewN ?_ _ | refine blk_drew ?_ | refine blk_alloc ?_ _)); refine blk_put (cs := #[.string a2_1, .string (⟨#[]⟩ : ByteArray), .bool false]) ?_ 1 _ rfl; (with_reducible repeat (first | refine blk_drewN ?_ _ | refine blk_drew ?_ | refine blk_alloc ?_ _)); refine blk_put (cs := #[.string (⟨#[]⟩ : ByteArray), .string (⟨#[]⟩ : ByteArray), .bool false]) ?_ 0 _ rfl; (with_reducible repeat (first | refine blk_drewN ?_ _ | refine blk_drew ?_ | refine blk_alloc ?_ _)); exact BK130.out) hb); have n4_ := Aside0.mk (below_step (by repeat (first | (with_reducible first | exact HB.out | apply below_alloc | apply pw_below_drewN | apply below_drew1 | refine below_set ?_ GE129.out | refine below_set ?_ GE130.out) | exact HB.out)) hb); clear HO0; clear BK129; clear BK130; clear HB; have HO0 := n0_; have HO140 := n1_; have BK129 := n2_; have BK130 := n3_; have HB := n4_; clear n0_ n1_ n2_ n3_ n4_; (try clear hb); (try clear hb2); (try clear hk); (try clear hi); (try clear ho0)))
          go_ret2
          exact ⟨_, by first | rfl | (simp [errW_none, errW_some] <;> rfl) | (simp [*, errW_none, errW_some] <;> rfl), Kd.V_mono (Kd.R_V (by (with_reducible repeat (first | apply Kd.R_alloc | apply Kd.R_drewN | apply Kd.R_drew)); exact Kd.R_mono HO140.out (fun _ hk => hk.1.1))) (fun k_ hk => by first | exact ⟨(.inr (hk.1)), hk.2⟩ | exact (.inr (hk))), by repeat (first | (with_reducible first | exact HB.out | apply below_alloc | apply pw_below_drewN | apply below_drew1 | refine below_set ?_ GE129.out | refine below_set ?_ GE130.out) | exact HB.out)⟩
        · rw [if_neg c45] at H
          have c45b0 : (a2_0 == 2) = false := beq_eq_false_iff_ne.mpr c45
          have c45b1 : (a2_0 != 2) = true := bne_iff_ne.mpr c45
          simp only [Option.some.injEq, Prod.mk.injEq] at H
          obtain ⟨rfl, rfl⟩ := H
          go_enter Try.func11, Try.ntmps11
          go_wp2_with (first | ((with_reducible refine gate_dst (N := 5) rfl ?_); refine box_event ?hg (N := 5) ?hd (cs := #[.int .i64 a2_0, .string a2_1, .string a2_2, .string a2_3, .string a2_4, .int .i64 a2_5, .string a2_6, .bool a2_7, .slice A2_8 l2_8.length c2_8]) (t := 27) ?hr ?_; (case hd => rfl); (case hg => rfl); (case hr => first | (go_simp; done) | (go_simp; rfl)); intro gb129 hg w54 hbox hb; have n0_ := Aside0.mk (Kd.V_below (Kd.V_elderB (by (with_reducible repeat (first | apply Kd.V_alloc | apply Kd.V_drewN | apply Kd.V_drew)); exact HO0.out) gb129 (Nat.le_of_eq hg.symm)) hb); have n1_ := Aside0.mk (below_step (by repeat (first | (with_reducible first | exact HB.out | apply below_alloc | apply pw_below_drewN | apply below_drew1) | exact HB.out)) hb); have n2_ := Aside0.mk (hbox); have n3_ := Aside0.mk ((by rw [hg]; exact (below_size (by repeat (first | (with_reducible first | exact HB.out | apply below_alloc | apply pw_below_drewN | apply below_drew1) | exact HB.out))) : w.heap.size ≤ gb129)); have n4_ := Aside0.mk ((by rw [hg]; exact (below_size (by repeat (first | (with_reducible first | exact HB.out | apply below_alloc | apply pw_below_drewN | apply below_drew1) | exact HB.out))) : w.heap.size ≤ gb129)); clear HO0; clear HB; have HO0 := n0_; have HB := n1_; have BK129 := n2_; have GW129 := n3_; have GE129 := n4_; clear n0_ n1_ n2_ n3_ n4_; clear hb hbox hg; have hcz55_0 : w54.cell? ⟨gb129, 0, none⟩ = some (.int .i64 a2_0) := (blk_cell BK129.out 0).trans rfl; have hcz55_1 : w54.cell? ⟨gb129, 1, none⟩ = some (.string a2_1) := (blk_cell BK129.out 1).trans rfl; have hcz55_2 : w54.cell? ⟨gb129, 2, none⟩ = some (.string a2_2) := (blk_cell BK129.out 2).trans rfl; have hcz55_3 : w54.cell? ⟨gb129, 3, none⟩ = some (.string a2_3) := (blk_cell BK129.out 3).trans rfl; have hcz55_4 : w54.cell? ⟨gb129, 4, none⟩ = some (.string a2_4) := (blk_cell BK129.out 4).trans rfl; have hcz55_5 : w54.cell? ⟨gb129, 5, none⟩ = some (.int .i64 a2_5) := (blk_cell BK129.out 5).trans rfl; have hcz55_6 : w54.cell? ⟨gb129, 6, none⟩ = some (.string a2_6) := (blk_cell BK129.out 6).trans rfl; have hcz55_7 : w54.cell? ⟨gb129, 7, none⟩ = some (.bool a2_7) := (blk_cell BK129.out 7).trans rfl; have hcz55_8 : w54.cell? ⟨gb129, 8, none⟩ = some (.slice A2_8 l2_8.length c2_8) := (blk_cell BK129.out 8).trans rfl; have hfz55_0 := blk_frozen BK129.out 0; have hfz55_1 := blk_frozen BK129.out 1; have hfz55_2 := blk_frozen BK129.out 2; have hfz55_3 := blk_frozen BK129.out 3; have hfz55_4 := blk_frozen BK129.out 4; have hfz55_5 := blk_frozen BK129.out 5; have hfz55_6 := blk_frozen BK129.out 6; have hfz55_7 := blk_frozen BK129.out 7; have hfz55_8 := blk_frozen BK129.out 8) | ((with_reducible refine gate_dst (N := 8) rfl ?_); refine box_event ?hg (N := 8) ?hd (cs := #[.string (⟨#[]⟩ : ByteArray), .string (⟨#[]⟩ : ByteArray), .bool false]) (t := 61) ?hr ?_; (case hd => rfl); (case hg => rfl); (case hr => first | (go_simp; done) | (go_simp; rfl)); intro gb130 hg w56 hbox hb; have n0_ := Aside0.mk (Kd.V_below (Kd.V_elderB (by (with_reducible repeat (first | apply Kd.V_alloc | apply Kd.V_drewN | apply Kd.V_drew)); exact HO0.out) gb130 (Nat.le_of_eq hg.symm)) hb); have n1_ := Aside0.mk (blk_below (g := gb129) (o := .cells #[.int .i64 a2_0, .string a2_1, .string a2_2, .string a2_3, .string a2_4, .int .i64 a2_5, .string a2_6, .bool a2_7, .slice A2_8 l2_8.length c2_8] 27 (0, 0)) (by (with_reducible repeat (first | refine blk_drewN ?_ _ | refine blk_drew ?_ | refine blk_alloc ?_ _)); exact BK129.out) hb); have n2_ := Aside0.mk (below_step (by repeat (first | (with_reducible first | exact HB.out | apply below_alloc | apply pw_below_drewN | apply below_drew1 | refine below_set ?_ GE129.out) | exact HB.out)) hb); have n3_ := Aside0.mk (hbox); have n4_ := Aside0.mk ((by rw [hg]; exact (below_size (by repeat (first | (with_reducible first | exact HB.out | apply below_alloc | apply pw_below_drewN | apply below_drew1 | refine below_set ?_ GE129.out) | exact HB.out))) : w.heap.size ≤ gb130)); have n5_ := Aside0.mk ((by rw [hg]; exact (below_size (by repeat (first | (with_reducible first | exact HB.out | apply below_alloc | apply pw_below_drewN | apply below_drew1 | refine below_set ?_ GE129.out) | exact HB.out))) : w.heap.size ≤ gb130)); have n6_ := Aside0.mk ((by rw [hg]; exact Nat.ne_of_lt (blk_lt (g := gb129) (o := .cells #[.int .i64 a2_0, .string a2_1, .string a2_2, .string a2_3, .string a2_4, .int .i64 a2_5, .string a2_6, .bool a2_7, .slice A2_8 l2_8.length c2_8] 27 (0, 0)) (by (with_reducible repeat (first | refine blk_drewN ?_ _ | refine blk_drew ?_ | refine blk_alloc ?_ _)); exact BK129.out)) : gb129 ≠ gb130)); have n7_ := Aside0.mk ((by rw [hg]; exact Nat.ne_of_gt (blk_lt (g := gb129) (o := .cells #[.int .i64 a2_0, .string a2_1, .string a2_2, .string a2_3, .string a2_4, .int .i64 a2_5, .string a2_6, .bool a2_7, .slice A2_8 l2_8.length c2_8] 27 (0, 0)) (by (with_reducible repeat (first | refine blk_drewN ?_ _ | refine blk_drew ?_ | refine blk_alloc ?_ _)); exact BK129.out)) : gb130 ≠ gb129)); clear HO0; clear BK129; clear HB; have HO0 := n0_; have BK129 := n1_; have HB := n2_; have BK130 := n3_; have GW130 := n4_; have GE130 := n5_; have NB129_130 := n6_; have NB130_129 := n7_; clear n0_ n1_ n2_ n3_ n4_ n5_ n6_ n7_; clear hb hbox hg; have hnb57 := NB130_129.out; have hnc57 := NB129_130.out; have hcz58_0 : w56.cell? ⟨gb130, 0, none⟩ = some (.string (⟨#[]⟩ : ByteArray)) := (blk_cell BK130.out 0).trans rfl; have hcz58_1 : w56.cell? ⟨gb130, 1, none⟩ = some (.string (⟨#[]⟩ : ByteArray)) := (blk_cell BK130.out 1).trans rfl; have hcz58_2 : w56.cell? ⟨gb130, 2, none⟩ = some (.bool false) := (blk_cell BK130.out 2).trans rfl; have hfz58_0 := blk_frozen BK130.out 0; have hfz58_1 := blk_frozen BK130.out 1; have hfz58_2 := blk_frozen BK130.out 2; have hcz59_0 : w56.cell? ⟨gb129, 0, none⟩ = some (.int .i64 a2_0) := (blk_cell BK129.out 0).trans rfl; have hcz59_1 : w56.cell? ⟨gb129, 1, none⟩ = some (.string a2_1) := (blk_cell BK129.out 1).trans rfl; have hcz59_2 : w56.cell? ⟨gb129, 2, none⟩ = some (.string a2_2) := (blk_cell BK129.out 2).trans rfl; have hcz59_3 : w56.cell? ⟨gb129, 3, none⟩ = some (.string a2_3) := (blk_cell BK129.out 3).trans rfl; have hcz59_4 : w56.cell? ⟨gb129, 4, none⟩ = some (.string a2_4) := (blk_cell BK129.out 4).trans rfl; have hcz59_5 : w56.cell? ⟨gb129, 5, none⟩ = some (.int .i64 a2_5) := (blk_cell BK129.out 5).trans rfl; have hcz59_6 : w56.cell? ⟨gb129, 6, none⟩ = some (.string a2_6) := (blk_cell BK129.out 6).trans rfl; have hcz59_7 : w56.cell? ⟨gb129, 7, none⟩ = some (.bool a2_7) := (blk_cell BK129.out 7).trans rfl; have hcz59_8 : w56.cell? ⟨gb129, 8, none⟩ = some (.slice A2_8 l2_8.length c2_8) := (blk_cell BK129.out 8).trans rfl; have hfz59_0 := blk_frozen BK129.out 0; have hfz59_1 := blk_frozen BK129.out 1; have hfz59_2 := blk_frozen BK129.out 2; have hfz59_3 := blk_frozen BK129.out 3; have hfz59_4 := blk_frozen BK129.out 4; have hfz59_5 := blk_frozen BK129.out 5; have hfz59_6 := blk_frozen BK129.out 6; have hfz59_7 := blk_frozen BK129.out 7; have hfz59_8 := blk_frozen BK129.out 8))
          go_ret2
          exact ⟨_, by first | rfl | (simp [errW_none, errW_some] <;> rfl) | (simp [*, errW_none, errW_some] <;> rfl), by (with_reducible repeat (first | apply Kd.V_alloc | apply Kd.V_drewN | apply Kd.V_drew)); exact Kd.V_mono (Kd.V_far (p := ⟨gb130, 2, none⟩) (Kd.V_far (p := ⟨gb130, 1, none⟩) (Kd.V_far (p := ⟨gb130, 0, none⟩) (Kd.V_mono HO0.out (fun k_ hk => (⟨hk, hk.2⟩ : _ ∧ k_ ≠ gb130))) (fun _ hk => hk.2) (.string a2_1)) (fun _ hk => hk.2) (.string a2_2)) (fun _ hk => hk.2) (.bool false)) (fun _ hk => hk.1.1.1), by repeat (first | (with_reducible first | exact HB.out | apply below_alloc | apply pw_below_drewN | apply below_drew1 | refine below_set ?_ GE129.out | refine below_set ?_ GE130.out) | exact HB.out)⟩

end Go.Proofs.Ytlacmlceedkfoaa.PC
