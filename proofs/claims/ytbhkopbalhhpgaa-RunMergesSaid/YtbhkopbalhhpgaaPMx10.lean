-- Made by a program of this workplace out of the translation (wip/tools in the repo). Not trusted: Lean checks it.
import Derived.Test.YtbhkopbalhhpgaaPMx0
import Derived.Test.YtbhkopbalhhpgaaPMx3
import Derived.Test.YtbhkopbalhhpgaaPMx4
import Derived.Test.YtbhkopbalhhpgaaPMx9
namespace Go.Proofs.Ytbhkopbalhhpgaa.PM
open Go.RowKit Go.Proofs.YtbhkopbalhhpgaaW.PrintWords Go.Proofs.YtbhkopbalhhpgaaW.PrintLast Go.Proofs.YtbhkopbalhhpgaaW.PrintMore
attribute [local go_sem] max2_int min2_int max_two min_two max_three min_three max_four min_four   -- for this text's walks alone
set_option linter.unusedVariables false
set_option linter.unusedSimpArgs false

open Go.Proofs.Ytbhkopbalhhpgaa.Cp
/-! ### api_Pair_113: function 113 -/
def flc62 (x : S62) : List Value := [.string x.f0, .string x.f1]
theorem flc62_len (x : S62) : (flc62 x).length = 2 := rfl
theorem flc62_one (xs : List S62) : ∀ v ∈ xs.flatMap flc62, v.oneCell' = true := by
  intro v hv
  obtain ⟨x, _, hx⟩ := List.mem_flatMap.1 hv
  simp only [flc62, List.mem_cons, List.not_mem_nil, or_false] at hx
  rcases hx with rfl | rfl <;> rfl
theorem own62 {w : World} {base : Nat} {ok : Nat → Prop} {v : Value} {xs : List S62} (h : Kd.R k62 62 w base ok v xs) : (∀ k, v.ownBlock = some k → ok k) ∧ w.ownsRow base 62 2 v xs.length (xs.flatMap flc62) := R_flat flc62 (fun _ _ h => k62_openM h) h
theorem row62 {w : World} {base : Nat} {ok : Nat → Prop} {v : Value} {xs : List S62} (h0 : ∀ k, v.ownBlock = some k → ok k) (h : w.ownsRow base 62 2 v xs.length (xs.flatMap flc62)) : Kd.R k62 62 w base ok v xs := flat_R flc62 (fun x => k62_mkM _ _ _ x) (fun _ => rfl) h0 h
theorem row_form62 {w : World} {base : Nat} {ok : Nat → Prop} {v : Value} {xs : List S62} (h : Kd.R k62 62 w base ok v xs) (hn : 0 < xs.length) : ∃ g c, v = .slice (some ⟨g, 0, none⟩) xs.length c ∧ xs.length ≤ c ∧ Kd.C k62 w (some ⟨g, 0, none⟩) xs.length xs := by
  obtain ⟨A, c, rfl, hc, hC⟩ := Kd.R_reads h
  obtain ⟨_, _, h2⟩ := own62 h
  rcases h2 with ⟨_, h0⟩ | ⟨g, c', cur, e, _⟩
  · omega
  · injection e with e1 e2 e3
    subst e1
    exact ⟨g, c, rfl, hc, hC⟩
theorem row_C62 {w : World} {base g n c : Nat} {ok : Nat → Prop} {xs : List S62} (h : Kd.R k62 62 w base ok (.slice (some ⟨g, 0, none⟩) n c) xs) : Kd.C k62 w (some ⟨g, 0, none⟩) n xs := by
  obtain ⟨A, c, e, hc, hC⟩ := Kd.R_reads h
  injection e with e1 e2 e3
  subst e1; subst e2
  exact hC
theorem row_old62 {w : World} {g n : Nat} {xs : List S62} (h : Kd.C k62 w (some ⟨g, 0, none⟩) n xs) (i : Nat) (hi : i < n) : ∃ c : List Value, c.length = 2 ∧ ∀ j u, c[j]? = some u → w.cell? ⟨g, (i : Int).toNat * 2 + j, none⟩ = some u := by
  obtain ⟨ad, c, e, _, hK, hc0⟩ := Kd.C_get h z62 (i : Int) (by omega) (by omega)
  cases e
  refine ⟨c, by rw [k62_open hK]; rfl, fun j u hj => ?_⟩
  have := hc0 j u hj
  rw [Addr.add_lit, Nat.zero_add] at this
  exact this
set_option maxHeartbeats 8000000 in
set_option maxRecDepth 100000 in
theorem api_Pair_113.room (g b i n c : Nat) (cur : Array Value) (vs : List Value) (w : World) (hi : i < n) (hroom : n + 1 ≤ c) (hc63 : c ≤ 9223372036854775807) (hcur : cur.size = c * 2) (hvl : vs.length = 2)
    (hg : w.heap[g]? = some (.cells cur 62 (0, 0))) (hb : w.heap[b]? = some (.cells vs.toArray 62 (0, 0))) (hne : b ≠ g) (h1c : ∀ v ∈ cur.toList.take (n * 2), v.oneCell' = true) (h1v : ∀ v ∈ vs, v.oneCell' = true) :
    Calls Try.prog 113 #[.slice (some ⟨g, 0, none⟩) n c, .int .i64 i, .slice (some ⟨b, 0, none⟩) 1 1] w fun e w' => ∃ cur2 : List Value,
      e = .returned (.slice (some ⟨g, 0, none⟩) (n + 1) c) ∧ w' = w.drew.setRow g cur2.toArray ∧ cur2.length = cur.size ∧ cur2.take ((n + 1) * 2) = (cur.toList.take (n * 2)).take (i * 2) ++ vs ++ (cur.toList.take (n * 2)).drop (i * 2) := by
  have hu62 := Try.underlying62
  have hsz : (Try.prog.info? 62).map (·.size) = some 2 := by
    obtain ⟨i0, hi0, h0, h1, h2⟩ := info_parts info62
    rw [hi0]; simp [h1]
  obtain ⟨cs, hcs⟩ : ∃ cs, cs = (cur.toList.drop (i * 2)).take ((n - i) * 2) := ⟨_, rfl⟩
  obtain ⟨cur1, hcur1⟩ : ∃ cur1, cur1 = cur.toList.take ((i + 1) * 2) ++ cs ++ cur.toList.drop ((i + 1) * 2 + cs.length) := ⟨_, rfl⟩
  obtain ⟨cur2, hcur2⟩ : ∃ cur2, cur2 = cur1.take (i * 2) ++ vs ++ cur1.drop (i * 2 + vs.length) := ⟨_, rfl⟩
  obtain ⟨lcs, l1, l2, hins⟩ := ins_room cur.toList vs i n 2 (by omega) hvl (by rw [Array.length_toList]; omega) cs cur1 cur2 hcs hcur1 hcur2
  have lt : cur.toList.length = cur.size := Array.length_toList
  have l1 : cur1.length = cur.size := l1.trans lt
  have l2 : cur2.length = cur.size := l2.trans lt
  clear lt
  have f1 : (i + 1) * 2 + (n - i) * 2 ≤ cur.size := by omega
  have f2 : i * 2 + 2 ≤ cur1.toArray.size := by rw [List.size_toArray, l1]; omega
  have hov : ∀ lb cb, (callFunc 118 #[.slice (some ⟨b, 0, none⟩) 1 1, .slice (some ⟨g, (i + 1) * 2, none⟩) lb cb]).run Try.prog w = .ok (.value (.bool false)) w := fun lb cb => by
    rw [run_callFunc_extern Try.func118 (by kernel_rfl) (by kernel_rfl) (by kernel_rfl) (e := Extern.SlicesOverlaps.overlaps #[22, 22] #[4]) (by kernel_rfl),
      Lib.run_overlaps_apart w 22 4 62 Try.underlying22 2 (fun _ => by kernel_rfl) ⟨b, 0, none⟩ ⟨g, (i + 1) * 2, none⟩ 1 1 lb cb hne 62 62 vs.toArray.size cur.size (shape_of_blk hb) (shape_of_blk hg) (by omega) (frozen_of_blk hb 0) (frozen_of_blk hb _)]
    rfl
  have hcp1 : ∀ ty dc sc, (Builtin.copy_ #[22, 22] ty #[.slice (some ⟨g, (i + 1) * 2, none⟩) (n - i) dc, .slice (some ⟨g, i * 2, none⟩) (n + 1 - i) sc]).run Try.prog w.drew = .ok (goInt (Nat.min (n + 1 - i) (n - i))) (w.drew.setRow g cur1.toArray) := fun ty dc sc => by
    have h := run_copy_rowK (P := Try.prog) w.drew 22 22 ty 62 g ((i + 1) * 2) (n - i) dc ⟨g, i * 2, none⟩ (n + 1 - i) sc cur 62 cs 2 Try.underlying22 hsz hg
      (by rw [lcs, show Nat.min (n + 1 - i) (n - i) = n - i by simp only [Nat.min_def]; split <;> omega])
      (fun j v hj => by
        rw [Addr.add_lit]
        show w.cell? _ = _
        rw [cell_of_blk hg, ← Array.getElem?_toList]
        rw [hcs, List.getElem?_take] at hj
        split at hj
        · rw [List.getElem?_drop] at hj; exact hj
        · cases hj)
      (by rw [lcs]; exact f1)
      (fun v hv => h1c v (by
        rw [hcs] at hv
        have h2 : (cur.toList.drop (i * 2)).take ((n - i) * 2) = (cur.toList.take (n * 2)).drop (i * 2) := by rw [List.drop_take]; congr 1; omega
        rw [h2] at hv
        exact List.mem_of_mem_drop hv))
    rw [← hcur1] at h
    exact h
  have hg1 : ∀ W : World, W = w.drew.setRow g cur1.toArray → W.heap[g]? = some (.cells cur1.toArray 62 (0, 0)) := fun W hW => by rw [hW]; exact setRow_heap w.drew g cur _ 62 _ hg
  have hb1 : ∀ W : World, W = w.drew.setRow g cur1.toArray → W.heap[b]? = some (.cells vs.toArray 62 (0, 0)) := fun W hW => by rw [hW, setRow_other w.drew g _ _ hne]; exact hb
  have hcp2 : ∀ ty dc, (Builtin.copy_ #[22, 22] ty #[.slice (some ⟨g, i * 2, none⟩) (n + 1 - i) dc, .slice (some ⟨b, 0, none⟩) 1 1]).run Try.prog (w.drew.setRow g cur1.toArray) = .ok (goInt (Nat.min 1 (n + 1 - i))) (w.drew.setRow g cur2.toArray) := fun ty dc => by
    have h := run_copy_rowK (P := Try.prog) (w.drew.setRow g cur1.toArray) 22 22 ty 62 g (i * 2) (n + 1 - i) dc ⟨b, 0, none⟩ 1 1 cur1.toArray 62 vs 2 Try.underlying22 hsz (hg1 _ rfl)
      (by rw [hvl, show Nat.min 1 (n + 1 - i) = 1 by simp only [Nat.min_def]; split <;> omega])
      (fun j v hj => by
        rw [Addr.add_lit, cell_of_blk (hb1 _ rfl)]
        simpa using hj)
      (by rw [hvl]; exact f2) h1v
    rw [setRow_setRow, List.toList_toArray, ← hcur2] at h
    exact h
  have hdn : n + 1 - (i + 1) = n - i := by omega
  have hw1 : IntKind.i64.wrap ((i : Int) + 1) = (i : Int) + 1 := by rw [IntKind.wrap_i64]; omega
  have hw2 : IntKind.i64.wrap ((n : Int) + 1) = (n : Int) + 1 := by rw [IntKind.wrap_i64]; omega
  have hb0 : (0 : Int) ≤ (i : Int) + 1 := by omega
  have hin : i ≤ n := by omega
  have htn : ((i : Int) + 1).toNat = i + 1 := by omega
  have htn2 : ((n : Int) + 1).toNat = n + 1 := by omega
  have hz2 : ((i : Int) == (n : Int)) = false := by simp; omega
  have hz3 : decide ((c : Int) < (n : Int) + 1) = false := decide_eq_false (by omega)
  have hb2 : ¬ (c = i + 1) := by omega
  have hb3 : (i : Int) + 1 ≤ (n : Int) + 1 := by omega
  have hb4 : ¬ (c = i) := by omega
  have hb5 : (n : Int) + 1 ≤ (c : Int) := by omega
  have hb6 : (0 : Int) ≤ (n : Int) + 1 := by omega
  have hb7 : (i : Int) ≤ (n : Int) + 1 := by omega
  have X1 := Aside0.mk hcur1
  have X2 := Aside0.mk hcur2
  have X3 := Aside0.mk hcs
  have X4 := Aside0.mk lcs
  have X5 := Aside0.mk l1
  have X6 := Aside0.mk l2
  have X7 := Aside0.mk hins
  have X8 := Aside0.mk hcur
  have X9 := Aside0.mk hdn
  clear f1 f2 hcur1 hcur2 hcs lcs l1 l2 hins hg1 hb1 hcur hdn
  go_enter Try.func113, Try.ntmps113
  go_wp2_with (simp only [hov])
  go_region_law (refine step_copy_run rfl _ _ 22 22 rfl _ _ (by simp [Act.eval, Act.put]) (by simp [Act.eval, Act.put]) (hcp1 _ _ _) ?_)
  go_wp2_with (at_builtin; refine wpList_copy_run _ rfl _ _ 22 22 rfl _ _ rfl rfl (hcp2 _ _) ?_)
  go_ret
  exact ⟨cur2, rfl, rfl, X6.out, X7.out⟩
set_option maxHeartbeats 8000000 in
set_option maxRecDepth 100000 in
theorem api_Pair_113.grow (g b i n c : Nat) (cur : Array Value) (vs : List Value) (w : World) (hi : i < n) (hnc : n ≤ c) (hroom : c < n + 1) (hbig : (n + 1) * 32 ≤ 140737488355328) (hcur : cur.size = c * 2) (hvl : vs.length = 2)
    (hg : w.heap[g]? = some (.cells cur 62 (0, 0))) (hb : w.heap[b]? = some (.cells vs.toArray 62 (0, 0))) (hne : b ≠ g) (h1c : ∀ v ∈ cur.toList.take (n * 2), v.oneCell' = true) (h1v : ∀ v ∈ vs, v.oneCell' = true) :
    Calls Try.prog 113 #[.slice (some ⟨g, 0, none⟩) n c, .int .i64 i, .slice (some ⟨b, 0, none⟩) 1 1] w fun e w' => ∃ (G : Nat) (cur2 : List Value),
      e = .returned (.slice (some ⟨w.heap.size, 0, none⟩) (n + 1) G) ∧ n + 1 ≤ G ∧ G ≤ maxLen ∧ (∃ W : World, W.heap.size = w.heap.size + 1 ∧ Below w.heap.size w W ∧ W.heap[w.heap.size]? = some (.cells cur2.toArray 62 (0, 0)) ∧ w' = W) ∧ cur2.length = G * 2 ∧ cur2.take ((n + 1) * 2) = (cur.toList.take (n * 2)).take (i * 2) ++ vs ++ (cur.toList.take (n * 2)).drop (i * 2) := by
  have hu62 := Try.underlying62
  obtain ⟨i0, hi0, hz0, hzs, hzb⟩ := info_parts info62
  have hsz : (Try.prog.info? 62).map (·.size) = some 2 := by rw [hi0]; simp [hzs]
  have hgw : g < w.heap.size := (Array.getElem?_eq_some_iff.1 hg).1
  have hbw : b < w.heap.size := (Array.getElem?_eq_some_iff.1 hb).1
  have hkk : (n : Int) + 1 - (i : Int) = ((n + 1 - i : Nat) : Int) := by omega
  have hik : i + (n + 1 - i) = n + 1 := by omega
  have hold : (Builtin.firstCells i0.size i (.slice (some ⟨g, 0, none⟩) i c)).run Try.prog w.drew = .ok (cur.toList.take (i * 2)).toArray w.drew := by
    rw [hzs]
    exact run_firstCells_some w.drew 2 i ⟨g, 0, none⟩ i c (cur.toList.take (i * 2)) (by rw [List.length_take, Array.length_toList]; omega) (fun j v hj => by
      rw [Addr.add_lit]
      show w.cell? _ = _
      rw [cell_of_blk hg, ← Array.getElem?_toList, Nat.zero_add]
      rw [List.getElem?_take] at hj
      split at hj
      · exact hj
      · cases hj)
  obtain ⟨G, hG⟩ : ∃ G, G = grownCap w (n + 1) c 62 := ⟨_, rfl⟩
  obtain ⟨Z, hZ⟩ : ∃ Z, Z = ((.agg #[(.string ⟨#[]⟩), (.string ⟨#[]⟩)]) : Value) := ⟨_, rfl⟩
  have hzc : Z.cells.size = 2 := by rw [hZ]; rfl
  rw [← hZ] at hz0
  obtain ⟨ROW, hROW⟩ : ∃ ROW : Array Value, ROW = (cur.toList.take (i * 2)).toArray ++ Builtin.zeroCells Z.cells (n + 1 - i) ++ Builtin.zeroCells Z.cells (G - (n + 1)) := ⟨_, rfl⟩
  have hrz : ∀ ty, (Builtin.append_ #[22, 3] ty #[.slice (some ⟨g, 0, none⟩) i c, .int .i64 ((n : Int) + 1 - (i : Int))]).run Try.prog w =
      .ok (.slice (some ⟨w.heap.size, 0, none⟩) (n + 1) G) (w.drew.alloc (.cells ROW 62)) := fun ty => by
    have h := Lib.run_append_grow_zeros w 22 3 ty 62 i0 Z .i64 .i64 Try.underlying22 Try.underlying3 hi0 hz0 (some ⟨g, 0, none⟩) i c (cur.toList.take (i * 2)) hold (n + 1 - i) (by omega) (by omega) (by omega) (by omega) (by rw [hzb]; omega) (by rw [hzb, hik]; exact growslice_fits hroom hbig)
    rw [hik, ← hG, ← hROW] at h
    rw [hkk]
    exact h
  have hGn : n + 1 ≤ G := by rw [hG]; exact grownCap_ge w _ _ _
  have hGm : G ≤ maxLen := by rw [hG]; exact grownCap_le_maxLen w _ _ _ (by unfold maxLen; omega)
  have hG63 : G ≤ 9223372036854775807 := by have := hGm; unfold maxLen at this; omega
  have hRsz : ROW.size = G * 2 := by
    rw [hROW, Array.size_append, Array.size_append, zero_size, zero_size, hzc, List.size_toArray, List.length_take, Array.length_toList]
    omega
  have hRA : ROW.toList.take (i * 2) = cur.toList.take (i * 2) := by
    rw [hROW, Array.toList_append, Array.toList_append, List.append_assoc]
    exact List.take_left' (by simp only [List.length_take, Array.length_toList]; omega)
  obtain ⟨RA, hcA⟩ : ∃ RA, RA = ROW.toList.take (i * 2) ++ vs ++ ROW.toList.drop (i * 2 + vs.length) := ⟨_, rfl⟩
  obtain ⟨cs, hcs⟩ : ∃ cs, cs = (cur.toList.drop (i * 2)).take ((n - i) * 2) := ⟨_, rfl⟩
  obtain ⟨RB, hcB⟩ : ∃ RB, RB = RA.take ((i + 1) * 2) ++ cs ++ RA.drop ((i + 1) * 2 + cs.length) := ⟨_, rfl⟩
  have lR : ROW.toList.length = G * 2 := Array.length_toList.trans hRsz
  obtain ⟨lcs, l1, l2, hins⟩ := ins_grow cur.toList vs ROW.toList i n 2 (by omega) hvl (by rw [Array.length_toList]; omega) (by rw [lR]; omega) hRA cs RA RB hcs hcA hcB
  have l1 : RA.length = G * 2 := l1.trans lR
  have l2 : RB.length = G * 2 := l2.trans lR
  have f1 : i * 2 + 2 ≤ ROW.size := by omega
  have f2 : (i + 1) * 2 + (n - i) * 2 ≤ RA.toArray.size := by
    rw [show RA.toArray.size = RA.length from rfl, l1]
    omega
  have hN : ∀ W : World, W.heap = (w.alloc (.cells ROW 62)).heap → W.heap[w.heap.size]? = some (.cells ROW 62 (0, 0)) := fun W hW => by rw [hW]; exact heap_alloc_new w _
  have hold2 : ∀ k, k < w.heap.size → (w.alloc (.cells ROW 62)).heap[k]? = w.heap[k]? := fun k hk => heap_alloc_old w _ hk
  have hcpA : ∀ (W : World), W.heap = (w.alloc (.cells ROW 62)).heap → ∀ ty dc, (Builtin.copy_ #[22, 22] ty #[.slice (some ⟨w.heap.size, i * 2, none⟩) (n + 1 - i) dc, .slice (some ⟨b, 0, none⟩) 1 1]).run Try.prog W = .ok (goInt (Nat.min 1 (n + 1 - i))) (W.setRow w.heap.size RA.toArray) := fun W hW ty dc => by
    have h := run_copy_rowK (P := Try.prog) W 22 22 ty 62 w.heap.size (i * 2) (n + 1 - i) dc ⟨b, 0, none⟩ 1 1 ROW 62 vs 2 Try.underlying22 hsz (hN W hW)
      (by rw [hvl, show Nat.min 1 (n + 1 - i) = 1 by simp only [Nat.min_def]; split <;> omega])
      (fun j v hj => by
        have hb2 : W.heap[b]? = some (.cells vs.toArray 62 (0, 0)) := by rw [hW, hold2 b hbw]; exact hb
        rw [Addr.add_lit, cell_of_blk hb2]
        simpa using hj)
      (by rw [hvl]; exact f1) h1v
    rw [← hcA] at h
    exact h
  have hcpB : ∀ (W : World), W.heap = ((w.alloc (.cells ROW 62)).setRow w.heap.size RA.toArray).heap → ∀ ty dc sc, (Builtin.copy_ #[22, 22] ty #[.slice (some ⟨w.heap.size, (i + 1) * 2, none⟩) (n - i) dc, .slice (some ⟨g, i * 2, none⟩) (n - i) sc]).run Try.prog W = .ok (goInt (Nat.min (n - i) (n - i))) (W.setRow w.heap.size RB.toArray) := fun W hW ty dc sc => by
    have hNW : W.heap[w.heap.size]? = some (.cells RA.toArray 62 (0, 0)) := by rw [hW]; exact setRow_heap _ _ ROW _ 62 _ (hN _ rfl)
    have hgW : W.heap[g]? = some (.cells cur 62 (0, 0)) := by rw [hW, setRow_other _ _ _ _ (by omega), hold2 g hgw]; exact hg
    have h := run_copy_rowK (P := Try.prog) W 22 22 ty 62 w.heap.size ((i + 1) * 2) (n - i) dc ⟨g, i * 2, none⟩ (n - i) sc RA.toArray 62 cs 2 Try.underlying22 hsz hNW
      (by rw [lcs]; congr 1; simp only [Nat.min_def]; split <;> rfl)
      (fun j v hj => by
        rw [Addr.add_lit, cell_of_blk hgW, ← Array.getElem?_toList]
        rw [hcs, List.getElem?_take] at hj
        split at hj
        · rw [List.getElem?_drop] at hj; exact hj
        · cases hj)
      (by rw [lcs]; exact f2)
      (fun v hv => h1c v (by
        rw [hcs] at hv
        have h2 : (cur.toList.drop (i * 2)).take ((n - i) * 2) = (cur.toList.take (n * 2)).drop (i * 2) := by rw [List.drop_take]; congr 1; omega
        rw [h2] at hv
        exact List.mem_of_mem_drop hv))
    rw [List.toList_toArray, ← hcB] at h
    exact h
  have hA2 := hcpA ((w.alloc (.cells ROW 62)).drew) rfl
  have hB2 := hcpB (((w.alloc (.cells ROW 62)).drew.setRow w.heap.size RA.toArray).drew) rfl
  clear hcpA hcpB
  have hw1 : IntKind.i64.wrap ((i : Int) + 1) = (i : Int) + 1 := by rw [IntKind.wrap_i64]; omega
  have hw2 : IntKind.i64.wrap ((n : Int) + 1) = (n : Int) + 1 := by rw [IntKind.wrap_i64]; omega
  have hb0 : (0 : Int) ≤ (i : Int) + 1 := by omega
  have hin : i ≤ n := by omega
  have htn : ((i : Int) + 1).toNat = i + 1 := by omega
  have hz2 : ((i : Int) == (n : Int)) = false := by simp; omega
  have hz3 : decide ((c : Int) < (n : Int) + 1) = true := decide_eq_true (by omega)
  have hb2 : ¬ (G = i + 1) := by omega
  have hb3 : (i : Int) + 1 ≤ (n : Int) + 1 := by omega
  have hb4 : ¬ (c = i) := by omega
  have hb5 : ¬ (G = i) := by omega
  have hb7 : (i : Int) ≤ (n : Int) + 1 := by omega
  have hb8 : (i : Int) ≤ (n : Int) := by omega
  have X1 := Aside0.mk hins
  have X2 := Aside0.mk l2
  have X3 := Aside0.mk hN
  have X4 := Aside0.mk hold2
  have X5 := Aside0.mk hGm
  clear hins l1 l2 lR lcs hcs hcA hcB hRA hRsz hROW hG hkk hik hold f1 f2 hN hold2 hzc hZ hz0 hGm hzs hzb
  go_enter Try.func113, Try.ntmps113
  go_wp2_with (first
    | (at_builtin; refine wpList_append_run _ rfl _ _ _ _ rfl _ _ rfl rfl (hrz _) ?_)
    | (at_builtin; refine wpList_copy_run _ rfl _ _ 22 22 rfl _ _ rfl rfl (hA2 _ _) ?_))
  go_region_law (refine step_copy_run rfl _ _ 22 22 rfl _ _ (by simp [Act.eval, Act.put]) (by simp [Act.eval, Act.put]) (hB2 _ _ _) ?_)
  go_wp2
  go_ret
  exact ⟨G, RB, rfl, hGn, X5.out, ⟨_, by simp [World.setRow], below_setRow (Below.drew (below_setRow (Below.drew (Below.alloc (Below.refl _ _) (Nat.le_refl _) _)) (Nat.le_refl _) _)) (Nat.le_refl _) _, setRow_heap _ _ RA.toArray _ 62 _ (setRow_heap (w.alloc (.cells ROW 62)).drew _ ROW _ 62 _ (heap_alloc_new w _)), rfl⟩, X2.out, X1.out⟩
theorem api_Pair_113.calls (base b i : Nat) (u : Value) (l0 : List S62) (x : S62) (w0 w : World) (hr : Kd.R k62 62 w base (fun _ => True) u l0) (hi : i < l0.length) (hbig : (l0.length + 1) * 32 ≤ 140737488355328)
    (hb : w.heap[b]? = some (.cells (flc62 x).toArray 62 (0, 0))) (hne : some b ≠ u.ownBlock) (HB : Below base w0 w) (hbase : base ≤ w.heap.size) :
    Calls Try.prog 113 #[u, .int .i64 i, .slice (some ⟨b, 0, none⟩) 1 1] w fun e w' => ∃ v', e = .returned v' ∧ Kd.R k62 62 w' base (fun _ => True) v' (l0.take i ++ x :: l0.drop i) ∧ Below base w0 w' := by
  obtain ⟨-, h1, h2⟩ := own62 hr
  have hlen : (l0.take i ++ x :: l0.drop i).length = l0.length + 1 := by simp only [List.length_append, List.length_cons, List.length_take, List.length_drop]; omega
  have hfl : (l0.take i ++ x :: l0.drop i).flatMap flc62 = ((l0.flatMap flc62).take (i * 2)) ++ flc62 x ++ ((l0.flatMap flc62).drop (i * 2)) := by
    rw [flat_take flc62 flc62_len, flat_drop flc62 flc62_len, List.flatMap_append, List.flatMap_cons, List.append_assoc]
  rcases h2 with ⟨_, h0⟩ | ⟨g, c, cur, rfl, hg, hh, hnc, hcm, hcs, htk⟩
  · omega
  have hcm' : c ≤ 9223372036854775807 := by unfold maxLen at hcm; omega
  have h1c : ∀ v ∈ cur.toList.take (l0.length * 2), v.oneCell' = true := by rw [htk]; exact flc62_one l0
  have h1v : ∀ v ∈ flc62 x, v.oneCell' = true := by have := flc62_one [x]; simpa using this
  have hbg : b ≠ g := fun e => hne (by rw [e]; rfl)
  have lt2 : l0.length * 2 = (l0.flatMap flc62).length := (flat_len flc62 flc62_len l0).symm
  by_cases hroom : l0.length + 1 ≤ c
  · refine (api_Pair_113.room g b i l0.length c cur (flc62 x) w hi hroom hcm' hcs rfl hh hb hbg h1c h1v).mono ?_
    rintro e w' ⟨cur2, rfl, rfl, hl2, ht2⟩
    refine ⟨_, rfl, row62 (fun _ _ => trivial) ⟨?_, .inr ⟨g, c, cur2.toArray, ?_, hg, setRow_heap w.drew g cur _ 62 _ hh, ?_, hcm, ?_, ?_⟩⟩, ?_⟩
    · exact flat_len flc62 flc62_len _
    · rw [hlen]
    · rw [hlen]; exact hroom
    · rw [List.size_toArray, hl2, hcs]
    · rw [hlen, List.toList_toArray, ht2, hfl, htk]
    · exact HB.trans (below_setRow (Below.drew (Below.refl _ _)) hg _)
  · refine (api_Pair_113.grow g b i l0.length c cur (flc62 x) w hi hnc (by omega) hbig hcs rfl hh hb hbg h1c h1v).mono ?_
    rintro e w' ⟨G, cur2, rfl, hG, hGm, ⟨W, hWs, hWb, hWh, rfl⟩, hl2, ht2⟩
    refine ⟨_, rfl, row62 (fun _ _ => trivial) ⟨?_, .inr ⟨w.heap.size, G, cur2.toArray, ?_, hbase, hWh, ?_, hGm, ?_, ?_⟩⟩, ?_⟩
    · exact flat_len flc62 flc62_len _
    · rw [hlen]
    · rw [hlen]; exact hG
    · rw [List.size_toArray, hl2]
    · rw [hlen, List.toList_toArray, ht2, hfl, htk]
    · exact HB.trans (hWb.mono hbase)

open Go.Proofs.Ytbhkopbalhhpgaa.Cp
/-! ### table_Put: function 104 -/
theorem cell_below_ {w w' : World} {a : Addr} {v : Value} (hb : Below w.heap.size w w') (h : w.cell? a = some v) : w'.cell? a = some v := (hb.cell (World.block_lt_of_cell? w a h)).trans h
theorem enters112 : ∀ args w, (callFunc 112 args).run Try.prog w = .ok (.enter 112 args) w := enters_of Try.func112 (by kernel_rfl) rfl
set_option maxHeartbeats 8000000 in
theorem table_Put_1.calls (x : S62) (key : ByteArray) (B : Nat) (W : World) (hc : W.cell? ⟨B, 0, none⟩ = some (.string key)) :
    Calls Try.prog 112 #[.agg #[.string x.f0, .string x.f1], .pointer (some ⟨B, 0, none⟩)] W fun e w' => e = .returned (.bool (gtK62 key x)) ∧ Below W.heap.size W w' := by
  have hu62 := Try.underlying62
  have hB := World.block_lt_of_cell? W _ hc
  go_enter Try.func112, Try.ntmps112
  go_wp2
  go_ret
  exact ⟨rfl, (Below.refl _ _).alloc (Nat.le_refl _) _⟩
set_option maxHeartbeats 8000000 in
set_option maxRecDepth 100000 in
theorem table_Put.calls (A0 : Option Addr) (c0 : Nat) (l0 : List (S62)) (a1 a2 : ByteArray) (r : List S62) (w : World) (hr0 : Kd.C k62 w A0 l0.length l0) (hc0 : l0.length ≤ c0) (h : table_Put.f l0 a1 a2 = some r) :
    Calls Try.prog 104 #[.slice A0 l0.length c0, .string a1, .string a2] w fun e w' => ∃ v0_ : Value, e = .returned (v0_) ∧ Kd.R k62 62 w' w.heap.size (fun _ => True) v0_ r ∧ Below w.heap.size w w' := by
  have hu62 := Try.underlying62
  obtain ⟨y, hy, h2⟩ := Option.bind_eq_some_iff.1 h
  clear h
  have hyl : y.length < 4398046511104 := by
    by_cases e : y.length < 4398046511104
    · exact e
    · rw [if_neg e] at h2; cases h2
  rw [if_pos hyl] at h2
  obtain rfl := Option.some.inj h2
  clear h2
  have HY := Aside0.mk hy
  have HR := Aside0.mk hr0
  have HC := Aside0.mk hc0
  clear hy hr0 hc0
  have hE := ixOf_cases (eqK62 a1) y
  have hG := ixOf_cases (gtK62 a1) y
  have body : ∀ (a : Int), ixOf (eqK62 a1) y = a → ∀ W : World, W = (w.alloc (.cells #[.string a1] 9)).alloc (.cells #[.string a1, .string a2] 62) → ∀ v0 w1, Kd.R k62 62 w1 W.heap.size (fun _ => True) v0 y → Below W.heap.size W w1 →
      w1.cell? ⟨w.heap.size, 0, none⟩ = some (.string a1) ∧ w1.heap[w.heap.size + 1]? = some (.cells #[.string a1, .string a2] 62 (0, 0)) ∧ Kd.R k62 62 w1 w.heap.size (fun k => k ≠ w.heap.size + 1) v0 y ∧ Below w.heap.size w w1 := by
    intro a _ W hW v0 w1 hR hB
    have hs : W.heap.size = w.heap.size + 2 := by rw [hW]; simp
    refine ⟨?_, ?_, ?_, ?_⟩
    · refine (hB.cell (p := ⟨w.heap.size, 0, none⟩) (by rw [hs]; show w.heap.size < _; omega)).trans ?_
      rw [hW]; go_simp
    · refine (hB.block _ (by omega)).trans ?_
      rw [hW]
      have := heap_alloc_new (w.alloc (.cells #[.string a1] 9)) (.cells #[.string a1, .string a2] 62)
      simpa using this
    · refine Kd.R_lower (Kd.R_mono (Kd.R_bound hR) (fun k hk => by have := hk.2.1; omega)) (by omega)
    · have h1 : Below w.heap.size w W := by rw [hW]; exact Below.alloc (Below.alloc (Below.refl _ _) (Nat.le_refl _) _) (by simp) _
      exact h1.trans (hB.mono (by omega))
  rcases hE with hE | ⟨i, hil, hE⟩
  · have hng : ¬ ((0 : Int) ≤ -1) := by decide
    rcases hG with hG | ⟨j, hjl, hG⟩
    · have hres : putL62 y a1 a2 = y ++ [⟨a1, a2⟩] := by unfold putL62; rw [hE, if_neg hng, hG]; rfl
      rw [hres]
      have B := Aside0.mk body
      have E := Aside0.mk hE
      have F := Aside0.mk hG
      clear body hres hG hE hng
      go_enter Try.func104, Try.ntmps104
      go_wp2_with (first
      | (go_at_call 82; refine (api_Pair_82.calls A0 c0 l0 y _ (Kd.C_alloc (Kd.C_alloc HR.out _) _) HC.out HY.out).mono ?_; rintro e w1 ⟨v0, rfl, hR, hB⟩;
         obtain ⟨k1, k2, k3, k4⟩ := B.out _ E.out _ rfl v0 w1 hR hB; clear hR hB;
         obtain ⟨A, c, rfl, hcc, hC⟩ := Kd.R_reads k3; have K3 := Aside0.mk k3; have K4 := Aside0.mk k4; have KC := Aside0.mk hC; have KL := Aside0.mk hcc; clear k3 k4 hC hcc)
      | (go_at_call 111; refine (table_at.calls A c y a1 _ _ KC.out KL.out rfl).mono ?_; rintro e w2 ⟨rfl, hb⟩;
         have e1 : ixOf (fun x : S62 => x.f0.toList == a1.toList) y = -1 := E.out; rw [e1]; clear e1;
         have n0 := Aside0.mk (blk_below k2 hb); have n1 := Aside0.mk (Kd.R_below K3.out hb); have n2 := Aside0.mk (below_step K4.out hb); have n3 := Aside0.mk (Kd.C_below KC.out hb);
         have n4 : w2.cell? ⟨w.heap.size, 0, none⟩ = some (.string a1) := cell_below_ hb k1; clear hb K3 K4 KC; clear k1 k2; have k1 := n4; have k2 := n0.out; have K3 := n1; have K4 := n2; have KC := n3; clear n0 n1 n2 n3 n4)
      | (go_at_call 86; refine (api_Pair_86.calls (gtK62 a1) 112 #[.pointer (some ⟨w.heap.size, 0, none⟩)] enters112 A c y _ KC.out (fun W x hb => table_Put_1.calls x a1 w.heap.size W (cell_below_ hb k1))).mono ?_; rintro e w3 ⟨rfl, hb⟩;
         rw [F.out];
         have k5 := blk_below k2 hb; have n1 := Aside0.mk (Kd.R_below K3.out hb); have n2 := Aside0.mk (below_step K4.out hb); clear hb K3 K4 KC; clear k1 k2;
         have k6 : w3.cell? ⟨w.heap.size + 1, 0, none⟩ = some (.string a1) := (blk_cell k5 0).trans rfl; have k7 : w3.cell? ⟨w.heap.size + 1, 1, none⟩ = some (.string a2) := (blk_cell k5 1).trans rfl)
      | ((with_reducible refine gate_builtin (b := .append) (xs := #[.tmp 30, .tmp 32]) rfl ?_); at_builtin;
         refine Kd.R_append k62 (w0 := w) w.heap.size rfl (.tmp 30) (.tmp 32) 22 62 (.agg #[(.string ⟨#[]⟩), (.string ⟨#[]⟩)]) 32 rfl Try.underlying22 info62 rfl (by decide) (by omega) (.slice A y.length c) y (⟨a1, a2⟩ : S62) [.string a1, .string a2] (fun _ => True) (fun _ => False) rfl (by first | (go_simp; done) | (go_simp; rfl)) (k62_mkM _ _ _ (⟨a1, a2⟩ : S62)) (fun _ hk => hk.elim) (fun _ _ => trivial) (Kd.R_mono n1.out (fun _ _ => trivial)) n2.out (below_size n2.out) (by omega) ?_;
         intro v5 w5 ho5 hb5 _ _))
      go_ret
      exact ⟨_, rfl, ho5, hb5⟩
    · have hnj : ¬ ((j : Int) < 0) := by omega
      have hres : putL62 y a1 a2 = y.take j ++ ⟨a1, a2⟩ :: y.drop j := by unfold putL62; rw [hE, if_neg hng, hG, if_neg hnj]; rfl
      rw [hres]
      have hz4 : decide ((j : Int) < 0) = false := decide_eq_false hnj
      have B := Aside0.mk body
      have E := Aside0.mk hE
      have F := Aside0.mk hG
      clear body hres hG hE hng
      go_enter Try.func104, Try.ntmps104
      go_wp2_with (first
      | (go_at_call 82; refine (api_Pair_82.calls A0 c0 l0 y _ (Kd.C_alloc (Kd.C_alloc HR.out _) _) HC.out HY.out).mono ?_; rintro e w1 ⟨v0, rfl, hR, hB⟩;
         obtain ⟨k1, k2, k3, k4⟩ := B.out _ E.out _ rfl v0 w1 hR hB; clear hR hB;
         obtain ⟨g, c, rfl, hcc, hC⟩ := row_form62 k3 (Nat.lt_of_le_of_lt (Nat.zero_le _) hjl); have K3 := Aside0.mk k3; have K4 := Aside0.mk k4; have KC := Aside0.mk hC; have KL := Aside0.mk hcc; clear k3 k4 hC hcc)
      | (go_at_call 111; refine (table_at.calls (some ⟨g, 0, none⟩) c y a1 _ _ KC.out KL.out rfl).mono ?_; rintro e w2 ⟨rfl, hb⟩;
         have e1 : ixOf (fun x : S62 => x.f0.toList == a1.toList) y = -1 := E.out; rw [e1]; clear e1;
         have n0 := Aside0.mk (blk_below k2 hb); have n1 := Aside0.mk (Kd.R_below K3.out hb); have n2 := Aside0.mk (below_step K4.out hb); have n3 := Aside0.mk (Kd.C_below KC.out hb);
         have n4 : w2.cell? ⟨w.heap.size, 0, none⟩ = some (.string a1) := cell_below_ hb k1; clear hb K3 K4 KC; clear k1 k2; have k1 := n4; have k2 := n0.out; have K3 := n1; have K4 := n2; have KC := n3; clear n0 n1 n2 n3 n4)
      | (go_at_call 86; refine (api_Pair_86.calls (gtK62 a1) 112 #[.pointer (some ⟨w.heap.size, 0, none⟩)] enters112 (some ⟨g, 0, none⟩) c y _ KC.out (fun W x hb => table_Put_1.calls x a1 w.heap.size W (cell_below_ hb k1))).mono ?_; rintro e w3 ⟨rfl, hb⟩;
         rw [F.out];
         have k5 := blk_below k2 hb; have n1 := Aside0.mk (Kd.R_below K3.out hb); have n2 := Aside0.mk (below_step K4.out hb); clear hb K3 K4 KC; clear k1 k2;
         have k6 : w3.cell? ⟨w.heap.size + 1, 0, none⟩ = some (.string a1) := (blk_cell k5 0).trans rfl; have k7 : w3.cell? ⟨w.heap.size + 1, 1, none⟩ = some (.string a2) := (blk_cell k5 1).trans rfl)
      | (go_at_call 113; refine (api_Pair_113.calls w.heap.size w3.heap.size j (.slice (some ⟨g, 0, none⟩) y.length c) y ⟨a1, a2⟩ w _ (Kd.R_mono (Kd.R_alloc n1.out _) (fun _ _ => trivial)) hjl (by omega) (heap_alloc_new _ _) ?s1 (below_alloc n2.out _) ?s2).mono ?_;
         (case s1 => intro h; injection h with h; subst h; have h9 : w3.heap.size < w3.heap.size := own_lt (own62 n1.out).2 _ rfl; omega);
         (case s2 => have := below_size n2.out; simp; omega);
         rintro e w5 ⟨v5, rfl, ho5, hb5⟩))
      go_ret
      exact ⟨_, rfl, ho5, hb5⟩
  · have hz1 : (0 : Int) ≤ (i : Int) := by omega
    have hz2 : (i : Int) < (y.length : Int) := by omega
    have hres : putL62 y a1 a2 = y.set i ⟨a1, a2⟩ := by unfold putL62; rw [hE, if_pos hz1]; rfl
    rw [hres]
    have B := Aside0.mk body
    have E := Aside0.mk hE
    clear body hres hG hE
    go_enter Try.func104, Try.ntmps104
    go_wp2_with (first
      | (go_at_call 82; refine (api_Pair_82.calls A0 c0 l0 y _ (Kd.C_alloc (Kd.C_alloc HR.out _) _) HC.out HY.out).mono ?_; rintro e w1 ⟨v0, rfl, hR, hB⟩;
         obtain ⟨k1, k2, k3, k4⟩ := B.out _ E.out _ rfl v0 w1 hR hB; clear hR hB;
         obtain ⟨g, c, rfl, hcc, hC⟩ := row_form62 k3 (Nat.lt_of_le_of_lt (Nat.zero_le _) hil); have K3 := Aside0.mk k3; have K4 := Aside0.mk k4; have KC := Aside0.mk hC; have KL := Aside0.mk hcc; clear k3 k4 hC hcc)
      | (go_at_call 111; refine (table_at.calls (some ⟨g, 0, none⟩) c y a1 _ _ KC.out KL.out rfl).mono ?_; rintro e w2 ⟨rfl, hb⟩;
         have e1 : ixOf (fun x : S62 => x.f0.toList == a1.toList) y = (i : Int) := E.out; rw [e1]; clear e1;
         have k5 := (blk_below k2 hb); have n1 := Aside0.mk (Kd.R_below K3.out hb); have n2 := Aside0.mk (below_step K4.out hb); clear hb K3 K4 KC; clear k1 k2;
         have k6 : w2.cell? ⟨w.heap.size + 1, 0, none⟩ = some (.string a1) := (blk_cell k5 0).trans rfl; have k7 : w2.cell? ⟨w.heap.size + 1, 1, none⟩ = some (.string a2) := (blk_cell k5 1).trans rfl)
      | ((with_reducible refine gate_ (.store 62 (.tmp 23) (.tmp 22)) rfl ?_);
         obtain ⟨cc, hcl, hcc⟩ := row_old62 (row_C62 n1.out) i hil;
         refine Kd.R_store k62 (w0 := w) w.heap.size rfl rfl 62 (.tmp 23) (.tmp 22) rfl 62 (i : Int) 0 y ⟨a1, a2⟩ (.agg #[.string a1, .string a2]) [.string a1, .string a2] cc (fun k => k ≠ w.heap.size + 1) (fun _ => False) rfl (by simp; rfl) rfl rfl (by kernel_rfl) ?s1 n1.out hz1 hz2 hcl hcc (by show 0 + 2 ≤ 2; decide) ?s2 (fun _ hk => hk.elim) n2.out ?_;
         (case s1 => intro q hq; simp only [List.mem_cons, List.not_mem_nil, or_false] at hq; rcases hq with rfl | rfl <;> rfl);
         (case s2 => rw [List.take_zero, List.nil_append, List.drop_of_length_le (by rw [hcl]; simp), List.append_nil]; exact k62_mkM _ _ _ (⟨a1, a2⟩ : S62));
         intro w3 hr3 hb3 _))
    go_ret
    exact ⟨_, rfl, Kd.R_mono hr3 (fun _ _ => trivial), hb3⟩

open Go.Proofs.Ytbhkopbalhhpgaa.Cp
/-! ### api_Pair_114: function 114 -/
theorem kept_trans_ {w W W2 : World} {S : Nat → Prop} (h : Kept w W S) (k : Kept W W2 S) : Kept w W2 S := h.then_ k (fun _ hk => .inl hk)
theorem below_size_ {B : Nat} {w w' : World} (h : B ≤ w.heap.size) (hb : Below B w w') : B ≤ w'.heap.size := Nat.le_trans h hb.size
theorem ix_first {α : Type} (p : α → Bool) : ∀ (l : List α) (i : Nat), ixOf p l = (i : Int) → i < l.length ∧ (∀ x ∈ l.take i, p x = false) ∧ ∀ d, p (l.getD i d) = true := by
  intro l i h
  unfold ixOf at h
  split at h
  · rename_i hl
    have e : l.findIdx p = i := by omega
    subst e
    refine ⟨hl, fun x hx => ?_, fun d => ?_⟩
    · obtain ⟨j, hj, rfl⟩ := List.mem_take_iff_getElem.1 hx
      have hj' : j < l.findIdx p := by omega
      simpa using List.not_of_lt_findIdx hj'
    · rw [List.getD_eq_getElem?_getD, List.getElem?_eq_getElem hl]
      exact List.findIdx_getElem (w := hl)
  · omega
theorem ix_none {α : Type} (p : α → Bool) (l : List α) (h : ixOf p l = -1) : ∀ x ∈ l, p x = false := by
  intro x hx
  unfold ixOf at h
  split at h
  · omega
  · rename_i hl
    cases e : p x with
    | false => rfl
    | true => exact absurd (List.findIdx_lt_length.2 ⟨x, hx, e⟩) hl
theorem del_start {α : Type} (p : α → Bool) (l : List α) (i : Nat) (h : i < l.length) (h1 : ∀ x ∈ l.take i, p x = false) (h2 : p l[i] = true) : l.take i = (l.take (i + 1)).filter (fun x => !p x) := by
  rw [List.take_succ_eq_append_getElem h, List.filter_append]
  simp only [List.filter_cons, h2, Bool.not_true, List.filter_nil]
  rw [if_neg (by decide), List.append_nil, List.filter_eq_self.2 (fun x hx => by rw [h1 x hx]; rfl)]
theorem del_skip {α : Type} (p : α → Bool) (l : List α) (j : Nat) (h : j < l.length) (h2 : p l[j] = true) : (l.take (j + 1)).filter (fun x => !p x) = (l.take j).filter (fun x => !p x) := by
  rw [List.take_succ_eq_append_getElem h, List.filter_append]
  simp [List.filter_cons, h2]
theorem del_keep {α : Type} (p : α → Bool) (l : List α) (j : Nat) (h : j < l.length) (h2 : p l[j] = false) : (l.take (j + 1)).filter (fun x => !p x) = (l.take j).filter (fun x => !p x) ++ [l[j]] := by
  rw [List.take_succ_eq_append_getElem h, List.filter_append]
  simp [List.filter_cons, h2]
theorem kept_below_ {W W1 : World} {S : Nat → Prop} (hb : Below W.heap.size W W1) : Kept W W1 S := ⟨hb.size, fun i hi _ => hb.block i hi⟩
theorem kept_grown2_ {W W1 : World} {g : Nat} {u : Value} (hg : W.grownBy W1 (some g)) (hu : u.ownBlock = some g) : Kept W W1 (fun k_ => some k_ = u.ownBlock) := ⟨hg.size, fun i hi hn => hg.block i hi (fun e => hn (by rw [hu]; exact e))⟩
theorem kept_setRow_ {W : World} (g : Nat) (cs : Array Value) {u : Value} (hu : u.ownBlock = some g) : Kept W (W.setRow g cs) (fun k_ => some k_ = u.ownBlock) := ⟨by simp, fun i _ hn => setRow_other W g i cs (fun e => hn (by rw [hu, e]))⟩
set_option maxHeartbeats 8000000 in
set_option maxRecDepth 100000 in
theorem api_Pair_114_k.calls (p : S62 → Bool) (g : Nat) (lb : Array Value) (eg : ∀ args w, (callFunc g args).run Try.prog w = .ok (.enter g args) w) (base : Nat) (u : Value) (l0 : List S62) (w0 w : World) (hr : Kd.R k62 62 w base (fun _ => True) u l0) (HB : Below base w0 w) (hbase : base ≤ w.heap.size)
    (hp : ∀ (W : World) (x : S62), Below base w W → Kept w W (fun k_ => some k_ = u.ownBlock) → Calls Try.prog g (#[.agg #[.string x.f0, .string x.f1]] ++ lb) W fun e w' => e = .returned (.bool (p x)) ∧ Below W.heap.size W w') :
    Calls Try.prog 114 #[u, .func (.func g) #[] lb] w fun e w' => ∃ v', e = .returned v' ∧ Kd.R k62 62 w' base (fun _ => True) v' (l0.filter (fun x => !p x)) ∧ Below base w0 w' ∧ v'.ownBlock = u.ownBlock ∧ Kept w w' (fun k_ => some k_ = u.ownBlock) := by
  have hu62 := Try.underlying62
  have hpi : ∀ (W : World) (x : S62), Below w.heap.size w W → Calls Try.prog g (#[.agg #[.string x.f0, .string x.f1]] ++ lb) W fun e w' => e = .returned (.bool (p x)) ∧ Below W.heap.size W w' := fun W x hb => hp W x (hb.mono hbase) (kept_below_ hb)
  rcases ixOf_cases p l0 with hE | ⟨i0, hil, hE⟩
  · have hres : l0.filter (fun x => !p x) = l0 := List.filter_eq_self.2 (fun x hx => by rw [ix_none p l0 hE x hx]; rfl)
    rw [hres]
    obtain ⟨A, c, rfl, hc, hC⟩ := Kd.R_reads hr
    have E := Aside0.mk hE
    have R := Aside0.mk hr
    have H := Aside0.mk HB
    have C := Aside0.mk hC
    have P := Aside0.mk hpi
    have BS := Aside0.mk hbase
    clear hres hE hr HB hC hpi hp
    go_enter Try.func114, Try.ntmps114
    go_wp2_with (go_at_call 86; refine (api_Pair_86.calls p g lb eg A c l0 _ C.out P.out).mono ?_; rintro e w1 ⟨rfl, hb⟩; rw [E.out]; have n1 := Aside0.mk (Kd.R_below R.out hb); have n2 := Aside0.mk (H.out.trans (hb.mono BS.out)); have n4 := Aside0.mk (kept_below_ (S := fun k_ => some k_ = (Value.slice A l0.length c).ownBlock) hb); clear hb)
    go_ret
    exact ⟨_, rfl, n1.out, n2.out, rfl, n4.out⟩
  · obtain ⟨b, c, rfl, hc, hC⟩ := row_form62 hr (Nat.lt_of_le_of_lt (Nat.zero_le _) hil)
    obtain ⟨_, hfst, hat⟩ := ix_first p l0 i0 hE
    have hat0 : p l0[i0] = true := by have := hat z62; rwa [List.getD_eq_getElem?_getD, List.getElem?_eq_getElem hil] at this
    have hmx : l0.length ≤ 9223372036854775807 := hC.2.1
    have hil0 := hil
    have hix := api_Pair_86.calls p g lb eg (some ⟨b, 0, none⟩) c l0 w hC hpi
    obtain ⟨n, hn⟩ : ∃ n, n = l0.length := ⟨_, rfl⟩
    rw [← hn] at hr hC hc hil hmx hix ⊢
    rw [hE] at hix
    have IX := Aside0.mk hix
    clear hix
    have ST := Aside0.mk (del_start p l0 i0 hil0 hfst hat0)
    have N := Aside0.mk hn
    have E := Aside0.mk hE
    have R := Aside0.mk hr
    have H := Aside0.mk HB
    have C := Aside0.mk hC
    have P := Aside0.mk hpi
    have PP := Aside0.mk hp
    have BS := Aside0.mk hbase
    have hz0 : ((i0 : Int) == -1) = false := by simp
    have hw0 : IntKind.i64.wrap ((i0 : Int) + 1) = ((i0 + 1 : Nat) : Int) := by rw [IntKind.wrap_i64]; omega
    clear hE hr HB hC hpi hp hat hat0 hfst hn hil0
    go_enter Try.func114, Try.ntmps114
    go_wp2_with (go_at_call 86; refine IX.out.mono ?_; rintro e w1 ⟨rfl, hb⟩; have n1 := Aside0.mk (Kd.R_below R.out hb); have n2 := Aside0.mk (H.out.trans (hb.mono BS.out)); have n3 := Aside0.mk (hb.mono BS.out); have n4 := Aside0.mk (kept_below_ (S := fun k_ => some k_ = (Value.slice (some ⟨b, 0, none⟩) n c).ownBlock) hb); clear hb)
    go_loopg [5, 6] n (fun gg s5 s6 wr => ∃ (i j : Nat) (M : List S62), i < j ∧ j ≤ n ∧ n - j ≤ gg ∧ s5 = .int .i64 i ∧ s6 = .int .i64 j ∧ Aside0 (M.take i = (l0.take j).filter (fun x => !p x) ∧ M.drop j = l0.drop j ∧ M.length = n) ∧ Aside0 (Kd.R k62 62 wr base (fun _ => True) (.slice (some ⟨b, 0, none⟩) n c) M) ∧ Aside0 (Below base w0 wr) ∧ Aside0 (Below base w wr) ∧ Aside0 (Kept w wr (fun k_ => some k_ = (Value.slice (some ⟨b, 0, none⟩) n c).ownBlock)))
    case atStart =>
      exact ⟨i0, i0 + 1, l0, by omega, by omega, by omega, rfl, by first | rfl | (rw [hw0]; done) | simp, ⟨ST.out, rfl, N.out.symm⟩, ⟨n1.out⟩, ⟨n2.out⟩, ⟨n3.out⟩, n4⟩
    case round =>
      obtain ⟨i, j, M, hij, hjn, hgg, rfl, rfl, MM, RR, HB, HC, KP⟩ := hrel
      by_cases hlt : j < n
      · have hltz : (j : Int) < (n : Int) := by omega
        have hltm : (j : Int) < (M.length : Int) := by rw [MM.out.2.2]; exact hltz
        have hiz : (i : Int) < (n : Int) := by omega
        have hi0 : (0 : Int) ≤ (i : Int) := by omega
        have hCM := row_C62 RR.out
        obtain ⟨ad, e, hx0, hx1⟩ := at_T62 hCM (j : Int) (by omega) hltz
        cases e
        simp only [Int.toNat_natCast] at hx0 hx1
        have e0 : rd_T62 M (j : Int) = M.getD j z62 := by simp [rd_T62]
        rw [e0] at hx0 hx1
        simp only [Addr.add_lit, Nat.zero_add] at hx0 hx1
        clear e0
        obtain ⟨y, hy⟩ : ∃ y, M.getD j z62 = y := ⟨_, rfl⟩
        rw [hy] at hx0 hx1
        have hjl : j < l0.length := by rw [← N.out]; exact hlt
        have hyl : l0[j] = y := by
          have h1 : M.drop j = l0.drop j := MM.out.2.1
          have hjm : j < M.length := by rw [MM.out.2.2]; exact hlt
          rw [List.drop_eq_getElem_cons hjl, List.drop_eq_getElem_cons hjm] at h1
          injection h1 with h1 _
          rw [← h1, ← hy, List.getD_eq_getElem?_getD, List.getElem?_eq_getElem hjm]
          rfl
        have hdn : M.drop (j + 1) = l0.drop (j + 1) := by
          have h1 : M.drop j = l0.drop j := MM.out.2.1
          rw [← List.drop_drop, ← List.drop_drop, h1]
        have hcall : ∀ W : World, Below base w W → Kept w W (fun k_ => some k_ = (Value.slice (some ⟨b, 0, none⟩) n c).ownBlock) → Calls Try.prog g (#[.agg #[.string y.f0, .string y.f1]] ++ lb) W fun e w' => e = .returned (.bool (p y)) ∧ Below W.heap.size W w' := fun W hb hk => PP.out W y hb hk
        have hws : base ≤ wr.heap.size := below_size_ BS.out HC.out
        have Y := Aside0.mk hy
        have YL := Aside0.mk hyl
        have DN := Aside0.mk hdn
        have WS := Aside0.mk hws
        clear hy hyl hdn hws hCM
        obtain ⟨q, hq⟩ : ∃ q, p y = q := ⟨_, rfl⟩
        rw [hq] at hcall
        have Q := Aside0.mk hq
        have CL := Aside0.mk hcall
        clear hq hcall
        cases q with
        | true =>
          go_wp2_with (go_at_fn g; refine (CL.out _ (HC.out.alloc WS.out _) (KP.out.alloc _)).mono ?_; rintro e w2 ⟨rfl, hb⟩)
          go_roundg (n - (j + 1))
          case measure => omega
          case rel => exact ⟨i, j + 1, M, by omega, by omega, by omega, rfl, by first | rfl | go_num, ⟨by rw [del_skip p l0 j hjl (by rw [YL.out]; exact Q.out)]; exact MM.out.1, DN.out, MM.out.2.2⟩, ⟨Kd.R_below (Kd.R_alloc RR.out _) hb⟩, ⟨(HB.out.alloc WS.out _).trans (hb.mono (by have := WS.out; simp; omega))⟩, ⟨(HC.out.alloc WS.out _).trans (hb.mono (by have := WS.out; simp; omega))⟩, ⟨kept_trans_ (KP.out.alloc _) (kept_below_ hb)⟩⟩
        | false =>
          go_wp2_with (first
            | (go_at_fn g; refine (CL.out _ (HC.out.alloc WS.out _) (KP.out.alloc _)).mono ?_; rintro e w2 ⟨rfl, hb⟩; have BW := Aside0.mk (below_size hb); have k5 := (blk_below (heap_alloc_new wr (.cells #[.string y.f0, .string y.f1] 62)) hb); have n1 := Aside0.mk (Kd.R_below (Kd.R_alloc RR.out _) hb); have n2 := Aside0.mk ((HB.out.alloc WS.out _).trans (hb.mono (by have := WS.out; simp; omega))); have n3 := Aside0.mk ((HC.out.alloc WS.out _).trans (hb.mono (by have := WS.out; simp; omega))); have n4 := Aside0.mk (kept_trans_ (KP.out.alloc (.cells #[.string y.f0, .string y.f1] 62)) (kept_below_ hb)); clear hb; have k6 : w2.cell? ⟨wr.heap.size, 0, none⟩ = some (.string y.f0) := (blk_cell k5 0).trans rfl; have k7 : w2.cell? ⟨wr.heap.size, 1, none⟩ = some (.string y.f1) := (blk_cell k5 1).trans rfl)
            | ((with_reducible refine gate_ (.store 62 (.tmp 33) (.tmp 32)) rfl ?_); obtain ⟨cc, hcl, hcc⟩ := row_old62 (row_C62 n1.out) i (by omega); refine Kd.R_store k62 (w0 := w0) base rfl rfl 62 (.tmp 33) (.tmp 32) rfl 62 (i : Int) 0 M y (.agg #[.string y.f0, .string y.f1]) [.string y.f0, .string y.f1] cc (fun _ => True) (fun _ => False) rfl (by simp; rfl) rfl rfl (by kernel_rfl) ?s1 n1.out hi0 hiz hcl hcc (by show 0 + 2 ≤ 2; decide) ?s2 (fun _ hk => hk.elim) n2.out ?_; (case s1 => intro q hq; simp only [List.mem_cons, List.not_mem_nil, or_false] at hq; rcases hq with rfl | rfl <;> rfl); (case s2 => rw [List.take_zero, List.nil_append, List.drop_of_length_le (by rw [hcl]; simp), List.append_nil]; exact k62_mkM _ _ _ y); intro w3 hr3 hb3 hg3; have K8 := Aside0.mk hr3; have K9 := Aside0.mk hb3; have K10 := Aside0.mk hg3; clear hr3 hb3 hg3))
          go_roundg (n - (j + 1))
          case measure => omega
          case rel =>
            have him : i < M.length := by rw [MM.out.2.2]; omega
            have hbb : base ≤ b := Kd.R_base n1.out b rfl
            refine ⟨i + 1, j + 1, M.set i y, by omega, by omega, by omega, by first | rfl | go_num, by first | rfl | go_num, ⟨?_, ?_, ?_⟩, K8, K9, ⟨n3.out.trans ⟨K10.out.os, K10.out.tape, K10.out.output, K10.out.size, fun k hk => ?_⟩⟩, ⟨kept_trans_ n4.out (kept_grown2_ K10.out rfl)⟩⟩
            · rw [del_keep p l0 j hjl (by rw [YL.out]; exact Q.out), YL.out, ← MM.out.1]
              rw [List.take_succ_eq_append_getElem (by rw [List.length_set]; exact him), List.getElem_set_self, List.take_set_of_le (Nat.le_refl _)]
            · rw [List.drop_set_of_lt (by omega)]; exact DN.out
            · rw [List.length_set]; exact MM.out.2.2
            · exact K10.out.block k (by have := BW.out; have := WS.out; simp at *; omega) (by intro h; injection h with h; omega)
      · have hltz : decide ((j : Int) < (n : Int)) = false := decide_eq_false (by omega)
        have hjn' : j = n := by omega
        have hF : l0.filter (fun x => !p x) = M.take i := by rw [MM.out.1, List.take_of_length_le (by rw [← N.out]; omega)]
        have hMi : (M.take i).length = i := by rw [List.length_take, MM.out.2.2]; omega
        obtain ⟨_, ho1, ho2⟩ := own62 RR.out
        rcases ho2 with ⟨h, _⟩ | ⟨b', c', cur, e, hg, hh, hnc, hcm, hcs, htk⟩
        · cases h
        · injection e with e1 e2 e3
          injection e1 with e1
          injection e1 with e1 _
          subst e1; subst e3
          clear e2
          obtain ⟨zs, hzs⟩ : ∃ zs, zs = (Builtin.zeroCells (((.agg #[(.string ⟨#[]⟩), (.string ⟨#[]⟩)]) : Value)).cells (n - i)).toList := ⟨_, rfl⟩
          have hzl : zs.length = (n - i) * 2 := by rw [hzs, Array.length_toList, zero_size]; rfl
          obtain ⟨NEW, hNEW⟩ : ∃ NEW, NEW = (cur.toList.take (i * 2) ++ zs ++ cur.toList.drop (i * 2 + zs.length)).toArray := ⟨_, rfl⟩
          have hin : i ≤ n := by omega
          have hfit : i * 2 + (n - i) * 2 ≤ cur.size := by
            have : i * 2 + (n - i) * 2 = n * 2 := by omega
            have h2 : n * 2 ≤ c * 2 := by omega
            omega
          have hcl : ∀ (W : World) (ty : TypeId) (c2 : Nat), W.heap[b]? = some (.cells cur 62 (0, 0)) → (Builtin.clear_ #[22] ty #[.slice (some ⟨b, i * 2, none⟩) (n - i) c2]).run Try.prog W = .ok (.tuple #[]) (W.setRow b NEW) := fun W ty c2 hW => by
            have h := run_clear_rowK (P := Try.prog) W 22 62 ty (.agg #[(.string ⟨#[]⟩), (.string ⟨#[]⟩)]) Try.underlying22 Try.zeroValue62 2 rfl (by decide) (by intro v hv; simp only [Value.cells, List.mem_cons, List.not_mem_nil, or_false] at hv; rcases hv with rfl | rfl <;> rfl) b (i * 2) (n - i) c2 cur 62 hW (by omega) hfit
            rw [← hzs, ← hNEW] at h
            exact h
          have hns : NEW.size = c * 2 := by
            rw [hNEW, List.size_toArray, List.length_append, List.length_append, List.length_take, List.length_drop, hzl, Array.length_toList]
            omega
          have hnt : NEW.toList.take (i * 2) = (M.take i).flatMap flc62 := by
            rw [hNEW, List.toList_toArray, List.append_assoc, List.take_left' (by rw [List.length_take, Array.length_toList]; omega)]
            rw [← flat_take flc62 flc62_len, ← htk, List.take_take]
            congr 1
            rw [MM.out.2.2]
            omega
          have hci : ¬ (c = i) := by have := MM.out.2.2; omega
          have hcn : (n : Int) ≤ (c : Int) := by have := MM.out.2.2; omega
          have hiz : (i : Int) ≤ (n : Int) := by omega
          have hic : (i : Int) ≤ (c : Int) := by have := MM.out.2.2; omega
          have hi0 : (0 : Int) ≤ (i : Int) := by omega
          have X1 := Aside0.mk hns
          have X2 := Aside0.mk hnt
          have X3 := Aside0.mk hF
          have X4 := Aside0.mk hcm
          have X5 := Aside0.mk hMi
          have X6 := Aside0.mk hg
          have X7 := Aside0.mk hcl
          have X8 := Aside0.mk hh
          have hcw := hcl wr 0 (c - i) hh
          clear hns hnt hF hcm hMi hg hcl hh hNEW hzs hzl hfit htk hcs hnc ho1
          go_wp2_with (simp only [hcw])
          go_ret
          refine ⟨_, rfl, ?_, HB.out.trans (below_setRow (Below.refl _ _) X6.out _), rfl, kept_trans_ KP.out (kept_setRow_ _ _ rfl)⟩
          rw [X3.out]
          refine row62 (fun _ _ => trivial) ⟨flat_len flc62 flc62_len _, .inr ⟨b, c, NEW, by rw [X5.out]; rfl, X6.out, setRow_heap _ _ cur _ 62 _ X8.out, ?_, X4.out, X1.out, by rw [X5.out]; exact X2.out⟩⟩
          rw [X5.out]
          omega
theorem api_Pair_114.calls (p : S62 → Bool) (g : Nat) (lb : Array Value) (eg : ∀ args w, (callFunc g args).run Try.prog w = .ok (.enter g args) w) (base : Nat) (u : Value) (l0 : List S62) (w0 w : World) (hr : Kd.R k62 62 w base (fun _ => True) u l0) (HB : Below base w0 w) (hbase : base ≤ w.heap.size)
    (hp : ∀ (W : World) (x : S62), Below base w W → Calls Try.prog g (#[.agg #[.string x.f0, .string x.f1]] ++ lb) W fun e w' => e = .returned (.bool (p x)) ∧ Below W.heap.size W w') :
    Calls Try.prog 114 #[u, .func (.func g) #[] lb] w fun e w' => ∃ v', e = .returned v' ∧ Kd.R k62 62 w' base (fun _ => True) v' (l0.filter (fun x => !p x)) ∧ Below base w0 w' :=
  (api_Pair_114_k.calls p g lb eg base u l0 w0 w hr HB hbase (fun W x hb _ => hp W x hb)).mono fun e w' ⟨v', he, h1, h2, _⟩ => ⟨v', he, h1, h2⟩

open Go.Proofs.Ytbhkopbalhhpgaa.Cp
/-! ### table_Drop: function 105 -/
theorem enters115 : ∀ args w, (callFunc 115 args).run Try.prog w = .ok (.enter 115 args) w := enters_of Try.func115 (by kernel_rfl) rfl
set_option maxHeartbeats 8000000 in
theorem table_Drop_1.calls (x : S62) (key : ByteArray) (B : Nat) (W : World) (hc : W.cell? ⟨B, 0, none⟩ = some (.string key)) :
    Calls Try.prog 115 #[.agg #[.string x.f0, .string x.f1], .pointer (some ⟨B, 0, none⟩)] W fun e w' => e = .returned (.bool (eqK62 key x)) ∧ Below W.heap.size W w' := by
  have hu62 := Try.underlying62
  have hB := World.block_lt_of_cell? W _ hc
  go_enter Try.func115, Try.ntmps115
  go_wp2
  go_ret
  exact ⟨rfl, (Below.refl _ _).alloc (Nat.le_refl _) _⟩
set_option maxHeartbeats 8000000 in
theorem table_Drop.calls (A0 : Option Addr) (c0 : Nat) (l0 : List (S62)) (a1 : ByteArray) (r : List S62) (w : World) (hr0 : Kd.C k62 w A0 l0.length l0) (hc0 : l0.length ≤ c0) (h : table_Drop.f l0 a1 = some r) :
    Calls Try.prog 105 #[.slice A0 l0.length c0, .string a1] w fun e w' => ∃ v0_ : Value, e = .returned (v0_) ∧ Kd.R k62 62 w' w.heap.size (fun _ => True) v0_ r ∧ Below w.heap.size w w' := by
  obtain ⟨y, hy, h2⟩ := Option.bind_eq_some_iff.1 h
  obtain rfl := Option.some.inj h2
  have HY := Aside0.mk hy
  have HR := Aside0.mk hr0
  have HC := Aside0.mk hc0
  clear hy hr0 hc0 h h2
  obtain ⟨W1, hW1⟩ : ∃ W1, W1 = w.alloc (.cells #[.string a1] 9) := ⟨_, rfl⟩
  have hs1 : W1.heap.size = w.heap.size + 1 := by rw [hW1]; simp
  have hB1 : Below w.heap.size w W1 := by rw [hW1]; exact Below.alloc (Below.refl _ _) (Nat.le_refl _) _
  have hk1 : W1.cell? ⟨w.heap.size, 0, none⟩ = some (.string a1) := by rw [hW1]; go_simp
  have hR1 : Kd.C k62 W1 A0 l0.length l0 := by rw [hW1]; exact Kd.C_alloc HR.out _
  have D : ∀ (w2 : World) (v : Value), Kd.R k62 62 w2 W1.heap.size (fun _ => True) v y → Below W1.heap.size W1 w2 → Calls Try.prog 114 #[v, .func (.func 115) #[] #[.pointer (some ⟨w.heap.size, 0, none⟩)]] w2 fun e w' => ∃ v' : Value, e = .returned v' ∧ Kd.R k62 62 w' w.heap.size (fun _ => True) v' (dropL62 y a1) ∧ Below w.heap.size w w' := by
    intro w2 v hR hB
    refine (api_Pair_114.calls (eqK62 a1) 115 #[.pointer (some ⟨w.heap.size, 0, none⟩)] enters115 W1.heap.size v y W1 w2 hR hB hB.size (fun W x hb => table_Drop_1.calls x a1 w.heap.size W ?_)).mono ?_
    · exact ((hB.trans hb).cell (p := ⟨w.heap.size, 0, none⟩) (by rw [hs1]; show w.heap.size < _; omega)).trans hk1
    · rintro e w' ⟨v', rfl, hr, hb⟩
      exact ⟨v', rfl, Kd.R_lower hr (by omega), hB1.trans (hb.mono (by omega))⟩
  have CL := Aside0.mk (api_Pair_82.calls A0 c0 l0 y W1 hR1 HC.out HY.out)
  have DD := Aside0.mk D
  rw [hW1] at CL
  clear D hR1 hk1 hB1 hs1
  go_enter Try.func105, Try.ntmps105
  go_wp2_with (first
    | (go_at_call 82; refine CL.out.mono ?_; rintro e w2 ⟨v, rfl, hR, hB⟩; rw [← hW1] at hR hB; have D2 := Aside0.mk (DD.out w2 v hR hB); clear hR hB)
    | (go_at_call 114; refine D2.out.mono ?_; rintro e w3 ⟨v', rfl, hr3, hb3⟩; have R3 := Aside0.mk hr3; have B3 := Aside0.mk hb3; clear hr3 hb3))
  go_ret
  exact ⟨_, rfl, R3.out, B3.out⟩

open Go.Proofs.Ytbhkopbalhhpgaa.Cp
/-! ### table_Apply: function 55 -/
set_option maxHeartbeats 8000000 in
theorem table_Apply_put.calls (f0 f1 : ByteArray) (f2 : Bool) (A0 : Option Addr) (c0 : Nat) (l0 : List (S62)) (r : List S62) (w : World) (hr0 : Kd.C k62 w A0 l0.length l0) (hc0 : l0.length ≤ c0) (h : table_Put.f l0 f0 f1 = some r) :
    Calls Try.prog 83 #[.agg #[.string f0, .string f1, .bool f2], .slice A0 l0.length c0] w fun e w' => ∃ v0_ : Value, e = .returned (v0_) ∧ Kd.R k62 62 w' w.heap.size (fun _ => True) v0_ r ∧ Below w.heap.size w w' := by
  obtain ⟨W1, hW1⟩ : ∃ W1, W1 = w.alloc (.cells #[.string f0, .string f1, .bool f2] 121) := ⟨_, rfl⟩
  have hB1 : Below w.heap.size w W1 := by rw [hW1]; exact Below.alloc (Below.refl _ _) (Nat.le_refl _) _
  have hs1 : W1.heap.size = w.heap.size + 1 := by rw [hW1]; simp
  have D := table_Put.calls A0 c0 l0 f0 f1 r W1 (by rw [hW1]; exact Kd.C_alloc hr0 _) hc0 h
  have DD := Aside0.mk D
  rw [hW1] at DD
  clear D hr0 hc0 h
  go_enter Try.func83, Try.ntmps83
  go_wp2_with (go_at_call 104; refine DD.out.mono ?_; rintro e w3 ⟨v', rfl, hr3, hb3⟩; rw [← hW1] at hr3 hb3; have R3 := Aside0.mk (Kd.R_lower hr3 (by omega : w.heap.size ≤ W1.heap.size)); have B3 := Aside0.mk (hB1.trans (hb3.mono (by omega))); clear hr3 hb3)
  go_ret
  exact ⟨_, rfl, R3.out, B3.out⟩
set_option maxHeartbeats 8000000 in
theorem table_Apply_drop.calls (f0 f1 : ByteArray) (f2 : Bool) (A0 : Option Addr) (c0 : Nat) (l0 : List (S62)) (r : List S62) (w : World) (hr0 : Kd.C k62 w A0 l0.length l0) (hc0 : l0.length ≤ c0) (h : table_Drop.f l0 f0 = some r) :
    Calls Try.prog 84 #[.agg #[.string f0, .string f1, .bool f2], .slice A0 l0.length c0] w fun e w' => ∃ v0_ : Value, e = .returned (v0_) ∧ Kd.R k62 62 w' w.heap.size (fun _ => True) v0_ r ∧ Below w.heap.size w w' := by
  obtain ⟨W1, hW1⟩ : ∃ W1, W1 = w.alloc (.cells #[.string f0, .string f1, .bool f2] 121) := ⟨_, rfl⟩
  have hB1 : Below w.heap.size w W1 := by rw [hW1]; exact Below.alloc (Below.refl _ _) (Nat.le_refl _) _
  have hs1 : W1.heap.size = w.heap.size + 1 := by rw [hW1]; simp
  have D := table_Drop.calls A0 c0 l0 f0 r W1 (by rw [hW1]; exact Kd.C_alloc hr0 _) hc0 h
  have DD := Aside0.mk D
  rw [hW1] at DD
  clear D hr0 hc0 h
  go_enter Try.func84, Try.ntmps84
  go_wp2_with (go_at_call 105; refine DD.out.mono ?_; rintro e w3 ⟨v', rfl, hr3, hb3⟩; rw [← hW1] at hr3 hb3; have R3 := Aside0.mk (Kd.R_lower hr3 (by omega : w.heap.size ≤ W1.heap.size)); have B3 := Aside0.mk (hB1.trans (hb3.mono (by omega))); clear hr3 hb3)
  go_ret
  exact ⟨_, rfl, R3.out, B3.out⟩
set_option maxHeartbeats 8000000 in
set_option maxRecDepth 100000 in
theorem table_Apply.calls (A0 : Option Addr) (c0 : Nat) (l0 : List S62) (A1 : Option Addr) (c1 : Nat) (l1 : List S57) (r : List S62) (w : World) (hr0 : Kd.C k62 w A0 l0.length l0) (hc0 : l0.length ≤ c0) (hr1 : Kd.C k57 w A1 l1.length l1) (hc1 : l1.length ≤ c1) (h : table_Apply.f l0 l1 = some r) :
    Calls Try.prog 55 #[.slice A0 l0.length c0, .slice A1 l1.length c1] w fun e w' => ∃ v0_ : Value, e = .returned (v0_) ∧ Kd.R k62 62 w' w.heap.size (fun _ => True) v0_ r ∧ Below w.heap.size w w' := by
  have hu62 := Try.underlying62
  obtain ⟨y, hy, h2⟩ := Option.bind_eq_some_iff.1 h
  have hmx := hr1.2.1
  have CL := Aside0.mk (api_Pair_82.calls A0 c0 l0 y w hr0 hc0 hy)
  have C1 := Aside0.mk hr1
  have RR := Aside0.mk h2
  clear hy hr0 hc0 h h2 hr1 hc1
  go_enter Try.func55, Try.ntmps55
  go_wp2_with (go_at_call 82; refine CL.out.mono ?_; rintro e w2 ⟨v, rfl, hR, hB⟩; have R2 := Aside0.mk hR; have B2 := Aside0.mk hB; clear hR hB)
  go_loopg [0, 12] l1.length (fun gg s0 s12 wr => ∃ (j : Nat) (M : List S62), j ≤ l1.length ∧ l1.length - j ≤ gg ∧ s12 = .int .i64 j ∧ Aside0 (applyF62 M (l1.drop j) = some r) ∧ Aside0 (Kd.R k62 62 wr w.heap.size (fun _ => True) s0 M) ∧ Aside0 (Below w.heap.size w wr))
  case atStart => exact ⟨0, y, Nat.zero_le _, by omega, rfl, RR, R2, B2⟩
  case round =>
    obtain ⟨j, M, hj, hgg, rfl, HA, HR, HB⟩ := hrel
    by_cases hlt : j < l1.length
    · have hltz : (j : Int) < (l1.length : Int) := by omega
      obtain ⟨ad, e, hx0, hx1, hx2⟩ := at_T57 (Kd.C_below C1.out HB.out) (j : Int) (by omega) hltz
      cases e
      have hh := HA.out
      rw [List.drop_eq_getElem_cons hlt] at hh
      have e0 : rd_T57 l1 (j : Int) = l1[j] := by simp [rd_T57, List.getD_eq_getElem?_getD, hlt]
      rw [e0] at hx0 hx1 hx2
      simp only [Int.toNat_natCast] at hx0 hx1 hx2
      clear e0
      obtain ⟨x, hx⟩ : ∃ x, l1[j] = x := ⟨_, rfl⟩
      rw [hx] at hh hx0 hx1 hx2
      obtain ⟨f0, f1, f2⟩ := x
      simp only at hx0 hx1 hx2
      simp only [applyF62] at hh
      obtain ⟨z, hz, hh2⟩ := Option.bind_eq_some_iff.1 hh
      obtain ⟨A, c, rfl, hc, hC⟩ := Kd.R_reads HR.out
      have Z := Aside0.mk hh2
      have CC := Aside0.mk hC
      have CM := Aside0.mk hc
      clear hh hh2 hC hc hx
      cases f2 with
      | true =>
        rw [if_pos rfl] at hz
        have HZ := Aside0.mk hz
        clear hz
        obtain ⟨W1, hW1⟩ : ∃ W1, W1 = wr.alloc (.cells #[.string f0, .string f1, .bool true] 57) := ⟨_, rfl⟩
        have hs1 : w.heap.size ≤ W1.heap.size := by have := below_size HB.out; rw [hW1]; simp; omega
        have hB1 := Aside0.mk (show Below w.heap.size w W1 by rw [hW1]; exact below_alloc HB.out _)
        have D := Aside0.mk (table_Apply_drop.calls f0 f1 true A c M z W1 (by rw [hW1]; exact Kd.C_alloc CC.out _) CM.out HZ.out)
        rw [hW1] at D
        go_wp2_with (refine D.out.mono ?_; rintro e w3 ⟨v', rfl, hr3, hb3⟩; rw [← hW1] at hr3 hb3; have R3 := Aside0.mk (Kd.R_lower hr3 hs1); have B3 := Aside0.mk (below_step hB1.out hb3); clear hr3 hb3)
        go_roundg (l1.length - (j + 1))
        case measure => omega
        case rel => exact ⟨j + 1, z, by omega, by omega, by go_num, Z, R3, B3⟩
      | false =>
        rw [if_neg (by decide)] at hz
        have HZ := Aside0.mk hz
        clear hz
        obtain ⟨W1, hW1⟩ : ∃ W1, W1 = wr.alloc (.cells #[.string f0, .string f1, .bool false] 57) := ⟨_, rfl⟩
        have hs1 : w.heap.size ≤ W1.heap.size := by have := below_size HB.out; rw [hW1]; simp; omega
        have hB1 := Aside0.mk (show Below w.heap.size w W1 by rw [hW1]; exact below_alloc HB.out _)
        have D := Aside0.mk (table_Apply_put.calls f0 f1 false A c M z W1 (by rw [hW1]; exact Kd.C_alloc CC.out _) CM.out HZ.out)
        rw [hW1] at D
        go_wp2_with (refine D.out.mono ?_; rintro e w3 ⟨v', rfl, hr3, hb3⟩; rw [← hW1] at hr3 hb3; have R3 := Aside0.mk (Kd.R_lower hr3 hs1); have B3 := Aside0.mk (below_step hB1.out hb3); clear hr3 hb3)
        go_roundg (l1.length - (j + 1))
        case measure => omega
        case rel => exact ⟨j + 1, z, by omega, by omega, by go_num, Z, R3, B3⟩
    · have hltz : decide ((j : Int) < (l1.length : Int)) = false := decide_eq_false (by omega)
      have hF : M = r := by
        have := HA.out
        rw [List.drop_of_length_le (by omega)] at this
        exact Option.some.inj this
      subst hF
      obtain ⟨A, c, rfl, hc, hC⟩ := Kd.R_reads HR.out
      clear hc hC
      go_wp2
      go_ret
      exact ⟨_, rfl, HR.out, HB.out⟩

/-! ### run_Fold: function 25 -/
set_option maxHeartbeats 8000000 in
set_option maxRecDepth 100000 in
theorem run_Fold.calls (A0 : Option Addr) (c0 : Nat) (l0 : List (S57)) (r : List (S62)) (w : World) (hr0 : Kd.C k57 w A0 l0.length l0) (hc0 : l0.length ≤ c0) (h : run_Fold.f l0 = some r) :
    Calls Try.prog 25 #[.slice A0 l0.length c0] w fun e w' => ∃ v0_ : Value, e = .returned (v0_) ∧ Kd.R k62 62 w' w.heap.size (fun _ => True) v0_ r ∧ Below w.heap.size w w' := by
  have HR0 := Aside0.mk hr0
  have HC0 := Aside0.mk hc0
  clear hr0 hc0
  have HB := Aside0.mk (Below.refl w.heap.size w)
  have H : ((table_Apply.f ([] : List (S62)) l0).bind fun t224 => (some t224)) = some r := h
  clear h
  replace H := Option.bind_eq_some_iff.mp H
  obtain ⟨t224, A20, H⟩ := H
  replace H : (some t224) = some r := H
  have A2 := Aside0.mk A20
  clear A20
  obtain rfl := Option.some.inj H
  go_enter Try.func25, Try.ntmps25
  go_wp2_with (first | ((with_reducible refine gate_callee (f := 55) rfl ?_); refine goesL_ (some 4) rfl rfl Try.func55 (by kernel_rfl) rfl #[.slice none 0 0, .slice A0 l0.length c0] rfl (by (try simp only [List.map_toArray, List.map_cons, List.map_nil]); first | done | rfl | (simp only [List.length_drop, List.length_take]; rfl)) ?_; (refine (table_Apply.calls _ _ ([] : List (S62)) _ _ l0 t224 _ ?side1 ?side2 ?side3 ?side4 A2.out).mono ?_); (case side1 => exact Kd.C_nil _ _); (case side2 => exact Nat.le_refl _); (case side3 => repeat (first | exact HR0.out | (with_reducible refine Kd.C_alloc ?_ _) | (with_reducible refine Kd.C_drewN ?_ _) | (with_reducible refine Kd.C_drew ?_))); (case side4 => exact HC0.out); rintro e w3 ⟨v225, rfl, ho0, hb⟩; refine ⟨_, rfl, ?_⟩; have n0_ := Aside0.mk (Kd.R_lower ho0 (below_size (by repeat (first | (with_reducible first | exact HB.out | apply below_alloc | apply pw_below_drewN | apply below_drew1) | exact HB.out)))); have n1_ := Aside0.mk (below_step (by repeat (first | (with_reducible first | exact HB.out | apply below_alloc | apply pw_below_drewN | apply below_drew1) | exact HB.out)) hb); clear HB; have HO226 := n0_; have HB := n1_; clear n0_ n1_; (try clear hb); (try clear hb2); (try clear hk); (try clear hi); (try clear ho0)))
  go_ret
  exact ⟨_, by first | rfl | (simp [errW_none, errW_some] <;> rfl) | (simp [*, errW_none, errW_some] <;> rfl), by (with_reducible repeat (first | apply Kd.R_alloc | apply Kd.R_drewN | apply Kd.R_drew)); exact HO226.out, by repeat (first | (with_reducible first | exact HB.out | apply below_alloc | apply pw_below_drewN | apply below_drew1) | exact HB.out)⟩

/-! ### stanchionref05_Drop: function 56 -/
set_option maxHeartbeats 8000000 in
set_option maxRecDepth 100000 in
theorem stanchionref05_Drop.calls (k : Nat) (A0 : Option Addr) (c0 : Nat) (l0 : List (S62)) (a1 : ByteArray) (r : List (S62)) (w : World) (hr0 : Kd.C k62 w A0 l0.length l0) (hc0 : l0.length ≤ c0) (h : stanchionref05_Drop.f k l0 a1 = some r) :
    Calls Try.prog 56 #[.slice A0 l0.length c0, .string a1] w fun e w' => ∃ v0_ : Value, e = .returned (v0_) ∧ Kd.R k62 62 w' w.heap.size (fun _ => True) v0_ r ∧ Below w.heap.size w w' := by
  have hu62 := Try.underlying62
  have HR0 := Aside0.mk hr0
  have HC0 := Aside0.mk hc0
  clear hr0 hc0
  have HB := Aside0.mk (Below.refl w.heap.size w)
  have H : (stanchionref05_Drop.l0 k l0 a1 ([] : List (S62)) 0) = some r := h
  clear h
  have H' := Aside0.mk H
  clear H
  go_enter Try.func56, Try.ntmps56
  go_wp2
  go_loopg [5, 6] k (fun kq v5 v6 w' => ∃ (x5_1 : List (S62)) (x6_1 : Int), v6 = .int .i64 x6_1 ∧ Aside0 (stanchionref05_Drop.l0 kq l0 a1 x5_1 x6_1 = some r) ∧ Aside0 (kq ≤ k) ∧ Aside0 (Kd.R k62 62 w' w.heap.size (fun _ => True) v5 x5_1) ∧ Aside0 (Below w.heap.size w w'))
  case atStart => exact ⟨(([] : List (S62))), (0), (by first | rfl | (simp; done) | (simp [*]; done)), H', ⟨Nat.le_refl _⟩, ⟨by first | exact Kd.R_nil _ _ _ _ _ | exact Kd.N_nil _ _ _ _ _ | exact Kd.V_nil _ _ _ _ _ | exact Kd.Q_nil _ _ _ _ _ | exact Kd.S_nil _ _ _ _ _⟩, ⟨by repeat (first | (with_reducible first | exact HB.out | apply below_alloc | apply pw_below_drewN | apply below_drew1) | exact HB.out)⟩⟩
  case round =>
    clear H'
    try clear p2
    obtain ⟨x5_1, x6_1, rfl, HA, HK1, HO_5, HB⟩ := hrel
    cases gk with
    | zero => exact absurd HA.out (by simp [stanchionref05_Drop.l0])
    | succ k1 =>
      have H := HA.out
      clear HA
      simp only [stanchionref05_Drop.l0] at H
      by_cases c3 : x6_1 < (l0.length : Int)
      · rw [if_pos c3] at H
        have c3b0 : decide (x6_1 < (l0.length : Int)) = true := decide_eq_true c3
        clear c3
        by_cases c4 : 0 ≤ x6_1
        · rw [if_pos c4] at H
          have c4b0 : decide (0 ≤ x6_1) = true := decide_eq_true c4
          clear c4
          by_cases c5 : ((rd_T62 l0 x6_1).f0).toList = a1.toList
          · rw [if_pos c5] at H
            have c5b0 : (((rd_T62 l0 x6_1).f0).toList == a1.toList) = true := beq_iff_eq.mpr c5
            have c5b1 : (((rd_T62 l0 x6_1).f0).toList != a1.toList) = false := bne_eq_false_iff_eq.mpr c5
            clear c5
            have H' := Aside0.mk H
            clear H
            have p227 : 0 ≤ (x6_1 : Int) := of_decide_eq_true (by first | (with_reducible assumption) | assumption)
            have q227 : x6_1 < (l0.length : Int) := of_decide_eq_true (by first | (with_reducible assumption) | assumption)
            obtain ⟨ad227, e227, hx227_0, hx227_1⟩ := at_T62 HR0.out x6_1 p227 q227
            cases e227
            replace hx227_0 := (HB.out.cell (World.block_lt_of_cell? w _ hx227_0)).trans hx227_0
            replace hx227_1 := (HB.out.cell (World.block_lt_of_cell? w _ hx227_1)).trans hx227_1
            replace p227 := eq_true p227
            replace q227 := eq_true q227
            go_wp2
            go_roundg k1
            case measure => have := HK1.out; omega
            case rel => exact ⟨(x5_1), (wrap64 (x6_1 + 1)), (by first | rfl | (simp; done) | (simp [*]; done)), H', ⟨by have := HK1.out; omega⟩, ⟨by (with_reducible repeat (first | apply Kd.R_alloc | apply Kd.R_drewN | apply Kd.R_drew)); exact HO_5.out⟩, ⟨by repeat (first | (with_reducible first | exact HB.out | apply below_alloc | apply pw_below_drewN | apply below_drew1) | exact HB.out)⟩⟩
          · rw [if_neg c5] at H
            have c5b0 : (((rd_T62 l0 x6_1).f0).toList == a1.toList) = false := beq_eq_false_iff_ne.mpr c5
            have c5b1 : (((rd_T62 l0 x6_1).f0).toList != a1.toList) = true := bne_iff_ne.mpr c5
            by_cases c6 : x5_1.length < 4398046511104
            · rw [if_pos c6] at H
              have LMc6 := Aside0.mk c6
              clear c6
              obtain ⟨y229, hy229⟩ : ∃ y_ : List (S62), y_ = (x5_1 ++ [(⟨(rd_T62 l0 x6_1).f0, (rd_T62 l0 x6_1).f1⟩ : S62)]) := ⟨_, rfl⟩
              replace H : (stanchionref05_Drop.l0 k1 l0 a1 y229 (wrap64 (x6_1 + 1))) = some r := by first | (rw [hy229]; with_reducible exact H) | (have H2_ := (Option.bind_some _ _).symm.trans H; rw [hy229]; with_reducible exact H2_) | (have H2_ := (Option.bind_some _ _).symm.trans H; with_reducible exact H2_) | with_reducible exact H | (rw [hy229]; exact H) | exact H
              have Ny229 := Aside0.mk hy229
              clear hy229
              have H' := Aside0.mk H
              clear H
              have p227 : 0 ≤ (x6_1 : Int) := of_decide_eq_true (by first | (with_reducible assumption) | assumption)
              have q227 : x6_1 < (l0.length : Int) := of_decide_eq_true (by first | (with_reducible assumption) | assumption)
              obtain ⟨ad227, e227, hx227_0, hx227_1⟩ := at_T62 HR0.out x6_1 p227 q227
              cases e227
              replace hx227_0 := (HB.out.cell (World.block_lt_of_cell? w _ hx227_0)).trans hx227_0
              replace hx227_1 := (HB.out.cell (World.block_lt_of_cell? w _ hx227_1)).trans hx227_1
              replace p227 := eq_true p227
              replace q227 := eq_true q227
              have p228 : 0 ≤ (x6_1 : Int) := of_decide_eq_true (by first | (with_reducible assumption) | assumption)
              have q228 : x6_1 < (l0.length : Int) := of_decide_eq_true (by first | (with_reducible assumption) | assumption)
              obtain ⟨ad228, e228, hx228_0, hx228_1⟩ := at_T62 HR0.out x6_1 p228 q228
              obtain rfl : ad227 = ad228 := (by injection e228)
              replace hx228_0 := (HB.out.cell (World.block_lt_of_cell? w _ hx228_0)).trans hx228_0
              replace hx228_1 := (HB.out.cell (World.block_lt_of_cell? w _ hx228_1)).trans hx228_1
              replace p228 := eq_true p228
              replace q228 := eq_true q228
              go_wp2_with (first | ((with_reducible refine gate_builtin (b := .append) (xs := #[.tmp 20, .tmp 25]) rfl ?_); at_builtin; refine Kd.R_append k62 (w0 := w) w.heap.size rfl (.tmp 20) (.tmp 25) 22 62 (.agg #[(.string ⟨#[]⟩), (.string ⟨#[]⟩)]) 32 rfl Try.underlying22 info62 rfl (by decide) (by omega) u5 x5_1 (⟨(rd_T62 l0 x6_1).f0, (rd_T62 l0 x6_1).f1⟩ : S62) [.string ((rd_T62 l0 x6_1).f0), .string ((rd_T62 l0 x6_1).f1)] (fun _ => True) (fun _ => False) rfl rfl ?aP (fun _ hk => hk.elim) ?aF ?aO ?aB ?aS ?aL ?_; (case aP => exact k62_mkM _ _ _ (⟨(rd_T62 l0 x6_1).f0, (rd_T62 l0 x6_1).f1⟩ : S62)); (case aB => exact (by repeat (first | (with_reducible first | exact HB.out | apply below_alloc | apply pw_below_drewN | apply below_drew1) | exact HB.out))); (case aF => exact (fun _ _ => trivial)); (case aO => exact (by (with_reducible repeat (first | apply Kd.R_alloc | apply Kd.R_drewN | apply Kd.R_drew)); exact HO_5.out)); (case aS => exact (below_size (by repeat (first | (with_reducible first | exact HB.out | apply below_alloc | apply pw_below_drewN | apply below_drew1) | exact HB.out)))); (case aL => have := LMc6.out; omega); intro v230 w7 ho hb hg hat; rw [← Ny229.out] at ho; have n0_ := Aside0.mk (hb); have n1_ := Aside0.mk (ho); clear HB; clear HO_5; have HB := n0_; have HO231 := n1_; clear n0_ n1_; clear ho hb hg hat))
              go_roundg k1
              case measure => have := HK1.out; omega
              case rel => exact ⟨(y229), (wrap64 (x6_1 + 1)), (by first | rfl | (simp; done) | (simp [*]; done)), H', ⟨by have := HK1.out; omega⟩, ⟨by (with_reducible repeat (first | apply Kd.R_alloc | apply Kd.R_drewN | apply Kd.R_drew)); exact HO231.out⟩, ⟨by repeat (first | (with_reducible first | exact HB.out | apply below_alloc | apply pw_below_drewN | apply below_drew1) | exact HB.out)⟩⟩
            · rw [if_neg c6] at H
              exact absurd H (by simp)
        · rw [if_neg c4] at H
          exact absurd H (by simp)
      · rw [if_neg c3] at H
        have c3b0 : decide (x6_1 < (l0.length : Int)) = false := decide_eq_false c3
        clear c3
        obtain rfl := Option.some.inj H
        go_wp2
        go_ret
        exact ⟨_, by first | rfl | (simp [errW_none, errW_some] <;> rfl) | (simp [*, errW_none, errW_some] <;> rfl), by (with_reducible repeat (first | apply Kd.R_alloc | apply Kd.R_drewN | apply Kd.R_drew)); exact HO_5.out, by repeat (first | (with_reducible first | exact HB.out | apply below_alloc | apply pw_below_drewN | apply below_drew1) | exact HB.out)⟩

end Go.Proofs.Ytbhkopbalhhpgaa.PM
