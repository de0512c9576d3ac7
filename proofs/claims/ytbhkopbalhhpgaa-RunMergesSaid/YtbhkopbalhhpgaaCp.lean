/- 'copy' between rows of elements of several cells, as a run; the words that a walk takes it by. -/
import Derived.Laws.CopyRow
import Derived.Laws.CopyOwn
import Derived.Deep.RegionLaw
import Derived.Test.YtbhkopbalhhpgaaWWords
namespace Go.Proofs.Ytbhkopbalhhpgaa.Cp
open Go.RowKit Go.Proofs.YtbhkopbalhhpgaaW.PrintWords
variable {P : Program}

theorem run_copy_rowK (w : World) (dT sT ty elem : TypeId) (g o dLen dCap : Nat) (a : Addr) (sLen sCap : Nat) (cur : Array Value) (t : TypeId) (cs : List Value) (k : Nat)
    (hu : P.underlying dT = some (.slice elem)) (hs : (P.info? elem).map (·.size) = some k)
    (hg : w.heap[g]? = some (.cells cur t (0, 0))) (hn : cs.length = Nat.min sLen dLen * k)
    (hsrc : ∀ j v, cs[j]? = some v → w.cell? (a.add j) = some v) (hfit : o + cs.length ≤ cur.size) (h1 : ∀ v ∈ cs, v.oneCell' = true) :
    (Builtin.copy_ #[dT, sT] ty #[.slice (some ⟨g, o, none⟩) dLen dCap, .slice (some a) sLen sCap]).run P w =
      .ok (goInt (Nat.min sLen dLen)) (w.setRow g (cur.toList.take o ++ cs ++ cur.toList.drop (o + cs.length)).toArray) := by
  have hl := run_loadCells_list (P := P) w a cs hsrc
  have hst := run_storeCells_at P g o t cs 0 cur w hg (by simpa using hfit) h1
  cases hq : P.info? elem with
  | none => simp [hq] at hs
  | some i =>
    have hi : i.size = k := by simpa [hq] using hs
    simp [Builtin.copy_, run_underlying hu, Builtin.lenOf, Builtin.firstCells, sizeOf, typeInfo, hq, hi, ← hn, hl, hst]

theorem wp_copy_run (w : World) {o : Oper} {a : Act} {K : Act → World → Prop} {Q : Exit → Act → World → Prop} (d s : Operand) (t t' : TypeId)
    (ho : o.op = .call { callee := .builtin .copy, args := #[d, s], argTypes := #[t, t'] }) (v u : Value) (hd : a.eval d = v) (hs : a.eval s = u) {v' : Value} {w' : World}
    (hr : (Builtin.copy_ #[t, t'] o.type #[v, u]).run P w = .ok v' w') (h : K (a.put o.dst v') w') : o.wp P a w K Q := by
  unfold Oper.wp execOp
  simp only [ho, resolve, invoke, builtin, Sem.run_bind, Sem.run_pure, Result.andThen_ok, List.map_toArray, List.map_cons, List.map_nil, hd, hs, hr]
  exact h
theorem wpList_copy_run (w : World) {ops : Array Oper} {rest : List Oper} {o : Oper} {a : Act} {Q : Exit → Act → World → Prop} (hgd : o.guard = none) (d s : Operand) (t t' : TypeId)
    (ho : o.op = .call { callee := .builtin .copy, args := #[d, s], argTypes := #[t, t'] }) (v u : Value) (hd : a.eval d = v) (hs : a.eval s = u) {v' : Value} {w' : World}
    (hr : (Builtin.copy_ #[t, t'] o.type #[v, u]).run P w = .ok v' w') (h : wpList P ops Q rest (a.put o.dst v') w') : wpList P ops Q (o :: rest) a w :=
  wpList_plain hgd fun _ hK => wp_copy_run w d s t t' ho v u hd hs hr (hK _ _ h)
theorem step_copy_run {ops : Array Oper} {o : Oper} {a : Act} {w : World} {K : Act → World → Prop} {Q : Exit → Act → World → Prop} {E : Prop}
    (hg : o.guard = none) (d x : Operand) (dT sT : TypeId) (hop : o.op = Op.call { callee := Callee.builtin Builtin.copy, args := #[d, x], argTypes := #[dT, sT] })
    (v u : Value) (hd : a.eval d = v) (hx : a.eval x = u) {v' : Value} {w' : World} (hr : (Builtin.copy_ #[dT, sT] o.type #[v, u]).run P w = .ok v' w') (hK : K (a.put o.dst v') w') :
    if Region.wanted o (yielded ops a.tmps) = true then Oper.wp P o a w K Q else E := by
  have hw : Region.wanted o (yielded ops a.tmps) = true := by simp [Region.wanted, hg]
  rw [if_pos hw]
  exact wp_copy_run w d x dT sT hop v u hd hx hr hK
theorem wpList_append_run (w : World) {ops : Array Oper} {rest : List Oper} {o : Oper} {a : Act} {Q : Exit → Act → World → Prop} (hgd : o.guard = none) (d s : Operand) (t t' : TypeId)
    (ho : o.op = .call { callee := .builtin .append, args := #[d, s], argTypes := #[t, t'] }) (v u : Value) (hd : a.eval d = v) (hs : a.eval s = u) {v' : Value} {w' : World}
    (hr : (Builtin.append_ #[t, t'] o.type #[v, u]).run P w = .ok v' w') (h : wpList P ops Q rest (a.put o.dst v') w') : wpList P ops Q (o :: rest) a w :=
  wpList_plain hgd fun _ hK => by
    unfold Oper.wp execOp
    simp only [ho, resolve, invoke, builtin, Sem.run_bind, Sem.run_pure, Result.andThen_ok, List.map_toArray, List.map_cons, List.map_nil, hd, hs, hr]
    exact hK _ _ h

theorem cell_of_blk {w : World} {g : Nat} {cur : Array Value} {t : TypeId} (hg : w.heap[g]? = some (.cells cur t (0, 0))) (j : Nat) : w.cell? ⟨g, j, none⟩ = cur[j]? := by simp [World.cell?, hg]
theorem shape_of_blk {w : World} {g : Nat} {cur : Array Value} {t : TypeId} (hg : w.heap[g]? = some (.cells cur t (0, 0))) : w.shape? g = some (t, cur.size) := by simp [World.shape?, hg]
theorem frozen_of_blk {w : World} {g : Nat} {cur : Array Value} {t : TypeId} (hg : w.heap[g]? = some (.cells cur t (0, 0))) (j : Nat) : w.frozen? ⟨g, j, none⟩ = false := by simp [World.frozen?, hg]

/-- What an insertion leaves, in place: cells of k each. -/
theorem ins_room {α : Type} (cur vs : List α) (i n k : Nat) (hi : i ≤ n) (hv : vs.length = k) (hl : (n + 1) * k ≤ cur.length) (cs cur1 cur2 : List α)
    (h0 : cs = (cur.drop (i * k)).take ((n - i) * k)) (h1 : cur1 = cur.take ((i + 1) * k) ++ cs ++ cur.drop ((i + 1) * k + cs.length)) (h2 : cur2 = cur1.take (i * k) ++ vs ++ cur1.drop (i * k + vs.length)) :
    cs.length = (n - i) * k ∧ cur1.length = cur.length ∧ cur2.length = cur.length ∧ cur2.take ((n + 1) * k) = (cur.take (n * k)).take (i * k) ++ vs ++ (cur.take (n * k)).drop (i * k) := by
  obtain ⟨q, rfl⟩ : ∃ q, n = i + q := ⟨n - i, by omega⟩
  have e1 : (i + 1) * k = i * k + k := by rw [Nat.add_mul, Nat.one_mul]
  have e2 : (i + q + 1) * k = i * k + (k + q * k) := by rw [Nat.add_mul, Nat.add_mul, Nat.one_mul]; omega
  have e3 : (i + q) * k = i * k + q * k := by rw [Nat.add_mul]
  have e4 : (i + q - i) * k = q * k := by rw [Nat.add_sub_cancel_left]
  rw [e2] at hl
  rw [e4] at h0
  rw [e1] at h1
  rw [e4, e2, e3]
  obtain ⟨A, hA⟩ : ∃ A, A = cur.take (i * k) := ⟨_, rfl⟩
  obtain ⟨B, hB⟩ : ∃ B, B = (cur.drop (i * k)).take (q * k) := ⟨_, rfl⟩
  obtain ⟨C, hC⟩ : ∃ C, C = (cur.drop (i * k)).drop (q * k) := ⟨_, rfl⟩
  have hcur : cur = A ++ (B ++ C) := by rw [hA, hB, hC, List.take_append_drop, List.take_append_drop]
  have lA : A.length = i * k := by rw [hA, List.length_take]; omega
  have lB : B.length = q * k := by rw [hB, List.length_take, List.length_drop]; omega
  have lC : k ≤ C.length := by rw [hC, List.length_drop, List.length_drop]; omega
  rw [← hB] at h0
  subst h0
  clear hA hC
  subst hcur
  clear hB
  generalize hZ : (cs ++ C).take k = Z at *
  have lZ : Z.length = k := by rw [← hZ, List.length_take, List.length_append]; omega
  have t1 : (A ++ (cs ++ C)).take (i * k + k) = A ++ Z := by rw [← lA, List.take_append, hZ.symm]; simp [List.take_of_length_le]
  have t2 : (A ++ (cs ++ C)).drop (i * k + k + cs.length) = C.drop k := by
    rw [show i * k + k + cs.length = A.length + (cs.length + k) by omega, List.drop_append]
    rw [List.drop_of_length_le (by omega), Nat.add_sub_cancel_left, List.drop_append, List.drop_of_length_le (by omega), Nat.add_sub_cancel_left]
    rfl
  rw [t1, t2] at h1
  have t3 : cur1.take (i * k) = A := by rw [h1, List.append_assoc, List.append_assoc]; exact List.take_left' lA
  have t4 : cur1.drop (i * k + vs.length) = cs ++ C.drop k := by
    rw [h1, hv, List.append_assoc]
    exact List.drop_left' (by rw [List.length_append, lA, lZ])
  rw [t3, t4] at h2
  have t5 : (A ++ (cs ++ C)).take (i * k + q * k) = A ++ cs := by rw [← List.append_assoc]; exact List.take_left' (by rw [List.length_append, lA, lB])
  refine ⟨lB, by rw [h1]; simp only [List.length_append, List.length_drop]; omega, by rw [h2]; simp only [List.length_append, List.length_drop]; omega, ?_⟩
  rw [t5, List.take_left' lA, List.drop_left' lA, h2, ← List.append_assoc]
  exact List.take_left' (by simp only [List.length_append]; omega)

theorem zero_size (z : Array Value) (k : Nat) : (Builtin.zeroCells z k).size = k * z.size := by
  simp [Builtin.zeroCells]

/-- What an insertion leaves, in a new row. -/
theorem ins_grow {α : Type} (cur vs R : List α) (i n k : Nat) (hi : i ≤ n) (hv : vs.length = k) (hl : n * k ≤ cur.length) (hR : (n + 1) * k ≤ R.length) (hA : R.take (i * k) = cur.take (i * k)) (cs RA RB : List α)
    (h0 : cs = (cur.drop (i * k)).take ((n - i) * k)) (h1 : RA = R.take (i * k) ++ vs ++ R.drop (i * k + vs.length)) (h2 : RB = RA.take ((i + 1) * k) ++ cs ++ RA.drop ((i + 1) * k + cs.length)) :
    cs.length = (n - i) * k ∧ RA.length = R.length ∧ RB.length = R.length ∧ RB.take ((n + 1) * k) = (cur.take (n * k)).take (i * k) ++ vs ++ (cur.take (n * k)).drop (i * k) := by
  obtain ⟨q, rfl⟩ : ∃ q, n = i + q := ⟨n - i, by omega⟩
  have e1 : (i + 1) * k = i * k + k := by rw [Nat.add_mul, Nat.one_mul]
  have e2 : (i + q + 1) * k = i * k + (k + q * k) := by rw [Nat.add_mul, Nat.add_mul, Nat.one_mul]; omega
  have e3 : (i + q) * k = i * k + q * k := by rw [Nat.add_mul]
  have e4 : (i + q - i) * k = q * k := by rw [Nat.add_sub_cancel_left]
  rw [e2] at hR
  rw [e3] at hl
  rw [e4] at h0
  rw [e1] at h2
  rw [e4, e2, e3]
  have lcs : cs.length = q * k := by rw [h0, List.length_take, List.length_drop]; omega
  have lA : (cur.take (i * k)).length = i * k := by rw [List.length_take]; omega
  have l1 : RA.length = R.length := by rw [h1, hA]; simp only [List.length_append, List.length_drop, lA]; omega
  have t1 : RA.take (i * k + k) = cur.take (i * k) ++ vs := by
    rw [h1, hA]
    exact List.take_left' (by rw [List.length_append, lA, hv])
  rw [t1] at h2
  have l2 : RB.length = R.length := by rw [h2]; simp only [List.length_append, List.length_drop, lA]; omega
  have d1 : (cur.take (i * k + q * k)).take (i * k) = cur.take (i * k) := by rw [List.take_take]; congr 1; omega
  have d2 : (cur.take (i * k + q * k)).drop (i * k) = cs := by rw [h0, List.drop_take]; congr 1; omega
  refine ⟨lcs, l1, l2, ?_⟩
  rw [d1, d2, h2]
  exact List.take_left' (by simp only [List.length_append, lA]; omega)

theorem zero_one (z : Array Value) (n : Nat) (h : ∀ v ∈ z.toList, v.oneCell' = true) (h0 : 0 < z.size) : ∀ v ∈ (Builtin.zeroCells z n).toList, v.oneCell' = true := by
  intro v hv
  unfold Builtin.zeroCells at hv
  rw [Array.toList_map, List.mem_map] at hv
  obtain ⟨i, _, rfl⟩ := hv
  have hl : i % z.size < z.size := Nat.mod_lt _ h0
  refine h _ ?_
  simp [hl]
/-- 'clear' of a run of elements of several cells. -/
theorem run_clear_rowK (w : World) (t e ty : TypeId) (Z : Value) (ht : P.underlying t = some (.slice e)) (hv : ∀ w, (zeroValue e).run P w = .ok Z w) (k : Nat) (hk : Z.cells.size = k) (hk0 : 0 < k) (h1 : ∀ v ∈ Z.cells.toList, v.oneCell' = true)
    (g o n c : Nat) (cur : Array Value) (t' : TypeId) (hg : w.heap[g]? = some (.cells cur t' (0, 0))) (hn : 0 < n) (hfit : o + n * k ≤ cur.size) :
    (Builtin.clear_ #[t] ty #[.slice (some ⟨g, o, none⟩) n c]).run P w = .ok (.tuple #[]) (w.setRow g (cur.toList.take o ++ (Builtin.zeroCells Z.cells n).toList ++ cur.toList.drop (o + (Builtin.zeroCells Z.cells n).toList.length)).toArray) := by
  have hz : (Builtin.zeroCells Z.cells n).toList.length = n * k := by rw [Array.length_toList, zero_size, hk]
  have hst := run_storeCells_at P g o t' (Builtin.zeroCells Z.cells n).toList 0 cur w hg (by rw [hz]; simpa using hfit) (zero_one _ _ h1 (by omega))
  simp only [Nat.add_zero] at hst
  obtain ⟨m, rfl⟩ : ∃ m, n = m + 1 := ⟨n - 1, by omega⟩
  simp [Builtin.clear_, run_underlying ht, hv, hst]
end Go.Proofs.Ytbhkopbalhhpgaa.Cp
