-- Made by a program of this workplace out of the translation (wip/tools in the repo). Not trusted: Lean checks it.
import Derived.Test.YtbhkopbalhhpgaaPYx0
import Derived.Test.YtbhkopbalhhpgaaCb
import Derived.Test.YtbhkopbalhhpgaaSq
import Derived.Test.YtbhkopbalhhpgaaSt
import Derived.Test.YtbhkopbalhhpgaaPYx3
import Derived.Test.YtbhkopbalhhpgaaPYx8
namespace Go.Proofs.Ytbhkopbalhhpgaa.PY
open Go.RowKit Go.Proofs.YtbhkopbalhhpgaaW.PrintWords Go.Proofs.YtbhkopbalhhpgaaW.PrintLast Go.Proofs.YtbhkopbalhhpgaaW.PrintMore Go.Proofs.Ytbhkopbalhhpgaa
attribute [local go_sem] max2_int min2_int max_two min_two max_three min_three max_four min_four   -- for this text's walks alone
set_option linter.unusedVariables false
set_option linter.unusedSimpArgs false

open Go.Proofs.Ytbhkopbalhhpgaa.Cp
/-! ### api_File_91: function 91 -/
def flc38 (x : S38) : List Value := [.string x.f0, .string x.f1, .string x.f2]
theorem flc38_len (x : S38) : (flc38 x).length = 3 := rfl
theorem flc38_one (xs : List S38) : ∀ v ∈ xs.flatMap flc38, v.oneCell' = true := by
 intro v hv
 obtain ⟨x, _, hx⟩ := List.mem_flatMap.1 hv
 simp only [flc38, List.mem_cons, List.not_mem_nil, or_false] at hx
 rcases hx with rfl | rfl | rfl <;> rfl
theorem own38 {w : World} {base : Nat} {ok : Nat → Prop} {v : Value} {xs : List S38} (h : Kd.R k38 38 w base ok v xs) : (∀ k, v.ownBlock = some k → ok k) ∧ w.ownsRow base 38 3 v xs.length (xs.flatMap flc38) := R_flat flc38 (fun _ _ h => k38_openM h) h
theorem row38 {w : World} {base : Nat} {ok : Nat → Prop} {v : Value} {xs : List S38} (h0 : ∀ k, v.ownBlock = some k → ok k) (h : w.ownsRow base 38 3 v xs.length (xs.flatMap flc38)) : Kd.R k38 38 w base ok v xs := flat_R flc38 (fun x => k38_mkM _ _ _ x) (fun _ => rfl) h0 h
theorem run_append_rowK_ (w : World) (t ty e : TypeId) (i : TypeInfo) (ht : Try.prog.underlying t = some (.slice e)) (hi : Try.prog.info? e = some i) (g n cap : Nat) (a : Addr) (m c : Nat) (cur : Array Value) (t' : TypeId) (cs : List Value)
  (hg : w.heap[g]? = some (.cells cur t' (0, 0))) (hl : cs.length = m * i.size) (hsrc : ∀ j v, cs[j]? = some v → w.cell? (a.add j) = some v) (hroom : n + m ≤ cap) (hfit : n * i.size + cs.length ≤ cur.size) (h1 : ∀ v ∈ cs, v.oneCell' = true) :
  (Builtin.append_ #[t, t] ty #[.slice (some ⟨g, 0, none⟩) n cap, .slice (some a) m c]).run Try.prog w = .ok (.slice (some ⟨g, 0, none⟩) (n + m) cap) (w.setRow g (cur.toList.take (n * i.size) ++ cs ++ cur.toList.drop (n * i.size + cs.length)).toArray) := by
 have hfc := run_firstCells_some (P := Try.prog) w i.size m a m c cs hl hsrc
 have hst := run_storeCells_at Try.prog g (n * i.size) t' cs 0 cur w hg (by simpa using hfit) h1
 simp only [Nat.add_zero] at hst
 simp [Builtin.append_, run_underlying ht, sizeOf, typeInfo, hi, Builtin.lenOf, hroom, hfc, Addr.add_lit, hst]
theorem step_append_run_ {ops : Array Oper} {o : Oper} {a : Act} {w : World} {K : Act → World → Prop} {Q : Exit → Act → World → Prop} {E : Prop}
  (hg : o.guard = none) (d x : Operand) (dT sT : TypeId) (hop : o.op = Op.call { callee := Callee.builtin Builtin.append, args := #[d, x], argTypes := #[dT, sT] })
  (v u : Value) (hd : a.eval d = v) (hx : a.eval x = u) {v' : Value} {w' : World} (hr : (Builtin.append_ #[dT, sT] o.type #[v, u]).run Try.prog w = .ok v' w') (hK : K (a.put o.dst v') w') :
  if Region.wanted o (yielded ops a.tmps) = true then Oper.wp Try.prog o a w K Q else E := by
 have hw : Region.wanted o (yielded ops a.tmps) = true := by simp [Region.wanted, hg]
 rw [if_pos hw]
 unfold Oper.wp execOp
 simp only [hop, resolve, invoke, builtin, Sem.run_bind, Sem.run_pure, Result.andThen_ok, List.map_toArray, List.map_cons, List.map_nil, hd, hx, hr]
 exact hK
theorem del_row3 {α : Type} (cur zs : List α) (i n : Nat) (hi : i < n) (hl : n * 3 ≤ cur.length) (hz : zs.length = 3) (cs cur1 cur2 : List α)
  (h0 : cs = (cur.drop ((i + 1) * 3)).take ((n - (i + 1)) * 3)) (h1 : cur1 = cur.take (i * 3) ++ cs ++ cur.drop (i * 3 + cs.length)) (h2 : cur2 = cur1.take ((n - 1) * 3) ++ zs ++ cur1.drop ((n - 1) * 3 + zs.length)) :
  cs.length = (n - (i + 1)) * 3 ∧ cur1.length = cur.length ∧ cur2.length = cur.length ∧ cur2.take ((n - 1) * 3) = (cur.take (n * 3)).take (i * 3) ++ (cur.take (n * 3)).drop ((i + 1) * 3) := by
 have lc : cs.length = (n - (i + 1)) * 3 := by rw [h0, List.length_take, List.length_drop]; omega
 have l1 : cur1.length = cur.length := by rw [h1, List.length_append, List.length_append, List.length_take, List.length_drop]; omega
 have l2 : cur2.length = cur.length := by rw [h2, List.length_append, List.length_append, List.length_take, List.length_drop]; omega
 refine ⟨lc, l1, l2, ?_⟩
 rw [h2, List.append_assoc, List.take_left' (by rw [List.length_take]; omega), h1, List.append_assoc, List.take_append, List.take_append]
 rw [List.length_take, List.take_of_length_le (l := cur.take (i * 3)) (by rw [List.length_take]; omega), List.take_of_length_le (l := cs) (by omega)]
 rw [show (n - 1) * 3 - min (i * 3) cur.length - cs.length = 0 by omega, List.take_zero, List.append_nil, List.take_take, show min (i * 3) (n * 3) = i * 3 by omega, h0, List.drop_take]
 congr 2
 omega
set_option maxHeartbeats 8000000 in
set_option maxRecDepth 100000 in
theorem api_File_91_core.calls (g i n c : Nat) (cur : Array Value) (w : World) (hi : i < n) (hnc : n ≤ c) (aC : c ≤ 9223372036854775807) (hcur : cur.size = c * 3)
  (hg : w.heap[g]? = some (.cells cur 38 (0, 0))) (aA : ∀ v ∈ cur.toList.take (n * 3), v.oneCell' = true) :
  Calls Try.prog 91 #[.slice (some ⟨g, 0, none⟩) n c, .int .i64 i, .int .i64 ((i : Int) + 1)] w fun e w' => ∃ cur2 : List Value,
   e = .returned (.slice (some ⟨g, 0, none⟩) (n - 1) c) ∧ w' = w.drew.setRow g cur2.toArray ∧ cur2.length = cur.size ∧ cur2.take ((n - 1) * 3) = (cur.toList.take (n * 3)).take (i * 3) ++ (cur.toList.take (n * 3)).drop ((i + 1) * 3) := by
 have aD := Try.underlying38
 obtain ⟨i0, aB, aE, hzs, hzb⟩ := info_parts info38
 obtain ⟨cs, hcs⟩ : ∃ cs, cs = (cur.toList.drop ((i + 1) * 3)).take ((n - (i + 1)) * 3) := ⟨_, rfl⟩
 obtain ⟨cur1, hcur1⟩ : ∃ cur1, cur1 = cur.toList.take (i * 3) ++ cs ++ cur.toList.drop (i * 3 + cs.length) := ⟨_, rfl⟩
 obtain ⟨zs, hzs2⟩ : ∃ zs, zs = (Builtin.zeroCells (((.agg #[(.string ⟨#[]⟩), (.string ⟨#[]⟩), (.string ⟨#[]⟩)]) : Value)).cells 1).toList := ⟨_, rfl⟩
 have hzl : zs.length = 3 := by rw [hzs2, Array.length_toList, zero_size]; rfl
 obtain ⟨cur2, hcur2⟩ : ∃ cur2, cur2 = cur1.take ((n - 1) * 3) ++ zs ++ cur1.drop ((n - 1) * 3 + zs.length) := ⟨_, rfl⟩
 have lt : cur.toList.length = cur.size := Array.length_toList
 obtain ⟨lcs, l1, l2, hdel⟩ := del_row3 cur.toList zs i n hi (by rw [lt]; omega) hzl cs cur1 cur2 hcs hcur1 hcur2
 have l1 : cur1.length = cur.size := l1.trans lt
 have l2 : cur2.length = cur.size := l2.trans lt
 have hap : ∀ (ty : TypeId) (a : Addr) (c2 : Nat), (n = i + 1 ∨ a = ⟨g, (i + 1) * 3, none⟩) → (Builtin.append_ #[31, 31] ty #[.slice (some ⟨g, 0, none⟩) i c, .slice (some a) (n - (i + 1)) c2]).run Try.prog w.drew = .ok (.slice (some ⟨g, 0, none⟩) (n - 1) c) (w.drew.setRow g cur1.toArray) := fun ty a c2 ha => by
  have h := run_append_rowK_ w.drew 31 ty 38 i0 Try.underlying31 aB g i c a (n - (i + 1)) c2 cur 38 cs hg (by rw [hzs]; exact lcs)
   (fun j v hj => by
    rcases ha with ha | ha
    ·have : cs = [] := List.eq_nil_of_length_eq_zero (by omega)
     rw [this] at hj
     simp at hj
    ·subst ha
     rw [Addr.add_lit]
     show w.cell? _ = _
     rw [Cp.cell_of_blk hg, ← Array.getElem?_toList]
     rw [hcs, List.getElem?_take] at hj
     split at hj
     ·rw [List.getElem?_drop] at hj; exact hj
     ·cases hj) (by omega) (by rw [hzs]; omega)
   (fun v hv => aA v (by
    rw [hcs] at hv
    have h2 : (cur.toList.drop ((i + 1) * 3)).take ((n - (i + 1)) * 3) = (cur.toList.take (n * 3)).drop ((i + 1) * 3) := by rw [List.drop_take]; congr 1; omega
    rw [h2] at hv
    exact List.mem_of_mem_drop hv))
  rw [hzs, ← hcur1, show i + (n - (i + 1)) = n - 1 by omega] at h
  exact h
 have hcl : ∀ (ty : TypeId) (c2 : Nat), (Builtin.clear_ #[31] ty #[.slice (some ⟨g, (n - 1) * 3, none⟩) 1 c2]).run Try.prog (w.drew.setRow g cur1.toArray) = .ok (.tuple #[]) (w.drew.setRow g cur2.toArray) := fun ty c2 => by
  have h := Cp.run_clear_rowK (P := Try.prog) (w.drew.setRow g cur1.toArray) 31 38 ty (.agg #[(.string ⟨#[]⟩), (.string ⟨#[]⟩), (.string ⟨#[]⟩)]) Try.underlying31 Try.zeroValue38 3 rfl (by decide) (by intro v hv; simp only [Value.cells, List.mem_cons, List.not_mem_nil, or_false] at hv; rcases hv with rfl | rfl | rfl <;> rfl) g ((n - 1) * 3) 1 c2 cur1.toArray 38 (setRow_heap w.drew g cur _ 38 _ hg) (by omega) (by rw [List.size_toArray, l1]; omega)
  rw [← hzs2, setRow_setRow, List.toList_toArray, ← hcur2] at h
  exact h
 have aF : ((i : Int) == (i : Int) + 1) = false := by simp; omega
 have aG : (0 : Int) ≤ (i : Int) := by omega
 have aH : (i : Int) ≤ (i : Int) + 1 := by omega
 have aI : (i : Int) + 1 ≤ (n : Int) := by omega
 have aJ : (n : Int) ≤ (c : Int) := by omega
 have aK : (0 : Int) ≤ (i : Int) + 1 := by omega
 have aL : (i : Int) ≤ (c : Int) := by omega
 have aM : ((n - 1 : Nat) : Int) ≤ (n : Int) := by omega
 have aN : ¬ (c = n - 1) := by omega
 have aO : ¬ (c = 0) := by omega
 have aP : ¬ (n = i) := by omega
 have hba : (i : Int) ≤ (n : Int) := by omega
 have hbb : n - (n - 1) = 1 := by omega
 have htn : ((i : Int) + 1).toNat = i + 1 := by omega
 have X1 := ak hdel
 have X2 := ak l2
 have X3 := ak hap
 have X4 := ak hcl
 clear hcs hcur1 hcur2 hzs2 hzl lcs l1 l2 hdel lt aE hzs hzb aB aA hcur hap hcl
 by_cases hbc : c = i + 1
 ·obtain rfl : n = i + 1 := by omega
  subst hbc
  have hcw := X4.out 0 1
  rw [Nat.add_sub_cancel] at hcw
  have X5 : Aside0 (∀ ty, (Builtin.append_ #[31, 31] ty #[.slice (some ⟨g, 0, none⟩) i (i + 1), .slice (some ⟨g, 0, none⟩) 0 0]).run Try.prog w.drew = .ok (.slice (some ⟨g, 0, none⟩) i (i + 1)) (w.drew.setRow g cur1.toArray)) := ⟨fun ty => by
   have h := X3.out ty ⟨g, 0, none⟩ 0 (.inl rfl)
   rw [Nat.sub_self, Nat.add_sub_cancel] at h
   exact h⟩
  go_enter Try.func91, Try.ntmps91
  go_wp2
  go_region_law (refine step_append_run_ rfl _ _ 31 31 rfl (.slice (some ⟨g, 0, none⟩) i (i + 1)) (.slice (some ⟨g, 0, none⟩) 0 0) (by simp [Act.eval, Act.put]) (by simp [Act.eval, Act.put]) (X5.out _) ?_)
  go_wp2_with (simp only [hcw])
  go_ret
  exact ⟨cur2, rfl, rfl, X2.out, X1.out⟩
 ·have hcw := X4.out 0 (c - (n - 1))
  go_enter Try.func91, Try.ntmps91
  go_wp2
  go_region_law (refine step_append_run_ rfl _ _ 31 31 rfl (.slice (some ⟨g, 0, none⟩) i c) (.slice (some ⟨g, (i + 1) * 3, none⟩) (n - (i + 1)) (c - (i + 1))) (by simp [Act.eval, Act.put]) (by simp [Act.eval, Act.put]) (X3.out _ _ _ (.inr rfl)) ?_)
  go_wp2_with (simp only [hcw])
  go_ret
  exact ⟨cur2, rfl, rfl, X2.out, X1.out⟩
theorem kept_setRow2_ {W : World} (g : Nat) (cs : Array Value) {u : Value} (hu : u.ownBlock = some g) {S : Nat → Prop} (h : ∀ k, u.ownBlock = some k → S k) : Kept W (W.drew.setRow g cs) S := ⟨by simp, fun i _ hn => (setRow_other W.drew g i cs (fun e => hn (h i (by rw [hu, e])))).trans rfl⟩
theorem api_File_91.calls (P0_ : Nat → Prop) (u9000_ : Value) (l0 : List (S38)) (a1 a2 : Int) (r : List S38) (w0 w : World) (hB : Below w0.heap.size w0 w) (ho0 : Kd.R k38 38 w w0.heap.size P0_ u9000_ l0) (h : api_File_91.f l0 a1 a2 = some r) :
  Calls Try.prog 91 #[u9000_, .int .i64 a1, .int .i64 a2] w fun e w' => ∃ v0_ : Value, e = .returned (v0_) ∧ Kd.R k38 38 w' w0.heap.size (fun k_ => (P0_ k_ ∨ w.heap.size ≤ k_)) v0_ r ∧ Below w0.heap.size w0 w' ∧ Kept w w' (fun k_ => P0_ k_) := by
 unfold api_File_91.f at h
 split at h
 case isFalse => cases h
 split at h
 case isFalse => cases h
 split at h
 case isFalse => cases h
 rename_i h0 h1 h2
 obtain rfl := Option.some.inj h
 obtain ⟨i, rfl⟩ : ∃ i : Nat, a1 = (i : Int) := ⟨a1.toNat, by omega⟩
 subst h2
 have hi : i < l0.length := by omega
 obtain ⟨hok, _, h3⟩ := own38 ho0
 rcases h3 with ⟨_, hz⟩ | ⟨g, c, cur, rfl, hg, hh, hnc, hcm, hcs, htk⟩
 ·omega
 have hcm' : c ≤ 9223372036854775807 := by unfold maxLen at hcm; omega
 have h1c : ∀ v ∈ cur.toList.take (l0.length * 3), v.oneCell' = true := by rw [htk]; exact flc38_one l0
 refine (api_File_91_core.calls g i l0.length c cur w hi hnc hcm' hcs hh h1c).mono ?_
 rintro e w' ⟨cur2, rfl, rfl, hl2, ht2⟩
 have hlen : (l0.eraseIdx i).length = l0.length - 1 := by rw [List.length_eraseIdx_of_lt hi]
 rw [Int.toNat_natCast]
 refine ⟨_, rfl, row38 (fun k hk => .inl (hok k hk)) ⟨flat_len flc38 flc38_len _, .inr ⟨g, c, cur2.toArray, by rw [hlen], hg, setRow_heap w.drew g cur _ 38 _ hh, by rw [hlen]; omega, hcm, by rw [List.size_toArray, hl2, hcs], ?_⟩⟩, hB.trans (below_setRow (Below.drew (Below.refl _ _)) hg _), kept_setRow2_ g _ rfl hok⟩
 rw [hlen, List.toList_toArray, ht2, htk, List.eraseIdx_eq_take_drop_succ, List.flatMap_append, flat_take flc38 flc38_len, flat_drop flc38 flc38_len]

/-! ### disk_without: function 66 -/
def disk_without.T1 : Bool × List (List Nat × List Nat) := (true, [([], []), ([0], [0]), ([], []), ([2], [2]), ([], []), ([3, 4], [3, 4]), ([5], [5]), ([6], [6]), ([1, 7], [1, 7]), ([0, 1, 2, 3, 4, 5, 6, 7, 8], []), ([9, 8, 7, 0, 1, 2, 3, 4, 5, 6, 7, 8], [8, 9])])
def disk_without.B1 : List Nat := [0, 1, 0, 4, 0, 28, 60, 124, 255, 511, 1023]
theorem disk_without.tab1 : rtab .any (opsOf Try.f66 1) = disk_without.T1 := by kernel_rfl
theorem disk_without.bits1 : waitsOk disk_without.T1.2 disk_without.B1 = true := by kernel_rfl
set_option maxHeartbeats 8000000 in
set_option maxRecDepth 100000 in
theorem disk_without.calls (a7 : Option Addr) (aX : Nat) (aB : List (S38)) (aE : Int) (aK : Int) (aL : Bool) (a1 : Int) (r1 : List (S38)) (r2 : Int) (r3 : Int) (r4 : Bool) (w : World) (a4 : Kd.C k38 w a7 aB.length aB) (a5 : aB.length ≤ aX) (h : disk_without.f aB aE aK aL a1 = some (r1, r2, r3, r4)) :
  Calls Try.prog 66 #[.agg #[.slice a7 aB.length aX, .int .i64 aE, .int .i64 aK, .bool aL], .int .i64 a1] w fun e w' => ∃ v0_ : Value, e = .returned (.agg #[v0_, .int .i64 r2, .int .i64 r3, .bool r4]) ∧ Kd.R k38 38 w' w.heap.size (fun _ => True) v0_ r1 ∧ Below w.heap.size w w' := by
 have cF := Try.underlying33
 have cG := Try.underlying38
 have a6 := ak a4
 have bC := ak a5
 clear a4 a5
 have HB := ak (Below.refl w.heap.size w)
 have H : (if 0 ≤ a1 then (if a1 < (aB.length : Int) then ((disk_size.f ((rd_T38 aB a1).f0) ((rd_T38 aB a1).f1) ((rd_T38 aB a1).f2)).bind fun aT => ((api_File_69.f aB).bind fun aU => ((api_File_91.f aU a1 (wrap64 (a1 + 1))).bind fun aP => (some (aP, wrap64 (aE + aT), aK, aL))))) else (none)) else (none)) = some (r1, r2, r3, r4) := h
 clear h
 have c3 : 0 ≤ a1 := Decidable.byContradiction fun q => by rw [if_neg q] at H; exact absurd H (by simp)
 rw [if_pos c3] at H
 have cH : decide (0 ≤ a1) = true := decide_eq_true c3
 clear c3
 have c4 : a1 < (aB.length : Int) := Decidable.byContradiction fun q => by rw [if_neg q] at H; exact absurd H (by simp)
 rw [if_pos c4] at H
 have cI : decide (a1 < (aB.length : Int)) = true := decide_eq_true c4
 clear c4
 replace H := Option.bind_eq_some_iff.mp H
 obtain ⟨aT, b7, H⟩ := H
 replace H : ((api_File_69.f aB).bind fun aU => ((api_File_91.f aU a1 (wrap64 (a1 + 1))).bind fun aP => (some (aP, wrap64 (aE + aT), aK, aL)))) = some (r1, r2, r3, r4) := H
 have A5 := ak b7
 clear b7
 replace H := Option.bind_eq_some_iff.mp H
 obtain ⟨aU, b8, H⟩ := H
 replace H : ((api_File_91.f aU a1 (wrap64 (a1 + 1))).bind fun aP => (some (aP, wrap64 (aE + aT), aK, aL))) = some (r1, r2, r3, r4) := H
 have A6 := ak b8
 clear b8
 replace H := Option.bind_eq_some_iff.mp H
 obtain ⟨aP, b9, H⟩ := H
 replace H : (some (aP, wrap64 (aE + aT), aK, aL)) = some (r1, r2, r3, r4) := H
 have A7 := ak b9
 clear b9
 simp only [Option.some.injEq, Prod.mk.injEq] at H
 obtain ⟨rfl, rfl, rfl, rfl⟩ := H
 go_enter Try.func66, Try.ntmps66
 try go_wp2_with (first | ((with_reducible refine gate_dst (N := 2) rfl ?_); refine box_event ?hg (N := 2) ?hd (cs := #[.slice a7 aB.length aX, .int .i64 aE, .int .i64 aK, .bool aL]) (t := 33) ?hr ?_; (case hd => rfl); (case hg => rfl); (case hr => first | (go_simp; done) | (go_simp; rfl)); intro aN hg w8 hbox hb; obtain ⟨n_, aF⟩ := Cb.bx (pB HB.out) hg hb; have cA := aF; have aA := ak (hbox); replace HB := n_; clear n_; clear hb hbox hg) | ((with_reducible refine gate_dst (N := 4) rfl ?_); refine box_event ?hg (N := 4) ?hd (cs := #[.slice none 0 0, .int .i64 0, .int .i64 0, .bool false]) (t := 33) ?hr ?_; (case hd => rfl); (case hg => rfl); (case hr => first | (go_simp; done) | (go_simp; rfl)); intro aV hg w9 hbox hb; obtain ⟨n_, aO⟩ := Cb.bx (by repeat (first | (with_reducible first | exact HB.out | apply ba | apply bn | apply bd | refine bs ?_ aF.out) | exact HB.out)) hg hb; have cB := aO; obtain ⟨aM, aD⟩ := Cb.nb hg aA.out; have aC := ak (hbox); replace aA := ak (blk_below aA.out hb); replace HB := n_; clear n_; clear hb hbox hg))
 replace aA := ak (blk_drew aA.out)
 replace aC := ak (blk_drew aC.out)
 replace HB := ak (below_drew1 HB.out)
 have a8 : 0 ≤ (a1 : Int) := of_decide_eq_true (by first | (with_reducible assumption) | assumption)
 have a9 : a1 < (aB.length : Int) := of_decide_eq_true (by first | (with_reducible assumption) | assumption)
 obtain ⟨aG, b4, aH, aI, aJ⟩ := at_T38 a6.out a1 a8 a9
 have aQ := aJ
 have aR := aI
 have aS := aH
 cases b4
 replace aH := (HB.out.cell (World.block_lt_of_cell? w _ aH)).trans aH
 replace aI := (HB.out.cell (World.block_lt_of_cell? w _ aI)).trans aI
 replace aJ := (HB.out.cell (World.block_lt_of_cell? w _ aJ)).trans aJ
 replace a8 := eq_true a8
 replace a9 := eq_true a9
 refine start_ (n := 11) (S := fun w' => w'.cell? ⟨aN, 0, none⟩ = some (.slice (some aG) aB.length aX) ∧ w'.cell? ⟨aN, 1, none⟩ = some (.int .i64 aE) ∧ w'.cell? ⟨aN, 2, none⟩ = some (.int .i64 aK) ∧ w'.cell? ⟨aN, 3, none⟩ = some (.bool aL) ∧ w'.cell? (aG.add ((a1).toNat * 3)) = some (.string ((rd_T38 aB a1).f0)) ∧ w'.cell? ⟨(aG.add ((a1).toNat * 3)).block, (aG.add ((a1).toNat * 3)).off + 1, none⟩ = some (.string ((rd_T38 aB a1).f1)) ∧ w'.cell? ⟨(aG.add ((a1).toNat * 3)).block, (aG.add ((a1).toNat * 3)).off + 2, none⟩ = some (.string ((rd_T38 aB a1).f2))) (ds := [10]) #[false, false, false, false, false, false, false, false, false, false, false] (by kernel_rfl) rfl rfl ⟨(blk_cell aA.out 0).trans rfl, (blk_cell aA.out 1).trans rfl, (blk_cell aA.out 2).trans rfl, (blk_cell aA.out 3).trans rfl, ((HB.out.cell (World.block_lt_of_cell? w _ aS)).trans aS), ((HB.out.cell (World.block_lt_of_cell? w _ aR)).trans aR), ((HB.out.cell (World.block_lt_of_cell? w _ aQ)).trans aQ)⟩ (fun hHeld => ?_); refine with_tabW disk_without.tab1 disk_without.bits1 (fun HT_ HW_ => ?_)
 generalize w9.drew = w10 at aA aC HB aH aI aJ hHeld ⊢
 refine pure_ (i := 0) (N := some 5) (v := ?_) (a' := ?_) #[true, false, false, false, false, false, false, false, false, false, false] rfl rfl (any_of HT_.out (by kernel_rfl)) (fun _ _ _ h => h) (Or.inl ⟨by rfl, ?_⟩) ?_ ?_
 rotate_left
 ·intro w'
  go_simp
  with_reducible rfl
 rotate_left
 ·simp only [Act.put, List.setIfInBounds_toArray, List.set_cons_zero, List.set_cons_succ, i64_w, i32_w]
  rfl
 refine pure_ (i := 2) (N := some 7) (v := ?_) (a' := ?_) #[true, false, true, false, false, false, false, false, false, false, false] rfl rfl (any_of HT_.out (by kernel_rfl)) (fun _ _ _ h => h) (Or.inl ⟨by rfl, ?_⟩) ?_ ?_
 rotate_left
 ·intro w'
  go_simp
  with_reducible rfl
 rotate_left
 ·simp only [Act.put, List.setIfInBounds_toArray, List.set_cons_zero, List.set_cons_succ, i64_w, i32_w]
  rfl
 refine pure_ (i := 4) (N := some 9) (v := ?_) (a' := ?_) #[true, false, true, false, true, false, false, false, false, false, false] rfl rfl (any_of HT_.out (by kernel_rfl)) (fun _ _ _ h => h) (Or.inl ⟨by rfl, ?_⟩) ?_ ?_
 rotate_left
 ·intro w'
  go_simp
  with_reducible rfl
 rotate_left
 ·simp only [Act.put, List.setIfInBounds_toArray, List.set_cons_zero, List.set_cons_succ, i64_w, i32_w]
  rfl
 refine take_ (i := 1) (N := some 6) (v := ?_) (a' := ?_) #[true, true, true, false, true, false, false, false, false, false, false] rfl rfl (take_ofW HT_.out HW_.out (by kernel_rfl)) (fun _ _ _ h => h) (Or.inl ⟨by rfl, ?_⟩) hHeld ?_ ?_
 rotate_left
 ·rintro w' ⟨s0, s1, s2, s3, s4, s5, s6⟩
  go_simp
  with_reducible rfl
 rotate_left
 ·simp only [Act.put, List.setIfInBounds_toArray, List.set_cons_zero, List.set_cons_succ, i64_w, i32_w]
  rfl
 refine take_ (i := 3) (N := some 8) (v := ?_) (a' := ?_) #[true, true, true, true, true, false, false, false, false, false, false] rfl rfl (take_ofW HT_.out HW_.out (by kernel_rfl)) (fun _ _ _ h => h) (Or.inl ⟨by rfl, ?_⟩) hHeld ?_ ?_
 rotate_left
 ·rintro w' ⟨s0, s1, s2, s3, s4, s5, s6⟩
  go_simp
  with_reducible rfl
 rotate_left
 ·simp only [Act.put, List.setIfInBounds_toArray, List.set_cons_zero, List.set_cons_succ, i64_w, i32_w]
  rfl
 refine pure_ (i := 5) (N := some 10) (v := ?_) (a' := ?_) #[true, true, true, true, true, true, false, false, false, false, false] rfl rfl (any_of HT_.out (by kernel_rfl)) (fun _ _ _ h => h) (Or.inl ⟨by rfl, ?_⟩) ?_ ?_
 rotate_left
 ·intro w'
  go_simp
  with_reducible rfl
 rotate_left
 ·simp only [Act.put, List.setIfInBounds_toArray, List.set_cons_zero, List.set_cons_succ, i64_w, i32_w]
  rfl
 refine take_ (i := 6) (N := some 11) (v := ?_) (a' := ?_) #[true, true, true, true, true, true, true, false, false, false, false] rfl rfl (take_ofW HT_.out HW_.out (by kernel_rfl)) (fun _ _ _ h => h) (Or.inl ⟨by rfl, ?_⟩) hHeld ?_ ?_
 rotate_left
 ·rintro w' ⟨s0, s1, s2, s3, s4, s5, s6⟩
  go_simp
  with_reducible rfl
 rotate_left
 ·simp only [Act.put, List.setIfInBounds_toArray, List.set_cons_zero, List.set_cons_succ, i64_w, i32_w]
  rfl
 refine one_ (i := 7) (N := some 12) #[true, true, true, true, true, true, true, true, false, false, false] rfl rfl (one_of HT_.out (by kernel_rfl)) (by decide) (fun K hK => ?_)
 refine goes_ Try.func68 (by kernel_rfl) rfl #[.agg #[.string ((rd_T38 aB a1).f0), .string ((rd_T38 aB a1).f1), .string ((rd_T38 aB a1).f2)]] (by rfl) rfl rfl (by (try simp only [List.map_toArray, List.map_cons, List.map_nil]); first | done | rfl | (simp only [List.length_drop, List.length_take]; rfl)) ?_
 with_reducible refine (disk_size.calls ((rd_T38 aB a1).f0) ((rd_T38 aB a1).f1) ((rd_T38 aB a1).f2) aT _ A5.out).mono ?_
 rintro e cJ ⟨rfl, hb⟩
 refine ⟨_, rfl, ?_⟩
 replace aA := ak (blk_below aA.out hb)
 replace aC := ak (blk_below aC.out hb)
 replace HB := ak (below_step (by repeat (first | (with_reducible first | exact HB.out | apply ba | apply bn | apply bd | refine bs ?_ aF.out | refine bs ?_ aO.out) | exact HB.out)) hb)
 (try clear hb)
 (try clear hb2)
 (try clear hk)
 (try clear hi)
 refine hK.out _ _ ⟨(blk_cell aA.out 0).trans rfl, (blk_cell aA.out 1).trans rfl, (blk_cell aA.out 2).trans rfl, (blk_cell aA.out 3).trans rfl, ((HB.out.cell (World.block_lt_of_cell? w _ aS)).trans aS), ((HB.out.cell (World.block_lt_of_cell? w _ aR)).trans aR), ((HB.out.cell (World.block_lt_of_cell? w _ aQ)).trans aQ)⟩ (fun hHeld => ?_)
 clear hK K
 refine norm_ (a' := ?_) ?_ ?_
 rotate_left
 ·show Act.put _ (some 12) _ = _
  simp only [Act.put, List.setIfInBounds_toArray, List.set_cons_zero, List.set_cons_succ, i64_w, i32_w]
  rfl
 refine pure_ (i := 8) (N := some 13) (v := ?_) (a' := ?_) #[true, true, true, true, true, true, true, true, true, false, false] rfl rfl (any_of HT_.out (by kernel_rfl)) (fun _ _ _ h => h) (Or.inl ⟨by rfl, ?_⟩) ?_ ?_
 rotate_left
 ·intro w'
  go_simp
  with_reducible rfl
 rotate_left
 ·simp only [Act.put, List.setIfInBounds_toArray, List.set_cons_zero, List.set_cons_succ, i64_w, i32_w]
  rfl
 refine pure_ (i := 9) (N := some 14) (v := ?_) (a' := ?_) #[true, true, true, true, true, true, true, true, true, true, false] rfl rfl (any_of HT_.out (by kernel_rfl)) (fun _ _ _ h => h) (Or.inl ⟨by rfl, ?_⟩) ?_ ?_
 rotate_left
 ·intro w'
  go_simp
  with_reducible rfl
 rotate_left
 ·simp only [Act.put, List.setIfInBounds_toArray, List.set_cons_zero, List.set_cons_succ, i64_w, i32_w]
  rfl
 refine last_ (i := 10) (N := none) #[true, true, true, true, true, true, true, true, true, true, true] rfl rfl (one_of HT_.out (by kernel_rfl)) (by decide) (fun K hK => ?_)
 have cK : cJ.cell? ⟨aN, 1, none⟩ = some (.int .i64 aE) := (blk_cell aA.out 1).trans rfl
 have cC := blk_frozen aA.out 1
 have bE := aD.out
 have bF := aM.out
 refine skip_ (w1 := ?_) (by rfl) rfl ?_ ?_
 rotate_left
 ·go_simp
  rfl
 refine hK.out _ _ ?_
 clear hK K
 refine done_ (done_of HT_.out (by kernel_rfl)) ?_
 have cD := aM.out
 have cE := aD.out
 obtain ⟨bG, bH, bI, bJ⟩ := Cb.c4 aA.out
 obtain ⟨bK, bL, bM, bN⟩ := Cb.f4 aA.out
 try go_wp2_with (first | ((with_reducible refine gate_callee (f := 69) rfl ?_); refine goesL_ (some 17) rfl rfl Try.func69 (by kernel_rfl) rfl #[.slice (some aG) aB.length aX] rfl (by (try simp only [List.map_toArray, List.map_cons, List.map_nil]); first | done | rfl | (simp only [List.length_drop, List.length_take]; rfl)) ?_; (with_reducible refine (api_File_69.calls _ _ aB aU _ ?side1 ?side2 A6.out).mono ?_); (case side1 => exact Kd.C_below a6.out (by repeat (first | (with_reducible first | exact HB.out | apply ba | apply bn | apply bd | refine bs ?_ aF.out | refine bs ?_ aO.out) | exact HB.out))); (case side2 => exact bC.out); rintro e cP ⟨cL, rfl, bD, hb⟩; refine ⟨_, rfl, ?_⟩; have aW := ak (Kd.R_lower bD (below_size (by repeat (first | (with_reducible first | exact HB.out | apply ba | apply bn | apply bd | refine bs ?_ aF.out | refine bs ?_ aO.out) | exact HB.out)))); replace aA := ak (blk_below (g := aN) (o := .cells #[.slice (some aG) aB.length aX, .int .i64 (wrap64 (aE + aT)), .int .i64 aK, .bool aL] 33 (0, 0)) (by (with_reducible repeat (first | refine blk_drewN ?_ _ | refine blk_drew ?_ | refine blk_alloc ?_ _)); exact blk_put (pk aA.out) 1 _ rfl) hb); replace aC := ak (blk_below (g := aV) (o := .cells #[.slice none 0 0, .int .i64 0, .int .i64 0, .bool false] 33 (0, 0)) (by (with_reducible repeat (first | refine blk_drewN ?_ _ | refine blk_drew ?_ | refine blk_alloc ?_ _)); exact blk_far (pk aC.out) aD.out _) hb); replace HB := ak (below_step (by repeat (first | (with_reducible first | exact HB.out | apply ba | apply bn | apply bd | refine bs ?_ aF.out | refine bs ?_ aO.out) | exact HB.out)) hb); (try clear hb); (try clear hb2); (try clear hk); (try clear hi); (try clear bD); obtain ⟨bA, bB, b5⟩ := Kd.R_slice aW.out; subst b5) | ((with_reducible refine gate_callee (f := 91) rfl ?_); refine goesL_ (some 21) rfl rfl Try.func91 (by kernel_rfl) rfl #[.slice bA aU.length bB, .int .i64 a1, .int .i64 (wrap64 (a1 + 1))] rfl (by (try simp only [List.map_toArray, List.map_cons, List.map_nil]); first | done | rfl | (simp only [List.length_drop, List.length_take]; rfl)) ?_; (with_reducible refine (api_File_91.calls (fun k_ => some k_ = (.slice bA aU.length bB : Value).ownBlock) (.slice bA aU.length bB) aU a1 (wrap64 (a1 + 1)) aP w _ ?side1 ?side2 A7.out).mono ?_); (case side1 => repeat (first | (with_reducible first | exact HB.out | apply ba | apply bn | apply bd | refine bs ?_ aF.out | refine bs ?_ aO.out) | exact HB.out)); (case side2 => exact Kd.R_tight rfl aW.out); rintro e cM ⟨cN, rfl, bD, hb, hkp⟩; refine ⟨_, rfl, ?_⟩; have n0_ := ak (blk_kept (pk aA.out) hkp (fun hs_ => (fun e_ => (Kd.R_ne aW.out aA.out (by decide)) e_) hs_)); have n1_ := ak (blk_kept (pk aC.out) hkp (fun hs_ => (fun e_ => (Kd.R_ne aW.out aC.out (by decide)) e_) hs_)); have n2_ := ak (Kd.R_mono (ok' := fun k_ => True) bD (fun k_ hk_ => trivial)); have n3_ := ak (hb); clear aA; clear aC; clear HB; clear aW; have aA := n0_; have aC := n1_; have aY := n2_; have HB := n3_; clear n0_ n1_ n2_ n3_; (try clear hb); (try clear hkp); (try clear bD); obtain ⟨aZ, a3, b6⟩ := Kd.R_slice aY.out; subst b6; obtain ⟨bO, bP, bQ, bR⟩ := Cb.c4 aA.out; obtain ⟨bS, bT, bU, bV⟩ := Cb.f4 aA.out; obtain ⟨bW, bX, bY, bZ⟩ := Cb.c4 aC.out; obtain ⟨b0, b1, b2, b3⟩ := Cb.f4 aC.out) | ((with_reducible refine gate_store (t := 33) (p := 4) rfl ?_); refine store_event (t := 33) (p := 4) (v := ?vo_w21) (w1 := (((((cM.setCell ⟨aN, 0, none⟩ (.slice aZ aP.length a3)).setCell ⟨aV, 0, none⟩ (.slice aZ aP.length a3)).setCell ⟨aV, 1, none⟩ (.int .i64 (wrap64 (aE + aT)))).setCell ⟨aV, 2, none⟩ (.int .i64 aK)).setCell ⟨aV, 3, none⟩ (.bool aL))) ?hg ?ho ?hn ?hr ?_; (case ho => rfl); (case hg => rfl); (case hn => rfl); (case hr => first | (go_simp; done) | (go_simp; rfl)); intro cO hw; replace aY := rg4 (ok' := fun _ => True) hw (rf1 rfl (Kd.R_types (Kd.R_types aY.out aA.out (by decide)) aC.out (by decide)) fun _ hk => hk.1.2).out (fun _ hk => hk.2) fun _ hk => trivial; replace aA : Aside0 (cO.heap[aN]? = some (.cells #[.slice aZ aP.length a3, .int .i64 (wrap64 (aE + aT)), .int .i64 aK, .bool aL] 33 (0, 0))) := bf4 hw aM.out (blk_put aA.out 0 _ rfl); replace aC := bp4 hw (bf1 rfl aD.out aC.out).out; replace HB := bw4 hw (bw1 rfl HB.out aF.out).out aO.out; clear hw))
 refine bodyPost_ret (results_cell_row rfl _ _ aV 33 #[.slice aZ aP.length a3, .int .i64 (wrap64 (aE + aT)), .int .i64 aK, .bool aL] (0, 0) _ rfl (pk aC.out) Try.underlying33 rfl (by kernel_rfl)) rfl ?_
 exact ⟨_, by first | rfl | (simp [errW_none, errW_some] <;> rfl) | (simp [*, errW_none, errW_some] <;> rfl), pR aY.out, by repeat (first | (with_reducible first | exact HB.out | apply ba | apply bn | apply bd | refine bs ?_ aF.out | refine bs ?_ aO.out) | exact HB.out)⟩

/-! ### disk_Delete: function 39 -/
set_option maxHeartbeats 8000000 in
set_option maxRecDepth 100000 in
theorem disk_Delete.calls (aT : Nat → Prop) (aN : Option Addr) (aO : Nat) (aJ : List (S38)) (aK : Int) (aL : Int) (aW : Bool) (a1 : ByteArray) (r1 : List (S38)) (r2 : Int) (r3 : Int) (r4 : Bool) (r5 : Int) (w : World) (bF : Kd.V k38 38 w w.heap.size (fun k_ => aT k_) (.slice aN aJ.length aO) aJ) (h : disk_Delete.f aJ aK aL aW a1 = some (r1, r2, r3, r4, r5)) :
  Calls Try.prog 39 #[.agg #[.slice aN aJ.length aO, .int .i64 aK, .int .i64 aL, .bool aW], .string a1] w fun e w' => ∃ v0_ : Value, e = .returned (.tuple #[.agg #[v0_, .int .i64 r2, .int .i64 r3, .bool r4], .int .i64 r5]) ∧ Kd.V k38 38 w' w.heap.size (fun k_ => (aT k_ ∨ w.heap.size ≤ k_)) v0_ r1 ∧ Below w.heap.size w w' := by
 have fI := Try.underlying33
 have aD := ak (show Kd.V k38 38 w w.heap.size (fun k_ => (aT k_ ∨ w.heap.size ≤ k_)) (.slice aN aJ.length aO) aJ from Kd.V_mono bF (fun k_ hk => .inl hk))
 have HB := ak (Below.refl w.heap.size w)
 have H : (if aW = true then (some (aJ, aK, aL, aW, 6)) else ((disk_at.f aJ aK aL aW a1).bind fun aV => (if aV < 0 then (some (aJ, aK, aL, aW, 7)) else ((disk_change.f aJ aK aL aW).bind fun bt188 => (if bt188.2.2.2.2 = true then ((disk_at.f bt188.1 bt188.2.1 bt188.2.2.1 bt188.2.2.2.1 a1).bind fun aU => ((disk_without.f bt188.1 bt188.2.1 bt188.2.2.1 bt188.2.2.2.1 aU).bind fun bt196 => (some (bt196.1, bt196.2.1, bt196.2.2.1, bt196.2.2.2, 0)))) else (some (bt188.1, bt188.2.1, bt188.2.2.1, bt188.2.2.2.1, 6))))))) = some (r1, r2, r3, r4, r5) := h
 clear h
 by_cases c3 : aW = true
 ·subst c3
  have H1 : (some (aJ, aK, aL, true, 6)) = some (r1, r2, r3, r4, r5) := by rw [if_pos rfl] at H; exact H
  clear H
  have H := H1
  clear H1
  simp only [Option.some.injEq, Prod.mk.injEq] at H
  obtain ⟨rfl, rfl, rfl, rfl, rfl⟩ := H
  go_enter Try.func39, Try.ntmps39
  go_wp2_with (first | ((with_reducible refine gate_dst (N := 2) rfl ?_); refine box_event ?hg (N := 2) ?hd (cs := #[.slice aN aJ.length aO, .int .i64 aK, .int .i64 aL, .bool true]) (t := 33) ?hr ?_; (case hd => rfl); (case hg => rfl); (case hr => first | (go_simp; done) | (go_simp; rfl)); intro aH hg w4 hbox hb; obtain ⟨n_, aG⟩ := Cb.bx (pB HB.out) hg hb; have aZ := aG; have aA := ak (hbox); replace aD := ak (Kd.V_below (Kd.V_elderB (pV aD.out) aH (Nat.le_of_eq hg.symm)) hb); replace HB := n_; clear n_; clear hb hbox hg) | ((with_reducible refine gate_dst (N := 4) rfl ?_); refine box_event ?hg (N := 4) ?hd (cs := #[.slice none 0 0, .int .i64 0, .int .i64 0, .bool false]) (t := 33) ?hr ?_; (case hd => rfl); (case hg => rfl); (case hr => first | (go_simp; done) | (go_simp; rfl)); intro aC hg w5 hbox hb; obtain ⟨n_, aI⟩ := Cb.bx (by repeat (first | (with_reducible first | exact HB.out | apply ba | apply bn | apply bd | refine bs ?_ aG.out) | exact HB.out)) hg hb; have a3 := aI; obtain ⟨aB, aF⟩ := Cb.nb hg aA.out; have aE := ak (hbox); replace aD := ak (Kd.V_below (Kd.V_elderB (pV aD.out) aC (Nat.le_of_eq hg.symm)) hb); replace aA := ak (blk_below aA.out hb); replace HB := n_; clear n_; clear hb hbox hg; have fJ := aB.out; have fK := aF.out; obtain ⟨eK, eL, eM, eN⟩ := Cb.c4 aA.out; obtain ⟨eO, eP, eQ, eR⟩ := Cb.f4 aA.out; obtain ⟨eS, eT, eU, eV⟩ := Cb.c4 aE.out; obtain ⟨eW, eX, eY, eZ⟩ := Cb.f4 aE.out) | ((with_reducible refine gate_store (t := 33) (p := 4) rfl ?_); refine store_event (t := 33) (p := 4) (v := ?vo_w9) (w1 := ((((w5.setCell ⟨aC, 0, none⟩ (.slice aN aJ.length aO)).setCell ⟨aC, 1, none⟩ (.int .i64 aK)).setCell ⟨aC, 2, none⟩ (.int .i64 aL)).setCell ⟨aC, 3, none⟩ (.bool true))) ?hg ?ho ?hn ?hr ?_; (case ho => rfl); (case hg => rfl); (case hn => rfl); (case hr => first | (go_simp; done) | (go_simp; rfl)); intro w9 hw; replace aD := vg4 (ok' := fun k_ => (aT k_ ∨ w.heap.size ≤ k_) ∧ k_ ≠ aH ∧ k_ ≠ aC) hw aD.out (fun _ hk => hk.2) fun _ hk => ⟨hk.1.1, ⟨hk.1.2, hk.2⟩⟩; replace aA := bf4 hw aB.out aA.out; replace aE := bp4 hw aE.out; replace HB := bw4 hw HB.out aI.out; clear hw))
  refine bodyPost_ret (results_ct rfl _ _ aC 33 #[.slice aN aJ.length aO, .int .i64 aK, .int .i64 aL, .bool true] (0, 0) _ rfl (pk aE.out) Try.underlying33 rfl (by kernel_rfl)) rfl ?_
  exact ⟨_, by first | rfl | (simp [errW_none, errW_some] <;> rfl) | (simp [*, errW_none, errW_some] <;> rfl), pV (Kd.V_mono aD.out (fun _ hk => hk.1)), by repeat (first | (with_reducible first | exact HB.out | apply ba | apply bn | apply bd | refine bs ?_ aG.out | refine bs ?_ aI.out) | exact HB.out)⟩
 ·replace c3 := Bool.eq_false_iff.mpr c3
  subst c3
  have H1 : ((disk_at.f aJ aK aL false a1).bind fun aV => (if aV < 0 then (some (aJ, aK, aL, false, 7)) else ((disk_change.f aJ aK aL false).bind fun bt188 => (if bt188.2.2.2.2 = true then ((disk_at.f bt188.1 bt188.2.1 bt188.2.2.1 bt188.2.2.2.1 a1).bind fun aU => ((disk_without.f bt188.1 bt188.2.1 bt188.2.2.1 bt188.2.2.2.1 aU).bind fun bt196 => (some (bt196.1, bt196.2.1, bt196.2.2.1, bt196.2.2.2, 0)))) else (some (bt188.1, bt188.2.1, bt188.2.2.1, bt188.2.2.2.1, 6)))))) = some (r1, r2, r3, r4, r5) := by rw [if_neg (show ¬ (false = true) by decide)] at H; exact H
  clear H
  have H := H1
  clear H1
  replace H := Option.bind_eq_some_iff.mp H
  obtain ⟨aV, bG, H⟩ := H
  replace H : (if aV < 0 then (some (aJ, aK, aL, false, 7)) else ((disk_change.f aJ aK aL false).bind fun bt188 => (if bt188.2.2.2.2 = true then ((disk_at.f bt188.1 bt188.2.1 bt188.2.2.1 bt188.2.2.2.1 a1).bind fun aU => ((disk_without.f bt188.1 bt188.2.1 bt188.2.2.1 bt188.2.2.2.1 aU).bind fun bt196 => (some (bt196.1, bt196.2.1, bt196.2.2.1, bt196.2.2.2, 0)))) else (some (bt188.1, bt188.2.1, bt188.2.2.1, bt188.2.2.2.1, 6))))) = some (r1, r2, r3, r4, r5) := H
  have e0 := ak bG
  clear bG
  by_cases bE : aV < 0
  ·rw [if_pos bE] at H
   have bH : decide (aV < 0) = true := decide_eq_true bE
   clear bE
   simp only [Option.some.injEq, Prod.mk.injEq] at H
   obtain ⟨rfl, rfl, rfl, rfl, rfl⟩ := H
   go_enter Try.func39, Try.ntmps39
   go_wp2_with (first | ((with_reducible refine gate_dst (N := 2) rfl ?_); refine box_event ?hg (N := 2) ?hd (cs := #[.slice aN aJ.length aO, .int .i64 aK, .int .i64 aL, .bool false]) (t := 33) ?hr ?_; (case hd => rfl); (case hg => rfl); (case hr => first | (go_simp; done) | (go_simp; rfl)); intro aH hg fZ hbox hb; obtain ⟨n_, aG⟩ := Cb.bx (pB HB.out) hg hb; have aZ := aG; have aA := ak (hbox); replace aD := ak (Kd.V_below (Kd.V_elderB (pV aD.out) aH (Nat.le_of_eq hg.symm)) hb); replace HB := n_; clear n_; clear hb hbox hg) | ((with_reducible refine gate_dst (N := 4) rfl ?_); refine box_event ?hg (N := 4) ?hd (cs := #[.slice none 0 0, .int .i64 0, .int .i64 0, .bool false]) (t := 33) ?hr ?_; (case hd => rfl); (case hg => rfl); (case hr => first | (go_simp; done) | (go_simp; rfl)); intro aC hg f5 hbox hb; obtain ⟨n_, aI⟩ := Cb.bx (by repeat (first | (with_reducible first | exact HB.out | apply ba | apply bn | apply bd | refine bs ?_ aG.out) | exact HB.out)) hg hb; have a3 := aI; obtain ⟨aB, aF⟩ := Cb.nb hg aA.out; have aE := ak (hbox); replace aD := ak (Kd.V_below (Kd.V_elderB (pV aD.out) aC (Nat.le_of_eq hg.symm)) hb); replace aA := ak (blk_below aA.out hb); replace HB := n_; clear n_; clear hb hbox hg; have e7 := aB.out; have e8 := aF.out; obtain ⟨bN, bO, bP, bQ⟩ := Cb.c4 aA.out; obtain ⟨bR, bS, bT, bU⟩ := Cb.f4 aA.out) | ((with_reducible refine gate_callee (f := 64) rfl ?_); refine goesL_ (some 14) rfl rfl Try.func64 (by kernel_rfl) rfl #[.agg #[.slice aN aJ.length aO, .int .i64 aK, .int .i64 aL, .bool false], .string a1] rfl (by (try simp only [List.map_toArray, List.map_cons, List.map_nil]); first | done | rfl | (simp only [List.length_drop, List.length_take]; rfl)) ?_; (with_reducible refine (disk_at.calls _ _ aJ aK aL false a1 aV _ ?side1 ?side2 e0.out).mono ?_); (case side1 => repeat (first | exact (Kd.V_reads' aD.out).2.2 | (with_reducible refine Kd.C_alloc ?_ _) | (with_reducible refine Kd.C_drewN ?_ _) | (with_reducible refine Kd.C_drew ?_))); (case side2 => exact (Kd.V_reads' aD.out).2.1); rintro e fL ⟨rfl, hb⟩; refine ⟨_, rfl, ?_⟩; replace aD := ak (Kd.V_below (pV aD.out) hb); replace aA := ak (blk_below aA.out hb); replace aE := ak (blk_below aE.out hb); replace HB := ak (below_step (by repeat (first | (with_reducible first | exact HB.out | apply ba | apply bn | apply bd | refine bs ?_ aG.out | refine bs ?_ aI.out) | exact HB.out)) hb); (try clear hb); (try clear hb2); (try clear hk); (try clear hi); obtain ⟨bV, bW, bX, bY⟩ := Cb.c4 aA.out; obtain ⟨bZ, b0, b1, b2⟩ := Cb.f4 aA.out; obtain ⟨b3, b4, b5, b6⟩ := Cb.c4 aE.out; obtain ⟨b7, b8, b9, cA⟩ := Cb.f4 aE.out) | ((with_reducible refine gate_store (t := 33) (p := 4) rfl ?_); refine store_event (t := 33) (p := 4) (v := ?vo_w19) (w1 := ((((fL.setCell ⟨aC, 0, none⟩ (.slice aN aJ.length aO)).setCell ⟨aC, 1, none⟩ (.int .i64 aK)).setCell ⟨aC, 2, none⟩ (.int .i64 aL)).setCell ⟨aC, 3, none⟩ (.bool false))) ?hg ?ho ?hn ?hr ?_; (case ho => rfl); (case hg => rfl); (case hn => rfl); (case hr => first | (go_simp; done) | (go_simp; rfl)); intro f6 hw; replace aD := vg4 (ok' := fun k_ => (aT k_ ∨ w.heap.size ≤ k_) ∧ k_ ≠ aH ∧ k_ ≠ aC) hw aD.out (fun _ hk => hk.2) fun _ hk => ⟨hk.1.1, ⟨hk.1.2, hk.2⟩⟩; replace aA := bf4 hw aB.out aA.out; replace aE := bp4 hw aE.out; replace HB := bw4 hw HB.out aI.out; clear hw))
   refine bodyPost_ret (results_ct rfl _ _ aC 33 #[.slice aN aJ.length aO, .int .i64 aK, .int .i64 aL, .bool false] (0, 0) _ rfl (pk aE.out) Try.underlying33 rfl (by kernel_rfl)) rfl ?_
   exact ⟨_, by first | rfl | (simp [errW_none, errW_some] <;> rfl) | (simp [*, errW_none, errW_some] <;> rfl), pV (Kd.V_mono aD.out (fun _ hk => hk.1)), by repeat (first | (with_reducible first | exact HB.out | apply ba | apply bn | apply bd | refine bs ?_ aG.out | refine bs ?_ aI.out) | exact HB.out)⟩
  ·rw [if_neg bE] at H
   have bH : decide (aV < 0) = false := decide_eq_false bE
   clear bE
   replace H := Option.bind_eq_some_iff.mp H
   obtain ⟨⟨aP, aQ, aR, aS, bI⟩, bJ, H⟩ := H
   replace H : (if bI = true then ((disk_at.f aP aQ aR aS a1).bind fun aU => ((disk_without.f aP aQ aR aS aU).bind fun bt196 => (some (bt196.1, bt196.2.1, bt196.2.2.1, bt196.2.2.2, 0)))) else (some (aP, aQ, aR, aS, 6))) = some (r1, r2, r3, r4, r5) := H
   have e9 := ak bJ
   clear bJ
   by_cases cB : bI = true
   ·subst cB
    have H1 : ((disk_at.f aP aQ aR aS a1).bind fun aU => ((disk_without.f aP aQ aR aS aU).bind fun bt196 => (some (bt196.1, bt196.2.1, bt196.2.2.1, bt196.2.2.2, 0)))) = some (r1, r2, r3, r4, r5) := by rw [if_pos rfl] at H; exact H
    clear H
    have H := H1
    clear H1
    replace H := Option.bind_eq_some_iff.mp H
    obtain ⟨aU, bK, H⟩ := H
    replace H : ((disk_without.f aP aQ aR aS aU).bind fun bt196 => (some (bt196.1, bt196.2.1, bt196.2.2.1, bt196.2.2.2, 0))) = some (r1, r2, r3, r4, r5) := H
    have fM := ak bK
    clear bK
    replace H := Option.bind_eq_some_iff.mp H
    obtain ⟨⟨aX, aY, a4, a8⟩, bL, H⟩ := H
    replace H : (some (aX, aY, a4, a8, 0)) = some (r1, r2, r3, r4, r5) := H
    have fN := ak bL
    clear bL
    simp only [Option.some.injEq, Prod.mk.injEq] at H
    obtain ⟨rfl, rfl, rfl, rfl, rfl⟩ := H
    go_enter Try.func39, Try.ntmps39
    try go_wp2_with (first | ((with_reducible refine gate_dst (N := 2) rfl ?_); refine box_event ?hg (N := 2) ?hd (cs := #[.slice aN aJ.length aO, .int .i64 aK, .int .i64 aL, .bool false]) (t := 33) ?hr ?_; (case hd => rfl); (case hg => rfl); (case hr => first | (go_simp; done) | (go_simp; rfl)); intro aH hg f7 hbox hb; obtain ⟨n_, aG⟩ := Cb.bx (pB HB.out) hg hb; have aZ := aG; have aA := ak (hbox); replace aD := ak (Kd.V_below (Kd.V_elderB (pV aD.out) aH (Nat.le_of_eq hg.symm)) hb); replace HB := n_; clear n_; clear hb hbox hg) | ((with_reducible refine gate_dst (N := 4) rfl ?_); refine box_event ?hg (N := 4) ?hd (cs := #[.slice none 0 0, .int .i64 0, .int .i64 0, .bool false]) (t := 33) ?hr ?_; (case hd => rfl); (case hg => rfl); (case hr => first | (go_simp; done) | (go_simp; rfl)); intro aC hg f8 hbox hb; obtain ⟨n_, aI⟩ := Cb.bx (by repeat (first | (with_reducible first | exact HB.out | apply ba | apply bn | apply bd | refine bs ?_ aG.out) | exact HB.out)) hg hb; have a3 := aI; obtain ⟨aB, aF⟩ := Cb.nb hg aA.out; have aE := ak (hbox); replace aD := ak (Kd.V_below (Kd.V_elderB (pV aD.out) aC (Nat.le_of_eq hg.symm)) hb); replace aA := ak (blk_below aA.out hb); replace HB := n_; clear n_; clear hb hbox hg; have fA := aB.out; have fB := aF.out; obtain ⟨cC, cD, cE, cF⟩ := Cb.c4 aA.out; obtain ⟨cG, cH, cI, cJ⟩ := Cb.f4 aA.out) | ((with_reducible refine gate_callee (f := 64) rfl ?_); refine goesL_ (some 14) rfl rfl Try.func64 (by kernel_rfl) rfl #[.agg #[.slice aN aJ.length aO, .int .i64 aK, .int .i64 aL, .bool false], .string a1] rfl (by (try simp only [List.map_toArray, List.map_cons, List.map_nil]); first | done | rfl | (simp only [List.length_drop, List.length_take]; rfl)) ?_; (with_reducible refine (disk_at.calls _ _ aJ aK aL false a1 aV _ ?side1 ?side2 e0.out).mono ?_); (case side1 => repeat (first | exact (Kd.V_reads' aD.out).2.2 | (with_reducible refine Kd.C_alloc ?_ _) | (with_reducible refine Kd.C_drewN ?_ _) | (with_reducible refine Kd.C_drew ?_))); (case side2 => exact (Kd.V_reads' aD.out).2.1); rintro e f9 ⟨rfl, hb⟩; refine ⟨_, rfl, ?_⟩; replace aD := ak (Kd.V_below (pV aD.out) hb); replace aA := ak (blk_below aA.out hb); replace aE := ak (blk_below aE.out hb); replace HB := ak (below_step (by repeat (first | (with_reducible first | exact HB.out | apply ba | apply bn | apply bd | refine bs ?_ aG.out | refine bs ?_ aI.out) | exact HB.out)) hb); (try clear hb); (try clear hb2); (try clear hk); (try clear hi); obtain ⟨cK, cL, cM, cN⟩ := Cb.c4 aA.out; obtain ⟨cO, cP, cQ, cR⟩ := Cb.f4 aA.out) | ((with_reducible refine gate_callee (f := 65) rfl ?_); refine goesL_ (some 19) rfl rfl Try.func65 (by kernel_rfl) rfl #[.agg #[.slice aN aJ.length aO, .int .i64 aK, .int .i64 aL, .bool false]] rfl (by (try simp only [List.map_toArray, List.map_cons, List.map_nil]); first | done | rfl | (simp only [List.length_drop, List.length_take]; rfl)) ?_; (with_reducible refine (disk_change.calls (fun k_ => (((aT k_ ∨ w.heap.size ≤ k_) ∧ k_ ≠ aH) ∧ k_ ≠ aC)) _ _ aJ aK aL false aP aQ aR aS true _ ?side1 e9.out).mono ?_); (case side1 => exact aD.out); rintro e fO ⟨e4, rfl, a7, hb⟩; refine ⟨_, rfl, ?_⟩; have aM := ak (Kd.V_lower (Kd.V_mono (ok' := fun k_ => (aT k_ ∨ w.heap.size ≤ k_) ∧ k_ ≠ aH ∧ k_ ≠ aC) a7 (fun k_ hk_ => ⟨Or.elim hk_ (fun hs_ => hs_.1.1) (fun hn_ => (.inr (Nat.le_trans (below_size (by repeat (first | (with_reducible first | exact HB.out | apply ba | apply bn | apply bd | refine bs ?_ aG.out | refine bs ?_ aI.out) | exact HB.out))) hn_))), Or.elim hk_ (fun hs_ => hs_.1.2) (fun hn_ => (Kd.freshB (g := aH) (o := .cells #[.slice aN aJ.length aO, .int .i64 aK, .int .i64 aL, .bool false] 33 (0, 0)) (pk aA.out) k_ hn_)), Or.elim hk_ (fun hs_ => hs_.2) (fun hn_ => (Kd.freshB (g := aC) (o := .cells #[.slice none 0 0, .int .i64 0, .int .i64 0, .bool false] 33 (0, 0)) (pk aE.out) k_ hn_))⟩)) (below_size (by repeat (first | (with_reducible first | exact HB.out | apply ba | apply bn | apply bd | refine bs ?_ aG.out | refine bs ?_ aI.out) | exact HB.out)))); replace aD := ak (Kd.V_below (pV aD.out) hb); replace aA := ak (blk_below aA.out hb); replace aE := ak (blk_below aE.out hb); replace HB := ak (below_step (by repeat (first | (with_reducible first | exact HB.out | apply ba | apply bn | apply bd | refine bs ?_ aG.out | refine bs ?_ aI.out) | exact HB.out)) hb); (try clear hb); (try clear hb2); (try clear hk); (try clear hi); (try clear a7); obtain ⟨a9, bA, e5⟩ := Kd.V_slice aM.out; subst e5; obtain ⟨cS, cT, cU, cV⟩ := Cb.c4 aA.out; obtain ⟨cW, cX, cY, cZ⟩ := Cb.f4 aA.out) | ((with_reducible refine gate_store (t := 33) (p := 2) rfl ?_); refine store_event (t := 33) (p := 2) (v := ?vo_w33) (w1 := ((((fO.setCell ⟨aH, 0, none⟩ (.slice a9 aP.length bA)).setCell ⟨aH, 1, none⟩ (.int .i64 aQ)).setCell ⟨aH, 2, none⟩ (.int .i64 aR)).setCell ⟨aH, 3, none⟩ (.bool aS))) ?hg ?ho ?hn ?hr ?_; (case ho => rfl); (case hg => rfl); (case hn => rfl); (case hr => first | (go_simp; done) | (go_simp; rfl)); intro fP hw; replace aD := vg4 (ok' := fun k_ => (aT k_ ∨ w.heap.size ≤ k_) ∧ k_ ≠ aH ∧ k_ ≠ aC) hw aD.out (fun _ hk => hk.1.2) fun _ hk => ⟨hk.1.1, ⟨hk.1.2, hk.2⟩⟩; replace aM := vf4 hw aM.out fun _ hk => hk.2.1; replace aA := bp4 hw aA.out; replace aE := bf4 hw aF.out aE.out; replace HB := bw4 hw HB.out aG.out; clear hw))
    replace aD := ak (Kd.V_drew aD.out)
    replace aM := ak (Kd.V_drew aM.out)
    replace aA := ak (blk_drew aA.out)
    replace aE := ak (blk_drew aE.out)
    replace HB := ak (below_drew1 HB.out)
    refine start_ (n := 7) (S := fun w' => w'.cell? ⟨aH, 0, none⟩ = some (.slice a9 aP.length bA) ∧ w'.cell? ⟨aH, 1, none⟩ = some (.int .i64 aQ) ∧ w'.cell? ⟨aH, 2, none⟩ = some (.int .i64 aR) ∧ w'.cell? ⟨aH, 3, none⟩ = some (.bool aS)) (ds := []) #[false, false, false, false, false, false, false] (by kernel_rfl) rfl rfl ⟨(blk_cell aA.out 0).trans rfl, (blk_cell aA.out 1).trans rfl, (blk_cell aA.out 2).trans rfl, (blk_cell aA.out 3).trans rfl⟩ (fun hHeld => ?_)
    generalize fP.drew = w34 at aD aM aA aE HB hHeld ⊢
    refine pure_ (i := 2) (N := some 27) (v := ?_) (a' := ?_) #[false, false, true, false, false, false, false] rfl rfl (by kernel_rfl) (fun _ _ _ h => h) (Or.inl ⟨by rfl, ?_⟩) ?_ ?_
    rotate_left
    ·intro w'
     go_simp
     with_reducible rfl
    rotate_left
    ·simp only [Act.put, List.setIfInBounds_toArray, List.set_cons_zero, List.set_cons_succ, i64_w, i32_w]
     rfl
    refine take_ (i := 0) (N := some 25) (v := ?_) (a' := ?_) #[true, false, true, false, false, false, false] rfl rfl (by kernel_rfl) (fun _ _ _ h => h) (Or.inl ⟨by rfl, ?_⟩) hHeld ?_ ?_
    rotate_left
    ·rintro w' ⟨s0, s1, s2, s3⟩
     go_simp
     with_reducible rfl
    rotate_left
    ·simp only [Act.put, List.setIfInBounds_toArray, List.set_cons_zero, List.set_cons_succ, i64_w, i32_w]
     rfl
    refine take_ (i := 1) (N := some 26) (v := ?_) (a' := ?_) #[true, true, true, false, false, false, false] rfl rfl (by kernel_rfl) (fun _ _ _ h => h) (Or.inl ⟨by rfl, ?_⟩) hHeld ?_ ?_
    rotate_left
    ·rintro w' ⟨s0, s1, s2, s3⟩
     go_simp
     with_reducible rfl
    rotate_left
    ·simp only [Act.put, List.setIfInBounds_toArray, List.set_cons_zero, List.set_cons_succ, i64_w, i32_w]
     rfl
    refine one_ (i := 3) (N := some 28) #[true, true, true, true, false, false, false] rfl rfl (by kernel_rfl) (by decide) (fun K hK => ?_)
    refine goes_ Try.func64 (by kernel_rfl) rfl #[.agg #[.slice a9 aP.length bA, .int .i64 aQ, .int .i64 aR, .bool aS], .string a1] (by rfl) rfl rfl (by (try simp only [List.map_toArray, List.map_cons, List.map_nil]); first | done | rfl | (simp only [List.length_drop, List.length_take]; rfl)) ?_
    with_reducible refine (disk_at.calls _ _ aP aQ aR aS a1 aU _ ?side1 ?side2 fM.out).mono ?_
    (case side1 => repeat (first | exact (Kd.V_reads' aM.out).2.2 | (with_reducible refine Kd.C_alloc ?_ _) | (with_reducible refine Kd.C_drewN ?_ _) | (with_reducible refine Kd.C_drew ?_)))
    (case side2 => exact (Kd.V_reads' aM.out).2.1)
    rintro e gA ⟨rfl, hb⟩
    refine ⟨_, rfl, ?_⟩
    replace aD := ak (Kd.V_below (pV aD.out) hb)
    replace aM := ak (Kd.V_below (pV aM.out) hb)
    replace aA := ak (blk_below aA.out hb)
    replace aE := ak (blk_below aE.out hb)
    replace HB := ak (below_step (by repeat (first | (with_reducible first | exact HB.out | apply ba | apply bn | apply bd | refine bs ?_ aG.out | refine bs ?_ aI.out) | exact HB.out)) hb)
    (try clear hb)
    (try clear hb2)
    (try clear hk)
    (try clear hi)
    refine hK.out _ _ ⟨(blk_cell aA.out 0).trans rfl, (blk_cell aA.out 1).trans rfl, (blk_cell aA.out 2).trans rfl, (blk_cell aA.out 3).trans rfl⟩ (fun hHeld => ?_)
    clear hK K
    refine norm_ (a' := ?_) ?_ ?_
    rotate_left
    ·show Act.put _ (some 28) _ = _
     simp only [Act.put, List.setIfInBounds_toArray, List.set_cons_zero, List.set_cons_succ, i64_w, i32_w]
     rfl
    refine one_ (i := 4) (N := some 29) #[true, true, true, true, true, false, false] rfl rfl (by kernel_rfl) (by decide) (fun K hK => ?_)
    refine goes_ Try.func66 (by kernel_rfl) rfl #[.agg #[.slice a9 aP.length bA, .int .i64 aQ, .int .i64 aR, .bool aS], .int .i64 aU] (by rfl) rfl rfl (by (try simp only [List.map_toArray, List.map_cons, List.map_nil]); first | done | rfl | (simp only [List.length_drop, List.length_take]; rfl)) ?_
    with_reducible refine (disk_without.calls _ _ aP aQ aR aS aU aX aY a4 a8 _ ?side1 ?side2 fN.out).mono ?_
    (case side1 => repeat (first | exact (Kd.V_reads' aM.out).2.2 | (with_reducible refine Kd.C_alloc ?_ _) | (with_reducible refine Kd.C_drewN ?_ _) | (with_reducible refine Kd.C_drew ?_)))
    (case side2 => exact (Kd.V_reads' aM.out).2.1)
    rintro e c1 ⟨fQ, rfl, a7, hb⟩
    refine ⟨_, rfl, ?_⟩
    have bB := ak (Kd.R_lower (Kd.R_newM (M := fun k_ => (w.heap.size ≤ k_)) a7 (below_size (by repeat (first | (with_reducible first | exact HB.out | apply ba | apply bn | apply bd | refine bs ?_ aG.out | refine bs ?_ aI.out) | exact HB.out))) (fun k_ h_ => h_)) (below_size (by repeat (first | (with_reducible first | exact HB.out | apply ba | apply bn | apply bd | refine bs ?_ aG.out | refine bs ?_ aI.out) | exact HB.out))))
    replace aD := ak (Kd.V_elder' (pV aD.out) (Kd.R_base a7) hb)
    replace aM := ak (Kd.V_elder' (pV aM.out) (Kd.R_base a7) hb)
    replace aA := ak (blk_below aA.out hb)
    replace aE := ak (blk_below aE.out hb)
    replace HB := ak (below_step (by repeat (first | (with_reducible first | exact HB.out | apply ba | apply bn | apply bd | refine bs ?_ aG.out | refine bs ?_ aI.out) | exact HB.out)) hb)
    (try clear hb)
    (try clear hb2)
    (try clear hk)
    (try clear hi)
    (try clear a7)
    obtain ⟨a5, a6, bM⟩ := Kd.R_slice bB.out
    (first | subst bM | (injection bM with f1_ f2_ f3_; have fR := f1_.symm; have fS := f3_.symm; clear f1_ f2_ f3_; subst fR; subst fS))
    refine hK.out _ _ ⟨(blk_cell aA.out 0).trans rfl, (blk_cell aA.out 1).trans rfl, (blk_cell aA.out 2).trans rfl, (blk_cell aA.out 3).trans rfl⟩ (fun hHeld => ?_)
    clear hK K
    refine norm_ (a' := ?_) ?_ ?_
    rotate_left
    ·show Act.put _ (some 29) _ = _
     simp only [Act.put, List.setIfInBounds_toArray, List.set_cons_zero, List.set_cons_succ, i64_w, i32_w]
     rfl
    refine one_ (i := 5) (N := none) #[true, true, true, true, true, true, false] rfl rfl (by kernel_rfl) (by decide) (fun K hK => ?_)
    have fT : c1.cell? ⟨aC, 0, none⟩ = some (.slice none 0 0) := (blk_cell aE.out 0).trans rfl
    have fC := blk_frozen aE.out 0
    have c7 := aB.out
    have c8 := aF.out
    have fU : c1.cell? ⟨aC, 1, none⟩ = some (.int .i64 0) := (blk_cell aE.out 1).trans rfl
    have fD := blk_frozen aE.out 1
    have c9 := aB.out
    have dA := aF.out
    have fV : c1.cell? ⟨aC, 2, none⟩ = some (.int .i64 0) := (blk_cell aE.out 2).trans rfl
    have fE := blk_frozen aE.out 2
    have dB := aB.out
    have dC := aF.out
    have fW : c1.cell? ⟨aC, 3, none⟩ = some (.bool false) := (blk_cell aE.out 3).trans rfl
    have fF := blk_frozen aE.out 3
    have dD := aB.out
    have dE := aF.out
    refine skip_ (w1 := ?_) (by rfl) rfl ?_ ?_
    rotate_left
    ·go_simp
     rfl
    refine hK.out _ _ ⟨((cell_far (p := ⟨aC, _, none⟩) aB.out _).trans (((cell_far (p := ⟨aC, _, none⟩) aB.out _).trans (((cell_far (p := ⟨aC, _, none⟩) aB.out _).trans (((cell_far (p := ⟨aC, _, none⟩) aB.out _).trans (hHeld.1)))))))), ((cell_far (p := ⟨aC, _, none⟩) aB.out _).trans (((cell_far (p := ⟨aC, _, none⟩) aB.out _).trans (((cell_far (p := ⟨aC, _, none⟩) aB.out _).trans (((cell_far (p := ⟨aC, _, none⟩) aB.out _).trans (hHeld.2.1)))))))), ((cell_far (p := ⟨aC, _, none⟩) aB.out _).trans (((cell_far (p := ⟨aC, _, none⟩) aB.out _).trans (((cell_far (p := ⟨aC, _, none⟩) aB.out _).trans (((cell_far (p := ⟨aC, _, none⟩) aB.out _).trans (hHeld.2.2.1)))))))), ((cell_far (p := ⟨aC, _, none⟩) aB.out _).trans (((cell_far (p := ⟨aC, _, none⟩) aB.out _).trans (((cell_far (p := ⟨aC, _, none⟩) aB.out _).trans (((cell_far (p := ⟨aC, _, none⟩) aB.out _).trans (hHeld.2.2.2))))))))⟩ (fun hHeld => ?_)
    clear hK K
    refine pure_ (i := 6) (N := some 5) (v := ?_) (a' := ?_) #[true, true, true, true, true, true, true] rfl rfl (by kernel_rfl) (fun _ _ _ h => h) (Or.inl ⟨by rfl, ?_⟩) ?_ ?_
    rotate_left
    ·intro w'
     go_simp
     with_reducible rfl
    rotate_left
    ·simp only [Act.put, List.setIfInBounds_toArray, List.set_cons_zero, List.set_cons_succ, i64_w, i32_w]
     rfl
    refine done_ (by kernel_rfl) ?_
    try go_wp2
    refine bodyPost_ret (results_ct rfl _ _ aC 33 #[.slice a5 aX.length a6, .int .i64 aY, .int .i64 a4, .bool a8] (0, 0) _ rfl (by (with_reducible repeat (first | refine blk_drewN ?_ _ | refine blk_drew ?_ | refine blk_alloc ?_ _)); exact blk_put (blk_put (blk_put (blk_put (pk aE.out) 0 _ rfl) 1 _ rfl) 2 _ rfl) 3 _ rfl) Try.underlying33 rfl (by kernel_rfl)) rfl ?_
    exact ⟨_, by first | rfl | (simp [errW_none, errW_some] <;> rfl) | (simp [*, errW_none, errW_some] <;> rfl), Kd.V_mono (Kd.R_V (pR (Kd.R_mono (Kd.R_far (p := ⟨aC, 3, none⟩) (Kd.R_far (p := ⟨aC, 2, none⟩) (Kd.R_far (p := ⟨aC, 1, none⟩) (Kd.R_far (p := ⟨aC, 0, none⟩) (Kd.R_types bB.out aE.out (by decide)) (fun _ hk => hk.2) (.slice a5 aX.length a6)) (fun _ hk => hk.2) (.int .i64 aY)) (fun _ hk => hk.2) (.int .i64 a4)) (fun _ hk => hk.2) (.bool a8)) (fun _ hk => hk.1.1)))) (fun k_ hk => by first | exact ⟨(.inr (hk.1)), hk.2⟩ | exact (.inr (hk))), by repeat (first | (with_reducible first | exact HB.out | apply ba | apply bn | apply bd | refine bs ?_ aG.out | refine bs ?_ aI.out) | exact HB.out)⟩
   ·replace cB := Bool.eq_false_iff.mpr cB
    subst cB
    have H1 : (some (aP, aQ, aR, aS, 6)) = some (r1, r2, r3, r4, r5) := by rw [if_neg (show ¬ (false = true) by decide)] at H; exact H
    clear H
    have H := H1
    clear H1
    simp only [Option.some.injEq, Prod.mk.injEq] at H
    obtain ⟨rfl, rfl, rfl, rfl, rfl⟩ := H
    go_enter Try.func39, Try.ntmps39
    go_wp2_with (first | ((with_reducible refine gate_dst (N := 2) rfl ?_); refine box_event ?hg (N := 2) ?hd (cs := #[.slice aN aJ.length aO, .int .i64 aK, .int .i64 aL, .bool false]) (t := 33) ?hr ?_; (case hd => rfl); (case hg => rfl); (case hr => first | (go_simp; done) | (go_simp; rfl)); intro aH hg gB hbox hb; obtain ⟨n_, aG⟩ := Cb.bx (pB HB.out) hg hb; have aZ := aG; have aA := ak (hbox); replace aD := ak (Kd.V_below (Kd.V_elderB (pV aD.out) aH (Nat.le_of_eq hg.symm)) hb); replace HB := n_; clear n_; clear hb hbox hg) | ((with_reducible refine gate_dst (N := 4) rfl ?_); refine box_event ?hg (N := 4) ?hd (cs := #[.slice none 0 0, .int .i64 0, .int .i64 0, .bool false]) (t := 33) ?hr ?_; (case hd => rfl); (case hg => rfl); (case hr => first | (go_simp; done) | (go_simp; rfl)); intro aC hg gC hbox hb; obtain ⟨n_, aI⟩ := Cb.bx (by repeat (first | (with_reducible first | exact HB.out | apply ba | apply bn | apply bd | refine bs ?_ aG.out) | exact HB.out)) hg hb; have a3 := aI; obtain ⟨aB, aF⟩ := Cb.nb hg aA.out; have aE := ak (hbox); replace aD := ak (Kd.V_below (Kd.V_elderB (pV aD.out) aC (Nat.le_of_eq hg.symm)) hb); replace aA := ak (blk_below aA.out hb); replace HB := n_; clear n_; clear hb hbox hg; have fG := aB.out; have fH := aF.out; obtain ⟨dF, dG, dH, dI⟩ := Cb.c4 aA.out; obtain ⟨dJ, dK, dL, dM⟩ := Cb.f4 aA.out) | ((with_reducible refine gate_callee (f := 64) rfl ?_); refine goesL_ (some 14) rfl rfl Try.func64 (by kernel_rfl) rfl #[.agg #[.slice aN aJ.length aO, .int .i64 aK, .int .i64 aL, .bool false], .string a1] rfl (by (try simp only [List.map_toArray, List.map_cons, List.map_nil]); first | done | rfl | (simp only [List.length_drop, List.length_take]; rfl)) ?_; (with_reducible refine (disk_at.calls _ _ aJ aK aL false a1 aV _ ?side1 ?side2 e0.out).mono ?_); (case side1 => repeat (first | exact (Kd.V_reads' aD.out).2.2 | (with_reducible refine Kd.C_alloc ?_ _) | (with_reducible refine Kd.C_drewN ?_ _) | (with_reducible refine Kd.C_drew ?_))); (case side2 => exact (Kd.V_reads' aD.out).2.1); rintro e gD ⟨rfl, hb⟩; refine ⟨_, rfl, ?_⟩; replace aD := ak (Kd.V_below (pV aD.out) hb); replace aA := ak (blk_below aA.out hb); replace aE := ak (blk_below aE.out hb); replace HB := ak (below_step (by repeat (first | (with_reducible first | exact HB.out | apply ba | apply bn | apply bd | refine bs ?_ aG.out | refine bs ?_ aI.out) | exact HB.out)) hb); (try clear hb); (try clear hb2); (try clear hk); (try clear hi); obtain ⟨dN, dO, dP, dQ⟩ := Cb.c4 aA.out; obtain ⟨dR, dS, dU, dV⟩ := Cb.f4 aA.out) | ((with_reducible refine gate_callee (f := 65) rfl ?_); refine goesL_ (some 19) rfl rfl Try.func65 (by kernel_rfl) rfl #[.agg #[.slice aN aJ.length aO, .int .i64 aK, .int .i64 aL, .bool false]] rfl (by (try simp only [List.map_toArray, List.map_cons, List.map_nil]); first | done | rfl | (simp only [List.length_drop, List.length_take]; rfl)) ?_; (with_reducible refine (disk_change.calls (fun k_ => (((aT k_ ∨ w.heap.size ≤ k_) ∧ k_ ≠ aH) ∧ k_ ≠ aC)) _ _ aJ aK aL false aP aQ aR aS false _ ?side1 e9.out).mono ?_); (case side1 => exact aD.out); rintro e fX ⟨e4, rfl, a7, hb⟩; refine ⟨_, rfl, ?_⟩; have aM := ak (Kd.V_lower (Kd.V_mono (ok' := fun k_ => (aT k_ ∨ w.heap.size ≤ k_) ∧ k_ ≠ aH ∧ k_ ≠ aC) a7 (fun k_ hk_ => ⟨Or.elim hk_ (fun hs_ => hs_.1.1) (fun hn_ => (.inr (Nat.le_trans (below_size (by repeat (first | (with_reducible first | exact HB.out | apply ba | apply bn | apply bd | refine bs ?_ aG.out | refine bs ?_ aI.out) | exact HB.out))) hn_))), Or.elim hk_ (fun hs_ => hs_.1.2) (fun hn_ => (Kd.freshB (g := aH) (o := .cells #[.slice aN aJ.length aO, .int .i64 aK, .int .i64 aL, .bool false] 33 (0, 0)) (pk aA.out) k_ hn_)), Or.elim hk_ (fun hs_ => hs_.2) (fun hn_ => (Kd.freshB (g := aC) (o := .cells #[.slice none 0 0, .int .i64 0, .int .i64 0, .bool false] 33 (0, 0)) (pk aE.out) k_ hn_))⟩)) (below_size (by repeat (first | (with_reducible first | exact HB.out | apply ba | apply bn | apply bd | refine bs ?_ aG.out | refine bs ?_ aI.out) | exact HB.out)))); replace aD := ak (Kd.V_below (pV aD.out) hb); replace aA := ak (blk_below aA.out hb); replace aE := ak (blk_below aE.out hb); replace HB := ak (below_step (by repeat (first | (with_reducible first | exact HB.out | apply ba | apply bn | apply bd | refine bs ?_ aG.out | refine bs ?_ aI.out) | exact HB.out)) hb); (try clear hb); (try clear hb2); (try clear hk); (try clear hi); (try clear a7); obtain ⟨bC, bD, e6⟩ := Kd.V_slice aM.out; subst e6; obtain ⟨dW, dX, dY, dZ⟩ := Cb.c4 aA.out; obtain ⟨d0, d1, d2, d3⟩ := Cb.f4 aA.out) | ((with_reducible refine gate_store (t := 33) (p := 2) rfl ?_); refine store_event (t := 33) (p := 2) (v := ?vo_w51) (w1 := ((((fX.setCell ⟨aH, 0, none⟩ (.slice bC aP.length bD)).setCell ⟨aH, 1, none⟩ (.int .i64 aQ)).setCell ⟨aH, 2, none⟩ (.int .i64 aR)).setCell ⟨aH, 3, none⟩ (.bool aS))) ?hg ?ho ?hn ?hr ?_; (case ho => rfl); (case hg => rfl); (case hn => rfl); (case hr => first | (go_simp; done) | (go_simp; rfl)); intro fY hw; replace aD := vg4 (ok' := fun k_ => (aT k_ ∨ w.heap.size ≤ k_) ∧ k_ ≠ aH ∧ k_ ≠ aC) hw aD.out (fun _ hk => hk.1.2) fun _ hk => ⟨hk.1.1, ⟨hk.1.2, hk.2⟩⟩; replace aM := vf4 hw aM.out fun _ hk => hk.2.1; replace aA := bp4 hw aA.out; replace aE := bf4 hw aF.out aE.out; replace HB := bw4 hw HB.out aG.out; clear hw; obtain ⟨d4, d5, d6, d7⟩ := Cb.c4 aA.out; obtain ⟨d8, d9, eA, eB⟩ := Cb.f4 aA.out; obtain ⟨eC, eD, eE, eF⟩ := Cb.c4 aE.out; obtain ⟨eG, eH, eI, eJ⟩ := Cb.f4 aE.out) | ((with_reducible refine gate_store (t := 33) (p := 4) rfl ?_); refine store_event (t := 33) (p := 4) (v := ?vo_w54) (w1 := ((((fY.setCell ⟨aC, 0, none⟩ (.slice bC aP.length bD)).setCell ⟨aC, 1, none⟩ (.int .i64 aQ)).setCell ⟨aC, 2, none⟩ (.int .i64 aR)).setCell ⟨aC, 3, none⟩ (.bool aS))) ?hg ?ho ?hn ?hr ?_; (case ho => rfl); (case hg => rfl); (case hn => rfl); (case hr => first | (go_simp; done) | (go_simp; rfl)); intro gE hw; replace aD := vf4 hw aD.out fun _ hk => hk.2.2; replace aM := vf4 hw aM.out fun _ hk => hk.2.2; replace aA := bf4 hw aB.out aA.out; replace aE := bp4 hw aE.out; replace HB := bw4 hw HB.out aI.out; clear hw))
    refine bodyPost_ret (results_ct rfl _ _ aC 33 #[.slice bC aP.length bD, .int .i64 aQ, .int .i64 aR, .bool aS] (0, 0) _ rfl (pk aE.out) Try.underlying33 rfl (by kernel_rfl)) rfl ?_
    exact ⟨_, by first | rfl | (simp [errW_none, errW_some] <;> rfl) | (simp [*, errW_none, errW_some] <;> rfl), pV (Kd.V_mono aM.out (fun _ hk => hk.1)), by repeat (first | (with_reducible first | exact HB.out | apply ba | apply bn | apply bd | refine bs ?_ aG.out | refine bs ?_ aI.out) | exact HB.out)⟩

/-! ### disk_named: function 67 -/
set_option maxHeartbeats 8000000 in
set_option maxRecDepth 100000 in
theorem disk_named.calls (a0 : ByteArray) (r : Bool) (w : World) (h : disk_named.f a0 = some r) :
  Calls Try.prog 67 #[.string a0] w fun e w' => e = .returned (.bool r) ∧ Drawn0 w w' := by
 have H : (if (a0.size : Int) ≥ 1 then (some (decide ((a0.size : Int) ≤ 16))) else (some false)) = some r := h
 clear h
 by_cases c2 : (a0.size : Int) ≥ 1
 ·rw [if_pos c2] at H
  have c2b0 : decide (1 ≤ (a0.size : Int)) = true := decide_eq_true c2
  have c2b1 : decide (1 ≤ a0.size) = true := decide_eq_true (by omega)
  clear c2
  obtain rfl := Option.some.inj H
  go_enter Try.func67, Try.ntmps67
  go_wp2
  go_ret
  exact ⟨by first | rfl | (simp; done) | (simp [*]; done), by repeat (first | exact Drawn0.refl _ | apply Drawn0.step)⟩
 ·rw [if_neg c2] at H
  have c2b0 : decide (1 ≤ (a0.size : Int)) = false := decide_eq_false c2
  have c2b1 : decide (1 ≤ a0.size) = false := decide_eq_false (by omega)
  clear c2
  obtain rfl := Option.some.inj H
  go_enter Try.func67, Try.ntmps67
  go_wp2
  go_ret
  exact ⟨by first | rfl | (simp; done) | (simp [*]; done), by repeat (first | exact Drawn0.refl _ | apply Drawn0.step)⟩

/-! ### api_File_70: function 70 -/
set_option maxHeartbeats 8000000 in
set_option maxRecDepth 100000 in
theorem api_File_70.calls (A0 : Option Addr) (c0 : Nat) (l0 : List (S38)) (a1 : Int) (aC : ByteArray) (aD : ByteArray) (aE : ByteArray) (r : List (S38)) (w : World) (bB : Kd.C k38 w A0 l0.length l0) (bC : l0.length ≤ c0) (h : api_File_70.f l0 a1 aC aD aE = some r) :
  Calls Try.prog 70 #[.slice A0 l0.length c0, .int .i64 a1, .agg #[.string aC, .string aD, .string aE]] w fun e w' => ∃ v0_ : Value, e = .returned (v0_) ∧ Kd.R k38 38 w' w.heap.size (fun _ => True) v0_ r ∧ Below w.heap.size w w' := by
 have bR := Try.underlying38
 have bS := ak bB
 have bT := ak bC
 clear bB bC
 have HB := ak (Below.refl w.heap.size w)
 have H : ((api_File_69.f l0).bind fun aA => (if 0 ≤ a1 then (if a1 < (aA.length : Int) then (some (aA.set (a1 : Int).toNat (⟨aC, aD, aE⟩ : S38))) else (none)) else (none))) = some r := h
 clear h
 replace H := Option.bind_eq_some_iff.mp H
 obtain ⟨aA, bD, H⟩ := H
 replace H : (if 0 ≤ a1 then (if a1 < (aA.length : Int) then (some (aA.set (a1 : Int).toNat (⟨aC, aD, aE⟩ : S38))) else (none)) else (none)) = some r := H
 have A4 := ak bD
 clear bD
 have c5 : 0 ≤ a1 := Decidable.byContradiction fun q => by rw [if_neg q] at H; exact absurd H (by simp)
 rw [if_pos c5] at H
 have bU : decide (0 ≤ a1) = true := decide_eq_true c5
 clear c5
 have c6 : a1 < (aA.length : Int) := Decidable.byContradiction fun q => by rw [if_neg q] at H; exact absurd H (by simp)
 rw [if_pos c6] at H
 have bV : decide (a1 < (aA.length : Int)) = true := decide_eq_true c6
 clear c6
 obtain ⟨y206, hy206⟩ : ∃ y_ : List (S38), y_ = (aA.set (a1 : Int).toNat (⟨aC, aD, aE⟩ : S38)) := ⟨_, rfl⟩
 replace H : (some y206) = some r := by first | (rw [hy206]; with_reducible exact H) | (have a7 := (Option.bind_some _ _).symm.trans H; rw [hy206]; with_reducible exact a7) | (have a7 := (Option.bind_some _ _).symm.trans H; with_reducible exact a7) | with_reducible exact H | (rw [hy206]; exact H) | exact H
 have aV := ak hy206
 clear hy206
 obtain rfl := Option.some.inj H
 go_enter Try.func70, Try.ntmps70
 go_wp2_with (first | ((with_reducible refine gate_dst (N := 5) rfl ?_); refine box_event ?hg (N := 5) ?hd (cs := #[.string aC, .string aD, .string aE]) (t := 38) ?hr ?_; (case hd => rfl); (case hg => rfl); (case hr => first | (go_simp; done) | (go_simp; rfl)); intro aG hg w8 hbox hb; obtain ⟨n_, aI⟩ := Cb.bx (pB HB.out) hg hb; have bE := aI; have aF := ak (hbox); replace HB := n_; clear n_; clear hb hbox hg) | ((with_reducible refine gate_callee (f := 69) rfl ?_); refine goesL_ (some 8) rfl rfl Try.func69 (by kernel_rfl) rfl #[.slice A0 l0.length c0] rfl (by (try simp only [List.map_toArray, List.map_cons, List.map_nil]); first | done | rfl | (simp only [List.length_drop, List.length_take]; rfl)) ?_; (with_reducible refine (api_File_69.calls _ _ l0 aA _ ?side1 ?side2 A4.out).mono ?_); (case side1 => repeat (first | exact (Kd.C_below bS.out HB.out) | (with_reducible refine Kd.C_alloc ?_ _) | (with_reducible refine Kd.C_drewN ?_ _) | (with_reducible refine Kd.C_drew ?_))); (case side2 => exact bT.out); rintro e w9 ⟨bW, rfl, bF, hb⟩; refine ⟨_, rfl, ?_⟩; have aB := ak (Kd.R_lower (Kd.R_newB bF (g := aG) (o := .cells #[.string aC, .string aD, .string aE] 38 (0, 0)) (pk aF.out)) (below_size (by repeat (first | (with_reducible first | exact HB.out | apply ba | apply bn | apply bd | refine bs ?_ aI.out) | exact HB.out)))); replace aF := ak (blk_below aF.out hb); replace HB := ak (below_step (by repeat (first | (with_reducible first | exact HB.out | apply ba | apply bn | apply bd | refine bs ?_ aI.out) | exact HB.out)) hb); (try clear hb); (try clear hb2); (try clear hk); (try clear hi); (try clear bF); obtain ⟨aY, aZ, a3⟩ := Cb.c3 aF.out; obtain ⟨a4, a5, a6⟩ := Cb.f3 aF.out; have p7 : 0 ≤ (a1 : Int) := of_decide_eq_true (by first | (with_reducible assumption) | assumption); have q7 : (a1 : Int) < ((aA.length : Int) : Int) := of_decide_eq_true (by first | (with_reducible assumption) | assumption); obtain ⟨aK, bG, bH, bI, bX, bZ, bJ⟩ := Kd.R_form aB.out (by omega); (first | cases bH | (injection bH with ea_ en_ ec_; (first | subst ea_ | (injection ea_ with ea_; subst ea_)); subst ec_; clear en_)); have a8 := ak bI; have b0 := ak bJ; clear bI bX bJ; obtain ⟨b1, a9, bK, aL, aM⟩ := Kd.R_elem aB.out z38 (a1 : Int) p7 q7; obtain rfl := k38_openM bK; have bL : w9.cell? ⟨aK, (a1 : Int).toNat * 3, none⟩ = some (.string ((rd_T38 aA a1).f0)) := aL 0 _ rfl; have bM : w9.cell? ⟨aK, (a1 : Int).toNat * 3 + 1, none⟩ = some (.string ((rd_T38 aA a1).f1)) := aL 1 _ rfl; have bN : w9.cell? ⟨aK, (a1 : Int).toNat * 3 + 2, none⟩ = some (.string ((rd_T38 aA a1).f2)) := aL 2 _ rfl; have bO : w9.frozen? ⟨aK, (a1 : Int).toNat * 3, none⟩ = false := aM 0; have bP : w9.frozen? ⟨aK, (a1 : Int).toNat * 3 + 1, none⟩ = false := aM 1; have bQ : w9.frozen? ⟨aK, (a1 : Int).toNat * 3 + 2, none⟩ = false := aM 2; clear a9 aL aM bK; replace p7 := eq_true p7; replace q7 := eq_true q7; have n_ := ak (Kd.R_mono (ok' := (fun k_ => k_ ≠ aG)) aB.out (fun k_ hk => hk.2)); clear aB; have aB := n_; clear n_; have aW := ak (show Kd.R k38 38 w9 w.heap.size (fun k_ => k_ ≠ aG) (.slice (some ⟨aK, 0, none⟩) aA.length bG) aA from (pR aB.out)); obtain ⟨bY, aN, aX, aH, aJ⟩ := Kd.R_elem aW.out z38 (a1 : Int) (of_decide_eq_true (by first | (with_reducible assumption) | assumption)) (by have h_ : (a1 : Int) < ((aA.length : Int) : Int) := of_decide_eq_true (by first | (with_reducible assumption) | assumption); first | exact h_ | (have e_ := (Kd.R_reads' aB.out).1; omega) | simpa using h_); obtain rfl := k38_openM aX; have aO := Kd.R_seg aW.out (a1 : Int) (of_decide_eq_true (by first | (with_reducible assumption) | assumption)) (by have h_ : (a1 : Int) < ((aA.length : Int) : Int) := of_decide_eq_true (by first | (with_reducible assumption) | assumption); first | exact h_ | (have e_ := (Kd.R_reads' aB.out).1; omega) | simpa using h_) (seg := [.string aC, .string aD, .string aE]) (j := 0) aN aH (show 3 ≤ 3 from by decide) (x' := (⟨aC, aD, aE⟩ : S38)) (k38_mkM _ _ _ (⟨aC, aD, aE⟩ : S38) ) (fun _ hk => hk); have aP := aH 0 _ rfl; (try simp only [show (k38).sz = 3 from rfl, Nat.mul_one, Nat.add_zero] at aP); have aQ := aJ 0; (try simp only [show (k38).sz = 3 from rfl, Nat.mul_one, Nat.add_zero] at aQ); have aR := aH 1 _ rfl; (try simp only [show (k38).sz = 3 from rfl, Nat.mul_one, Nat.add_zero] at aR); have aS := aJ 1; (try simp only [show (k38).sz = 3 from rfl, Nat.mul_one, Nat.add_zero] at aS); have aT := aH 2 _ rfl; (try simp only [show (k38).sz = 3 from rfl, Nat.mul_one, Nat.add_zero] at aT); have aU := aJ 2; (try simp only [show (k38).sz = 3 from rfl, Nat.mul_one, Nat.add_zero] at aU); clear aN aH aJ aX) | ((with_reducible refine gate_store (t := 38) (p := 12) rfl ?_); refine store_event (t := 38) (p := 12) (v := ?vo_w12) (w1 := (((w9.setCell ⟨aK, (a1 : Int).toNat * 3, none⟩ (.string aC)).setCell ⟨aK, (a1 : Int).toNat * 3 + 1, none⟩ (.string aD)).setCell ⟨aK, (a1 : Int).toNat * 3 + 2, none⟩ (.string aE))) ?hg ?ho ?hn ?hr ?_; (case ho => rfl); (case hg => rfl); (case hn => rfl); (case hr => first | (go_simp; done) | (go_simp; rfl)); intro bA hw; have hg : w9.grownBy bA (some aK) := (by rw [hw]; exact aO.2); have hp_ : Kd.R k38 38 bA w.heap.size (fun k_ => k_ ≠ aG) (.slice (some ⟨aK, 0, none⟩) aA.length bG) y206 := (by rw [hw, aV.out]; exact aO.1); clear aO; replace aF := ak (blk_grown (g := aG) (o := .cells #[.string aC, .string aD, .string aE] 38 (0, 0)) (by exact aF.out) hg (Kd.R_away aB.out (fun _ hk => hk))); replace aB := ak (hp_); replace HB := ak ((by rw [hw]; exact below_set (below_set (below_set (HB.out) a8.out) a8.out) a8.out : Below w.heap.size w bA)); clear hg hw hp_))
 go_ret
 exact ⟨_, by first | rfl | (simp [errW_none, errW_some] <;> rfl) | (simp [*, errW_none, errW_some] <;> rfl), pR (Kd.R_mono aB.out (fun _ hk => trivial)), by repeat (first | (with_reducible first | exact HB.out | apply ba | apply bn | apply bd | refine bs ?_ aI.out) | exact HB.out)⟩

end Go.Proofs.Ytbhkopbalhhpgaa.PY
