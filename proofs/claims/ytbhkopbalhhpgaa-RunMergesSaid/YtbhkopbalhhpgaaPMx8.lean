-- Made by a program of this workplace out of the translation (wip/tools in the repo). Not trusted: Lean checks it.
import Derived.Test.YtbhkopbalhhpgaaPMx0
import Derived.Test.YtbhkopbalhhpgaaPMx1
import Derived.Test.YtbhkopbalhhpgaaPMx3
namespace Go.Proofs.Ytbhkopbalhhpgaa.PM
open Go.RowKit Go.Proofs.YtbhkopbalhhpgaaW.PrintWords Go.Proofs.YtbhkopbalhhpgaaW.PrintLast Go.Proofs.YtbhkopbalhhpgaaW.PrintMore
attribute [local go_sem] max2_int min2_int max_two min_two max_three min_three max_four min_four   -- for this text's walks alone
set_option linter.unusedVariables false
set_option linter.unusedSimpArgs false

attribute [local go_sem high] eqA57
open Go.Proofs.Ytbhkopbalhhpgaa.Cp
/-! ### run_Merge: function 22 -/
/-- slices.Grow of nil: an empty row with room. -/
theorem run_Merge.grow (n : Nat) (hn : n ≤ 1000000) (w : World) :
    Calls Try.prog 78 #[.slice none 0 0, .int .i64 n] w fun e w' => ∃ v, e = .returned v ∧ Kd.R k57 57 w' w.heap.size (fun _ => True) v [] ∧ Below w.heap.size w w' := by
  obtain ⟨i0, hi, hz0, hzs, hzb⟩ := info_parts info57
  rcases Nat.eq_zero_or_pos n with rfl | hp
  · refine (Any8.slices_Grow_room Try.growW none 0 0 0 w (by omega) (by omega) (by omega) (by omega)).mono ?_
    rintro e w' ⟨rfl, rfl⟩
    exact ⟨_, rfl, Kd.R_nil _ _ _ _ _, Below.refl _ _⟩
  · have h := Any8.slices_Grow_grow Try.growW i0 _ hi hz0 (by rw [hzs]; decide) none 0 0 n [] w (by omega) (by omega) (by rw [hzb]; omega) (by omega) (by simp) (fun _ => rfl) (fun a e => by cases e)
    change Calls Try.prog 78 _ _ _ at h
    refine h.mono ?_
    rintro e w' ⟨rfl, rfl⟩
    have hG : n ≤ grownCap w (0 + n) 0 (Try.growW_ren.t 25) := by have := grownCap_ge w (0 + n) 0 (Try.growW_ren.t 25); omega
    have hM : grownCap w (0 + n) 0 (Try.growW_ren.t 25) ≤ maxLen := grownCap_le_maxLen w _ _ _ (by unfold maxLen; omega)
    have hz : ∀ m, (Builtin.zeroCells (Value.agg #[Value.string { data := #[] }, Value.string { data := #[] }, Value.bool false]).cells m).size = m * 3 := fun m => zero_size _ _
    generalize grownCap w (0 + n) 0 (Try.growW_ren.t 25) = G at *
    refine ⟨_, rfl, ?_, ?_⟩
    · refine flat_R (d := k57) (fun x : S57 => [.string x.f0, .string x.f1, .bool x.f2]) (fun {ok} x => k57_mkM _ _ _ _) (fun _ => rfl) (fun _ _ => trivial) ⟨by simp, .inr ⟨w.heap.size, _, _, rfl, Nat.le_refl _, heap_alloc_new w.drew _, Nat.zero_le _, hM, ?_, by simp⟩⟩
      rw [Array.size_append, Array.size_append, hz, hz]
      show 0 + (0 + n - 0) * 3 + (G - (0 + n)) * 3 = G * 3
      omega
    · exact Below.alloc (Below.drew (Below.refl _ _)) (Nat.le_refl _) _
set_option maxHeartbeats 8000000 in
set_option maxRecDepth 100000 in
theorem run_Merge.concat (gs : Nat) (A0 : Option Addr) (c0 : Nat) (l0 : List S57) (A1 : Option Addr) (c1 : Nat) (l1 : List S57) (w : World) (hr0 : Kd.C k57 w A0 l0.length l0) (hr1 : Kd.C k57 w A1 l1.length l1) (hN : l0.length + l1.length ≤ 1000000)
    (hgs : w.heap[gs]? = some (.cells #[.slice A0 l0.length c0, .slice A1 l1.length c1] 54 (0, 0))) :
    Calls Try.prog 50 #[.slice (some ⟨gs, 0, none⟩) 2 2] w fun e w' => ∃ v, e = .returned v ∧ Kd.R k57 57 w' w.heap.size (fun _ => True) v (l0 ++ l1) ∧ Below w.heap.size w w' := by
  have hu54 := Try.underlying54
  have hgl : gs < w.heap.size := (Array.getElem?_eq_some_iff.1 hgs).1
  have hc0 : w.cell? ⟨gs, 0, none⟩ = some (.slice A0 l0.length c0) := (blk_cell hgs 0).trans rfl
  have hc1 : w.cell? ⟨gs, 1, none⟩ = some (.slice A1 l1.length c1) := (blk_cell hgs 1).trans rfl
  have G := Aside0.mk (run_Merge.grow (l0.length + l1.length) hN w)
  have H0 := Aside0.mk hr0
  have H1 := Aside0.mk hr1
  have HG := Aside0.mk hgs
  have e1 : wrap64 ((l0.length : Int) + (l1.length : Int)) = ((l0.length + l1.length : Nat) : Int) := by unfold wrap64; omega
  have e2 : wrap64 (0 + (l0.length : Int)) = (l0.length : Int) := by unfold wrap64; omega
  have e3 : decide ((l0.length : Int) < 0) = false := decide_eq_false (by omega)
  have e4 : decide (((l0.length + l1.length : Nat) : Int) < 0) = false := decide_eq_false (by omega)
  clear hr0 hr1 hgs
  go_enter Try.func50, Try.ntmps50
  go_wp2
  refine wp_loop_rounds 3 ?_
  rw [rounds_succ]
  go_wp2
  rw [rounds_succ]
  go_wp2
  rw [rounds_succ]
  go_wp2_with (first
    | (go_at_call 78; refine G.out.mono ?_; rintro e w2 ⟨v2, rfl, hR, hB⟩; have R2 := Aside0.mk hR; have B2 := Aside0.mk hB; clear hR hB)
    | go_in)
  have k0 : w2.cell? ⟨gs, 0, none⟩ = some (.slice A0 l0.length c0) := (blk_cell ((B2.out.block gs hgl).trans HG.out) 0).trans rfl
  have k1 : w2.cell? ⟨gs, 1, none⟩ = some (.slice A1 l1.length c1) := (blk_cell ((B2.out.block gs hgl).trans HG.out) 1).trans rfl
  go_wp2
  refine wp_loop_rounds 3 ?_
  rw [rounds_succ]
  go_wp2_with (at_builtin; refine Kd.R_append_rows k57 (w0 := w) w.heap.size rfl (.tmp 31) (.tmp 32) 54 57 (.agg #[(.string ⟨#[]⟩), (.string ⟨#[]⟩), (.bool false)]) 40 rfl Try.underlying54 info57 rfl (by decide) (by omega) v2 ([] : List S57) l0 _ _ _ (fun _ => True) (fun _ => False) rfl rfl ?aO ?aR (fun _ _ h => h) (fun _ h => h.elim) ?aF ?aB ?aS ?aL ?_; (case aR => exact Kd.C_below H0.out B2.out); (case aB => exact B2.out); (case aF => exact fun _ _ => trivial); (case aO => exact R2.out); (case aS => exact below_size B2.out); (case aL => simp; omega); intro v3 w3 ho hb hg hat; have R3 := Aside0.mk ho; have B3 := Aside0.mk hb; clear ho hb hg hat)
  have k2 : w3.cell? ⟨gs, 1, none⟩ = some (.slice A1 l1.length c1) := (blk_cell ((B3.out.block gs hgl).trans HG.out) 1).trans rfl
  rw [rounds_succ]
  go_wp2_with (at_builtin; refine Kd.R_append_rows k57 (w0 := w) w.heap.size rfl (.tmp 31) (.tmp 32) 54 57 (.agg #[(.string ⟨#[]⟩), (.string ⟨#[]⟩), (.bool false)]) 40 rfl Try.underlying54 info57 rfl (by decide) (by omega) v3 ([] ++ l0) l1 _ _ _ (fun _ => True) (fun _ => False) rfl rfl ?aO ?aR (fun _ _ h => h) (fun _ h => h.elim) ?aF ?aB ?aS ?aL ?_; (case aR => exact Kd.C_below H1.out B3.out); (case aB => exact B3.out); (case aF => exact fun _ _ => trivial); (case aO => exact R3.out); (case aS => exact below_size B3.out); (case aL => simp; omega); intro v4 w4 ho hb hg hat; have R4 := Aside0.mk ho; have B4 := Aside0.mk hb; clear ho hb hg hat)
  rw [rounds_succ]
  go_wp2
  go_ret
  exact ⟨_, rfl, R4.out, B4.out⟩
theorem run_Merge.bl_irrefl : ∀ x, Op.bytesLess x x = false
  | [] => rfl
  | a :: x => by simp [Op.bytesLess, run_Merge.bl_irrefl x]
theorem run_Merge.bl_trans : ∀ x y z, Op.bytesLess x y = true → Op.bytesLess y z = true → Op.bytesLess x z = true
  | x, [], z, h, _ => by simp [Op.bytesLess] at h
  | x, b :: y, [], _, h => by simp [Op.bytesLess] at h
  | [], b :: y, c :: z, _, _ => rfl
  | a :: x, b :: y, c :: z, h1, h2 => by
    simp only [Op.bytesLess, Bool.or_eq_true, decide_eq_true_eq, Bool.and_eq_true, beq_iff_eq, UInt8.lt_iff_toNat_lt] at h1 h2 ⊢
    rcases h1 with h1 | ⟨rfl, h1⟩
    · rcases h2 with h2 | ⟨rfl, h2⟩
      · exact .inl (by omega)
      · exact .inl h1
    · rcases h2 with h2 | ⟨rfl, h2⟩
      · exact .inl h2
      · exact .inr ⟨rfl, run_Merge.bl_trans x y z h1 h2⟩
theorem run_Merge.bl_total : ∀ x y, Op.bytesLess x y = false → Op.bytesLess y x = false → x = y
  | [], [], _, _ => rfl
  | [], b :: y, h, _ => by simp [Op.bytesLess] at h
  | a :: x, [], _, h => by simp [Op.bytesLess] at h
  | a :: x, b :: y, h1, h2 => by
    simp only [Op.bytesLess, Bool.or_eq_false_iff, decide_eq_false_iff_not, Bool.and_eq_false_iff, beq_eq_false_iff_ne, UInt8.lt_iff_toNat_lt] at h1 h2
    have e : a = b := UInt8.toNat_inj.1 (by omega)
    subst e
    rw [run_Merge.bl_total x y (h1.2.elim (fun h => absurd rfl h) id) (h2.2.elim (fun h => absurd rfl h) id)]
def cmpW (x y : S57) : Int := if Op.bytesLess x.f0.toList y.f0.toList = true then -1 else if Op.bytesLess y.f0.toList x.f0.toList = true then 1 else 0
set_option maxHeartbeats 2000000 in
theorem run_Merge.compare (a b : ByteArray) (w : World) : Calls Try.prog 53 #[.string a, .string b] w fun e w' => e = .returned (.int .i64 (if Op.bytesLess a.toList b.toList = true then -1 else if Op.bytesLess b.toList a.toList = true then 1 else 0)) ∧ w' = w := by
  have ha : (a.toList != a.toList) = false := by simp
  by_cases c1 : Op.bytesLess a.toList b.toList = true
  · rw [if_pos c1]
    go_enter Try.func53, Try.ntmps53
    go_wp2
    go_ret
    exact ⟨rfl, rfl⟩
  · rw [if_neg c1]
    have c1 : Op.bytesLess a.toList b.toList = false := by simpa using c1
    by_cases c2 : Op.bytesLess b.toList a.toList = true
    · rw [if_pos c2]
      have c3 : (a.toList == b.toList) = false := by
        rw [beq_eq_false_iff_ne]
        intro e
        rw [e, run_Merge.bl_irrefl] at c2
        cases c2
      go_enter Try.func53, Try.ntmps53
      go_wp2
      go_ret
      exact ⟨rfl, rfl⟩
    · rw [if_neg c2]
      have c2 : Op.bytesLess b.toList a.toList = false := by simpa using c2
      have c3 : (a.toList == b.toList) = true := beq_iff_eq.2 (run_Merge.bl_total _ _ c1 c2)
      go_enter Try.func53, Try.ntmps53
      go_wp2
      go_ret
      exact ⟨rfl, rfl⟩
set_option maxHeartbeats 2000000 in
theorem run_Merge.clos (x y : S57) (W : World) : Calls Try.prog 52 #[.agg #[.string x.f0, .string x.f1, .bool x.f2], .agg #[.string y.f0, .string y.f1, .bool y.f2]] W fun e w' => e = .returned (.int .i64 (cmpW x y)) ∧ ∃ q os', w' = Go.Sort.grow (W.drewN q) os' := by
  have hcon := fun W' => run_Merge.compare x.f0 y.f0 W'
  unfold cmpW
  generalize (if Op.bytesLess x.f0.toList y.f0.toList = true then (-1 : Int) else if Op.bytesLess y.f0.toList x.f0.toList = true then 1 else 0) = r at hcon ⊢
  go_enter Try.func52, Try.ntmps52
  go_wp2_with (go_at_call 53; refine (hcon _).mono ?_; rintro e w' ⟨rfl, rfl⟩)
  go_ret
  exact ⟨rfl, 0, _, by rw [Go.Sort.alloc_eq_grow, Go.Sort.alloc_eq_grow, Go.Sort.grow_grow]; rfl⟩
instance inhW : Inhabited S57 := ⟨z57⟩
def flW (x : S57) : List Value := [.string x.f0, .string x.f1, .bool x.f2]
/-- How an element of the map reads: as itself. -/
def wrElem (v : Value) : Option (DataW S57 × List MemPlace) := match v with
  | .agg cs => match cs.toList with
    | [.string a, .string b, .bool c] => some (.held ⟨a, b, c⟩, [])
    | _ => none
  | _ => none
theorem wrElem_mk (x : S57) : wrElem (.agg #[.string x.f0, .string x.f1, .bool x.f2]) = some (.held x, []) := rfl
theorem wrElem_inv {v : Value} {z : DataW S57 × List MemPlace} (h : wrElem v = some z) : ∃ x : S57, v = .agg #[.string x.f0, .string x.f1, .bool x.f2] ∧ z = (.held x, []) := by
  unfold wrElem at h
  split at h
  · rename_i cs
    split at h
    · rename_i a b c hc
      cases h
      refine ⟨⟨a, b, c⟩, ?_, rfl⟩
      congr 1
      apply Array.ext'
      rw [hc]
    · cases h
  · cases h
def wkey (x : S57) : Lit := .string x.f0.toList
def mgD (ws : List S57) : DataW S57 := ws.foldl (fun D x => D.put (wkey x) (.held x)) (.map [])
theorem mgD_snoc (ws : List S57) (x : S57) : mgD (ws ++ [x]) = (mgD ws).put (wkey x) (.held x) := by simp [mgD, List.foldl_append]
theorem mgD_map : ∀ (ws : List S57) (D : DataW S57), Maps.IsMap D → Maps.IsMap (ws.foldl (fun D x => D.put (wkey x) (.held x)) D)
  | [], _, h => h
  | x :: ws, D, h => mgD_map ws _ (h.put _ _)
theorem lastW_snoc (x : S57) (s : List UInt8) : ∀ ws : List S57, lastW (ws ++ [x]) s = if x.f0.toList = s then some x else lastW ws s
  | [] => by simp [lastW]
  | y :: ws => by
    simp only [List.cons_append, lastW, lastW_snoc x s ws]
    by_cases e : x.f0.toList = s
    · rw [if_pos e, if_pos e]
    · rw [if_neg e, if_neg e]
theorem isKey_str (s : List UInt8) : WideAt.IsKeyLit (.string s) := by simp [WideAt.IsKeyLit]
theorem mgD_at (s : List UInt8) (z : DataW S57) (n : Nat) : ∀ ws : List S57, ws.length = n → (mgD ws).atKey (.string s) z = match lastW ws s with
    | some x => .held x
    | none => z := by
  induction n with
  | zero =>
    intro ws h
    obtain rfl := List.eq_nil_of_length_eq_zero h
    simp [mgD, lastW, DataW.atKey]
  | succ n ih =>
    intro ws h
    rcases List.eq_nil_or_concat ws with rfl | ⟨us, x, rfl⟩
    · simp at h
    · rw [List.concat_eq_append, mgD_snoc, lastW_snoc]
      by_cases e : x.f0.toList = s
      · rw [if_pos e]
        subst e
        exact Maps.atKey_put_same (mgD_map us _ ⟨_, rfl⟩) (isKey_str _) _ _
      · rw [if_neg e]
        refine (Maps.atKey_put_other (fun h => e ?_) _ _).trans (ih us (by simpa using h))
        unfold wkey at h
        simpa using h.symm
theorem lastW_key : ∀ (ws : List S57) (s : List UInt8) (x : S57), lastW ws s = some x → x.f0.toList = s ∧ x ∈ ws
  | [], _, _, h => by simp [lastW] at h
  | y :: ws, s, x, h => by
    simp only [lastW] at h
    cases hq : lastW ws s with
    | some z =>
      rw [hq] at h
      obtain rfl := Option.some.inj h
      exact ⟨(lastW_key ws s z hq).1, List.mem_cons_of_mem _ (lastW_key ws s z hq).2⟩
    | none =>
      rw [hq] at h
      simp only at h
      split at h
      · rename_i e
        obtain rfl := Option.some.inj h
        exact ⟨e, List.mem_cons_self ..⟩
      · cases h
theorem lastW_none : ∀ (ws : List S57) (s : List UInt8), lastW ws s = none ↔ ∀ y ∈ ws, y.f0.toList ≠ s
  | [], _ => by simp [lastW]
  | x :: ws, s => by
    have ih := lastW_none ws s
    simp only [lastW]
    cases hq : lastW ws s with
    | some z =>
      have hz := lastW_key ws s z hq
      simp only [reduceCtorEq, false_iff]
      intro h
      exact h z (List.mem_cons_of_mem _ hz.2) hz.1
    | none =>
      have := ih.1 hq
      simp only
      by_cases e : x.f0.toList = s
      · rw [if_pos e]
        simp only [reduceCtorEq, false_iff]
        intro h
        exact h x (List.mem_cons_self ..) e
      · rw [if_neg e]
        refine ⟨fun _ y hy => ?_, fun _ => rfl⟩
        rcases List.mem_cons.1 hy with rfl | hy
        · exact e
        · exact this y hy
/-- What has been met so far: no key twice; one is on the list just where it is the last of its key and is no longer to come. -/
def Coll (all : List S57) (left : Lit → Bool) (ss : List S57) : Prop := (ss.map fun x => x.f0.toList).Nodup ∧ ∀ x, x ∈ ss ↔ (lastW all x.f0.toList = some x ∧ left (wkey x) = false)
theorem Coll.start (all : List S57) : Coll all (Maps.has (mgD all)) [] := by
  refine ⟨by simp, fun x => ⟨fun h => by simp at h, fun ⟨h1, h2⟩ => ?_⟩⟩
  have := Maps.has_true_of_atKey (D := mgD all) (k := wkey x) (y := .held x) (fun z => by unfold wkey; rw [mgD_at _ _ _ all rfl, h1])
  rw [h2] at this
  cases this
theorem Coll.step {all : List S57} {left : Lit → Bool} {ss : List S57} (h : Coll all left ss) {x : S57} (hx : lastW all x.f0.toList = some x) (hl : left (wkey x) = true) : Coll all (fun z => left z && !z.sameKey (wkey x)) (ss ++ [x]) := by
  have sk : ∀ y : S57, (wkey y).sameKey (wkey x) = (y.f0.toList == x.f0.toList) := fun y => rfl
  have hnew : ∀ y ∈ ss, y.f0.toList ≠ x.f0.toList := fun y hy e => by
    have h1 := (h.2 y).1 hy
    have : wkey y = wkey x := by unfold wkey; rw [e]
    rw [this, hl] at h1
    cases h1.2
  refine ⟨?_, fun y => ?_⟩
  · rw [List.map_append, List.nodup_append]
    refine ⟨h.1, by simp, fun a ha b hb e => ?_⟩
    obtain ⟨y, hy, rfl⟩ := List.mem_map.1 ha
    simp only [List.map_cons, List.map_nil, List.mem_singleton] at hb
    exact hnew y hy (e.trans hb)
  · rw [List.mem_append, h.2 y, List.mem_singleton]
    simp only [sk, Bool.and_eq_false_iff, Bool.not_eq_false']
    constructor
    · rintro (⟨h1, h2⟩ | rfl)
      · exact ⟨h1, .inl h2⟩
      · exact ⟨hx, .inr (by simp)⟩
    · rintro ⟨h1, h2 | h2⟩
      · exact .inl ⟨h1, h2⟩
      · right
        rw [beq_iff_eq] at h2
        rw [h2, hx] at h1
        exact (Option.some.inj h1).symm
theorem mem_lasts : ∀ (ws : List S57) (x : S57), x ∈ lasts ws ↔ lastW ws x.f0.toList = some x
  | [], x => by simp [lasts, lastW]
  | y :: ws, x => by
    have ih := mem_lasts ws x
    have hn := lastW_none ws y.f0.toList
    simp only [lasts, lastW]
    by_cases c : ws.any (fun z => z.f0.toList == y.f0.toList) = true
    · rw [if_pos c, ih]
      cases hq : lastW ws x.f0.toList with
      | some z => rfl
      | none =>
        simp only [reduceCtorEq, false_iff]
        intro h
        split at h
        · rename_i e
          obtain ⟨z, hz, e2⟩ := List.any_eq_true.1 c
          exact (lastW_none ws x.f0.toList).1 hq z hz ((beq_iff_eq.1 e2).trans e)
        · cases h
    · rw [if_neg c, List.mem_cons, ih]
      have c' : ∀ z ∈ ws, z.f0.toList ≠ y.f0.toList := fun z hz e => c (List.any_eq_true.2 ⟨z, hz, by simpa using e⟩)
      cases hq : lastW ws x.f0.toList with
      | some z =>
        simp only
        constructor
        · rintro (rfl | h)
          · exact absurd (hn.2 c') (by rw [hq]; simp)
          · exact h
        · exact .inr
      | none =>
        simp only [reduceCtorEq, or_false]
        constructor
        · rintro rfl
          rw [if_pos rfl]
        · intro h
          split at h
          · exact (Option.some.inj h).symm
          · cases h
theorem nodup_lasts : ∀ ws : List S57, ((lasts ws).map fun x => x.f0.toList).Nodup
  | [] => by simp [lasts]
  | y :: ws => by
    simp only [lasts]
    split
    · exact nodup_lasts ws
    · rename_i c
      rw [List.map_cons, List.nodup_cons]
      refine ⟨fun h => ?_, nodup_lasts ws⟩
      obtain ⟨z, hz, e⟩ := List.mem_map.1 h
      exact c (List.any_eq_true.2 ⟨z, (lastW_key ws _ z ((mem_lasts ws z).1 hz)).2, by simpa using e⟩)
theorem leW_trans (x y z : S57) (h1 : leW x y = true) (h2 : leW y z = true) : leW x z = true := by
  unfold leW at *
  simp only [Bool.not_eq_true'] at *
  cases hq : Op.bytesLess z.f0.toList x.f0.toList with
  | false => rfl
  | true =>
    exfalso
    cases hp : Op.bytesLess y.f0.toList z.f0.toList with
    | true => rw [run_Merge.bl_trans _ _ _ hp hq] at h1; cases h1
    | false =>
      have := run_Merge.bl_total _ _ hp h2
      rw [this, hq] at h1
      cases h1
theorem leW_total (x y : S57) : (leW x y || leW y x) = true := by
  unfold leW
  cases hq : Op.bytesLess y.f0.toList x.f0.toList with
  | false => rfl
  | true =>
    cases hp : Op.bytesLess x.f0.toList y.f0.toList with
    | false => rfl
    | true =>
      have := run_Merge.bl_trans _ _ _ hp hq
      rw [run_Merge.bl_irrefl] at this
      cases this
theorem leW_anti {x y : S57} (h1 : leW x y = true) (h2 : leW y x = true) : x.f0.toList = y.f0.toList := by
  unfold leW at *
  simp only [Bool.not_eq_true'] at *
  exact run_Merge.bl_total _ _ h2 h1
theorem Coll.sorted {all : List S57} {left : Lit → Bool} {ss r : List S57} (h : Coll all left ss) (hl : ∀ kl, left kl = false) (hp : r.Perm ss) (hs : r.Pairwise (fun x y => leW x y = true)) : r = (lasts all).mergeSort leW := by
  have hm : ∀ x, x ∈ ss ↔ x ∈ lasts all := fun x => by rw [h.2 x, mem_lasts, hl]; simp
  have nd : ∀ l : List S57, (l.map fun x => x.f0.toList).Nodup → l.Nodup := fun l hl => List.Pairwise.of_map _ (fun a b hab e => hab (by rw [e])) hl
  have hp2 : ss.Perm (lasts all) := (List.perm_ext_iff_of_nodup (nd _ h.1) (nd _ (nodup_lasts all))).2 hm
  refine List.Perm.eq_of_pairwise (le := fun x y => leW x y = true) (fun a b ha hb h1 h2 => ?_) hs (List.pairwise_mergeSort leW_trans leW_total _) ((hp.trans hp2).trans (List.mergeSort_perm _ _).symm)
  have ka := ((h.2 a).1 (hp.mem_iff.1 ha)).1
  have kb := (mem_lasts all b).1 ((List.mergeSort_perm _ _).mem_iff.1 hb)
  rw [leW_anti h1 h2, kb] at ka
  exact (Option.some.inj ka).symm
/-! The sort's world. -/
theorem cmp_lt (x y : S57) : ltOf cmpW x y = Op.bytesLess x.f0.toList y.f0.toList := by
  unfold ltOf cmpW
  cases hq : Op.bytesLess x.f0.toList y.f0.toList with
  | true => simp
  | false =>
    rw [if_neg (by decide)]
    cases Op.bytesLess y.f0.toList x.f0.toList <;> simp
theorem swo_cmp : Go.Sort.SWO (ltOf cmpW) where
  irrefl x := by rw [cmp_lt]; exact run_Merge.bl_irrefl _
  trans x y z h1 h2 := by rw [cmp_lt] at *; exact run_Merge.bl_trans _ _ _ h1 h2
  ntrans x y z h1 h2 := by
    rw [cmp_lt] at *
    have := leW_trans z y x (by unfold leW; rw [h2]; rfl) (by unfold leW; rw [h1]; rfl)
    unfold leW at this
    simpa using this
theorem flW_len (x : S57) : (flW x).length = 3 := rfl
theorem flatK_list (d : List S57) : (Go.Sort.flatK flW 3 d.toArray).toList = d.flatMap flW := by
  apply List.ext_getElem?
  intro t
  have hl : (d.flatMap flW).length = d.length * 3 := flat_len flW flW_len d
  by_cases ht : t < d.length * 3
  · have hr := (flat_reps (R := fun x cs => cs = flW x) flW (fun _ => rfl) flW_len d).2 (t / 3) (d[t / 3]'(by omega)) (by simp)
    have h1 : ((d.flatMap flW).drop (t / 3 * 3)).take 3 = flW (d[t / 3]'(by omega)) := hr
    have h2 : (d.flatMap flW)[t]? = (flW (d[t / 3]'(by omega)))[t % 3]? := by
      rw [← h1, List.getElem?_take_of_lt (by omega), List.getElem?_drop]
      congr 1
      omega
    rw [h2, Array.getElem?_toList]
    have h3 : t < (Go.Sort.flatK flW 3 d.toArray).size := by rw [Go.Sort.size_flatK]; simpa using ht
    rw [Array.getElem?_eq_getElem h3, ← getElem!_pos (Go.Sort.flatK flW 3 d.toArray) t h3, Go.Sort.get_flatK _ _ _ _ (by simpa using ht)]
    have h4 : d.toArray[t / 3]! = d[t / 3]'(by omega) := by
      rw [getElem!_pos d.toArray (t / 3) (by simp; omega)]
      simp
    rw [h4]
    have h5 : t % 3 < (flW (d[t / 3]'(by omega))).length := by rw [flW_len]; omega
    rw [List.getElem?_eq_getElem h5, getElem!_pos (flW (d[t / 3]'(by omega))) (t % 3) h5]
  · have h1 : (Go.Sort.flatK flW 3 d.toArray).toList.length = d.length * 3 := by rw [Array.length_toList, Go.Sort.size_flatK, List.size_toArray]
    rw [List.getElem?_eq_none (by omega : (d.flatMap flW).length ≤ t), List.getElem?_eq_none (by omega : (Go.Sort.flatK flW 3 d.toArray).toList.length ≤ t)]
theorem holdsW {w : World} {g : Nat} {cur : Array Value} {ss : List S57} (hb : w.heap[g]? = some (.cells cur 57 (0, 0))) (ht : cur.toList.take (ss.length * 3) = ss.flatMap flW) : Go.Sort.HoldsK flW 3 w g 0 ss.toArray := by
  intro j hj
  have hj' : j < ss.length * 3 := by simpa using hj
  refine ⟨?_, by simp [World.frozen?, hb]⟩
  rw [Nat.zero_add, cell_of_blk hb, ← Array.getElem?_toList, ← List.getElem?_take_of_lt hj', ht, ← flatK_list, Array.getElem?_toList, Array.getElem?_eq_getElem (by simpa using hj'), ← getElem!_pos _ j (by simpa using hj')]
  rfl
theorem heap_sortW {w : World} {g n : Nat} {os : Array Obj} {cur : Array Value} {e : TypeId} {fr : Nat × Nat} (F : Array Value) (hb : w.heap[g]? = some (.cells cur e fr)) :
    (Go.Sort.grow (Go.Sort.putRow id (Go.Sort.ahead w n) g 0 F) os).heap[g]? = some (.cells (Go.Sort.putCells id 0 F cur) e fr) := by
  have hg : g < w.heap.size := (Array.getElem?_eq_some_iff.1 hb).1
  rw [Go.Sort.heap_grow_old _ _ (by simpa using hg)]
  simp [Go.Sort.putRow, Go.Sort.mapBlock, Go.Sort.ahead, Array.getElem?_modify, hb, Go.Sort.onCells]
theorem grown_sortW {w : World} {g n : Nat} {os : Array Obj} (F : Array Value) : w.grownBy (Go.Sort.grow (Go.Sort.putRow id (Go.Sort.ahead w n) g 0 F) os) (some g) := by
  refine ⟨rfl, rfl, rfl, by simp, fun k hk hne => ?_⟩
  rw [Go.Sort.heap_grow_old _ _ (by simpa using hk)]
  have : g ≠ k := fun e => hne (by rw [e])
  simp [Go.Sort.putRow, Go.Sort.mapBlock, Go.Sort.ahead, Array.getElem?_modify, this]
theorem take_putW (cur F : Array Value) (h : F.size ≤ cur.size) : (Go.Sort.putCells id 0 F cur).toList.take F.size = F.toList := by
  apply List.ext_getElem?
  intro j
  by_cases hj : j < F.size
  · rw [List.getElem?_take_of_lt hj, Array.getElem?_toList]
    simp [Go.Sort.putCells, hj, show j < cur.size by omega]
  · rw [List.getElem?_take_eq_none (by omega), List.getElem?_eq_none (by simp; omega)]
theorem permIn_all {d d' : Array S57} (h : Go.Sort.PermIn 0 d.size d d') : d'.toList.Perm d.toList := by
  obtain ⟨h1, _, h2⟩ := h
  have e1 : d.extract 0 d.size = d := by simp
  have e2 : d'.extract 0 d.size = d' := by rw [← h1]; simp
  rwa [e1, e2] at h2
theorem sortedIn_all {d' : Array S57} {n : Nat} (hn : d'.size = n) (h : Go.Sort.SortedIn (ltOf cmpW) 0 n d') : d'.toList.Pairwise (fun x y => leW x y = true) := by
  rw [List.pairwise_iff_getElem]
  intro i j hi hj hij
  have h1 := h i j (Nat.zero_le _) hij (by simpa [← hn] using hj)
  rw [cmp_lt] at h1
  have ei : d'[i]! = d'.toList[i] := by rw [getElem!_pos d' i (by simpa using hi)]; simp
  have ej : d'[j]! = d'.toList[j] := by rw [getElem!_pos d' j (by simpa using hj)]; simp
  rw [ei, ej] at h1
  unfold leW
  rw [h1]
  rfl
theorem k57_M {w : World} {base : Nat} {ok : Nat → Prop} (x : S57) (cs : List Value) (h : k57.M w base ok x cs) : cs = flW x := k57_openM h
/-- slices.SortFunc of a row of the call's own. -/
theorem run_Merge.sort (base : Nat) (v : Value) (ss : List S57) (w0 w : World) (hr : Kd.R k57 57 w base (fun _ => True) v ss) (hB : Below base w0 w) (hs : base ≤ w.heap.size) (hl : ss.length ≤ 1000000) :
    Calls Try.prog 51 #[v, .func (.func 52) #[] #[]] w fun e w' => e = .returned (.tuple #[]) ∧ ∃ r : List S57, r.Perm ss ∧ r.Pairwise (fun x y => leW x y = true) ∧ Kd.R k57 57 w' base (fun _ => True) v r ∧ Below base w0 w' := by
  obtain ⟨_, hown⟩ := R_flat flW (fun {ok} x cs h => k57_M x cs h) hr
  rcases hown.2 with ⟨rfl, h0⟩ | ⟨g, cap, cur, rfl, hbase, hb, h1, h2, h3, h4⟩
  · obtain rfl := List.eq_nil_of_length_eq_zero h0
    refine (AnyF.slices_SortFunc_none Try.sortW none 0 (.func (.func 52) #[] #[]) w).mono ?_
    rintro e w' ⟨rfl, rfl⟩
    exact ⟨rfl, [], List.Perm.refl _, List.Pairwise.nil, hr, hB⟩
  · have eg : ∀ args w, (callFunc 52 args).run Try.prog w = .ok (.enter 52 args) w := enters_of Try.func52 (by kernel_rfl) rfl
    have hcon := AnyQ.slices_SortFunc Try.sortW 3 Try.isAgg57 Try.sizeOf57 flW flW_len (fun x v hv => by simp [flW] at hv; rcases hv with rfl | rfl | rfl <;> rfl) cmpW swo_cmp 52 #[] g 0 cap ss.toArray w eg
      (fun _ _ _ _ x y => run_Merge.clos x y _) (holdsW hb h4) (Array.getElem?_eq_some_iff.1 hb).1 (by simp; omega)
    change Calls Try.prog 51 _ _ _ at hcon
    rw [List.size_toArray] at hcon
    refine hcon.mono ?_
    rintro e w' ⟨rfl, d', n, os, hp, hsr, rfl⟩
    have hsz : d'.size = ss.length := by have := hp.1; simpa using this
    have hlen : d'.toList.length = ss.length := Array.length_toList.trans hsz
    have hpm := permIn_all (d := ss.toArray) (by simpa using hp)
    rw [List.toList_toArray] at hpm
    refine ⟨rfl, d'.toList, hpm, sortedIn_all hsz hsr, ?_, hB.grown (grown_sortW _) hs (fun j hj => by cases hj; exact hbase)⟩
    refine flat_R flW (fun {ok} x => k57_mkM _ _ _ _) flW_len (fun _ _ => trivial) ?_
    have hfl : (Go.Sort.flatK flW 3 d').toList = d'.toList.flatMap flW := by have := flatK_list d'.toList; simpa using this
    have hfs : (Go.Sort.flatK flW 3 d').size = ss.length * 3 := by rw [Go.Sort.size_flatK, hsz]
    have hcs : cur.size = cap * 3 := h3
    refine ⟨flat_len flW flW_len _, .inr ⟨g, cap, _, by rw [hlen], hbase, heap_sortW _ hb, by rw [hlen]; exact h1, h2, by simp [Go.Sort.putCells, h3], ?_⟩⟩
    rw [hlen, ← hfl]
    show List.take (ss.length * 3) _ = _
    rw [← hfs]
    exact take_putW _ _ (by rw [hfs, hcs]; omega)
theorem rowW_grown {w w' : World} {base : Nat} {v : Value} {xs : List S57} {row : Option Nat} (h : Kd.R k57 57 w base (fun _ => True) v xs) (hg : w.grownBy w' row) (hne : ∀ b, row = some b → v.ownBlock ≠ some b) : Kd.R k57 57 w' base (fun _ => True) v xs := by
  obtain ⟨_, hown⟩ := R_flat flW (fun {ok} x cs h => k57_M x cs h) h
  refine flat_R flW (fun {ok} x => k57_mkM _ _ _ _) flW_len (fun _ _ => trivial) (own_other hown hg ?_)
  cases row with
  | none => cases hv : v.ownBlock with
    | none => exact .inl rfl
    | some b => exact .inr (by simp)
  | some b => exact .inr (hne b rfl)
theorem rowW_cells {w : World} {base : Nat} {v : Value} {xs : List S57} (h : Kd.R k57 57 w base (fun _ => True) v xs) (k : Nat) (hk : v.ownBlock = some k) : ∃ cs, w.heap[k]? = some (.cells cs 57 (0, 0)) := by
  obtain ⟨_, hown⟩ := R_flat flW (fun {ok} x cs h => k57_M x cs h) h
  exact own_typed hown k hk
theorem mapW_cells {w : World} {b n : Nat} {D : DataW S57} (h : w.ownsMap Try.prog 9 wrElem b n D) (k : Nat) (cs : Array Value) (hk : w.heap[k]? = some (.cells cs 57 (0, 0))) : k ≠ b := by
  obtain ⟨es, clock, hb, _⟩ := h
  rintro rfl
  rw [hb] at hk
  cases hk
theorem itW_cells {w : World} {b r n : Nat} {D : DataW S57} {left : Lit → Bool} {cnt : Nat} (h : w.ranges Try.prog 9 wrElem b r n D left cnt) (k : Nat) (cs : Array Value) (hk : w.heap[k]? = some (.cells cs 57 (0, 0))) : k ≠ r := by
  obtain ⟨_, _, _, _, _, _, _, _, _, hit, _⟩ := h
  rintro rfl
  rw [hit] at hk
  cases hk
theorem invK_W (key : Value) (kl : Lit) (hk : keyOf Try.prog 9 key = some kl) : ∃ s : ByteArray, key = Value.string s := by
  obtain ⟨s, rfl, _⟩ := WideMaps.string_of_keyOf Try.underlying9 hk
  exact ⟨s, rfl⟩
theorem invV_W (v : Value) (y : DataW S57 × List MemPlace) (hv : wrElem v = some y) : ∃ x : S57, v = Value.agg #[.string x.f0, .string x.f1, .bool x.f2] := by
  obtain ⟨x, rfl, _⟩ := wrElem_inv hv
  exact ⟨x, rfl⟩
theorem keyW (x : S57) (h : x.f0.size ≤ 9223372036854775807) : keyOf Try.prog 9 (.string x.f0) = some (wkey x) := by
  unfold wkey
  rw [ByteArray.toList_eq]
  exact WideMaps.keyOf_string_mk Try.underlying9 (by unfold maxLen; exact h)
set_option maxHeartbeats 8000000 in
set_option maxRecDepth 100000 in
theorem run_Merge.calls (A0 : Option Addr) (c0 : Nat) (l0 : List S57) (A1 : Option Addr) (c1 : Nat) (l1 : List S57) (r : List S57) (w : World) (hr0 : Kd.C k57 w A0 l0.length l0) (hc0 : l0.length ≤ c0) (hr1 : Kd.C k57 w A1 l1.length l1) (hc1 : l1.length ≤ c1) (h : run_Merge.f l0 l1 = some r) :
    Calls Try.prog 22 #[.slice A0 l0.length c0, .slice A1 l1.length c1] w fun e w' => ∃ v0_ : Value, e = .returned (v0_) ∧ Kd.R k57 57 w' w.heap.size (fun _ => True) v0_ r ∧ Below w.heap.size w w' := by
  unfold run_Merge.f at h
  split at h
  case isFalse => cases h
  rename_i hN
  split at h
  case isFalse => cases h
  rename_i hA
  obtain rfl := Option.some.inj h
  obtain ⟨all, hall⟩ : ∃ all, all = l0 ++ l1 := ⟨_, rfl⟩
  have hn : all.length ≤ 1000000 := by rw [hall, List.length_append]; exact hN
  have hk : ∀ x ∈ all, x.f0.size ≤ 9223372036854775807 := fun x hx => by rw [hall] at hx; exact of_decide_eq_true (List.all_eq_true.1 hA x hx)
  rw [← hall]
  have hu54 := Try.underlying54
  have hu57 := Try.underlying57
  have hu87 := Try.underlying87
  obtain ⟨W2, hW2⟩ : ∃ W2, W2 = (w.alloc (.map #[] 0)).alloc (.cells #[.slice A0 l0.length c0, .slice A1 l1.length c1] 54) := ⟨_, rfl⟩
  have hs2 : W2.heap.size = w.heap.size + 2 := by rw [hW2]; simp
  have hB2 : Below w.heap.size w W2 := by rw [hW2]; exact below_alloc (Below.alloc (Below.refl _ _) (Nat.le_refl _) _) _
  have hM2 : W2.ownsMap Try.prog 9 wrElem w.heap.size 0 (.map []) := by rw [hW2]; exact (World.ownsMap_made w _ _ _).alloc _
  have D := run_Merge.concat (w.heap.size + 1) A0 c0 l0 A1 c1 l1 W2 (by rw [hW2]; exact Kd.C_alloc (Kd.C_alloc hr0 _) _) (by rw [hW2]; exact Kd.C_alloc (Kd.C_alloc hr1 _) _) hN (by rw [hW2]; have := heap_alloc_new (w.alloc (.map #[] 0)) (.cells #[.slice A0 l0.length c0, .slice A1 l1.length c1] 54); simpa using this)
  rw [← hall] at D
  have DD := Aside0.mk D
  rw [hW2] at DD
  have KB2 := Aside0.mk hB2
  have KM2 := Aside0.mk hM2
  have KS2 := Aside0.mk hs2
  have KK := Aside0.mk hk
  have KN := Aside0.mk hn
  have KW := Aside0.mk hW2
  clear D hr0 hc0 hr1 hc1 h hA hN hall hB2 hM2 hs2 hk hn hW2
  have hmk := run_makeMap (P := Try.prog) 87 w
  go_enter Try.func22, Try.ntmps22
  go_wp2_with (first
    | (go_at_call 50; refine DD.out.mono ?_; rintro e w3 ⟨v, rfl, hR, hB⟩; rw [← KW.out] at hR hB; obtain ⟨A, c, rfl, hc, hC⟩ := Kd.R_reads hR; have R3 := Aside0.mk hR; have B3 := Aside0.mk hB; have CC := Aside0.mk hc; clear hR hB hC hc)
    | go_in)
  have B4 := Aside0.mk (below_step KB2.out B3.out)
  have R4 := Aside0.mk (Kd.R_lower R3.out (by have := KS2.out; omega : w.heap.size ≤ W2.heap.size))
  have M4 : Aside0 (w3.ownsMap Try.prog 9 wrElem w.heap.size 0 (mgD (all.take 0))) := by
    obtain ⟨es, clock, hb, rest⟩ := KM2.out
    exact ⟨es, clock, (B3.out.block _ (by have := KS2.out; omega)).trans hb, rest⟩
  go_loopg [17] all.length (fun gg s17 wr => ∃ (j : Nat), j ≤ all.length ∧ all.length - j ≤ gg ∧ s17 = .int .i64 j ∧ Aside0 (wr.ownsMap Try.prog 9 wrElem w.heap.size j (mgD (all.take j))) ∧ Aside0 (Kd.R k57 57 wr w.heap.size (fun _ => True) (.slice A all.length c) all) ∧ Aside0 (Below w.heap.size w wr))
  case atStart => exact ⟨0, Nat.zero_le _, by omega, rfl, M4, R4, B4⟩
  case round =>
    obtain ⟨j, hj, hgg, rfl, HM, HR, HB⟩ := hrel
    by_cases hlt : j < all.length
    · have hltz : (j : Int) < (all.length : Int) := by omega
      obtain ⟨A', c', e', hc', hC'⟩ := Kd.R_reads HR.out
      cases e'
      obtain ⟨ad, e, hx0, hx1, hx2⟩ := at_T57 hC' (j : Int) (by omega) hltz
      cases e
      have e0 : rd_T57 all (j : Int) = all[j] := by simp [rd_T57, List.getD_eq_getElem?_getD, hlt]
      rw [e0] at hx0 hx1 hx2
      simp only [Int.toNat_natCast] at hx0 hx1 hx2
      have hkx := KK.out all[j] (List.getElem_mem hlt)
      have htk : all.take (j + 1) = all.take j ++ [all[j]] := by rw [List.take_succ_eq_append_getElem hlt]
      have hD : mgD (all.take (j + 1)) = (mgD (all.take j)).put (wkey all[j]) (.held all[j]) := by rw [htk, mgD_snoc]
      clear e0 htk hC' hc'
      obtain ⟨x, hx⟩ : ∃ x, all[j] = x := ⟨_, rfl⟩
      rw [hx] at hx0 hx1 hx2 hkx hD
      have HK := Aside0.mk (keyW x hkx)
      have HD := Aside0.mk hD
      clear hx hkx hD
      obtain ⟨W1, hW1⟩ : ∃ W1, W1 = wr.alloc (.cells #[.string x.f0, .string x.f1, .bool x.f2] 57) := ⟨_, rfl⟩
      have hsz : w.heap.size ≤ wr.heap.size := below_size HB.out
      have KM1 := Aside0.mk (show W1.ownsMap Try.prog 9 wrElem w.heap.size j (mgD (all.take j)) by rw [hW1]; exact HM.out.alloc _)
      have KB1 := Aside0.mk (show Below w.heap.size w W1 by rw [hW1]; exact below_alloc HB.out _)
      have KR1 := Aside0.mk (show Kd.R k57 57 W1 w.heap.size (fun _ => True) (.slice (some ad) all.length c) all by rw [hW1]; exact Kd.R_alloc HR.out _)
      have KS1 := Aside0.mk (show w.heap.size ≤ W1.heap.size by rw [hW1]; simp; omega)
      have KW1 := Aside0.mk hW1
      clear hW1
      go_wp2_with (first
        | (at_mapUpdate; rw [← KW1.out]; refine wpList_mapUpdate_own _ rfl _ _ _ 87 rfl 9 57 (Maps.string_keyed Try.underlying9) Try.underlying87 wrElem w.heap.size j (mgD (all.take j)) rfl KM1.out (by unfold maxLen; have := KN.out; omega) _ _ (wkey x) rfl rfl HK.out (.held x) [] rfl ?_; intro w5 hown5 hg5; have M5 := Aside0.mk hown5; have G5 := Aside0.mk hg5; clear hown5 hg5)
        | go_in)
      have R5 : Aside0 (Kd.R k57 57 w5 w.heap.size (fun _ => True) (.slice (some ad) all.length c) all) := ⟨rowW_grown KR1.out G5.out (fun b hb hv => by
        obtain ⟨cs, hcs⟩ := rowW_cells KR1.out b hv
        exact mapW_cells KM1.out b cs hcs (Option.some.inj hb).symm)⟩
      have B5 := Aside0.mk (KB1.out.grown G5.out KS1.out (fun k hk => by cases hk; exact Nat.le_refl _))
      have M6 : Aside0 (w5.ownsMap Try.prog 9 wrElem w.heap.size (j + 1) (mgD (all.take (j + 1)))) := ⟨by rw [HD.out]; exact M5.out⟩
      have hw1 : wrap64 ((j : Int) + 1) = ((j + 1 : Nat) : Int) := by have := KN.out; unfold wrap64; omega
      go_roundg (all.length - (j + 1))
      case measure => omega
      case rel => exact ⟨j + 1, by omega, by omega, by rw [← hw1], M6, R5, B5⟩
    · have hltz : decide ((j : Int) < (all.length : Int)) = false := decide_eq_false (by omega)
      obtain ⟨wa, hwa⟩ : ∃ wa, wa = wr := ⟨_, rfl⟩
      subst hwa
      have M6 : Aside0 (wa.ownsMap Try.prog 9 wrElem w.heap.size j (mgD all)) := ⟨by have := HM.out; rwa [List.take_of_length_le (by omega)] at this⟩
      go_wp2_with (first
        | (at_range; refine wpList_range_own _ rfl _ 87 rfl 9 57 (Maps.string_keyed Try.underlying9) Try.underlying87 wrElem w.heap.size j (mgD all) rfl M6.out ?_; intro w6 hrg6 hg6 hs6; have RG6 := Aside0.mk hrg6; have G6 := Aside0.mk hg6; clear hrg6 hg6 hs6)
        | go_in)
      go_frame
      have SZ : Aside0 (Maps.size (mgD all) ≤ 1000000) := ⟨Nat.le_trans M6.out.size_le (by have := KN.out; omega)⟩
      have B6 := Aside0.mk (HB.out.grown G6.out (below_size HB.out) (fun k hk => by cases hk))
      have CS0 := Aside0.mk (Coll.start all)
      have RN : Aside0 (Kd.R k57 57 w6 w.heap.size (fun _ => True) (.slice none 0 0) ([] : List S57)) := ⟨Kd.R_nil _ _ _ _ _⟩
      go_loopg [8] (Maps.size (mgD all)) (fun gg s8 wq => ∃ (left : Lit → Bool) (cnt : Nat) (ss : List S57), cnt ≤ gg ∧ ss.length + cnt ≤ Maps.size (mgD all) ∧ Aside0 (wq.ranges Try.prog 9 wrElem w.heap.size wa.heap.size j (mgD all) left cnt) ∧ Aside0 (Kd.R k57 57 wq w.heap.size (fun _ => True) s8 ss) ∧ Aside0 (Coll all left ss) ∧ Aside0 (Below w.heap.size w wq))
      case atStart => exact ⟨_, _, [], Nat.le_refl _, by simp, RG6, RN, CS0, B6⟩
      case round =>
        obtain ⟨left, cnt, ss, hcg, hcs, HG, HR2, HC, HB2⟩ := hrel
        obtain ⟨A8, c8, he8, h8, _⟩ := Kd.R_reads HR2.out
        subst he8
        clear h8
        go_wp2_with (first
          | (at_next; refine wpList_next_ranges _ rfl _ rfl 9 (Maps.string_keyed Try.underlying9) wrElem (fun s : ByteArray => Value.string s) (fun x : S57 => Value.agg #[.string x.f0, .string x.f1, .bool x.f2]) invK_W invV_W w.heap.size wa.heap.size j _ _ _ rfl HG.out ?_ ?_)
          | go_in)
        · intro hc0 hl0
          have CS := Aside0.mk (run_Merge.sort w.heap.size (.slice A8 ss.length c8) ss w wr HR2.out HB2.out (below_size HB2.out) (by have := SZ.out; omega))
          have HL := Aside0.mk hl0
          clear hl0
          go_wp2_with (first
            | (go_at_call 51; refine CS.out.mono ?_; rintro e w7 ⟨rfl, r7, hp, hs, hR, hB⟩; have P7 := Aside0.mk hp; have S7 := Aside0.mk hs; have R7 := Aside0.mk hR; have B7 := Aside0.mk hB; clear hp hs hR hB)
            | go_in)
          go_ret
          exact ⟨_, rfl, by rw [← HC.out.sorted HL.out P7.out S7.out]; exact R7.out, B7.out⟩
        · intro sk x kl y1 y2 w2 cnt2 hkey hlk hv hat hrg2 hlt2 hg2 hs2 hen
          have hy : (DataW.held x, ([] : List MemPlace)) = (y1, y2) := by
            have := hv
            rw [wrElem_mk] at this
            exact Option.some.inj this
          obtain rfl : DataW.held x = y1 := congrArg Prod.fst hy
          obtain ⟨s', es, rfl, _⟩ := WideMaps.string_of_keyOf Try.underlying9 hkey
          cases es
          have hx : lastW all sk.data.toList = some x := by
            have h1 := (mgD_at sk.data.toList .nil all.length all rfl).symm.trans (hat .nil)
            cases hq : lastW all sk.data.toList with
            | none => rw [hq] at h1; cases h1
            | some z => rw [hq] at h1; cases h1; rfl
          have hxk := (lastW_key all _ x hx).1
          have hw : (Lit.string sk.data.toList) = wkey x := by unfold wkey; rw [hxk]
          rw [← hxk] at hx
          rw [hw] at hlk hrg2
          have HC2 := Aside0.mk (HC.out.step hx hlk)
          have R2 : Aside0 (Kd.R k57 57 w2 w.heap.size (fun _ => True) (.slice A8 ss.length c8) ss) := ⟨rowW_grown HR2.out hg2 (fun b hb hv2 => by
            obtain ⟨cs, hcs2⟩ := rowW_cells HR2.out b hv2
            exact itW_cells HG.out b cs hcs2 (Option.some.inj hb).symm)⟩
          have B2 := Aside0.mk (HB2.out.grown hg2 (below_size HB2.out) (fun k hk => by cases hk; exact below_size HB.out))
          have RG2 := Aside0.mk hrg2
          have hcnt := hlt2
          have HEN := hen
          clear hv hat hkey hw hxk hx hlk hrg2 hg2 hs2
          go_wp2_with (first
            | (at_builtin; refine Kd.R_append k57 (w0 := w) (W := w2.alloc (.cells #[.string x.f0, .string x.f1, .bool x.f2] 57)) w.heap.size rfl (.tmp 32) (.tmp 34) 54 57 (.agg #[(.string ⟨#[]⟩), (.string ⟨#[]⟩), (.bool false)]) 40 rfl Try.underlying54 info57 rfl (by decide) (by omega) (.slice A8 ss.length c8) ss x [.string x.f0, .string x.f1, .bool x.f2] (fun _ => True) (fun _ => False) rfl (by simp [Act.eval])  ?aP (fun _ hk => hk.elim) ?aF ?aO ?aB ?aS ?aL ?_; (case aP => exact k57_mkM _ _ _ x); (case aF => exact fun _ _ => trivial); (case aO => exact Kd.R_alloc R2.out _); (case aB => exact below_alloc B2.out _); (case aS => exact below_size (below_alloc B2.out _)); (case aL => have := SZ.out; omega); intro v8 w8 ho hb hg hat2; have R8 := Aside0.mk ho; have B8 := Aside0.mk hb; have G8 := Aside0.mk hg; clear ho hb hg hat2)
            | go_in)
          have RG3 : Aside0 ((w2.alloc (.cells (flW x).toArray 57)).ranges Try.prog 9 wrElem w.heap.size wa.heap.size j (mgD all) (fun z => left z && !z.sameKey (wkey x)) cnt2) := ⟨RG2.out.alloc _⟩
          have R3' : Aside0 (Kd.R k57 57 (w2.alloc (.cells (flW x).toArray 57)) w.heap.size (fun _ => True) (.slice A8 ss.length c8) ss) := ⟨Kd.R_alloc R2.out _⟩
          have RG8 : Aside0 (w8.ranges Try.prog 9 wrElem w.heap.size wa.heap.size j (mgD all) (fun z => left z && !z.sameKey (wkey x)) cnt2) := ⟨RG3.out.kept G8.out (fun e => by
            obtain ⟨cs, hcs2⟩ := rowW_cells R3'.out _ e.symm
            exact mapW_cells RG3.out.owns _ cs hcs2 rfl) (fun e => by
            obtain ⟨cs, hcs2⟩ := rowW_cells R3'.out _ e.symm
            exact itW_cells RG3.out _ cs hcs2 rfl)⟩
          go_roundg cnt2
          case measure => omega
          case rel => exact ⟨_, cnt2, ss ++ [x], Nat.le_refl _, by rw [List.length_append]; simp; omega, RG8, R8, HC2, B8⟩

/-! ### stanchionref05_Writes: function 23 -/
set_option maxHeartbeats 8000000 in
set_option maxRecDepth 100000 in
theorem stanchionref05_Writes.calls (k : Nat) (A0 : Option Addr) (c0 : Nat) (l0 : List (S57)) (A1 : Option Addr) (c1 : Nat) (l1 : List (S57)) (r : Bool) (w : World) (hr0 : Kd.C k57 w A0 l0.length l0) (hc0 : l0.length ≤ c0) (hr1 : Kd.C k57 w A1 l1.length l1) (hc1 : l1.length ≤ c1) (h : stanchionref05_Writes.f k l0 l1 = some r) :
    Calls Try.prog 23 #[.slice A0 l0.length c0, .slice A1 l1.length c1] w fun e w' => e = .returned (.bool r) ∧ Drawn0 w w' := by
  have hu57 := Try.underlying57
  have HR0 := Aside0.mk hr0
  have HC0 := Aside0.mk hc0
  clear hr0 hc0
  have HR1 := Aside0.mk hr1
  have HC1 := Aside0.mk hc1
  clear hr1 hc1
  have H : (if (l0.length : Int) = (l1.length : Int) then (stanchionref05_Writes.l0 k l0 l1 0) else (some false)) = some r := h
  clear h
  by_cases c3 : (l0.length : Int) = (l1.length : Int)
  · rw [if_pos c3] at H
    have c3b0 : ((l0.length : Int) == (l1.length : Int)) = true := beq_iff_eq.mpr c3
    have c3b1 : ((l0.length : Int) != (l1.length : Int)) = false := bne_eq_false_iff_eq.mpr c3
    have c3b2 : (l0.length == l1.length) = true := by first | simpa using c3 | (simp at c3 ⊢; omega)
    clear c3
    have H' := Aside0.mk H
    clear H
    go_enter Try.func23, Try.ntmps23
    go_wp2
    repeat (go_quiet (fail); try go_wp2)
    go_loopg [5] k (fun kq v5 w' => ∃ (x5_1 : Int), v5 = .int .i64 x5_1 ∧ Aside0 (stanchionref05_Writes.l0 kq l0 l1 x5_1 = some r) ∧ Aside0 (kq ≤ k) ∧ Drawn0 w w')
    case atStart => exact ⟨(0), (by first | rfl | (simp; done) | (simp [*]; done)), H', ⟨Nat.le_refl _⟩, by repeat (first | exact Drawn0.refl _ | apply Drawn0.step)⟩
    case round =>
      clear H'
      try clear c1
      try clear c2
      try clear p2
      try clear c3
      try clear c3b0
      try clear c3b1
      try clear c3b2
      obtain ⟨x5_1, rfl, HA, HK1, ⟨m1, rfl⟩⟩ := hrel
      cases gk with
      | zero => exact absurd HA.out (by simp [stanchionref05_Writes.l0])
      | succ k1 =>
        have H := HA.out
        clear HA
        simp only [stanchionref05_Writes.l0] at H
        by_cases c4 : x5_1 < (l0.length : Int)
        · rw [if_pos c4] at H
          have c4b0 : decide (x5_1 < (l0.length : Int)) = true := decide_eq_true c4
          clear c4
          by_cases c5 : 0 ≤ x5_1
          · rw [if_pos c5] at H
            have c5b0 : decide (0 ≤ x5_1) = true := decide_eq_true c5
            clear c5
            by_cases c6 : x5_1 < (l1.length : Int)
            · rw [if_pos c6] at H
              have c6b0 : decide (x5_1 < (l1.length : Int)) = true := decide_eq_true c6
              clear c6
              by_cases c7 : (!((((rd_T57 l0 x5_1).f0).toList) == (((rd_T57 l1 x5_1).f0).toList)) || (!((((rd_T57 l0 x5_1).f1).toList) == (((rd_T57 l1 x5_1).f1).toList)) || (!(((rd_T57 l0 x5_1).f2) == ((rd_T57 l1 x5_1).f2))))) = true
              · rw [if_pos c7] at H
                have c7b0 : (!((((rd_T57 l0 x5_1).f0).toList) == (((rd_T57 l1 x5_1).f0).toList)) || (!((((rd_T57 l0 x5_1).f1).toList) == (((rd_T57 l1 x5_1).f1).toList)) || (!(((rd_T57 l0 x5_1).f2) == ((rd_T57 l1 x5_1).f2))))) = true := c7
                clear c7
                obtain rfl := Option.some.inj H
                have p160 : 0 ≤ (x5_1 : Int) := of_decide_eq_true (by first | (with_reducible assumption) | assumption)
                have q160 : x5_1 < (l0.length : Int) := of_decide_eq_true (by first | (with_reducible assumption) | assumption)
                obtain ⟨ad160, e160, hx160_0, hx160_1, hx160_2⟩ := at_T57 HR0.out x5_1 p160 q160
                cases e160
                replace p160 := eq_true p160
                replace q160 := eq_true q160
                have p161 : 0 ≤ (x5_1 : Int) := of_decide_eq_true (by first | (with_reducible assumption) | assumption)
                have q161 : x5_1 < (l1.length : Int) := of_decide_eq_true (by first | (with_reducible assumption) | assumption)
                obtain ⟨ad161, e161, hx161_0, hx161_1, hx161_2⟩ := at_T57 HR1.out x5_1 p161 q161
                cases e161
                replace p161 := eq_true p161
                replace q161 := eq_true q161
                go_wp2
                repeat (go_quiet (fail); try go_wp2)
                go_ret
                exact ⟨by first | rfl | (simp; done) | (simp [*]; done), by repeat (first | exact Drawn0.refl _ | apply Drawn0.step)⟩
              · rw [if_neg c7] at H
                have c7b0 : (!((((rd_T57 l0 x5_1).f0).toList) == (((rd_T57 l1 x5_1).f0).toList)) || (!((((rd_T57 l0 x5_1).f1).toList) == (((rd_T57 l1 x5_1).f1).toList)) || (!(((rd_T57 l0 x5_1).f2) == ((rd_T57 l1 x5_1).f2))))) = false := by simpa using c7
                clear c7
                have H' := Aside0.mk H
                clear H
                have p160 : 0 ≤ (x5_1 : Int) := of_decide_eq_true (by first | (with_reducible assumption) | assumption)
                have q160 : x5_1 < (l0.length : Int) := of_decide_eq_true (by first | (with_reducible assumption) | assumption)
                obtain ⟨ad160, e160, hx160_0, hx160_1, hx160_2⟩ := at_T57 HR0.out x5_1 p160 q160
                cases e160
                replace p160 := eq_true p160
                replace q160 := eq_true q160
                have p161 : 0 ≤ (x5_1 : Int) := of_decide_eq_true (by first | (with_reducible assumption) | assumption)
                have q161 : x5_1 < (l1.length : Int) := of_decide_eq_true (by first | (with_reducible assumption) | assumption)
                obtain ⟨ad161, e161, hx161_0, hx161_1, hx161_2⟩ := at_T57 HR1.out x5_1 p161 q161
                cases e161
                replace p161 := eq_true p161
                replace q161 := eq_true q161
                go_wp2
                repeat (go_quiet (fail); try go_wp2)
                go_roundg k1
                case measure => have := HK1.out; omega
                case rel => exact ⟨(wrap64 (x5_1 + 1)), (by first | rfl | (simp; done) | (simp [*]; done)), H', ⟨by have := HK1.out; omega⟩, by repeat (first | exact Drawn0.refl _ | apply Drawn0.step)⟩
            · rw [if_neg c6] at H
              exact absurd H (by simp)
          · rw [if_neg c5] at H
            exact absurd H (by simp)
        · rw [if_neg c4] at H
          have c4b0 : decide (x5_1 < (l0.length : Int)) = false := decide_eq_false c4
          clear c4
          obtain rfl := Option.some.inj H
          go_wp2
          repeat (go_quiet (fail); try go_wp2)
          go_ret
          exact ⟨by first | rfl | (simp; done) | (simp [*]; done), by repeat (first | exact Drawn0.refl _ | apply Drawn0.step)⟩
  · rw [if_neg c3] at H
    have c3b0 : ((l0.length : Int) == (l1.length : Int)) = false := beq_eq_false_iff_ne.mpr c3
    have c3b1 : ((l0.length : Int) != (l1.length : Int)) = true := bne_iff_ne.mpr c3
    have c3b2 : (l0.length == l1.length) = false := by first | simpa using c3 | (simp at c3 ⊢; omega)
    obtain rfl := Option.some.inj H
    go_enter Try.func23, Try.ntmps23
    go_wp2
    repeat (go_quiet (fail); try go_wp2)
    go_ret
    exact ⟨by first | rfl | (simp; done) | (simp [*]; done), by repeat (first | exact Drawn0.refl _ | apply Drawn0.step)⟩

end Go.Proofs.Ytbhkopbalhhpgaa.PM
