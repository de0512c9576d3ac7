-- Made by a program of this workplace out of the translation (wip/tools in the repo). Not trusted: Lean checks it.
import Derived.Test.YtbhkopbalhhpgaaPYx0
import Derived.Test.YtbhkopbalhhpgaaCb
import Derived.Test.YtbhkopbalhhpgaaSq
import Derived.Test.YtbhkopbalhhpgaaSt
import Derived.Test.YtbhkopbalhhpgaaPYx3
import Derived.Test.YtbhkopbalhhpgaaPYx5
namespace Go.Proofs.Ytbhkopbalhhpgaa.PY
open Go.RowKit Go.Proofs.YtbhkopbalhhpgaaW.PrintWords Go.Proofs.YtbhkopbalhhpgaaW.PrintLast Go.Proofs.YtbhkopbalhhpgaaW.PrintMore Go.Proofs.Ytbhkopbalhhpgaa
attribute [local go_sem] max2_int min2_int max_two min_two max_three min_three max_four min_four   -- for this text's walks alone
set_option linter.unusedVariables false
set_option linter.unusedSimpArgs false

/-- a builder at block b that holds these bytes; all that was there ahead of b is as it was -/
def Bu (b : Nat) (s : ByteArray) (w : World) : Prop := Lib.IsBuilderF 67 5 b b (Lib.strCells s) w
theorem Bu.below {b : Nat} {s : ByteArray} {W W' : World} (h : Bu b s W) (hb : Below W.heap.size W W') : Bu b s W' := by
 have go : ∀ p, Lib.BuilderAtF 67 5 b b p (Lib.strCells s) W → Lib.BuilderAtF 67 5 b b p (Lib.strCells s) W' := fun p h => by
  obtain ⟨hB, v, hv, ho, hne⟩ := h
  obtain ⟨hl, ho⟩ := ho
  refine ⟨hB, v, blk_below hv hb, ⟨hl, ?_⟩, hne⟩
  rcases ho with ho | ⟨g, cap, cur, fz, h1, h2, h3, h4⟩
  ·exact .inl ho
  ·exact .inr ⟨g, cap, cur, fz, h1, h2, blk_below h3 hb, h4⟩
 exact h.elim (fun x => .inl (go _ x)) (fun x => .inr (go _ x))
theorem Bu.drew {b : Nat} {s : ByteArray} {w : World} (h : Bu b s w) : Bu b s w.drew := h
theorem Bu.drewN {b : Nat} {s : ByteArray} {w : World} (h : Bu b s w) (n : Nat) : Bu b s (w.drewN n) := h
theorem Bu.alloc {b : Nat} {s : ByteArray} {w : World} (h : Bu b s w) (o : Obj) : Bu b s (w.alloc o) := h.below ((Below.refl _ _).alloc (Nat.le_refl _) o)
theorem Bu.blk {b : Nat} {s : ByteArray} {w : World} (h : Bu b s w) : ∃ p v, w.heap[b]? = some (.cells #[p, v] 67 (0, 0)) := h.elim (fun ⟨_, v, hv, _⟩ => ⟨_, v, hv⟩) (fun ⟨_, v, hv, _⟩ => ⟨_, v, hv⟩)
theorem Bu.far {b g i : Nat} {s : ByteArray} {w : World} {t : TypeId} {cs : Array Value} {u : Value} (h : Bu b s w) (hg : w.heap[g]? = some (.cells cs t (0, 0))) (ht : t ≠ 67) (h5 : t ≠ 5) : Bu b s (w.setCell ⟨g, i, none⟩ u) := by
 have go : ∀ p, Lib.BuilderAtF 67 5 b b p (Lib.strCells s) w → Lib.BuilderAtF 67 5 b b p (Lib.strCells s) (w.setCell ⟨g, i, none⟩ u) := fun p h => by
  obtain ⟨hB, v, hv, ⟨hl, ho⟩, hne⟩ := h
  refine ⟨hB, v, blk_far hv (fun e => ?_) u, ⟨hl, ?_⟩, hne⟩
  ·subst e
   rw [hv] at hg
   injection hg with hg
   injection hg with _ hg
   exact ht hg.symm
  ·rcases ho with ho | ⟨g1, cap, cur, fz, h1, h2, h3, h4⟩
   ·exact .inl ho
   ·refine .inr ⟨g1, cap, cur, fz, h1, h2, (Below.heap_setCell w ⟨g, i, none⟩ u g1 (fun e => ?_)).trans h3, h4⟩
    have e : g1 = g := e
    subst e
    rw [h3] at hg
    injection hg with hg
    injection hg with _ hg
    exact h5 hg.symm
 exact h.elim (fun x => .inl (go _ x)) (fun x => .inr (go _ x))
theorem bu_kept {b g : Nat} {s : ByteArray} {w w' : World} {t : TypeId} {cs : Array Value} (hk : Lib.OthersKept 5 (some b) w w') (h : Bu b s w) (hg : w.heap[g]? = some (.cells cs t (0, 0))) (ht : t ≠ 67) (h5 : t ≠ 5) : w'.heap[g]? = some (.cells cs t (0, 0)) := by
 refine hk g _ hg (fun e => ?_) (fun c fz e => ?_)
 ·obtain ⟨p, v, hv⟩ := h.blk
  cases e
  rw [hv] at hg
  injection hg with hg
  injection hg with _ hg
  exact ht hg.symm
 ·injection e with _ e
  exact h5 e
theorem Bu.lt {b : Nat} {s : ByteArray} {w : World} (h : Bu b s w) : b < w.heap.size := h.elim (·.lt) (·.lt)
theorem Bu.new {b : Nat} {w : World} (h : w.heap[b]? = some (.cells #[.pointer none, .slice none 0 0] 67 (0, 0))) : Bu b ⟨#[]⟩ w :=
 .inl ⟨Nat.le_refl _, .slice none 0 0, h, ⟨by decide, .inl ⟨rfl, rfl⟩⟩, by simp [Value.ownBlock]⟩
theorem strCells_append (a b : ByteArray) : Lib.strCells (a ++ b) = Lib.strCells a ++ Lib.strCells b := by
 simp [Lib.strCells]
set_option maxHeartbeats 2000000 in
set_option maxRecDepth 100000 in
theorem bu_check.calls (b : Nat) (bs : List Value) (w : World) (h : Lib.IsBuilderF 67 5 b b bs w) :
  Calls Try.prog 61 #[.pointer (some ⟨b, 0, none⟩)] w fun e w' => e = .returned (.tuple #[]) ∧ Lib.BuilderAtF 67 5 b b (.pointer (some ⟨b, 0, none⟩)) bs w' ∧ Below b w w' ∧ Lib.OthersKept 5 (some b) w w' := by
 have hj0 : (Try.prog.info? 67).map (·.size) = some 2 := by kernel_rfl
 obtain ⟨j, hj, hjs⟩ := Option.map_eq_some_iff.1 hj0
 rcases h with h | h
 ·have h0 := h.cell0
  have hsh := h.shape
  have hfz := h.frozen0
  have H := ak h
  clear h
  go_enter Try.func61, Try.ntmps61
  go_wp2
  rw [Lib.run_to_unsafe w ⟨b, 0, none⟩ Try.underlying64 Try.underlying125 hj (by rw [hjs]; decide) hsh (Nat.zero_lt_succ 1)]
  simp only [Result.andThen]
  rw [Oper.upon_value]
  go_wp2
  rw [run_callFunc_extern Try.func87 (by kernel_rfl) (by kernel_rfl) (by kernel_rfl) (e := Extern.AbiNoEscape.same) (by kernel_rfl)]
  rw [Lib.run_noEscape]
  simp only [Result.andThen]
  rw [Oper.upon_value]
  go_wp2
  rw [Lib.run_from_unsafe w ⟨b, 0, none⟩ Try.underlying125 Try.underlying64 hj hsh (by kernel_rfl)]
  simp only [Result.andThen]
  rw [Oper.upon_value]
  go_wp2
  go_end0
  exact ⟨rfl, H.out.used _, (Below.refl b w).setCell (p := ⟨b, 0, none⟩) (Nat.le_refl _) _, (Lib.OthersKept.refl _ _ w).setCell ⟨b, 0, none⟩ rfl _⟩
 ·have h0 := h.cell0
  have H := ak h
  clear h
  go_enter Try.func61, Try.ntmps61
  go_wp2
  rw [Lib.run_neq_ptr_same w _ Try.underlying64 hj]
  go_wp2
  go_end0
  exact ⟨rfl, H.out, Below.refl b _, Lib.OthersKept.refl _ _ _⟩
set_option maxHeartbeats 2000000 in
set_option maxRecDepth 100000 in
theorem bu_write.calls (b : Nat) (acc s : ByteArray) (w : World) (h : Bu b acc w) (hlen : acc.size + s.size ≤ 140737488355328) :
  Calls Try.prog 29 #[.pointer (some ⟨b, 0, none⟩), .string s] w fun e w' => ∃ n : Int, e = .returned (.tuple #[.int .i64 n, .nilIface]) ∧ Bu b (acc ++ s) w' ∧ Below b w w' ∧ Lib.OthersKept 5 (some b) w w' := by
 have hi0 : (Try.prog.info? 5).map (fun i => (i.zero, i.size, i.bytes)) = some (some (.int .u8 0), 1, 1) := by kernel_rfl
 obtain ⟨i0, hi, hz0, hz1, hz2⟩ := info_parts hi0
 have HL := h.lt
 have hl := Lib.strCells_length acc
 go_enter Try.func29, Try.ntmps29
 go_wp2_with (go_at_call 61; refine (bu_check.calls b (Lib.strCells acc) w h).mono ?_)
 rintro e w1 ⟨rfl, h1, hb1, hk1⟩
 obtain ⟨hB, v, hbk, hown, hne⟩ := h1
 have c0 : w1.cell? ⟨b, 0, none⟩ = some (.pointer (some ⟨b, 0, none⟩)) := (blk_cell hbk 0).trans rfl
 have c1 : w1.cell? ⟨b, 1, none⟩ = some v := (blk_cell hbk 1).trans rfl
 go_wp2_with (at_builtin; refine Lib.wpList_append_own_stringF _ rfl _ _ 65 9 rfl b 5 i0 Try.underlying65 Try.underlying9 hi hz0 hz1 hz2 _ _ _ rfl hown s rfl ?c3 ?c4 ?c5 ?_)
 case c3 => unfold maxLen; omega
 case c4 => omega
 case c5 => have := hb1.size; omega
 intro v' w2 hown' hgrow _
 have hb2 : w2.heap[b]? = some (.cells #[.pointer (some ⟨b, 0, none⟩), v] 67 (0, 0)) := blk_grown hbk hgrow (fun e => hne e.symm)
 have d0 : w2.cell? ⟨b, 0, none⟩ = some (.pointer (some ⟨b, 0, none⟩)) := (blk_cell hb2 0).trans rfl
 have d1 : w2.cell? ⟨b, 1, none⟩ = some v := (blk_cell hb2 1).trans rfl
 have f1 : w2.frozen? ⟨b, 1, none⟩ = false := blk_frozen hb2 1
 obtain ⟨ao, n', cap, rfl⟩ : ∃ ao n' cap, v' = .slice ao n' cap := by
  rcases hown'.2 with ⟨hv, _⟩ | ⟨g, cap, cur, fz, hv, _⟩
  ·exact ⟨_, _, _, hv⟩
  ·exact ⟨_, _, _, hv⟩
 go_wp2
 go_ret2
 refine ⟨_, rfl, .inr ?_, ?_, (hk1.grown hgrow (Lib.ownsRowF_kind hown)).setCell ⟨b, 1, none⟩ rfl _⟩
 ·rw [strCells_append]
  exact Lib.BuilderAtF.put (T := 67) (e := 5) hB hb2 (bs' := Lib.strCells acc ++ Lib.strCells s) (by simpa [Lib.strCells_length] using hown') (by decide)
 ·exact (hb1.grown hgrow (by have := hb1.size; omega) (fun k hk => (hown.lt k hk).1)).setCell (p := ⟨b, 1, none⟩) hB _
theorem bu_string.calls (b : Nat) (s : ByteArray) (w : World) (h : Bu b s w) :
  Calls Try.prog 33 #[.pointer (some ⟨b, 0, none⟩)] w fun e w' => e = .returned (.string s) ∧ Below b w w' :=
 (Go.Proofs.Try.Builder_String_any_k b b s.data.toList w h (Nat.le_of_lt h.lt)).mono (fun e w' hh => ⟨hh.1, hh.2.2.1⟩)
/-! ### run_Bytes: function 11 -/
def run_Bytes.T8 : Bool × List (List Nat × List Nat) := (true, [([], []), ([0], [0]), ([1], [1]), ([], []), ([3], [3]), ([4, 2], [4]), ([2, 5], [2, 5]), ([6, 5], [6])])
def run_Bytes.B8 : List Nat := [0, 1, 3, 0, 8, 31, 63, 127]
theorem run_Bytes.tab8 : rtab .any (opsOf Try.f11 8) = run_Bytes.T8 := by kernel_rfl
theorem run_Bytes.bits8 : waitsOk run_Bytes.T8.2 run_Bytes.B8 = true := by kernel_rfl
set_option maxHeartbeats 8000000 in
set_option maxRecDepth 100000 in
theorem run_Bytes.calls (k : Nat) (A0 : Option Addr) (c0 : Nat) (l0 : List (S62)) (r1 : ByteArray) (r2 : Int) (w : World) (a9 : Kd.C k62 w A0 l0.length l0) (bA : l0.length ≤ c0) (h : run_Bytes.f k l0 = some (r1, r2)) :
  Calls Try.prog 11 #[.slice A0 l0.length c0] w fun e w' => e = .returned (.tuple #[.string r1, .int .i64 r2]) ∧ Below w.heap.size w w' := by
 have bN := Try.underlying62
 have a3 := ak a9
 have bB := ak bA
 clear a9 bA
 have HB := ak (Below.refl w.heap.size w)
 have H : ((run_may.f k l0).bind fun aK => (if aK = true then ((dec_Num.f (IntKind.u64.wrap ((l0.length : Int)))).bind fun aC => (if 0 + aC.size ≤ 140737488355328 then (run_Bytes.l0 k ((⟨#[]⟩ : ByteArray) ++ aC) l0 (l0.length : Int) 0) else (none))) else (some ((⟨#[]⟩ : ByteArray), 1)))) = some (r1, r2) := h
 clear h
 replace H := Option.bind_eq_some_iff.mp H
 obtain ⟨aK, bC, H⟩ := H
 replace H : (if aK = true then ((dec_Num.f (IntKind.u64.wrap ((l0.length : Int)))).bind fun aC => (if 0 + aC.size ≤ 140737488355328 then (run_Bytes.l0 k ((⟨#[]⟩ : ByteArray) ++ aC) l0 (l0.length : Int) 0) else (none))) else (some ((⟨#[]⟩ : ByteArray), 1))) = some (r1, r2) := H
 have A2 := ak bC
 clear bC
 by_cases c3 : aK = true
 ·subst c3
  have H1 : ((dec_Num.f (IntKind.u64.wrap ((l0.length : Int)))).bind fun aC => (if 0 + aC.size ≤ 140737488355328 then (run_Bytes.l0 k ((⟨#[]⟩ : ByteArray) ++ aC) l0 (l0.length : Int) 0) else (none))) = some (r1, r2) := by rw [if_pos rfl] at H; exact H
  clear H
  have H := H1
  clear H1
  replace H := Option.bind_eq_some_iff.mp H
  obtain ⟨aC, bD, H⟩ := H
  replace H : (if 0 + aC.size ≤ 140737488355328 then (run_Bytes.l0 k ((⟨#[]⟩ : ByteArray) ++ aC) l0 (l0.length : Int) 0) else (none)) = some (r1, r2) := H
  have A4 := ak bD
  clear bD
  have c5 : 0 + aC.size ≤ 140737488355328 := Decidable.byContradiction fun q => by rw [if_neg q] at H; exact absurd H (by simp)
  rw [if_pos c5] at H
  have a4 := eq_true c5
  have a5 : decide (0 + aC.size ≤ 140737488355328) = true := decide_eq_true c5
  try have a6 : (9223372036854775807 < 0 + aC.size) = False := eq_false (Nat.not_lt.2 c5)
  have H' := ak H
  clear H
  go_enter Try.func11, Try.ntmps11
  go_wp2_with (first | ((with_reducible refine gate_callee (f := 28) rfl ?_); refine goesL_ (some 8) rfl rfl Try.func28 (by kernel_rfl) rfl #[.slice A0 l0.length c0] rfl (by (try simp only [List.map_toArray, List.map_cons, List.map_nil]); first | done | rfl | (simp only [List.length_drop, List.length_take]; rfl) | (simp (disch := omega) only [IntWalk.u64_in]; first | done | rfl)) ?_; (with_reducible refine (run_may.calls k _ _ l0 true _ ?side1 ?side2 A2.out).mono ?_); (case side1 => repeat (first | exact a3.out | (with_reducible refine Kd.C_alloc ?_ _) | (with_reducible refine Kd.C_drewN ?_ _) | (with_reducible refine Kd.C_drew ?_))); (case side2 => exact bB.out); rintro e w6 ⟨rfl, hb⟩; refine ⟨_, rfl, ?_⟩; replace HB := ak (below_step (pB HB.out) hb); (try clear hb); (try clear hb2); (try clear hk); (try clear hi)) | ((with_reducible refine gate_callee (f := 30) rfl ?_); refine goesL_ (some 13) rfl rfl Try.func30 (by kernel_rfl) rfl #[.int .u64 (IntKind.u64.wrap ((l0.length : Int)))] rfl (by (try simp only [List.map_toArray, List.map_cons, List.map_nil]); first | done | rfl | (simp only [List.length_drop, List.length_take]; rfl) | (simp (disch := omega) only [IntWalk.u64_in]; first | done | rfl)) ?_; (with_reducible refine (dec_Num.calls (IntKind.u64.wrap ((l0.length : Int))) aC _ A4.out).mono ?_); rintro e w7 ⟨rfl, hb⟩; refine ⟨_, rfl, ?_⟩; have nU_ := ak (Bu.below (by (with_reducible repeat (first | refine Bu.drewN ?_ _ | refine Bu.drew ?_ | refine Bu.alloc ?_ _)); exact BKU.out) hb); clear BKU; have BKU := nU_; clear nU_; replace HB := ak (below_step (pB HB.out) hb); (try clear hb); (try clear hb2); (try clear hk); (try clear hi)) | ((with_reducible refine gate_dst (N := 4) rfl ?_); (try (refine gate_guard (by rfl) ?_; dsimp only)); refine box_event ?hg (N := 4) ?hd (cs := #[.pointer none, .slice none 0 0]) (t := 67) ?hr ?_; (case hd => rfl); (case hg => rfl); (case hr => first | (go_simp; done) | (go_simp; rfl)); intro gbU hg wU hbox hb; have n1_ := ak (below_step (pB HB.out) hb); have GEU := ak ((by rw [hg]; exact below_size (pB HB.out)) : w.heap.size ≤ gbU); clear HB; have HB := n1_; clear n1_; have BKU := ak (Bu.new hbox); clear hbox hb hg) | ((with_reducible refine gate_callee (f := 29) rfl ?_); refine goesL_ (some 14) rfl rfl Try.func29 (by kernel_rfl) rfl #[.pointer (some ⟨gbU, 0, none⟩), .string aC] rfl (by (try simp only [List.map_toArray, List.map_cons, List.map_nil]); first | done | rfl) ?_; (with_reducible refine (bu_write.calls gbU (⟨#[]⟩ : ByteArray) aC _ BKU.out (by first | exact c5 | omega | (have e_ : (⟨#[]⟩ : ByteArray).size = 0 := rfl; have q_ := c5; omega))).mono ?_); rintro e wV ⟨nW_, rfl, hbu, hb, hkp⟩; refine ⟨_, rfl, ?_⟩; have nb_ := ak (below_weaken HB.out GEU.out hb); clear HB BKU; have HB := nb_; have BKU := ak hbu; clear nb_ hbu hb hkp))
  go_loopg [17] k (fun kq v17 w' => ∃ (aG : ByteArray) (aA : Int), v17 = .int .i64 aA ∧ Aside0 (run_Bytes.l0 kq aG l0 (l0.length : Int) aA = some (r1, r2)) ∧ Aside0 (kq ≤ k) ∧ Aside0 (Below w.heap.size w w') ∧ Aside0 (Bu gbU aG w'))
  case atStart => exact ⟨((⟨#[]⟩ : ByteArray) ++ aC), (0), (by first | rfl | (simp; done) | (simp [*]; done)), H', ⟨Nat.le_refl _⟩, ⟨pB HB.out⟩, ⟨by (with_reducible repeat (first | refine Bu.drewN ?_ _ | refine Bu.drew ?_ | refine Bu.alloc ?_ _)); exact BKU.out⟩⟩
  case round =>
   clear H'
   try clear c1 c2 p2 c3 c5 a4 a5 a6
   obtain ⟨aG, aA, rfl, HA, bE, HB, BKU⟩ := hrel
   cases gk with
   | zero => exact absurd HA.out (by simp [run_Bytes.l0])
   | succ k1 =>
    have H := HA.out
    clear HA
    simp only [run_Bytes.l0] at H
    by_cases c8 : aA < (l0.length : Int)
    ·rw [if_pos c8] at H
     have a7 : decide (aA < (l0.length : Int)) = true := decide_eq_true c8
     clear c8
     have c9 : 0 ≤ aA := Decidable.byContradiction fun q => by rw [if_neg q] at H; exact absurd H (by simp)
     rw [if_pos c9] at H
     have bO : decide (0 ≤ aA) = true := decide_eq_true c9
     clear c9
     have aW : aA < (l0.length : Int) := Decidable.byContradiction fun q => by rw [if_neg q] at H; exact absurd H (by simp)
     rw [if_pos aW] at H
     have bF : decide (aA < (l0.length : Int)) = true := decide_eq_true aW
     clear aW
     replace H := Option.bind_eq_some_iff.mp H
     obtain ⟨aF, aO, H⟩ := H
     replace H : ((dec_Text.f ((rd_T62 l0 aA).f1)).bind fun aD => (if aF.size + aD.size ≤ 9223372036854775807 then (if aG.size + (aF ++ aD).size ≤ 140737488355328 then (run_Bytes.l0 k1 (aG ++ (aF ++ aD)) l0 (l0.length : Int) (wrap64 (aA + 1))) else (none)) else (none))) = some (r1, r2) := H
     have bP := ak aO
     clear aO
     replace H := Option.bind_eq_some_iff.mp H
     obtain ⟨aD, aP, H⟩ := H
     replace H : (if aF.size + aD.size ≤ 9223372036854775807 then (if aG.size + (aF ++ aD).size ≤ 140737488355328 then (run_Bytes.l0 k1 (aG ++ (aF ++ aD)) l0 (l0.length : Int) (wrap64 (aA + 1))) else (none)) else (none)) = some (r1, r2) := H
     have bQ := ak aP
     clear aP
     have aQ : aF.size + aD.size ≤ 9223372036854775807 := Decidable.byContradiction fun q => by rw [if_neg q] at H; exact absurd H (by simp)
     rw [if_pos aQ] at H
     have bG := eq_true aQ
     have bH : decide (aF.size + aD.size ≤ 9223372036854775807) = true := decide_eq_true aQ
     try have bI : (9223372036854775807 < aF.size + aD.size) = False := eq_false (Nat.not_lt.2 aQ)
     have aL : aG.size + (aF ++ aD).size ≤ 140737488355328 := Decidable.byContradiction fun q => by rw [if_neg q] at H; exact absurd H (by simp)
     rw [if_pos aL] at H
     have bJ := eq_true aL
     have bK : decide (aG.size + (aF ++ aD).size ≤ 140737488355328) = true := decide_eq_true aL
     try have aR : (9223372036854775807 < aG.size + (aF ++ aD).size) = False := eq_false (Nat.not_lt.2 aL)
     try (have aS := aR; simp only [ByteArray.size_append] at aS)
     have H' := ak H
     clear H
     have aM : 0 ≤ (aA : Int) := of_decide_eq_true (by first | (with_reducible assumption) | assumption)
     have aN : aA < (l0.length : Int) := of_decide_eq_true (by first | (with_reducible assumption) | assumption)
     obtain ⟨bL, a8, aH, aI⟩ := at_T62 a3.out aA aM aN
     cases a8
     replace aH := (HB.out.cell (World.block_lt_of_cell? w _ aH)).trans aH
     replace aI := (HB.out.cell (World.block_lt_of_cell? w _ aI)).trans aI
     replace aM := eq_true aM
     replace aN := eq_true aN
     try go_wp2_with (first | ((with_reducible refine gate_dst (N := 6) rfl ?_); refine box_event ?hg (N := 6) ?hd (cs := #[.string (⟨#[]⟩ : ByteArray), .string (⟨#[]⟩ : ByteArray)]) (t := 62) ?hr ?_; (case hd => rfl); (case hg => rfl); (case hr => first | (go_simp; done) | (go_simp; rfl)); intro aE hg aX hbox hb; have nU_ := ak (Bu.below (by (with_reducible repeat (first | refine Bu.drewN ?_ _ | refine Bu.drew ?_ | refine Bu.alloc ?_ _)); exact BKU.out) hb); clear BKU; have BKU := nU_; clear nU_; obtain ⟨n_, aJ⟩ := Cb.bx (pB HB.out) hg hb; have bM := aJ; have aB := ak (hbox); replace HB := n_; clear n_; clear hb hbox hg; obtain ⟨aY, aZ⟩ := Cb.c2 aB.out; obtain ⟨a1, a2⟩ := Cb.f2 aB.out))
     have nU_ : Aside0 (Bu gbU aG ((aX.setCell ⟨aE, 0, none⟩ (.string ((rd_T62 l0 aA).f0))).setCell ⟨aE, 1, none⟩ (.string ((rd_T62 l0 aA).f1)))) := ⟨Bu.far (Bu.far BKU.out aB.out (by decide) (by decide)) (blk_set aB.out 0 _) (by decide) (by decide)⟩
     have n0_ : Aside0 (((aX.setCell ⟨aE, 0, none⟩ (.string ((rd_T62 l0 aA).f0))).setCell ⟨aE, 1, none⟩ (.string ((rd_T62 l0 aA).f1))).heap[aE]? = some (.cells #[.string ((rd_T62 l0 aA).f0), .string ((rd_T62 l0 aA).f1)] 62 (0, 0))) := ⟨by (with_reducible repeat (first | refine blk_drewN ?_ _ | refine blk_drew ?_ | refine blk_alloc ?_ _)); exact blk_put (blk_put (pk aB.out) 0 _ rfl) 1 _ rfl⟩
     have n1_ : Aside0 (Below w.heap.size w ((aX.setCell ⟨aE, 0, none⟩ (.string ((rd_T62 l0 aA).f0))).setCell ⟨aE, 1, none⟩ (.string ((rd_T62 l0 aA).f1)))) := ⟨by repeat (first | (with_reducible first | exact HB.out | apply ba | apply bn | apply bd | refine bs ?_ aJ.out) | exact HB.out)⟩
     (try clear aB)
     (try clear HB)
     clear BKU
     generalize ((aX.setCell ⟨aE, 0, none⟩ (.string ((rd_T62 l0 aA).f0))).setCell ⟨aE, 1, none⟩ (.string ((rd_T62 l0 aA).f1))) = w17 at n0_ n1_ nU_ ⊢
     have BKU := nU_
     clear nU_
     have aB := n0_
     have HB := n1_
     clear n0_ n1_
     have nU_ := ak (Bu.drew BKU.out)
     clear BKU
     have BKU := nU_
     clear nU_
     replace aB := ak (blk_drew aB.out)
     replace HB := ak (below_drew1 HB.out)
     refine start_ (n := 8) (S := fun w' => w'.cell? ⟨aE, 0, none⟩ = some (.string ((rd_T62 l0 aA).f0)) ∧ w'.cell? ⟨aE, 1, none⟩ = some (.string ((rd_T62 l0 aA).f1))) (ds := []) #[false, false, false, false, false, false, false, false] (by kernel_rfl) rfl rfl ⟨(blk_cell aB.out 0).trans rfl, (blk_cell aB.out 1).trans rfl⟩ (fun hHeld => ?_); refine with_tabW run_Bytes.tab8 run_Bytes.bits8 (fun HT_ HW_ => ?_)
     generalize w17.drew = w18 at BKU aB HB hHeld ⊢
     refine pure_ (i := 0) (N := some 21) (v := ?_) (a' := ?_) #[true, false, false, false, false, false, false, false] rfl rfl (any_of HT_.out (by kernel_rfl)) (fun _ _ _ h => h) (Or.inl ⟨by rfl, ?_⟩) ?_ ?_
     rotate_left
     ·intro w'
      go_simp
      with_reducible rfl
     rotate_left
     ·simp only [Act.put, List.setIfInBounds_toArray, List.set_cons_zero, List.set_cons_succ, i64_w, i32_w]
      rfl
     refine pure_ (i := 3) (N := some 24) (v := ?_) (a' := ?_) #[true, false, false, true, false, false, false, false] rfl rfl (any_of HT_.out (by kernel_rfl)) (fun _ _ _ h => h) (Or.inl ⟨by rfl, ?_⟩) ?_ ?_
     rotate_left
     ·intro w'
      go_simp
      with_reducible rfl
     rotate_left
     ·simp only [Act.put, List.setIfInBounds_toArray, List.set_cons_zero, List.set_cons_succ, i64_w, i32_w]
      rfl
     refine take_ (i := 1) (N := some 22) (v := ?_) (a' := ?_) #[true, true, false, true, false, false, false, false] rfl rfl (take_ofW HT_.out HW_.out (by kernel_rfl)) (fun _ _ _ h => h) (Or.inl ⟨by rfl, ?_⟩) hHeld ?_ ?_
     rotate_left
     ·rintro w' ⟨s0, s1⟩
      go_simp
      with_reducible rfl
     rotate_left
     ·simp only [Act.put, List.setIfInBounds_toArray, List.set_cons_zero, List.set_cons_succ, i64_w, i32_w]
      rfl
     refine take_ (i := 4) (N := some 25) (v := ?_) (a' := ?_) #[true, true, false, true, true, false, false, false] rfl rfl (take_ofW HT_.out HW_.out (by kernel_rfl)) (fun _ _ _ h => h) (Or.inl ⟨by rfl, ?_⟩) hHeld ?_ ?_
     rotate_left
     ·rintro w' ⟨s0, s1⟩
      go_simp
      with_reducible rfl
     rotate_left
     ·simp only [Act.put, List.setIfInBounds_toArray, List.set_cons_zero, List.set_cons_succ, i64_w, i32_w]
      rfl
     refine one_ (i := 2) (N := some 23) #[true, true, true, true, true, false, false, false] rfl rfl (one_of HT_.out (by kernel_rfl)) (by decide) (fun K hK => ?_)
     refine goes_ Try.func31 (by kernel_rfl) rfl #[.string ((rd_T62 l0 aA).f0)] (by rfl) rfl rfl (by (try simp only [List.map_toArray, List.map_cons, List.map_nil]); first | done | rfl | (simp only [List.length_drop, List.length_take]; rfl)) ?_
     with_reducible refine (dec_Text.calls ((rd_T62 l0 aA).f0) aF _ bP.out).mono ?_
     rintro e bS ⟨rfl, hb⟩
     refine ⟨_, rfl, ?_⟩
     have nU_ := ak (Bu.below (by (with_reducible repeat (first | refine Bu.drewN ?_ _ | refine Bu.drew ?_ | refine Bu.alloc ?_ _)); exact BKU.out) hb)
     clear BKU
     have BKU := nU_
     clear nU_
     replace aB := ak (blk_below aB.out hb)
     replace HB := ak (below_step (by repeat (first | (with_reducible first | exact HB.out | apply ba | apply bn | apply bd | refine bs ?_ aJ.out) | exact HB.out)) hb)
     (try clear hb)
     (try clear hb2)
     (try clear hk)
     (try clear hi)
     refine hK.out _ _ ⟨(blk_cell aB.out 0).trans rfl, (blk_cell aB.out 1).trans rfl⟩ (fun hHeld => ?_)
     clear hK K
     refine norm_ (a' := ?_) ?_ ?_
     rotate_left
     ·show Act.put _ (some 23) _ = _
      simp only [Act.put, List.setIfInBounds_toArray, List.set_cons_zero, List.set_cons_succ, i64_w, i32_w]
      rfl
     refine one_ (i := 5) (N := some 26) #[true, true, true, true, true, true, false, false] rfl rfl (one_of HT_.out (by kernel_rfl)) (by decide) (fun K hK => ?_)
     refine goes_ Try.func31 (by kernel_rfl) rfl #[.string ((rd_T62 l0 aA).f1)] (by rfl) rfl rfl (by (try simp only [List.map_toArray, List.map_cons, List.map_nil]); first | done | rfl | (simp only [List.length_drop, List.length_take]; rfl)) ?_
     with_reducible refine (dec_Text.calls ((rd_T62 l0 aA).f1) aD _ bQ.out).mono ?_
     rintro e bT ⟨rfl, hb⟩
     refine ⟨_, rfl, ?_⟩
     have nU_ := ak (Bu.below (by (with_reducible repeat (first | refine Bu.drewN ?_ _ | refine Bu.drew ?_ | refine Bu.alloc ?_ _)); exact BKU.out) hb)
     clear BKU
     have BKU := nU_
     clear nU_
     replace aB := ak (blk_below aB.out hb)
     replace HB := ak (below_step (by repeat (first | (with_reducible first | exact HB.out | apply ba | apply bn | apply bd | refine bs ?_ aJ.out) | exact HB.out)) hb)
     (try clear hb)
     (try clear hb2)
     (try clear hk)
     (try clear hi)
     refine hK.out _ _ ⟨(blk_cell aB.out 0).trans rfl, (blk_cell aB.out 1).trans rfl⟩ (fun hHeld => ?_)
     clear hK K
     refine norm_ (a' := ?_) ?_ ?_
     rotate_left
     ·show Act.put _ (some 26) _ = _
      simp only [Act.put, List.setIfInBounds_toArray, List.set_cons_zero, List.set_cons_succ, i64_w, i32_w]
      rfl
     refine pure_ (i := 6) (N := some 27) (v := ?_) (a' := ?_) #[true, true, true, true, true, true, true, false] rfl rfl (any_of HT_.out (by kernel_rfl)) (fun _ _ _ h => h) (Or.inl ⟨by rfl, ?_⟩) ?_ ?_
     rotate_left
     ·intro w'
      go_simp
      with_reducible rfl
     rotate_left
     ·simp only [Act.put, List.setIfInBounds_toArray, List.set_cons_zero, List.set_cons_succ, i64_w, i32_w]
      rfl
     refine one_ (i := 7) (N := some 28) #[true, true, true, true, true, true, true, true] rfl rfl (one_of HT_.out (by kernel_rfl)) (by decide) (fun K hK => ?_)
     refine goes_ Try.func29 (by kernel_rfl) rfl #[.pointer (some ⟨gbU, 0, none⟩), .string (aF ++ aD)] (by rfl) rfl rfl (by (try simp only [List.map_toArray, List.map_cons, List.map_nil]); first | done | rfl) ?_
     with_reducible refine (bu_write.calls gbU aG (aF ++ aD) _ BKU.out (by first | exact aL | omega | (have q_ := aL; simp only [ByteArray.size_append] at q_ ⊢; omega))).mono ?_
     rintro e wX ⟨nW_, rfl, hbu, hb, hkp⟩
     refine ⟨_, rfl, ?_⟩
     have aT := ak (bu_kept hkp BKU.out aB.out (by decide) (by decide))
     have nb_ := ak (below_weaken HB.out GEU.out hb)
     clear aB HB BKU
     have aB := aT
     have HB := nb_
     have BKU := ak hbu
     clear nb_ hbu hb hkp aT
     refine hK.out _ _ ⟨(blk_cell aB.out 0).trans rfl, (blk_cell aB.out 1).trans rfl⟩ (fun hHeld => ?_)
     clear hK K
     refine norm_ (a' := ?_) ?_ ?_
     rotate_left
     ·show Act.put _ (some 28) _ = _
      simp only [Act.put, List.setIfInBounds_toArray, List.set_cons_zero, List.set_cons_succ, i64_w, i32_w]
      rfl
     refine done_ (done_of HT_.out (by kernel_rfl)) ?_
     try go_wp2
     go_roundg k1
     case measure => have := bE.out; omega
     case rel => exact ⟨(aG ++ (aF ++ aD)), (wrap64 (aA + 1)), (by first | rfl | (simp; done) | (simp [*]; done)), H', ⟨by have := bE.out; omega⟩, ⟨by repeat (first | (with_reducible first | exact HB.out | apply ba | apply bn | apply bd | refine bs ?_ aJ.out) | exact HB.out)⟩, ⟨by (with_reducible repeat (first | refine Bu.drewN ?_ _ | refine Bu.drew ?_ | refine Bu.alloc ?_ _)); exact BKU.out⟩⟩
    ·rw [if_neg c8] at H
     have a7 : decide (aA < (l0.length : Int)) = false := decide_eq_false c8
     clear c8
     replace H := Option.bind_eq_some_iff.mp H
     obtain ⟨aU, aV, H⟩ := H
     replace H : (some (aU, 0)) = some (r1, r2) := H
     have bR := ak aV
     clear aV
     simp only [Option.some.injEq, Prod.mk.injEq] at H
     obtain ⟨rfl, rfl⟩ := H
     go_wp2_with (first | ((with_reducible refine gate_callee (f := 32) rfl ?_); refine goesL_ (some 31) rfl rfl Try.func32 (by kernel_rfl) rfl #[.string aG] rfl (by (try simp only [List.map_toArray, List.map_cons, List.map_nil]); first | done | rfl | (simp only [List.length_drop, List.length_take]; rfl)) ?_; (with_reducible refine (sum_Seal.calls aG aU _ bR.out).mono ?_); rintro e bU ⟨rfl, hb⟩; refine ⟨_, rfl, ?_⟩; replace HB := ak (below_step (pB HB.out) hb); (try clear hb); (try clear hb2); (try clear hk); (try clear hi)) | ((with_reducible refine gate_callee (f := 33) rfl ?_); refine goesL_ (some 30) rfl rfl Try.func33 (by kernel_rfl) rfl #[.pointer (some ⟨gbU, 0, none⟩)] rfl (by (try simp only [List.map_toArray, List.map_cons, List.map_nil]); first | done | rfl) ?_; (with_reducible refine (bu_string.calls gbU _ _ (by (with_reducible repeat (first | refine Bu.drewN ?_ _ | refine Bu.drew ?_ | refine Bu.alloc ?_ _)); exact BKU.out)).mono ?_); rintro e wS ⟨rfl, hb⟩; refine ⟨_, rfl, ?_⟩; have nb_ := ak (below_weaken HB.out GEU.out hb); clear HB; have HB := nb_; clear nb_ hb))
     go_ret2
     exact ⟨by first | rfl | (simp [errW_none, errW_some] <;> rfl) | (simp [*, errW_none, errW_some] <;> rfl), pB HB.out⟩
 ·replace c3 := Bool.eq_false_iff.mpr c3
  subst c3
  have H1 : (some ((⟨#[]⟩ : ByteArray), 1)) = some (r1, r2) := by rw [if_neg (show ¬ (false = true) by decide)] at H; exact H
  clear H
  have H := H1
  clear H1
  simp only [Option.some.injEq, Prod.mk.injEq] at H
  obtain ⟨rfl, rfl⟩ := H
  go_enter Try.func11, Try.ntmps11
  go_wp2_with (first | ((with_reducible refine gate_callee (f := 28) rfl ?_); refine goesL_ (some 8) rfl rfl Try.func28 (by kernel_rfl) rfl #[.slice A0 l0.length c0] rfl (by (try simp only [List.map_toArray, List.map_cons, List.map_nil]); first | done | rfl | (simp only [List.length_drop, List.length_take]; rfl)) ?_; (with_reducible refine (run_may.calls k _ _ l0 false _ ?side1 ?side2 A2.out).mono ?_); (case side1 => repeat (first | exact a3.out | (with_reducible refine Kd.C_alloc ?_ _) | (with_reducible refine Kd.C_drewN ?_ _) | (with_reducible refine Kd.C_drew ?_))); (case side2 => exact bB.out); rintro e bV ⟨rfl, hb⟩; refine ⟨_, rfl, ?_⟩; replace HB := ak (below_step (pB HB.out) hb); (try clear hb); (try clear hb2); (try clear hk); (try clear hi)))
  go_ret2
  exact ⟨by first | rfl | (simp [errW_none, errW_some] <;> rfl) | (simp [*, errW_none, errW_some] <;> rfl), pB HB.out⟩

/-! ### dec_told: function 63 -/
set_option maxHeartbeats 8000000 in
set_option maxRecDepth 100000 in
theorem dec_told.calls (k : Nat) (a0 : ByteArray) (r1 : Int) (r2 : Bool) (w : World) (h : dec_told.f k a0 = some (r1, r2)) :
  Calls Try.prog 63 #[.string a0] w fun e w' => e = .returned (.tuple #[.int .u64 r1, .bool r2]) ∧ Drawn0 w w' := by
 have H : (dec_told.l0 k a0 0 (a0.size : Int) 0) = some (r1, r2) := h
 clear h
 have H' := ak H
 clear H
 go_enter Try.func63, Try.ntmps63
 go_wp2
 go_loopg [4, 9] k (fun kq v4 v9 w' => ∃ (aB : Int) (aA : Int), v4 = .int .u64 aB ∧ v9 = .int .i64 aA ∧ Aside0 (dec_told.l0 kq a0 aB (a0.size : Int) aA = some (r1, r2)) ∧ Aside0 (kq ≤ k) ∧ Drawn0 w w')
 case atStart => exact ⟨(0), (0), (by first | rfl | (simp; done) | (simp [*]; done)), (by first | rfl | (simp; done) | (simp [*]; done)), H', ⟨Nat.le_refl _⟩, by repeat (first | exact Drawn0.refl _ | apply Drawn0.step)⟩
 case round =>
  clear H'
  obtain ⟨aB, aA, rfl, rfl, HA, aE, ⟨m1, rfl⟩⟩ := hrel
  cases gk with
  | zero => exact absurd HA.out (by simp [dec_told.l0])
  | succ k1 =>
   have H := HA.out
   clear HA
   simp only [dec_told.l0] at H
   by_cases c2 : aA < (a0.size : Int)
   ·rw [if_pos c2] at H
    have aC : decide (aA < (a0.size : Int)) = true := decide_eq_true c2
    clear c2
    have c3 : 0 ≤ aA := Decidable.byContradiction fun q => by rw [if_neg q] at H; exact absurd H (by simp)
    rw [if_pos c3] at H
    have aF : decide (0 ≤ aA) = true := decide_eq_true c3
    clear c3
    have c4 : aA < (a0.size : Int) := Decidable.byContradiction fun q => by rw [if_neg q] at H; exact absurd H (by simp)
    rw [if_pos c4] at H
    have aG : decide (aA < (a0.size : Int)) = true := decide_eq_true c4
    clear c4
    by_cases c6 : aB > ((18446744073709551615 - (((bt a0 aA) - 48) % 256)) / 10)
    ·rw [if_pos c6] at H
     have aD : decide (((18446744073709551615 - (((bt a0 aA) - 48) % 256)) / 10) < aB) = true := decide_eq_true c6
     clear c6
     simp only [Option.some.injEq, Prod.mk.injEq] at H
     obtain ⟨rfl, rfl⟩ := H
     have p5 : 0 ≤ (aA : Int) := of_decide_eq_true (by first | (with_reducible assumption) | assumption)
     have q5 : aA < (a0.size : Int) := of_decide_eq_true (by first | (with_reducible assumption) | assumption)
     have aH := bt_at a0 aA
     replace p5 := eq_true p5
     replace q5 := eq_true q5
     go_wp2
     go_ret2
     exact ⟨by first | rfl | (simp; done) | (simp [*]; done), by repeat (first | exact Drawn0.refl _ | apply Drawn0.step)⟩
    ·rw [if_neg c6] at H
     have aD : decide (((18446744073709551615 - (((bt a0 aA) - 48) % 256)) / 10) < aB) = false := decide_eq_false c6
     clear c6
     have H' := ak H
     clear H
     have p5 : 0 ≤ (aA : Int) := of_decide_eq_true (by first | (with_reducible assumption) | assumption)
     have q5 : aA < (a0.size : Int) := of_decide_eq_true (by first | (with_reducible assumption) | assumption)
     have aH := bt_at a0 aA
     replace p5 := eq_true p5
     replace q5 := eq_true q5
     go_wp2
     go_roundg k1
     case measure => have := aE.out; omega
     case rel => exact ⟨(IntKind.u64.wrap ((IntKind.u64.wrap (10 * aB)) + (((bt a0 aA) - 48) % 256))), (wrap64 (aA + 1)), (by first | rfl | (simp; done) | (simp [*]; done)), (by first | rfl | (simp; done) | (simp [*]; done)), H', ⟨by have := aE.out; omega⟩, by repeat (first | exact Drawn0.refl _ | apply Drawn0.step)⟩
   ·rw [if_neg c2] at H
    have aC : decide (aA < (a0.size : Int)) = false := decide_eq_false c2
    clear c2
    simp only [Option.some.injEq, Prod.mk.injEq] at H
    obtain ⟨rfl, rfl⟩ := H
    go_wp2
    go_ret2
    exact ⟨by first | rfl | (simp; done) | (simp [*]; done), by repeat (first | exact Drawn0.refl _ | apply Drawn0.step)⟩

end Go.Proofs.Ytbhkopbalhhpgaa.PY
