-- Made by a program of this workplace out of the translation (wip/tools in the repo). Not trusted: Lean checks it.
import Derived.Test.YthcdlgphabaidaaPBx0
import Derived.Test.YthcdlgphabaidaaPBx3
namespace Go.Proofs.Ythcdlgphabaidaa.PB
open Go.RowKit Go.Proofs.YthcdlgphabaidaaW.PrintWords Go.Proofs.YthcdlgphabaidaaW.PrintLast Go.Proofs.YthcdlgphabaidaaW.PrintMore
attribute [local go_sem] max2_int min2_int max_two min_two max_three min_three max_four min_four   -- for this text's walks alone
set_option linter.unusedVariables false
set_option linter.unusedSimpArgs false

open Go.Proofs.Ythcdlgphabaidaa.Cp
/-! ### dec_Num: function 34 -/
def u8row (B : List UInt8) : Array Value := (B.map fun x => Value.int .u8 (x.toNat : Int)).toArray
theorem u8row_set (B : List UInt8) (i : Nat) (x : UInt8) : (u8row B).setIfInBounds i (.int .u8 (x.toNat : Int)) = u8row (B.set i x) := by
  unfold u8row
  rw [List.setIfInBounds_toArray, List.map_set]
theorem drop_set_eq (B : List UInt8) (n : Nat) (x : UInt8) (h : n < B.length) : (B.set n x).drop n = x :: B.drop (n + 1) := by
  rw [List.drop_set, if_neg (Nat.lt_irrefl n), Nat.sub_self, List.drop_eq_getElem_cons h]
  rfl
theorem u64_div (v : Int) (h0 : 0 ≤ v) (h1 : v < 18446744073709551616) : IntKind.u64.wrap (v.tdiv 10) = ((v.toNat / 10 : Nat) : Int) := by
  rw [Int.tdiv_eq_ediv_of_nonneg h0]
  have e : IntKind.u64.wrap (v / 10) = (v / 10) % 18446744073709551616 := rfl
  rw [e]
  omega
theorem u8str (l : List UInt8) : strOfNums (l.map fun y => (y.toNat : Int)) = ⟨l.toArray⟩ := by
  unfold strOfNums
  rw [List.map_map]
  congr 2
  conv => rhs; rw [← List.map_id l]
  exact List.map_congr_left (fun a _ => by simp)
set_option maxHeartbeats 8000000 in
set_option maxRecDepth 100000 in
theorem dec_Num.calls (a0 : Int) (r : ByteArray) (w : World) (h : dec_Num.f a0 = some r) :
    Calls Try.prog 34 #[.int .u64 a0] w fun e w' => e = .returned (.string r) ∧ Below w.heap.size w w' := by
  unfold dec_Num.f at h
  split at h
  case isFalse => cases h
  split at h
  case isFalse => cases h
  rename_i h0 h1
  obtain rfl := Option.some.inj h
  clear h
  go_enter Try.func34, Try.ntmps34
  go_wp2
  go_loopg [0, 4] 21 (fun gg s0 s4 wr => ∃ (v : Int) (n : Nat) (B : List UInt8), s0 = .int .u64 v ∧ s4 = .int .i64 ((n : Int) + 1) ∧ n ≤ 19 ∧ n + 1 ≤ gg ∧ Aside0 (v.toNat < 10 ^ (n + 1)) ∧ Aside0 (0 ≤ v ∧ v < 18446744073709551616) ∧ Aside0 (B.length = 21) ∧ Aside0 (wr.heap[w.heap.size]? = some (.cells (u8row B) 97 (0, 0))) ∧ Aside0 (Below w.heap.size w wr) ∧ Aside0 (dg (n + 1) v.toNat (B.drop (n + 1)) = dg 20 a0.toNat [59]))
  case atStart =>
    refine ⟨a0, 19, [0,0,0,0,0,0,0,0,0,0,0,0,0,0,0,0,0,0,0,0,59], rfl, rfl, by omega, by omega, ⟨by omega⟩, ⟨⟨by omega, by omega⟩⟩, ⟨rfl⟩, ⟨?_⟩, ⟨(Below.refl _ _).alloc (Nat.le_refl _) _⟩, ⟨rfl⟩⟩
    exact blk_new w _
  case round =>
    obtain ⟨v, n, B, rfl, rfl, hn, hg, V, HV, HL, BK, HB, D⟩ := hrel
    have c1 : wr.cell? ⟨w.heap.size, n, none⟩ = some (.int .u8 ((B.getD n 0).toNat : Int)) := by
      have hB := HL.out
      rw [blk_cell BK.out]
      simp [u8row, List.getElem?_map, List.getD_eq_getElem?_getD, List.getElem?_eq_getElem (show n < B.length by omega)]
    have f1 : wr.frozen? ⟨w.heap.size, n, none⟩ = false := blk_frozen BK.out n
    have b1 : n < 21 := by omega
    have hsl : ∀ W : World, (Instr.sliceAt 97 (.pointer (some ⟨w.heap.size, 0, none⟩)) (some (.int .i64 (n : Int))) none none).run Try.prog W = .ok (.slice (some ⟨w.heap.size, n, none⟩) (21 - n) (21 - n)) W := fun W => by
      have hal : Try.prog.arrayLen 97 = 21 := by kernel_rfl
      have h := run_sliceAt_array_l (P := Try.prog) W 97 ⟨w.heap.size, 0, none⟩ (by kernel_rfl) .i64 (n : Int) (by omega) (by rw [hal]; omega)
      rw [h, hal, show (sizeOf (Try.prog.elem 97)).run Try.prog W = .ok 1 W from rfl]
      have e : ¬ (21 = n) := by omega
      simp only [Result.andThen, slicedAt, Addr.add, Int.toNat_natCast, if_neg e, Nat.mul_one, Nat.zero_add]
      by_cases hn0 : n = 0
      · subst hn0; rfl
      · rw [if_neg hn0]
    obtain ⟨x, hx⟩ : ∃ x : UInt8, x = UInt8.ofNat (48 + v.toNat % 10) := ⟨_, rfl⟩
    have hxv : (48 + v.tmod 10) % 256 = (x.toNat : Int) := by
      have := HV.out
      rw [hx, Int.tmod_eq_emod_of_nonneg this.1, UInt8.toNat_ofNat']
      omega
    have BK2 : Aside0 ((wr.setCell ⟨w.heap.size, n, none⟩ (.int .u8 ((48 + v.tmod 10) % 256))).heap[w.heap.size]? = some (.cells (u8row (B.set n x)) 97 (0, 0))) := ⟨by rw [hxv]; exact blk_put BK.out n _ (u8row_set B n x)⟩
    have hcv0 : ∀ W : World, W = wr.setCell ⟨w.heap.size, n, none⟩ (.int .u8 ((48 + v.tmod 10) % 256)) → (convert 71 9 (.slice (some ⟨w.heap.size, n, none⟩) (21 - n) (21 - n))).run Try.prog W = .ok (.string (strOfNums (((B.set n x).drop n).map fun y => (y.toNat : Int)))) W := fun W hW => by
      subst hW
      have hB := HL.out
      refine run_convert_bytes_arg (P := Try.prog) _ 71 5 (by kernel_rfl) (by kernel_rfl) w.heap.size n (21 - n) (21 - n) _ (by simp [hB]) (fun i hi => ?_) 9 (by kernel_rfl)
      rw [blk_cell BK2.out]
      have hl : (B.set n x).length = 21 := by rw [List.length_set]; exact hB
      rw [List.getD_eq_getElem?_getD, List.getElem?_map, List.getElem?_drop, List.getElem?_eq_getElem (show n + i < (B.set n x).length by omega)]
      show (((B.set n x).map fun y => Value.int .u8 (y.toNat : Int)).toArray)[n + i]? = _
      rw [List.getElem?_toArray, List.getElem?_map, List.getElem?_eq_getElem (show n + i < (B.set n x).length by omega)]
      rfl
    have HX := Aside0.mk hx
    have HXV := Aside0.mk hxv
    obtain ⟨s, hs⟩ : ∃ s, s = strOfNums (((B.set n x).drop n).map fun y => (y.toNat : Int)) := ⟨_, rfl⟩
    have hcv := hcv0 _ rfl
    clear hcv0
    rw [← hs] at hcv
    have HS := Aside0.mk hs
    clear hs
    clear hx hxv
    go_wp2
    · rename_i hz
      have hv := HV.out
      have hB := HL.out
      have hq : v.toNat / 10 = 0 := by
        have := beq_iff_eq.1 hz
        rw [u64_div v hv.1 hv.2] at this
        omega
      go_ret
      refine ⟨?_, HB.out.setCell (p := ⟨w.heap.size, n, none⟩) (Nat.le_refl _) _⟩
      have hd := D.out
      rw [dg, if_pos hq, ← HX.out] at hd
      show Ending.returned (Value.string s) = _
      rw [HS.out, numB, ← hd, u8str, drop_set_eq B n x (by omega)]
    · rename_i hz
      have hv := HV.out
      have hB := HL.out
      have hq : ¬ v.toNat / 10 = 0 := by
        have := beq_eq_false_iff_ne.1 hz
        rw [u64_div v hv.1 hv.2] at this
        omega
      have hn1 : 1 ≤ n := by
        rcases Nat.eq_zero_or_pos n with e | e
        · have := V.out
          rw [e] at this
          omega
        · exact e
      go_roundg n
      case measure => omega
      case rel =>
        have hd := D.out
        rw [dg, if_neg hq, ← HX.out] at hd
        refine ⟨_, n - 1, B.set n x, rfl, by go_num, by omega, by omega, ⟨?_⟩, ⟨?_⟩, ⟨by rw [List.length_set]; exact hB⟩, BK2, ⟨HB.out.setCell (p := ⟨w.heap.size, n, none⟩) (Nat.le_refl _) _⟩, ⟨?_⟩⟩
        · rw [u64_div v hv.1 hv.2, Int.toNat_natCast, show n - 1 + 1 = n by omega]
          have := V.out
          rw [Nat.pow_succ] at this
          omega
        · rw [u64_div v hv.1 hv.2]
          omega
        · rw [u64_div v hv.1 hv.2, Int.toNat_natCast, show n - 1 + 1 = n by omega, drop_set_eq B n x (by omega)]
          exact hd

/-! ### dec_Text: function 35 -/
set_option maxHeartbeats 8000000 in
set_option maxRecDepth 100000 in
theorem dec_Text.calls (a0 : ByteArray) (r : ByteArray) (w : World) (h : dec_Text.f a0 = some r) :
    Calls Try.prog 35 #[.string a0] w fun e w' => e = .returned (.string r) ∧ Below w.heap.size w w' := by
  have HB := Aside0.mk (Below.refl w.heap.size w)
  have H : ((dec_Num.f (IntKind.u64.wrap ((a0.size : Int)))).bind fun t106 => (if t106.size + a0.size ≤ 9223372036854775807 then (some (t106 ++ a0)) else (none))) = some r := h
  clear h
  replace H := Option.bind_eq_some_iff.mp H
  obtain ⟨t106, A20, H⟩ := H
  replace H : (if t106.size + a0.size ≤ 9223372036854775807 then (some (t106 ++ a0)) else (none)) = some r := H
  have A2 := Aside0.mk A20
  clear A20
  by_cases c3 : t106.size + a0.size ≤ 9223372036854775807
  · rw [if_pos c3] at H
    have c3b0 := eq_true c3
    have c3b1 : decide (t106.size + a0.size ≤ 9223372036854775807) = true := decide_eq_true c3
    try have c3b2 : (9223372036854775807 < t106.size + a0.size) = False := eq_false (Nat.not_lt.2 c3)
    obtain rfl := Option.some.inj H
    go_enter Try.func35, Try.ntmps35
    go_wp2_with (first | ((with_reducible refine gate_callee (f := 34) rfl ?_); refine goesL_ (some 6) rfl rfl Try.func34 (by kernel_rfl) rfl #[.int .u64 (IntKind.u64.wrap ((a0.size : Int)))] rfl (by (try simp only [List.map_toArray, List.map_cons, List.map_nil]); first | done | rfl | (simp only [List.length_drop, List.length_take]; rfl) | (simp (disch := omega) only [IntWalk.u64_in]; first | done | rfl)) ?_; (with_reducible refine (dec_Num.calls (IntKind.u64.wrap ((a0.size : Int))) t106 _ A2.out).mono ?_); rintro e w4 ⟨rfl, hb⟩; refine ⟨_, rfl, ?_⟩; have n0_ := Aside0.mk (below_step (by repeat (first | (with_reducible first | exact HB.out | apply below_alloc | apply pw_below_drewN | apply below_drew1) | exact HB.out)) hb); clear HB; have HB := n0_; clear n0_; (try clear hb); (try clear hb2); (try clear hk); (try clear hi)))
    go_ret
    exact ⟨by first | rfl | (simp [errW_none, errW_some] <;> rfl) | (simp [*, errW_none, errW_some] <;> rfl), by repeat (first | (with_reducible first | exact HB.out | apply below_alloc | apply pw_below_drewN | apply below_drew1) | exact HB.out)⟩
  · rw [if_neg c3] at H
    exact absurd H (by simp)

-- NOT PRINTED: function 36 (strings_Builder_String)

end Go.Proofs.Ythcdlgphabaidaa.PB
