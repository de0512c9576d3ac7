/- What the law BatchState comes to: true, where the input is of the bulk that is asked. -/
import Derived.Test.YthcdlgphabaidaaGdBatchState
import Derived.Test.YthcdlgphabaidaaPOBp
import Derived.Test.YthcdlgphabaidaaPOBm
namespace Go.Proofs.Ythcdlgphabaidaa.PO
open Go.RowKit Go.Proofs.YthcdlgphabaidaaW.PrintWords

theorem tag_list (c : UInt8) (p : S68) : (tagP c p).f0.toList = c :: p.f0.toList := by
  unfold tagP
  rw [str_data, str_data, ByteArray.data_append, Array.toList_append]
  rfl
theorem tag_size (c : UInt8) (p : S68) : (tagP c p).f0.size = p.f0.size + 1 := by
  rw [← str_len, ← str_len, tag_list]; rfl
theorem cut_tag (c : UInt8) (p : S68) : cutP (tagP c p) = p := by
  have e : (tagP c p).f0.extract 1 (tagP c p).f0.size = p.f0 := by
    refine str_ext ?_
    have h1 : ((tagP c p).f0.extract 1 (tagP c p).f0.size).toList = ((tagP c p).f0.toList).drop 1 := by
      rw [str_data, str_data, ByteArray.data_extract, Array.toList_extract]
      have hz : (tagP c p).f0.size = (tagP c p).f0.data.toList.length := by rw [← str_data, str_len]
      rw [hz, List.extract, List.take_of_length_le (by rw [List.length_drop]; exact Nat.le_refl _)]
    rw [h1, tag_list]; rfl
  unfold cutP
  rw [e]
  rfl
def valsOk (t : List S68) : Prop := ∀ x ∈ t, x.f1.toList = [99] ∨ x.f1.toList = [103]
theorem back_t (d : List S68) : ∀ (r t : List S68), valsOk r → backL (r.map (tagP 116)) d t = (d, t ++ r, 0)
  | [], t, _ => by simp [backL]
  | p :: r, t, h => by
    rw [List.map_cons, backL_t (p := tagP 116 p) (by rw [tag_list]; simp) ⟨by rw [tag_list]; rfl, h p List.mem_cons_self⟩, cut_tag, back_t d r _ (fun x hx => h x (List.mem_cons_of_mem _ hx))]
    simp
theorem back_d (t : List S68) (ht : valsOk t) : ∀ (r d : List S68), backL (r.map (tagP 100) ++ t.map (tagP 116)) d [] = (d ++ r, t, 0)
  | [], d => by rw [List.map_nil, List.nil_append, back_t d t [] ht]; simp
  | p :: r, d => by
    rw [List.map_cons, List.cons_append, backL_d (p := tagP 100 p) ⟨by rw [tag_list]; rfl, rfl⟩, cut_tag, back_d t ht r _]
    simp
theorem back_pairs (d t : List S68) (ht : valsOk t) : backL (pairsL d t) [] [] = (d, t, 0) := by
  unfold pairsL
  rw [back_d t ht d []]; rfl
theorem lt_tag (c : UInt8) (x y : S68) : ltS (tagP c x).f0 (tagP c y).f0 = ltS x.f0 y.f0 := by
  unfold ltS
  rw [tag_list, tag_list]
  simp [Op.bytesLess]
theorem lt_tags (x y : S68) : ltS (tagP 100 x).f0 (tagP 116 y).f0 = true := by
  unfold ltS
  rw [tag_list, tag_list]
  simp [Op.bytesLess]
theorem rises_pairs (d t : List S68) (hd : Srt d) (ht : Srt t) : rises (pairsL d t) = true := by
  refine (rises_srt _).2 ?_
  unfold pairsL Srt
  refine List.pairwise_append.2 ⟨?_, ?_, ?_⟩
  · rw [List.pairwise_map]; exact List.Pairwise.imp (fun {a b} h => by rw [lt_tag]; exact h) hd
  · rw [List.pairwise_map]; exact List.Pairwise.imp (fun {a b} h => by rw [lt_tag]; exact h) ht
  · intro x hx y hy
    obtain ⟨x, _, rfl⟩ := List.mem_map.1 hx
    obtain ⟨y, _, rfl⟩ := List.mem_map.1 hy
    exact lt_tags x y
theorem vals_put {t : List S68} {k v : ByteArray} (h : valsOk t) (hv : v.toList = [99] ∨ v.toList = [103]) : valsOk (putL68 t k v) := by
  obtain ⟨A, C, hA, hp, hs⟩ := put_shape t k
  rw [hp v]
  intro x hx
  rcases List.mem_append.1 hx with hx | hx
  · refine h x ?_
    rcases hs with ⟨y, _, rfl⟩ | ⟨_, rfl, _⟩
    · exact List.mem_append_left _ hx
    · exact List.mem_append_left _ hx
  · rcases List.mem_cons.1 hx with rfl | hx
    · exact hv
    · refine h x ?_
      rcases hs with ⟨y, _, rfl⟩ | ⟨_, rfl, _⟩
      · exact List.mem_append_right _ (List.mem_cons_of_mem _ hx)
      · exact List.mem_append_right _ hx
def BB : Nat := 140737488351233
def Inv (d t : List S68) : Prop := (Srt d ∧ Srt t) ∧ valsOk t ∧ (∀ x ∈ d, x.f0.size < BB) ∧ (∀ x ∈ t, x.f0.size < BB)
theorem inv_do {d t : List S68} (h : Inv d t) (b : S37) (h1 : b.f1.size < BB) (h2 : ∀ x ∈ b.f2, x.f0.size < BB) : Inv (doL d t b.f0 b.f1 b.f2).1 (doL d t b.f0 b.f1 b.f2).2.1 := by
  unfold doL
  split
  · split
    · exact h
    · refine ⟨⟨srt_fold _ _ h.1.1, srt_put _ _ h.1.2⟩, vals_put h.2.1 ?_, size_fold _ _ h.2.2.1 h2, size_put h.2.2.2 h1⟩
      unfold howB
      split
      · exact .inr (by rw [str_data])
      · exact .inl (by rw [str_data])
  · exact h
theorem state_end (d t : List S68) (h : Inv d t) (hl : d.length + t.length ≤ 4000000) : Ev (fun k => stanchionlaw07_BatchState.j1 k true d t) true := by
  have hd : ∀ x ∈ d, x.f0.size < 4611686018427387904 := fun x hx => by have := h.2.2.1 x hx; unfold BB at this; omega
  have ht : ∀ x ∈ t, x.f0.size < 4611686018427387904 := fun x hx => by have := h.2.2.2 x hx; unfold BB at this; omega
  have hp : (pairsL d t).length = d.length + t.length := by unfold pairsL; rw [List.length_append, List.length_map, List.length_map]
  have hk : ∀ x ∈ pairsL d t, x.f0.size < 4611686018427387904 := fun x hx => by
    unfold pairsL at hx
    rcases List.mem_append.1 hx with hx | hx
    · obtain ⟨y, hy, rfl⟩ := List.mem_map.1 hx
      have := h.2.2.1 y hy; unfold BB at this; rw [tag_size]; omega
    · obtain ⟨y, hy, rfl⟩ := List.mem_map.1 hx
      have := h.2.2.2 y hy; unfold BB at this; rw [tag_size]; omega
  refine Ev.step (f := fun k => (batch_Pairs.f k d t).bind fun t204 => ((batch_Back.f k t204).bind fun bt207 => (if true = true then (if bt207.2.2 = 0 then ((stanchionref05_Right.f k t204).bind fun t215 => (if t215 = true then ((batch_Same.f k d t bt207.1 bt207.2.1).bind fun t216 => (some t216)) else (some false))) else (some false)) else (some false)))) (fun k => by simp only [stanchionlaw07_BatchState.j1]) ?_
  refine Ev.bind (pairs_ev d t (by omega) hd ht) (Ev.bind (back_ev _ (by omega)) ?_)
  rw [back_pairs d t h.2.1]
  simp only [if_pos]
  refine Ev.bind (right_ev _ (by omega) hk) ?_
  rw [rises_pairs d t h.1.1 h.1.2]
  simp only [if_pos]
  refine Ev.bind (bsame_ev d t d t (by omega) (by omega)) ?_
  rw [decP_self, decP_self]
  exact Ev.now _
theorem may_len {a0 : Int} {a1 : ByteArray} {ws : List S54} (h : mayB a0 a1 ws = true) : ws.length ≤ 24 := by
  unfold mayB at h
  simp only [Bool.and_eq_true, Bool.or_eq_true, decide_eq_true_eq] at h
  omega
theorem doL_small (d t : List S68) (b : S37) : (doL d t b.f0 b.f1 b.f2).1.length ≤ d.length + 24 ∧ (doL d t b.f0 b.f1 b.f2).2.1.length ≤ t.length + 1 := by
  have h := doL_len d t b.f0 b.f1 b.f2
  refine ⟨?_, h.2⟩
  cases hm : mayB b.f0 b.f1 b.f2 with
  | true => have := may_len hm; omega
  | false =>
    unfold doL
    rw [hm, if_neg (by decide)]
    exact Nat.le_add_right _ _
theorem rdb_get (xs : List S37) (i : Nat) (h : i < xs.length) : rd_T37 xs (i : Int) = xs[i] := by simp [rd_T37, List.getD_eq_getElem?_getD, h]
theorem state_l0 : ∀ (n : Nat) (l : List S37) (i : Nat) (d t : List S68), l.length - i ≤ n → i ≤ l.length → Inv d t → d.length ≤ 24 * i → t.length ≤ i → i ≤ 200 → l.length ≤ 140737488351232 →
    (∀ x ∈ l, (x.f1.size < BB ∧ ∀ y ∈ x.f2, y.f0.size < BB) ∧ x.f2.length * 40 ≤ 140737488351232) → Ev (fun k => stanchionlaw07_BatchState.l0 k l true (i : Int) d t) true := by
  intro n
  have done : ∀ (l : List S37) (d t : List S68) (i : Nat), (l.length ≤ i ∨ 200 ≤ i) → Inv d t → d.length + t.length ≤ 2000000 → Ev (fun k => stanchionlaw07_BatchState.l0 k l true (i : Int) d t) true := fun l d t i h hI hl => by
    refine Ev.step (f := fun k => stanchionlaw07_BatchState.j1 k true d t) (fun k => ?_) (state_end d t hI (by omega))
    simp only [stanchionlaw07_BatchState.l0]
    by_cases h1 : (i : Int) < (l.length : Int)
    · rw [if_pos h1, if_neg (by omega)]
    · rw [if_neg h1]
  induction n with
  | zero => intro l i d t hn hi hI ho ht h2 hl hb; exact done l d t i (by omega) hI (by omega)
  | succ n ih =>
    intro l i d t hn hi hI ho ht h2 hl hb
    by_cases h : i < l.length ∧ i < 200
    · have hx := hb (l[i]'h.1) (List.getElem_mem h.1)
      obtain ⟨b, hbe⟩ : ∃ b, b = l[i]'h.1 := ⟨_, rfl⟩
      rw [← hbe] at hx
      have hw := hx.2
      have hL := doL_small d t b
      refine Ev.step (f := fun k => (batch_Do.f k d t b.f0 b.f1 b.f2).bind fun bt => stanchionlaw07_BatchState.l0 k l true ((i + 1 : Nat) : Int) bt.1 bt.2.1) (fun k => ?_) (Ev.bind (do_ev d t _ _ _ (by omega) (by omega)) (ih l (i + 1) _ _ (by omega) h.1 (inv_do hI b hx.1.1 hx.1.2) (by omega) (by omega) (by omega) hl hb))
      simp only [stanchionlaw07_BatchState.l0]
      rw [if_pos (by omega), if_pos (by omega), if_pos (by omega), rdb_get _ _ h.1, ← hbe, wrap_succ i (by omega)]
    · exact done l d t i (by omega) hI (by omega)
theorem stanchionlaw07_BatchState.pure : stanchionlaw07_BatchState.Pure := by
  intro x0 hx0
  apply Ev.rounds
  unfold stanchionlaw07_BatchState.f
  have h0 := hx0.1
  refine Ev.bind shown_ev (state_l0 x0.length x0 0 [] [] (by omega) (by omega) ⟨⟨List.Pairwise.nil, List.Pairwise.nil⟩, (fun x hx => by cases hx), (fun x hx => by cases hx), (fun x hx => by cases hx)⟩ (by simp) (by simp) (by omega) (by omega) (fun x hx => ?_))
  have h := hx0.2 x hx
  have h1 := h.2.1
  refine ⟨⟨by unfold BB; omega, fun y hy => ?_⟩, h.2.2.1⟩
  have := (h.2.2.2 y hy).1
  unfold BB; omega
end Go.Proofs.Ythcdlgphabaidaa.PO
