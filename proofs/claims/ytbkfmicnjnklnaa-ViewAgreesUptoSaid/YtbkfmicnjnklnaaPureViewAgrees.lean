/- What the law ViewAgrees comes to: true, whatever is handed in. -/
import Derived.Test.YtbkfmicnjnklnaaGdViewAgrees
import Derived.Test.YtbkfmicnjnklnaaPBTw
namespace Go.Proofs.Ytbkfmicnjnklnaa.PB
open Go.RowKit Go.Proofs.YtbkfmicnjnklnaaW.PrintWords

theorem bl_succ : ∀ x k : List UInt8, Op.bytesLess x k = false → Op.bytesLess x (k ++ [0]) = true → x = k
  | [], [], _, _ => rfl
  | [], b :: k, h, _ => by simp [Op.bytesLess] at h
  | a :: x, [], _, h => by
    have e : Op.bytesLess x [] = false := by cases x <;> rfl
    simp [Op.bytesLess, e, UInt8.lt_iff_toNat_lt] at h
  | a :: x, b :: k, h1, h2 => by
    simp only [Op.bytesLess, List.cons_append, Bool.or_eq_false_iff, decide_eq_false_iff_not, Bool.and_eq_false_iff, beq_eq_false_iff_ne, Bool.or_eq_true, decide_eq_true_eq, Bool.and_eq_true, beq_iff_eq] at h1 h2
    rcases h2 with h2 | ⟨rfl, h2⟩
    · exact absurd h2 h1.1
    · rw [bl_succ x k (h1.2.elim (fun h => absurd rfl h) id) h2]
theorem bl_self : ∀ k : List UInt8, Op.bytesLess k (k ++ [0]) = true
  | [] => rfl
  | a :: k => by simp [Op.bytesLess, bl_self k]
theorem key0_list (key : ByteArray) : (key ++ (⟨#[0]⟩ : ByteArray)).toList = key.toList ++ [0] := by
  rw [str_data, str_data, ByteArray.data_append, Array.toList_append]
theorem betw_key (key : ByteArray) (x : S43) : betw key (key ++ (⟨#[0]⟩ : ByteArray)) x = eqK43 key x := by
  unfold betw
  rw [key0_list]
  have e0 : decide (key.toList ++ [(0 : UInt8)] = ([] : List UInt8)) = false := decide_eq_false (by simp)
  rw [e0, Bool.false_or]
  unfold ltS
  rw [key0_list]
  cases he : eqK43 key x with
  | true =>
    rw [(eqK_iff key x).1 he, bl_self, bl_irrefl]
    rfl
  | false =>
    cases h1 : Op.bytesLess x.f0.toList key.toList with
    | true => rfl
    | false =>
      cases h2 : Op.bytesLess x.f0.toList (key.toList ++ [0]) with
      | false => rfl
      | true =>
        have := bl_succ _ _ h1 h2
        rw [(eqK_iff key x).2 (str_ext this)] at he
        cases he
theorem getL_base (w : List S33) (b c : List S43) (key : ByteArray) (h : findL b key = findL c key) : getL w b key = getL w c key := by
  unfold getL
  rw [h]
theorem find_fold (key : ByteArray) : ∀ (w : List S33) (base : List S43), SrtW w → findL (w.foldl stepW base) key = getL w base key
  | [], base, _ => rfl
  | x :: w, base, h => by
    have h2 := List.pairwise_cons.1 h
    rw [List.foldl_cons, find_fold key w (stepW base x) h2.2]
    cases he : seq33 key x with
    | true =>
      have hk := (seq_iff key x).1 he
      have no : ∀ y ∈ w, seq33 key y = false := by
        intro y hy
        cases e : seq33 key y with
        | false => rfl
        | true =>
          have := h2.1 y hy
          rw [hk, (seq_iff key y).1 e, ltS_irrefl] at this
          cases this
      rw [getL_miss _ _ _ no]
      have := getL_hit [] x w base key (fun y hy => by cases hy) he
      rw [List.nil_append] at this
      rw [this]
      unfold stepW
      subst hk
      by_cases hd : x.f2 = true
      · rw [if_pos hd, if_pos hd, find_drop_own]
      · rw [if_neg hd, if_neg hd, find_put_own]
    | false =>
      have ne : x.f0 ≠ key := fun e => by rw [(seq_iff key x).2 e] at he; cases he
      have := getL_skip [] x w base key he
      rw [List.nil_append, List.nil_append] at this
      rw [this]
      refine getL_base _ _ _ _ ?_
      unfold stepW
      split
      · exact find_drop _ _ ne _
      · exact find_put _ _ _ _ ne
theorem filter_one (key : ByteArray) (l : List S43) (h : Srt l) : (findL l key = (⟨#[]⟩, false) ∧ l.filter (eqK43 key) = []) ∨ ∃ x, x.f0 = key ∧ findL l key = (x.f1, true) ∧ l.filter (eqK43 key) = [x] := by
  rcases ix_split (eqK43 key) l with g | ⟨A, x, C, rfl, hA, hx⟩
  · exact .inl ⟨findL_miss _ _ g, List.filter_eq_nil_iff.2 (fun y hy => by simp [g y hy])⟩
  · refine .inr ⟨x, (eqK_iff key x).1 hx, findL_hit _ _ _ _ hA hx, ?_⟩
    have h3 := List.pairwise_append.1 h
    have h4 := List.pairwise_cons.1 h3.2.1
    have hC : ∀ y ∈ C, eqK43 key y = false := by
      intro y hy
      cases e : eqK43 key y with
      | false => rfl
      | true =>
        have := h4.1 y hy
        rw [(eqK_iff key x).1 hx, (eqK_iff key y).1 e, ltS_irrefl] at this
        cases this
    rw [List.filter_append, List.filter_cons, if_pos hx, List.filter_eq_nil_iff.2 (fun y hy => by simp [hA y hy]), List.filter_eq_nil_iff.2 (fun y hy => by simp [hC y hy])]
    rfl
theorem scan_key (w : List S33) (base : List S43) (key : ByteArray) (hw : SrtW w) (hb : Srt base) :
    (getL w base key = (⟨#[]⟩, false) ∧ scanL w base key (key ++ (⟨#[0]⟩ : ByteArray)) 9 = []) ∨ ∃ x, x.f0 = key ∧ getL w base key = (x.f1, true) ∧ scanL w base key (key ++ (⟨#[0]⟩ : ByteArray)) 9 = [x] := by
  unfold scanL
  rw [List.filter_congr (fun x _ => betw_key key x), ← find_fold key w base hw]
  rcases filter_one key (w.foldl stepW base) (srt_fold w base hb) with ⟨h1, h2⟩ | ⟨x, h1, h2, h3⟩
  · exact .inl ⟨h1, by rw [h2]; rfl⟩
  · exact .inr ⟨x, h1, h2, by rw [h3]; rfl⟩
theorem stanchionlaw12_ViewAgrees.pure : stanchionlaw12_ViewAgrees.Pure := by
  intro x0 x1 x2 hx0 hx1 hx2 hb
  apply Ev.rounds
  unfold stanchionlaw12_ViewAgrees.f
  have h0 : x0.length ≤ 1048576 := by
    have := sum_len b33 (fun x => by unfold b33 b9; omega) x0
    simp only [b22] at hb
    omega
  have h1 : x1.length ≤ 1048576 := by
    have := sum_len b43 (fun x => by unfold b43 b9; omega) x1
    simp only [b23] at hb
    omega
  have hk : x2.size ≤ 140737488351232 := hx2
  have hp : ∀ x ∈ x1, x.f0.size < 4611686018427387904 := fun x hx => by have := (hx1.2 x hx).1; omega
  have out : Ev (fun k => stanchionlaw12_ViewAgrees.j0 k x0 x1 x2 true true) true := Ev.step (f := fun k => some true) (fun k => by simp only [stanchionlaw12_ViewAgrees.j0]; rw [if_pos trivial]) (Ev.now _)
  refine Ev.bind vshown_ev (Ev.bind (right_ev x1 (by omega) hp) ?_)
  simp only [if_pos]
  cases hr : rises x1 with
  | false => exact out
  | true =>
    simp only [if_pos]
    refine Ev.bind (vrises_ev x0 (by omega)) ?_
    cases hv : risesW x0 with
    | false => exact out
    | true =>
      simp only [Bool.not_true]
      refine Ev.step (f := fun k => (view_Scan.f k x0 x1 x2 (x2 ++ (⟨#[0]⟩ : ByteArray)) 9).bind fun t => (if (getL x0 x1 x2).2 = true then (if (t.length : Int) = 1 then (if 0 < (t.length : Int) then (if ((rd_T43 t 0).f0).toList = x2.toList then (some (((rd_T43 t 0).f1).toList == (getL x0 x1 x2).1.toList)) else (some false)) else (none)) else (some false)) else (some ((t.length : Int) == 0)))) (fun k => ?_) ?_
      · simp only [stanchionlaw12_ViewAgrees.j0]
        rw [if_neg (by decide), get_eq x0 x1 x2 (by omega), Option.bind_some, if_pos (by omega)]
      · refine Ev.bind (scan_ev x0 x1 _ _ _ (by omega)) ?_
        rcases scan_key x0 x1 x2 ((risesW_srt _).1 hv) ((rises_srt _).1 hr) with ⟨h1, h2⟩ | ⟨x, h1, h2, h3⟩
        · rw [h1, h2]
          exact Ev.now _
        · rw [h2, h3]
          have e : rd_T43 [x] 0 = x := rfl
          simp only [e, h1, List.length_singleton, if_pos, beq_self_eq_true]
          exact Ev.now _
end Go.Proofs.Ytbkfmicnjnklnaa.PB
