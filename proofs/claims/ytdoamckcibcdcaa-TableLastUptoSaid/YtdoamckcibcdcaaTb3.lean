/- The table's drop and writes, and the document's put, drop and writes, in plain words; what keeps a row right. -/
import Derived.Test.YtdoamckcibcdcaaTb2
import Derived.Test.YtdoamckcibcdcaaPBx2
namespace Go.Proofs.Ytdoamckcibcdcaa.PB
open Go.RowKit Go.Proofs.YtdoamckcibcdcaaW.PrintWords
set_option linter.unusedVariables false
set_option linter.unusedSimpArgs false

theorem drop_eq (l : List S59) (a : ByteArray) (h : l.length < 4398046511104) : table_Drop.f l a = some (dropL59 l a) := by
  unfold table_Drop.f api_Pair_28.f
  simp [h]
theorem drop_len (l : List S59) (a : ByteArray) : (dropL59 l a).length ≤ l.length := List.length_filter_le _ _
def stepW (l : List S59) (x : S56) : List S59 := if x.f2 = true then dropL59 l x.f0 else putL59 l x.f0 x.f1
theorem stepW_len (l : List S59) (x : S56) : (stepW l x).length ≤ l.length + 1 := by
  unfold stepW
  split
  · have := drop_len l x.f0; omega
  · exact put_len _ _ _
theorem step_eq (l : List S59) (x : S56) (h : l.length < 4398046511104) : (if x.f2 = true then table_Drop.f l x.f0 else table_Put.f l x.f0 x.f1) = some (stepW l x) := by
  unfold stepW
  split
  · exact drop_eq _ _ h
  · exact put_eq _ _ _ h
theorem applyF_eq : ∀ (ws : List S56) (l : List S59), l.length + ws.length < 4398046511104 → applyF59 l ws = some (ws.foldl stepW l)
  | [], l, _ => rfl
  | x :: ws, l, h => by
    have hs := stepW_len l x
    rw [List.length_cons] at h
    unfold applyF59
    rw [step_eq l x (by omega), Option.bind_some, applyF_eq ws (stepW l x) (by omega)]
    rfl
theorem apply_eq (l : List S59) (ws : List S56) (h : l.length + ws.length < 4398046511104) : table_Apply.f l ws = some (ws.foldl stepW l) := by
  unfold table_Apply.f api_Pair_28.f
  simp [show l.length < 4398046511104 by omega, applyF_eq ws l h]
theorem fold_len : ∀ (ws : List S56) (l : List S59), (ws.foldl stepW l).length ≤ l.length + ws.length
  | [], l => by simp
  | x :: ws, l => by
    have h1 := fold_len ws (stepW l x)
    have h2 := stepW_len l x
    simp only [List.foldl_cons, List.length_cons]
    omega

/-! #### what a search finds -/
theorem findL_skip (A : List S59) (y : S59) (C : List S59) (o : ByteArray) (h : eqK59 o y = false) : findL (A ++ y :: C) o = findL (A ++ C) o := by
  unfold findL
  rw [List.find?_append, List.find?_append, List.find?_cons, h]
theorem eqK_ne {k o : ByteArray} (h : k ≠ o) (y : S59) (hy : y.f0 = k) : eqK59 o y = false := by
  cases e : eqK59 o y with
  | false => rfl
  | true => exact absurd ((eqK_iff _ _).1 e) (by rw [hy]; exact h)
theorem find_put (l : List S59) (k v o : ByteArray) (h : k ≠ o) : findL (putL59 l k v) o = findL l o := by
  obtain ⟨A, C, hA, hp, hs⟩ := put_shape l k
  rw [hp v, findL_skip _ _ _ _ (eqK_ne h _ rfl)]
  rcases hs with ⟨x, hx, rfl⟩ | ⟨_, rfl, _⟩
  · rw [findL_skip _ _ _ _ (eqK_ne h _ hx)]
  · rfl
theorem find_put_own (l : List S59) (k v : ByteArray) : findL (putL59 l k v) k = (v, true) := by
  obtain ⟨A, C, hA, hp, hs⟩ := put_shape l k
  rw [hp v]
  exact findL_hit A ⟨k, v⟩ C k hA ((eqK_iff _ _).2 rfl)
theorem find_drop (k o : ByteArray) (h : k ≠ o) : ∀ l : List S59, findL (dropL59 l k) o = findL l o
  | [] => rfl
  | x :: l => by
    have ih := find_drop k o h l
    unfold dropL59 at ih ⊢
    rw [List.filter_cons]
    cases e : eqK59 k x with
    | true =>
      rw [if_neg (by decide), ih]
      exact (findL_skip [] x l o (eqK_ne h _ ((eqK_iff _ _).1 e))).symm
    | false =>
      rw [if_pos (by decide)]
      unfold findL at ih ⊢
      rw [List.find?_cons, List.find?_cons]
      cases eqK59 o x with
      | true => rfl
      | false => exact ih
theorem find_drop_own (l : List S59) (k : ByteArray) : findL (dropL59 l k) k = (⟨#[]⟩, false) := by
  refine findL_miss _ _ (fun y hy => ?_)
  have := (List.mem_filter.1 hy).2
  simpa using this

/-! #### what keeps a row right -/
def Srt (l : List S59) : Prop := l.Pairwise (fun x y => ltS x.f0 y.f0 = true)
theorem rises_srt : ∀ l : List S59, rises l = true ↔ Srt l
  | [] => ⟨fun _ => List.Pairwise.nil, fun _ => rfl⟩
  | [x] => ⟨fun _ => List.pairwise_singleton _ _, fun _ => rfl⟩
  | x :: y :: r => by
    constructor
    · intro h
      refine List.pairwise_cons.2 ⟨fun z hz => rises_head _ _ h z hz, (rises_srt (y :: r)).1 (rises_tail h)⟩
    · intro h
      have h2 := List.pairwise_cons.1 h
      simp only [rises, Bool.and_eq_true]
      exact ⟨h2.1 y List.mem_cons_self, (rises_srt (y :: r)).2 h2.2⟩
theorem srt_filter {l : List S59} (p : S59 → Bool) (h : Srt l) : Srt (l.filter p) := List.Pairwise.filter p h
theorem srt_put {l : List S59} (k v : ByteArray) (h : Srt l) : Srt (putL59 l k v) := by
  obtain ⟨A, C, hA, hp, hs⟩ := put_shape l k
  rw [hp v]
  rcases hs with ⟨x, hx, rfl⟩ | ⟨hno, rfl, h1, h2⟩
  · have h3 := List.pairwise_append.1 h
    have h4 := List.pairwise_cons.1 h3.2.1
    refine List.pairwise_append.2 ⟨h3.1, List.pairwise_cons.2 ⟨fun z hz => by have := h4.1 z hz; rw [hx] at this; exact this, h4.2⟩, fun a ha b hb => ?_⟩
    rcases List.mem_cons.1 hb with rfl | hb
    · have := h3.2.2 a ha x List.mem_cons_self
      rw [hx] at this
      exact this
    · exact h3.2.2 a ha b (List.mem_cons_of_mem _ hb)
  · have h3 := List.pairwise_append.1 h
    have hlt : ∀ a ∈ A, ltS a.f0 k = true := by
      intro a ha
      cases e : ltS a.f0 k with
      | true => rfl
      | false =>
        have := ltS_total e (h1 a ha)
        have h5 := hno a (List.mem_append_left _ ha)
        rw [(eqK_iff k a).2 this] at h5
        cases h5
    have hgt : ∀ c ∈ C, ltS k c.f0 = true := by
      intro c hc
      cases C with
      | nil => cases hc
      | cons y C' =>
        have hy := h2 y C' rfl
        rcases List.mem_cons.1 hc with rfl | hc
        · exact hy
        · exact ltS_trans hy ((List.pairwise_cons.1 h3.2.1).1 c hc)
    refine List.pairwise_append.2 ⟨h3.1, List.pairwise_cons.2 ⟨hgt, h3.2.1⟩, fun a ha b hb => ?_⟩
    rcases List.mem_cons.1 hb with rfl | hb
    · exact hlt a ha
    · exact h3.2.2 a ha b hb
theorem srt_fold : ∀ (ws : List S56) (l : List S59), Srt l → Srt (ws.foldl stepW l)
  | [], l, h => h
  | x :: ws, l, h => by
    refine srt_fold ws (stepW l x) ?_
    unfold stepW
    split
    · exact srt_filter _ h
    · exact srt_put _ _ h
theorem size_put {l : List S59} {k v : ByteArray} {B : Nat} (h : ∀ x ∈ l, x.f0.size < B) (hk : k.size < B) : ∀ x ∈ putL59 l k v, x.f0.size < B := by
  obtain ⟨A, C, hA, hp, hs⟩ := put_shape l k
  rw [hp v]
  intro x hx
  rcases List.mem_append.1 hx with hx | hx
  · refine h x ?_
    rcases hs with ⟨y, _, rfl⟩ | ⟨_, rfl, _⟩
    · exact List.mem_append_left _ hx
    · exact List.mem_append_left _ hx
  · rcases List.mem_cons.1 hx with rfl | hx
    · exact hk
    · refine h x ?_
      rcases hs with ⟨y, _, rfl⟩ | ⟨_, rfl, _⟩
      · exact List.mem_append_right _ (List.mem_cons_of_mem _ hx)
      · exact List.mem_append_right _ hx
theorem size_fold {B : Nat} : ∀ (ws : List S56) (l : List S59), (∀ x ∈ l, x.f0.size < B) → (∀ x ∈ ws, x.f0.size < B) → ∀ x ∈ ws.foldl stepW l, x.f0.size < B
  | [], l, h, _ => h
  | w :: ws, l, h, hw => by
    refine size_fold ws (stepW l w) ?_ (fun x hx => hw x (List.mem_cons_of_mem _ hx))
    unfold stepW
    split
    · intro x hx; exact h x (List.mem_filter.1 hx).1
    · exact size_put h (hw w List.mem_cons_self)

/-! #### the document's put, drop and writes -/
def insR (has : Bool) (key val : ByteArray) : List S59 → List S59
  | [] => [⟨key, val⟩]
  | x :: r => if (if has = true then eqK59 key x else ltS key x.f0) = true then (if has = true then ⟨key, val⟩ :: r else ⟨key, val⟩ :: x :: r) else x :: insR has key val r
theorem insR_hit (key val : ByteArray) : ∀ (A : List S59) (x : S59) (C : List S59), (∀ y ∈ A, eqK59 key y = false) → eqK59 key x = true → insR true key val (A ++ x :: C) = A ++ ⟨key, val⟩ :: C
  | [], x, C, _, hx => by
    show insR true key val (x :: C) = _
    unfold insR
    simp [hx]
  | a :: A, x, C, hA, hx => by
    show insR true key val (a :: (A ++ x :: C)) = _
    unfold insR
    simp only [if_pos, hA a List.mem_cons_self]
    rw [if_neg (by decide), insR_hit key val A x C (fun y hy => hA y (List.mem_cons_of_mem _ hy)) hx]
    rfl
theorem insR_gt (key val : ByteArray) : ∀ (A : List S59) (x : S59) (C : List S59), (∀ y ∈ A, ltS key y.f0 = false) → ltS key x.f0 = true → insR false key val (A ++ x :: C) = A ++ ⟨key, val⟩ :: x :: C
  | [], x, C, _, hx => by
    show insR false key val (x :: C) = _
    unfold insR
    simp [hx]
  | a :: A, x, C, hA, hx => by
    show insR false key val (a :: (A ++ x :: C)) = _
    unfold insR
    simp only [if_neg (show ¬ (false = true) by decide), hA a List.mem_cons_self]
    rw [insR_gt key val A x C (fun y hy => hA y (List.mem_cons_of_mem _ hy)) hx]
    rfl
theorem insR_end (key val : ByteArray) : ∀ (A : List S59), (∀ y ∈ A, ltS key y.f0 = false) → insR false key val A = A ++ [⟨key, val⟩]
  | [], _ => rfl
  | a :: A, hA => by
    unfold insR
    simp only [if_neg (show ¬ (false = true) by decide), hA a List.mem_cons_self]
    rw [insR_end key val A (fun y hy => hA y (List.mem_cons_of_mem _ hy))]
    rfl
theorem insR_put (l : List S59) (key val : ByteArray) : insR (findL l key).2 key val l = putL59 l key val := by
  obtain ⟨A, C, hA, hp, hs⟩ := put_shape l key
  rw [hp val]
  rcases hs with ⟨x, hx, rfl⟩ | ⟨hno, rfl, h1, h2⟩
  · have hx' := (eqK_iff key x).2 hx
    rw [findL_hit A x C key hA hx']
    exact insR_hit key val A x C hA hx'
  · rw [findL_miss _ _ hno]
    cases C with
    | nil => rw [List.append_nil]; exact insR_end key val A h1
    | cons y C' => exact insR_gt key val A y C' h1 (h2 y C' rfl)
theorem rput_l0 (key val : ByteArray) (hk : key.size < 4611686018427387904) (has : Bool) : ∀ (n : Nat) (l : List S59) (i : Nat) (out : List S59) (done : Bool), l.length - i ≤ n → i ≤ l.length → (done = false → out.length ≤ i) → out.length ≤ i + 1 → l.length < 4398046511000 →
    Ev (fun k => stanchionref05_Put.l0 k l key val has out done (i : Int)) (out ++ (if done = true then l.drop i else insR has key val (l.drop i))) := by
  intro n
  have hft : ¬ (false = true) := by decide
  have fin : ∀ (l : List S59) (i : Nat) (out : List S59) (done : Bool), ¬ i < l.length → i ≤ l.length → out.length ≤ i + 1 → l.length < 4398046511000 →
      Ev (fun k => stanchionref05_Put.l0 k l key val has out done (i : Int)) (out ++ (if done = true then l.drop i else insR has key val (l.drop i))) := by
    intro l i out done hn hi ho hl
    rw [List.drop_of_length_le (by omega)]
    refine Ev.step (f := fun k => some (out ++ (if done = true then [] else insR has key val []))) (fun k => ?_) (Ev.now _)
    simp only [stanchionref05_Put.l0]
    rw [if_neg (show ¬ ((i : Int) < (l.length : Int)) by omega)]
    cases done with
    | true => simp
    | false =>
      have h3 : out.length < 4398046511104 := by omega
      simp only [if_neg hft, if_pos h3]
      rfl
  induction n with
  | zero => intro l i out done hn hi ho1 ho hl; exact fin l i out done (by omega) hi ho hl
  | succ n ih =>
    intro l i out done hn hi ho1 ho hl
    by_cases hlt : i < l.length
    · have tail : ∀ (out : List S59) (done : Bool), (done = false → out.length ≤ i) → out.length ≤ i + 1 → Ev (fun k => stanchionref05_Put.j1 k l key val has out done (i : Int) false) (out ++ l[i] :: (if done = true then l.drop (i + 1) else insR has key val (l.drop (i + 1)))) := by
        intro out done ho1 ho
        refine Ev.step (f := fun k => stanchionref05_Put.l0 k l key val has (out ++ [l[i]]) done ((i + 1 : Nat) : Int)) (fun k => ?_) ?_
        · simp only [stanchionref05_Put.j1]
          rw [if_neg hft, if_pos (by omega), if_pos (by omega), if_pos (by omega), rd_get _ _ hlt, wrap_succ i (by omega)]
        · have := ih l (i + 1) (out ++ [l[i]]) done (by omega) (by omega) (fun h => by have := ho1 h; simp; omega) (by simp; omega) hl
          rw [List.append_assoc] at this
          exact this
      have put : out.length ≤ i → Ev (fun k => stanchionref05_Put.j1 k l key val has out false (i : Int) true) (out ++ (if has = true then ⟨key, val⟩ :: l.drop (i + 1) else ⟨key, val⟩ :: l[i] :: l.drop (i + 1))) := by
        intro ho
        cases has with
        | true =>
          refine Ev.step (f := fun k => stanchionref05_Put.l0 k l key val true (out ++ [⟨key, val⟩]) true ((i + 1 : Nat) : Int)) (fun k => ?_) ?_
          · simp only [stanchionref05_Put.j1]
            rw [if_pos trivial, if_pos (by omega), Option.bind_some, if_pos trivial, wrap_succ i (by omega)]
          · have := ih l (i + 1) (out ++ [⟨key, val⟩]) true (by omega) (by omega) (fun h => by cases h) (by simp; omega) hl
            rw [List.append_assoc] at this
            exact this
        | false =>
          refine Ev.step (f := fun k => stanchionref05_Put.l0 k l key val false ((out ++ [⟨key, val⟩]) ++ [l[i]]) true ((i + 1 : Nat) : Int)) (fun k => ?_) ?_
          · simp only [stanchionref05_Put.j1]
            rw [if_pos trivial, if_pos (by omega), Option.bind_some, if_neg hft, if_pos (by omega), if_pos (by omega), if_pos (by simp; omega), rd_get _ _ hlt, wrap_succ i (by omega)]
          · have := ih l (i + 1) ((out ++ [⟨key, val⟩]) ++ [l[i]]) true (by omega) (by omega) (fun h => by cases h) (by simp; omega) hl
            have e : (out ++ [(⟨key, val⟩ : S59)]) ++ [l[i]] ++ l.drop (i + 1) = out ++ ⟨key, val⟩ :: l[i] :: l.drop (i + 1) := by simp
            rw [if_pos rfl, e] at this
            rw [if_neg hft]
            exact this
      rw [List.drop_eq_getElem_cons hlt]
      cases done with
      | true =>
        refine Ev.step (f := fun k => stanchionref05_Put.j1 k l key val has out true (i : Int) false) (fun k => ?_) ?_
        · simp only [stanchionref05_Put.l0]
          rw [if_pos (show (i : Int) < (l.length : Int) by omega), if_pos trivial]
        · have := tail out true (fun h => by cases h) ho
          simp only [if_pos] at this ⊢
          exact this
      | false =>
        have ho' := ho1 rfl
        rw [if_neg hft]
        unfold insR
        cases has with
        | true =>
          simp only [if_pos]
          cases he : eqK59 key l[i] with
          | true =>
            have he2 : (l[i]).f0.toList = key.toList := beq_iff_eq.1 he
            refine Ev.step (f := fun k => stanchionref05_Put.j1 k l key val true out false (i : Int) true) (fun k => ?_) ?_
            · simp only [stanchionref05_Put.l0]
              rw [if_pos (show (i : Int) < (l.length : Int) by omega), if_neg hft, if_pos trivial, if_pos (by omega), rd_get _ _ hlt, if_pos he2]
            · have := put ho'
              simp only [if_pos] at this ⊢
              exact this
          | false =>
            have he2 : ¬ (l[i]).f0.toList = key.toList := beq_eq_false_iff_ne.1 he
            refine Ev.step (f := fun k => stanchionref05_Put.j1 k l key val true out false (i : Int) false) (fun k => ?_) ?_
            · simp only [stanchionref05_Put.l0]
              rw [if_pos (show (i : Int) < (l.length : Int) by omega), if_neg hft, if_pos trivial, if_pos (by omega), rd_get _ _ hlt, if_neg he2]
            · have := tail out false (fun _ => ho') ho
              simp only [if_neg hft] at this ⊢
              exact this
        | false =>
          simp only [if_neg hft]
          refine Ev.step (f := fun k => (stanchionref01_Less.f k key (l[i]).f0).bind fun t => stanchionref05_Put.j1 k l key val false out false (i : Int) t) (fun k => ?_) ?_
          · simp only [stanchionref05_Put.l0]
            rw [if_pos (show (i : Int) < (l.length : Int) by omega), if_neg hft, if_neg hft, if_pos (by omega), rd_get _ _ hlt]
          · refine Ev.bind (less_ev _ _ hk) ?_
            cases he : ltS key (l[i]).f0 with
            | true =>
              have := put ho'
              simp only [if_neg hft, if_pos] at this ⊢
              exact this
            | false =>
              have := tail out false (fun _ => ho') ho
              simp only [if_neg hft] at this ⊢
              exact this
    · exact fin l i out done hlt hi ho hl
theorem rput_ev (l : List S59) (key val : ByteArray) (hk : key.size < 4611686018427387904) (hl : l.length < 4398046511000) : Ev (fun k => stanchionref05_Put.f k l key val) (putL59 l key val) := by
  unfold stanchionref05_Put.f
  refine Ev.bind (rfind_ev l key (by omega)) ?_
  have := rput_l0 key val hk (findL l key).2 l.length l 0 [] false (by omega) (by omega) (fun _ => by simp) (by simp) hl
  simp only [List.nil_append, List.drop_zero, if_neg (show ¬ (false = true) by decide)] at this
  rw [insR_put] at this
  exact this
theorem rdrop_l0 (key : ByteArray) : ∀ (n : Nat) (l : List S59) (i : Nat) (out : List S59), l.length - i ≤ n → out.length ≤ i → l.length < 4398046511000 →
    Ev (fun k => stanchionref05_Drop.l0 k l key out (i : Int)) (out ++ dropL59 (l.drop i) key) := by
  intro n
  have fin : ∀ (l : List S59) (i : Nat) (out : List S59), ¬ i < l.length → Ev (fun k => stanchionref05_Drop.l0 k l key out (i : Int)) (out ++ dropL59 (l.drop i) key) := by
    intro l i out hn
    rw [List.drop_of_length_le (by omega)]
    refine Ev.step (f := fun k => some out) (fun k => by simp only [stanchionref05_Drop.l0]; rw [if_neg (by omega)]) ?_
    show Ev _ (out ++ [])
    rw [List.append_nil]
    exact Ev.now _
  induction n with
  | zero => intro l i out hn ho hl; exact fin l i out (by omega)
  | succ n ih =>
    intro l i out hn ho hl
    by_cases hlt : i < l.length
    · rw [List.drop_eq_getElem_cons hlt]
      have e0 : dropL59 (l[i] :: l.drop (i + 1)) key = if eqK59 key l[i] = true then dropL59 (l.drop (i + 1)) key else l[i] :: dropL59 (l.drop (i + 1)) key := by
        unfold dropL59
        rw [List.filter_cons]
        cases eqK59 key l[i] <;> rfl
      rw [e0]
      cases he : eqK59 key l[i] with
      | true =>
        have he2 : (l[i]).f0.toList = key.toList := beq_iff_eq.1 he
        refine Ev.step (f := fun k => stanchionref05_Drop.l0 k l key out ((i + 1 : Nat) : Int)) (fun k => ?_) ?_
        · simp only [stanchionref05_Drop.l0]
          rw [if_pos (by omega), if_pos (by omega), rd_get _ _ hlt, if_pos he2, wrap_succ i (by omega)]
        · rw [if_pos rfl]
          exact ih l (i + 1) out (by omega) (by omega) hl
      | false =>
        have he2 : ¬ (l[i]).f0.toList = key.toList := beq_eq_false_iff_ne.1 he
        refine Ev.step (f := fun k => stanchionref05_Drop.l0 k l key (out ++ [l[i]]) ((i + 1 : Nat) : Int)) (fun k => ?_) ?_
        · simp only [stanchionref05_Drop.l0]
          rw [if_pos (by omega), if_pos (by omega), rd_get _ _ hlt, if_neg he2, if_pos (by omega), wrap_succ i (by omega)]
        · rw [if_neg (by decide)]
          have := ih l (i + 1) (out ++ [l[i]]) (by omega) (by simp; omega) hl
          rw [List.append_assoc] at this
          exact this
    · exact fin l i out hlt
theorem rdrop_ev (l : List S59) (key : ByteArray) (hl : l.length < 4398046511000) : Ev (fun k => stanchionref05_Drop.f k l key) (dropL59 l key) := by
  have := rdrop_l0 key l.length l 0 [] (by omega) (by simp) hl
  exact this
theorem rapply_l0 : ∀ (n : Nat) (ws : List S56) (l : List S59) (i : Nat), ws.length - i ≤ n → i ≤ ws.length → l.length + (ws.length - i) < 4398046510900 → ws.length < 4398046510900 → (∀ x ∈ ws, x.f0.size < 4611686018427387904) →
    Ev (fun k => stanchionref05_Apply.l0 k ws l (i : Int)) ((ws.drop i).foldl stepW l) := by
  intro n
  have fin : ∀ (ws : List S56) (l : List S59) (i : Nat), ¬ i < ws.length → Ev (fun k => stanchionref05_Apply.l0 k ws l (i : Int)) ((ws.drop i).foldl stepW l) := by
    intro ws l i hn
    rw [List.drop_of_length_le (by omega)]
    exact Ev.step (f := fun k => some l) (fun k => by simp only [stanchionref05_Apply.l0]; rw [if_neg (by omega)]) (Ev.now _)
  induction n with
  | zero => intro ws l i hn hi hl hw hb; exact fin ws l i (by omega)
  | succ n ih =>
    intro ws l i hn hi hl hw hb
    by_cases hlt : i < ws.length
    · have e1 : rd_T56 ws (i : Int) = ws[i] := by simp [rd_T56, List.getD_eq_getElem?_getD, hlt]
      rw [List.drop_eq_getElem_cons hlt, List.foldl_cons]
      have hsl := stepW_len l ws[i]
      have nx := ih ws (stepW l ws[i]) (i + 1) (by omega) (by omega) (by omega) hw hb
      have hb1 := hb _ (List.getElem_mem hlt)
      refine Ev.step (f := fun k => if (ws[i]).f2 = true then ((stanchionref05_Drop.f k l (ws[i]).f0).bind fun t => stanchionref05_Apply.l0 k ws t ((i + 1 : Nat) : Int)) else ((stanchionref05_Put.f k l (ws[i]).f0 (ws[i]).f1).bind fun t => stanchionref05_Apply.l0 k ws t ((i + 1 : Nat) : Int))) (fun k => ?_) ?_
      · simp only [stanchionref05_Apply.l0]
        rw [if_pos (show (i : Int) < (ws.length : Int) by omega), if_pos (show (0 : Int) ≤ (i : Int) by omega), e1, wrap_succ i (by omega)]
      · unfold stepW at nx ⊢
        by_cases h2 : (ws[i]).f2 = true
        · simp only [if_pos h2] at nx ⊢
          exact Ev.bind (rdrop_ev l _ (by omega)) nx
        · simp only [if_neg h2] at nx ⊢
          exact Ev.bind (rput_ev l _ _ hb1 (by omega)) nx
    · exact fin ws l i hlt
theorem rapply_ev (l : List S59) (ws : List S56) (hl : l.length + ws.length < 4398046510900) (hb : ∀ x ∈ ws, x.f0.size < 4611686018427387904) : Ev (fun k => stanchionref05_Apply.f k l ws) (ws.foldl stepW l) := by
  have := rapply_l0 ws.length ws l 0 (by omega) (by omega) (by omega) (by omega) hb
  refine Ev.congr (fun k => ?_) this
  unfold stanchionref05_Apply.f
  rw [Option.bind_some]
  simp only [List.length_nil, List.nil_append]
  rw [if_pos (by omega)]
  rfl
theorem sum_len {α : Type} (b : α → Nat) (h : ∀ x, 1 ≤ b x) : ∀ l : List α, l.length ≤ (l.map b).sum
  | [] => Nat.le_refl _
  | x :: l => by
    have := sum_len b h l
    have := h x
    simp only [List.length_cons, List.map_cons, List.sum_cons]
    omega
end Go.Proofs.Ytdoamckcibcdcaa.PB
