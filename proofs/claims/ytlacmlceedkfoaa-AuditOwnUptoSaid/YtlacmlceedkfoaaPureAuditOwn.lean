/- What the law AuditOwn comes to: true, whatever is handed in. -/
import Derived.Test.YtlacmlceedkfoaaGdAuditOwn
import Derived.Test.YtlacmlceedkfoaaPCTy
namespace Go.Proofs.Ytlacmlceedkfoaa.PC
open Go.RowKit Go.Proofs.YtlacmlceedkfoaaW.PrintWords

theorem oneA_append (base : List S59) (m : List S27) : ∀ (l : List S27) (w : List S61), oneA base w (l ++ m) = if (oneA base w l).2 = true then oneA base (oneA base w l).1 m else ([], false)
  | [], w => by
    show oneA base w m = if true = true then oneA base w m else ([], false)
    rw [if_pos rfl]
  | s :: l, w => by
    show (if (stepA w base s).2 = true then oneA base (stepA w base s).1 (l ++ m) else ([], false)) = if (if (stepA w base s).2 = true then oneA base (stepA w base s).1 l else ([], false)).2 = true then oneA base (if (stepA w base s).2 = true then oneA base (stepA w base s).1 l else ([], false)).1 m else ([], false)
    by_cases c : (stepA w base s).2 = true
    · simp only [if_pos c]
      exact oneA_append base m l _
    · simp only [if_neg c]
      rfl
theorem own_one (base : List S59) (l : List S27) (key val a : ByteArray) (e1 e2 e3 : ByteArray) (kind : Int) (x : S61) (hx : x.f0 = key) (found : Bool)
    (hop : ∀ w : List S61, stepA w base (⟨⟨kind, key, val, e1, e2, 0⟩, e3, false, []⟩ : S27) = (setL61 w x, true)) (hg : (if x.f2 = true then ((⟨#[]⟩ : ByteArray), false) else (x.f1, true)) = (a, found)) (h : (oneA base [] l).2 = true) (g1 g2 g3 : ByteArray) :
    oneA base [] ((l ++ [(⟨⟨kind, key, val, e1, e2, 0⟩, e3, false, []⟩ : S27)]) ++ [(⟨⟨1, key, g1, g2, g3, 0⟩, a, found, []⟩ : S27)]) = (setL61 (oneA base [] l).1 x, true) := by
  rw [List.append_assoc, oneA_append, if_pos h]
  have e : stepA (setL61 (oneA base [] l).1 x) base (⟨⟨1, key, g1, g2, g3, 0⟩, a, found, []⟩ : S27) = (setL61 (oneA base [] l).1 x, true) := by
    have hgs := get_set_own (oneA base [] l).1 x base
    rw [hg, hx] at hgs
    unfold stepA
    simp only [if_pos, hgs, decide_true, beq_self_eq_true, Bool.and_self]
  show (if (stepA (oneA base [] l).1 base (⟨⟨kind, key, val, e1, e2, 0⟩, e3, false, []⟩ : S27)).2 = true then (if (stepA (stepA (oneA base [] l).1 base (⟨⟨kind, key, val, e1, e2, 0⟩, e3, false, []⟩ : S27)).1 base (⟨⟨1, key, g1, g2, g3, 0⟩, a, found, []⟩ : S27)).2 = true then ((stepA (stepA (oneA base [] l).1 base (⟨⟨kind, key, val, e1, e2, 0⟩, e3, false, []⟩ : S27)).1 base (⟨⟨1, key, g1, g2, g3, 0⟩, a, found, []⟩ : S27)).1, true) else ([], false)) else ([], false)) = _
  rw [hop, if_pos rfl, e, if_pos rfl]
theorem setL_pos (l : List S61) (x : S61) : 0 < (setL61 l x).length := by
  obtain ⟨A, C, _, h, _⟩ := set_shape l x.f0
  rw [h x rfl]
  simp
  omega
theorem stanchionlaw19_AuditOwn.pure : stanchionlaw19_AuditOwn.Pure := by
  intro x0 hx0 hb
  apply Ev.rounds
  unfold stanchionlaw19_AuditOwn.f stanchionlaw19_shown.f
  obtain ⟨base, l, key, val, del⟩ := x0
  obtain ⟨hgb, hgl, hgk, _⟩ := hx0
  simp only at hgb hgl hgk
  have h0 : base.length + l.length ≤ 1048576 := by
    have h1 := sum_len b59 (fun x => by unfold b59 b9; omega) base
    have h2 := sum_len b27 (fun x => by unfold b27 b9; omega) l
    simp only [b52, b23, b28] at hb
    omega
  have hbs : ∀ x ∈ base, x.f0.size < 4611686018427387904 := fun x hx => by have := (hgb.2 x hx).1; omega
  have hls : ∀ x ∈ l, x.f0.f1.size < 4611686018427387904 := fun x hx => by have := (hgl.2 x hx).1.2.1; omega
  have hk : key.size < 4611686018427387904 := by have := hgk; omega
  simp only [Option.bind_some]
  refine Ev.bind (one_ev base l (by omega) (by omega)) ?_
  by_cases c : (oneA base [] l).2 = true
  · simp only [if_pos c]
    have fin : ∀ (m : List S27) (x : S61), oneA base [] m = (setL61 (oneA base [] l).1 x, true) → m.length ≤ l.length + 2 → (∀ s ∈ m, s.f0.f1.size < 4611686018427387904) →
        Ev (fun k => (audit_One.f k base m).bind fun bt => (stanchionref19_One.f k base m).bind fun bu => if true = true then (if bt.2 = true then (if bu.2 = true then some (decide ((bu.1.length : Int) > 0)) else some false) else some false) else some false) true := by
      intro m x he hm hms
      have h1 := one_ev base m (by omega) (by omega)
      have h2 := rone_ev base m (by omega) (by omega) hbs hms
      rw [he] at h1 h2
      refine Ev.bind h1 (Ev.bind h2 ?_)
      simp only [if_pos]
      have : decide (((setL61 (oneA base [] l).1 x).length : Int) > 0) = true := decide_eq_true (by have := setL_pos (oneA base [] l).1 x; omega)
      rw [this]
      exact Ev.now _
    have mem : ∀ (a b : S27), a.f0.f1 = key → b.f0.f1 = key → ∀ s ∈ (l ++ [a]) ++ [b], s.f0.f1.size < 4611686018427387904 := by
      intro a b ha hb s hs
      rcases List.mem_append.1 hs with hs | hs
      · rcases List.mem_append.1 hs with hs | hs
        · exact hls s hs
        · rw [List.mem_singleton.1 hs, ha]; exact hk
      · rw [List.mem_singleton.1 hs, hb]; exact hk
    have len1 : ∀ a : S27, (l ++ [a]).length < 1099511627776 := fun a => by simp; omega
    have len2 : ∀ a b : S27, ((l ++ [a]) ++ [b]).length ≤ l.length + 2 := fun a b => by simp
    cases del with
    | true =>
      simp only [if_pos]
      have e := own_one base l key val ⟨#[]⟩ ⟨#[]⟩ ⟨#[]⟩ ⟨#[]⟩ 3 ⟨key, ⟨#[]⟩, true⟩ rfl false (fun w => by unfold stepA; rfl) rfl c ⟨#[]⟩ ⟨#[]⟩ ⟨#[]⟩
      refine Ev.step (fun k => ?_) (fin _ ⟨key, ⟨#[]⟩, true⟩ e (len2 _ _) (mem _ _ rfl rfl))
      simp only [stanchionlaw19_AuditOwn.j0]
      simp only [Option.bind_some, List.length_nil, Nat.zero_add, List.nil_append, if_pos (show l.length < 1099511627776 by omega), if_pos (len1 _), if_pos, Bool.not_true]
    | false =>
      simp only [if_neg (show ¬ (false = true) by decide)]
      have e := own_one base l key val val ⟨#[]⟩ ⟨#[]⟩ ⟨#[]⟩ 2 ⟨key, val, false⟩ rfl true (fun w => by unfold stepA; rfl) rfl c ⟨#[]⟩ ⟨#[]⟩ ⟨#[]⟩
      refine Ev.step (fun k => ?_) (fin _ ⟨key, val, false⟩ e (len2 _ _) (mem _ _ rfl rfl))
      simp only [stanchionlaw19_AuditOwn.j0]
      simp only [Option.bind_some, List.length_nil, Nat.zero_add, List.nil_append, if_pos (show l.length < 1099511627776 by omega), if_pos (len1 _), if_pos, if_neg (show ¬ (false = true) by decide), Bool.not_false]
  · simp only [if_neg c]
    exact Ev.now _
end Go.Proofs.Ytlacmlceedkfoaa.PC
