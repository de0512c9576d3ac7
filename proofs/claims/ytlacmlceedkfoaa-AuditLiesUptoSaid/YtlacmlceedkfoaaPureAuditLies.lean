/- What the law AuditLies comes to: true, whatever is handed in. -/
import Derived.Test.YtlacmlceedkfoaaGdAuditLies
import Derived.Test.YtlacmlceedkfoaaPBTy
namespace Go.Proofs.Ytlacmlceedkfoaa.PB
open Go.RowKit Go.Proofs.YtlacmlceedkfoaaW.PrintWords

theorem seenN_bulkL : ∀ l : List S46, seenN l ≤ (l.map b46).sum
  | [] => Nat.le_refl _
  | d :: l => by
    have h1 := seenN_bulkL l
    have h2 := sum_len b27 (fun x => by unfold b27 b9; omega) d.f1
    rw [seenN_cons, List.map_cons, List.sum_cons]
    simp only [b46, b9, b28]
    omega
/-- A deal that saw another value than the one that is there is not told. -/
theorem serial_lie (a : List S59) (tok key val : ByteArray) (found : Bool) (x y z : ByteArray) (h : ¬ ((findL a key).1.toList = val.toList ∧ (findL a key).2 = found)) :
    serialA a [(⟨tok, [(⟨⟨1, key, x, y, z, 0⟩, val, found, []⟩ : S27)]⟩ : S46)] = (a, 0) := by
  rw [serialA_cons]
  have e : stepA [] a (⟨⟨1, key, x, y, z, 0⟩, val, found, []⟩ : S27) = ([], false) := by
    unfold stepA
    have g : getL [] a key = findL a key := rfl
    simp only [if_pos, g]
    congr 1
    by_cases h1 : (findL a key).1.toList = val.toList
    · have h2 : (findL a key).2 ≠ found := fun e => h ⟨h1, e⟩
      rw [decide_eq_true h1, Bool.true_and]
      cases e1 : (findL a key).2 <;> cases found <;> simp_all
    · rw [decide_eq_false h1, Bool.false_and]
  have e2 : oneA a [] [(⟨⟨1, key, x, y, z, 0⟩, val, found, []⟩ : S27)] = ([], false) := by
    show (if (stepA [] a (⟨⟨1, key, x, y, z, 0⟩, val, found, []⟩ : S27)).2 = true then _ else _) = _
    rw [e]
    rfl
  simp only [e2]
  rfl
theorem stanchionlaw19_AuditLies.pure : stanchionlaw19_AuditLies.Pure := by
  intro x0 hx0 hb
  apply Ev.rounds
  unfold stanchionlaw19_AuditLies.f stanchionlaw19_shown.f
  obtain ⟨base, l, key, val, found⟩ := x0
  have h0 : base.length ≤ 1048576 ∧ seenN l ≤ 1048576 ∧ l.length ≤ 1048576 := by
    have h1 := sum_len b59 (fun x => by unfold b59 b9; omega) base
    have h2 := seenN_bulkL l
    have h3 := sum_len b46 (fun x => by unfold b46 b9; omega) l
    simp only [b49, b23, b37] at hb
    omega
  obtain ⟨h0, h1, h2⟩ := h0
  have ha := serialA_len l base
  have hle := serialA_le l base
  have out : Ev (fun k => stanchionlaw19_AuditLies.j0 k base l key val found true (serialA base l).1 ((serialA base l).2 : Int) true) true := Ev.step (f := fun k => some true) (fun k => by simp only [stanchionlaw19_AuditLies.j0]; rw [if_pos trivial]) (Ev.now _)
  simp only [Option.bind_some]
  refine Ev.bind (serial_ev base l (by omega) (by omega)) (Ev.bind (rfind_ev (serialA base l).1 key (by omega)) ?_)
  by_cases c : (serialA base l).2 < l.length
  · have c' : ((serialA base l).2 : Int) < (l.length : Int) := by omega
    simp only [if_pos c']
    exact out
  · have c' : ¬ ((serialA base l).2 : Int) < (l.length : Int) := by omega
    have e : (serialA base l).2 = l.length := by omega
    have lie : ¬ ((findL (serialA base l).1 key).1.toList = val.toList ∧ (findL (serialA base l).1 key).2 = found) → Ev (fun k => stanchionlaw19_AuditLies.j0 k base l key val found true (serialA base l).1 ((serialA base l).2 : Int) false) true := by
      intro h
      have hs := serialA_append l [(⟨(⟨#[122]⟩ : ByteArray), [(⟨⟨1, key, ⟨#[]⟩, ⟨#[]⟩, ⟨#[]⟩, 0⟩, val, found, []⟩ : S27)]⟩ : S46)] base
      rw [if_neg c, serial_lie _ _ _ _ _ _ _ _ h] at hs
      have hsn := seenN_append l [(⟨(⟨#[122]⟩ : ByteArray), [(⟨⟨1, key, ⟨#[]⟩, ⟨#[]⟩, ⟨#[]⟩, 0⟩, val, found, []⟩ : S27)]⟩ : S46)]
      have h1n : seenN [(⟨(⟨#[122]⟩ : ByteArray), [(⟨⟨1, key, ⟨#[]⟩, ⟨#[]⟩, ⟨#[]⟩, 0⟩, val, found, []⟩ : S27)]⟩ : S46)] = 1 := rfl
      have hev := serial_ev base (l ++ [(⟨(⟨#[122]⟩ : ByteArray), [(⟨⟨1, key, ⟨#[]⟩, ⟨#[]⟩, ⟨#[]⟩, 0⟩, val, found, []⟩ : S27)]⟩ : S46)]) (by omega) (by simp; omega)
      rw [hs] at hev
      refine Ev.step (f := fun k => (audit_Serial.f k base (l ++ [(⟨(⟨#[122]⟩ : ByteArray), [(⟨⟨1, key, ⟨#[]⟩, ⟨#[]⟩, ⟨#[]⟩, 0⟩, val, found, []⟩ : S27)]⟩ : S46)])).bind fun bt => if bt.2 = ((serialA base l).2 : Int) then ((stanchionref05_Same.f k (serialA base l).1 bt.1).bind fun t => some t) else some false) (fun k => ?_) (Ev.bind hev ?_)
      · simp only [stanchionlaw19_AuditLies.j0]
        rw [if_neg (by decide)]
        simp only [Option.bind_some, List.length_nil, Nat.zero_add, List.nil_append, if_pos (show l.length < 3518437208883 by omega)]
        rfl
      · have e3 : ((l.length + 0 : Nat) : Int) = ((serialA base l).2 : Int) := by omega
        simp only [if_pos e3]
        exact Ev.bind (same_ev _ _ rfl (by omega)) (Ev.now _)
    simp only [if_neg c']
    by_cases hv : (findL (serialA base l).1 key).1.toList = val.toList
    · simp only [if_pos hv]
      cases hf : ((findL (serialA base l).1 key).2 == found) with
      | true => exact out
      | false => exact lie (fun h => by rw [h.2] at hf; simp at hf)
    · simp only [if_neg hv]
      exact lie (fun h => hv h.1)
end Go.Proofs.Ytlacmlceedkfoaa.PB
