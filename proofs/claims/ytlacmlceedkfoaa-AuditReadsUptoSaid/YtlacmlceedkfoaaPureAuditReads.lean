/- What the law AuditReads comes to: true, whatever is handed in. -/
import Derived.Test.YtlacmlceedkfoaaGdAuditReads
import Derived.Test.YtlacmlceedkfoaaPBTy
namespace Go.Proofs.Ytlacmlceedkfoaa.PB
open Go.RowKit Go.Proofs.YtlacmlceedkfoaaW.PrintWords

def rdS (base : List S59) (key : ByteArray) : S27 := ⟨⟨1, key, ⟨#[]⟩, ⟨#[]⟩, ⟨#[]⟩, 0⟩, (findL base key).1, (findL base key).2, []⟩
theorem oneA_reads (base : List S59) : ∀ l : List ByteArray, oneA base [] (l.map (rdS base)) = ([], true)
  | [] => rfl
  | key :: l => by
    have e : stepA [] base (rdS base key) = ([], true) := by
      unfold stepA rdS
      have g : getL [] base key = findL base key := rfl
      simp only [if_pos, g, decide_true, beq_self_eq_true, Bool.and_self]
    rw [List.map_cons]
    show (if (stepA [] base (rdS base key)).2 = true then oneA base (stepA [] base (rdS base key)).1 (l.map (rdS base)) else ([], false)) = _
    rw [e, if_pos rfl]
    exact oneA_reads base l
theorem reads_l0 (base : List S59) : ∀ (n : Nat) (l : List ByteArray) (i : Nat), l.length - i ≤ n → i ≤ l.length → base.length + l.length ≤ 1048576 →
    Ev (fun k => stanchionlaw19_AuditReads.l0 k base l true ((l.take i).map (rdS base)) (i : Int)) true := by
  intro n
  have fin : ∀ (l : List ByteArray) (i : Nat), ¬ i < l.length → base.length + l.length ≤ 1048576 → Ev (fun k => stanchionlaw19_AuditReads.l0 k base l true ((l.take i).map (rdS base)) (i : Int)) true := by
    intro l i hn hl
    rw [List.take_of_length_le (by omega)]
    have e : serialA base [(⟨(⟨#[116]⟩ : ByteArray), l.map (rdS base)⟩ : S46)] = (base, 1) := by
      rw [serialA_cons]
      simp only [oneA_reads base l, if_pos]
      rfl
    have es : seenN [(⟨(⟨#[116]⟩ : ByteArray), l.map (rdS base)⟩ : S46)] = l.length := by simp [seenN]
    have hs := serial_ev base [(⟨(⟨#[116]⟩ : ByteArray), l.map (rdS base)⟩ : S46)] (by omega) (by simp)
    rw [e] at hs
    refine Ev.step (f := fun k => (audit_Serial.f k base [(⟨(⟨#[116]⟩ : ByteArray), l.map (rdS base)⟩ : S46)]).bind fun bt => if true = true then (if bt.2 = 1 then ((stanchionref05_Same.f k bt.1 base).bind fun t => some t) else some false) else some false) (fun k => by simp only [stanchionlaw19_AuditReads.l0]; rw [if_neg (by omega)]) (Ev.bind hs ?_)
    simp only [if_pos]
    exact Ev.bind (same_ev _ _ rfl (by omega)) (Ev.now _)
  induction n with
  | zero => intro l i hn hi hl; exact fin l i (by omega) hl
  | succ n ih =>
    intro l i hn hle hl
    by_cases hi : i < l.length
    · have e1 : rdOf ByteArray.empty l (i : Int) = l[i] := by simp [rdOf, List.getD_eq_getElem?_getD, hi]
      have nx := ih l (i + 1) (by omega) (by omega) hl
      rw [show (l.take (i + 1)).map (rdS base) = (l.take i).map (rdS base) ++ [rdS base l[i]] by rw [List.take_succ_eq_append_getElem hi, List.map_append]; rfl] at nx
      have hlen : ((l.take i).map (rdS base)).length < 1099511627776 := by simp; omega
      refine Ev.step (f := fun k => (stanchionref05_Find.f k base l[i]).bind fun bt => stanchionlaw19_AuditReads.l0 k base l true ((l.take i).map (rdS base) ++ [(⟨⟨1, l[i], ⟨#[]⟩, ⟨#[]⟩, ⟨#[]⟩, 0⟩, bt.1, bt.2, []⟩ : S27)]) ((i + 1 : Nat) : Int)) (fun k => ?_) (Ev.bind (rfind_ev base l[i] (by omega)) nx)
      simp only [stanchionlaw19_AuditReads.l0]
      rw [if_pos (by omega), if_pos (by omega), e1, wrap_succ i (by omega)]
      simp only [if_pos hlen]
    · exact fin l i hi hl
theorem stanchionlaw19_AuditReads.pure : stanchionlaw19_AuditReads.Pure := by
  intro x0 x1 hx0 hx1 hb
  apply Ev.rounds
  have h0 : x0.length + x1.length ≤ 1048576 := by
    have h1 := sum_len b59 (fun x => by unfold b59 b9; omega) x0
    have h2 := sum_len b9 (fun x => by unfold b9; omega) x1
    simp only [b23, b42] at hb
    omega
  have := reads_l0 x0 x1.length x1 0 (by omega) (by omega) h0
  rw [List.take_zero] at this
  exact this
end Go.Proofs.Ytlacmlceedkfoaa.PB
