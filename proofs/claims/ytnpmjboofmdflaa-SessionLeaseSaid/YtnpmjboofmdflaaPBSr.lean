/- What the document's session functions come to: the same as the program's. -/
import Derived.Test.YtnpmjboofmdflaaPBSs
namespace Go.Proofs.Ytnpmjboofmdflaa.PB
open Go.RowKit Go.Proofs.YtnpmjboofmdflaaW.PrintWords Go.Proofs.YtnpmjboofmdflaaW.PrintMore Go.Proofs.Ytnpmjboofmdflaa.Hp

/-- What time makes of sessions: those that stay, those that go. -/
def tck : List Int → List S42 → List S42 → List S42 × List S42
  | [], l, out => (l, out)
  | i :: r, l, out => match fnd l i with
    | none => tck r l out
    | some x => tck r (lss l i) (out ++ [x])
theorem tick_l0 (a n t : Int) (h : List S85) (ids : List Int) (hb : ids.length < 8796093022207) : ∀ (d i : Nat) (l out : List S42), ids.length - i = d → i ≤ ids.length → out.length + l.length < 2513169434916 → Ev (fun k => session_Tick.l0 k out ids (ids.length : Int) (i : Int) a l h n t) (a, (tck (ids.drop i) l out).1, h, n, t, (tck (ids.drop i) l out).2)
  | 0, i, l, out, hd, hi, hc => by
    refine Ev.step (f := fun _ => some (a, l, h, n, t, out)) (fun k => by simp only [session_Tick.l0]; rw [if_neg (by omega)]) ?_
    rw [List.drop_of_length_le (by omega)]
    exact Ev.now _
  | d + 1, i, l, out, hd, hi, hc => by
    have hw : wrap64 ((i : Int) + 1) = ((i + 1 : Nat) : Int) := by unfold wrap64; omega
    have hr : rd ids (i : Int) = ids[i] := by unfold rd; rw [Int.toNat_natCast]; exact getD_of ids i 0 (by omega)
    have hdr : ids.drop i = ids[i] :: ids.drop (i + 1) := List.drop_eq_getElem_cons (by omega)
    rw [hdr]
    unfold tck
    cases hf : fnd l ids[i] with
    | none =>
      refine Ev.step (f := fun k => session_Tick.l0 k out ids (ids.length : Int) ((i + 1 : Nat) : Int) a l h n t) (fun k => ?_) (tick_l0 a n t h ids hb d (i + 1) l out (by omega) (by omega) hc)
      simp only [session_Tick.l0]
      rw [if_pos (by omega), if_pos (by omega), if_pos (by omega), hr, find_eq, hf, Option.bind_some, hw]
      exact if_neg (by decide)
    | some x =>
      have hx := fnd_mem hf
      have hlt : (lss l ids[i]).length < l.length := by
        unfold lss
        rw [List.length_filter_lt_length_iff_exists]
        exact ⟨x, hx.1, by simp [hx.2]⟩
      refine Ev.step (f := fun k => session_Tick.l0 k (out ++ [x]) ids (ids.length : Int) ((i + 1 : Nat) : Int) a (lss l ids[i]) h n t) (fun k => ?_) (tick_l0 a n t h ids hb d (i + 1) (lss l ids[i]) (out ++ [x]) (by omega) (by omega) (by simp; omega))
      simp only [session_Tick.l0]
      rw [if_pos (by omega), if_pos (by omega), if_pos (by omega), hr, find_eq, hf, Option.bind_some, hw]
      refine (if_pos rfl).trans ?_
      rw [if_pos (by omega), without_eq a l h n t ids[i] (by omega)]
      rfl
def tkAll (l : List S42) (h : List S85) (t : Int) : List S42 × List S42 := tck (dueIds h.length h t) l []
theorem tick_ev (a : Int) (l : List S42) (h : List S85) (n t now : Int) (hl : l.length < 2513169434916) (hh : h.length < 8796093022207) : Ev (fun k => session_Tick.f k a l h n t now) (a, (tkAll l h (mx t now)).1, due h.length h (mx t now), n, mx t now, (tkAll l h (mx t now)).2) := by
  unfold session_Tick.f
  refine Ev.bind (due_ev h (mx t now) (by omega)) ?_
  have hd := due_length h.length h (mx t now)
  have := tick_l0 a n (mx t now) (due h.length h (mx t now)) (dueIds h.length h (mx t now)) (by omega) _ 0 l [] rfl (by omega) (by simpa using hl)
  exact this
end Go.Proofs.Ytnpmjboofmdflaa.PB
