-- Out of a text that print.sh printed: what nothing in this claim leans on was left out by this session (wip/tools/shaketree.py). Not trusted: Lean checks it.
import Derived.Test.YtnpmjboofmdflaaWTab
/-! ### 57. A region of open order by ONE relation over what is listed so far: each operation is shown once, whatever came up before it -/
namespace Go.Proofs.YtnpmjboofmdflaaW.PrintLast
/-- Number i is listed too. -/
def up (b : Nat → Bool) (i : Nat) : Nat → Bool := fun j => if j = i then true else b j
theorem up_self (b : Nat → Bool) (i : Nat) : up b i i = true := by simp [up]
theorem up_ne {b : Nat → Bool} {i j : Nat} (h : j ≠ i) : up b i j = b j := by simp [up, h]
section
variable {P : Program} {ops : Array Oper} {Q : Exit → Act → World → Prop} {md : Region.Mode} {T : Bool × List (List Nat × List Nat)} {B : List Nat} {O : List Nat} {b : Nat → Bool} {i j n : Nat}
theorem up_count : ∀ {O : List Nat}, O.Nodup → i ∈ O → b i = false → (O.filter fun j => !up b i j).length + 1 = (O.filter fun j => !b j).length
  | [], _, hi, _ => by cases hi
  | x :: r, hn, hi, hb => by
    rw [List.nodup_cons] at hn
    rcases List.mem_cons.1 hi with rfl | hi
    · have h1 : (r.filter fun j => !up b i j) = r.filter fun j => !b j := by
        refine List.filter_congr (fun j hj => ?_)
        rw [up_ne (fun e => hn.1 (by rw [← e]; exact hj))]
      rw [List.filter_cons, List.filter_cons]
      simp [up_self, hb, h1]
    · have hxi : x ≠ i := fun e => hn.1 (e ▸ hi)
      have h1 := up_count hn.2 hi hb
      rw [List.filter_cons, List.filter_cons, up_ne hxi]
      cases hbx : b x
      · simp only [Bool.not_false, if_true, List.length_cons]
        omega
      · simpa using h1
/-! The frame: what is listed has its destination filled. -/
end
end Go.Proofs.YtnpmjboofmdflaaW.PrintLast
