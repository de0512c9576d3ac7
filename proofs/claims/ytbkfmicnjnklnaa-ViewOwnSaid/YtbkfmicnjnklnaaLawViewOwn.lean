-- Made by a program of this workplace out of the translation (wip/tools in the repo). Not trusted: Lean checks it.
import Derived.Test.YtbkfmicnjnklnaaRows
import Derived.Test.YtbkfmicnjnklnaaPureViewOwn
import Derived.Test.YtbkfmicnjnklnaaOpn
import Derived.Test.YtbkfmicnjnklnaaPCx3
import Derived.WalkKit
import Derived.ProofKit
import Derived.OpenShut
import Derived.ShutString
import Derived.ChangeOld
import Derived.Below
import Derived.SizedLaws
import Derived.Carry
namespace Go.Proofs.Ytbkfmicnjnklnaa.viewOwn
open Go.ChangeShapes Go.WideShapes Go.ChangeAt Go.RowKit Go.Proofs.Ytbkfmicnjnklnaa.PC Go.Proofs.Ytbkfmicnjnklnaa.Opn Go.Proofs.YtbkfmicnjnklnaaW.PrintWords Go.Proofs.YtbkfmicnjnklnaaW.PrintLast Go.Proofs.YtbkfmicnjnklnaaW.PrintMore
open Go.ChangeMaps (open_string shut_string)
theorem own : ownKnob Try.prog.godebug = none := by kernel_rfl
theorem laidOut : laidOutB Try.prog = true := by kernel_rfl
theorem opn9 : Opn Try.prog 9 Kd.string g9 := Opn.str Try.underlying9
theorem opn4 : Opn Try.prog 4 Kd.bool g4 := Opn.bool Try.underlying4
theorem opn33 : Opn Try.prog 33 k33 g33 := by
  refine Opn.struct Try.underlying33 (by kernel_rfl) ?_
  show OpnF Try.prog _ 0 (Kd.iso (Kd.pair Kd.string (Kd.pair Kd.string Kd.bool)) (fun x : S33 => (x.f0, x.f1, x.f2))) (fun y => (fun z : ((ByteArray) × ((ByteArray) × (Bool))) => g9 z.1 ∧ (fun z : ((ByteArray) × (Bool)) => g9 z.1 ∧ g4 z.2) z.2) ((fun x : S33 => (x.f0, x.f1, x.f2)) y))
  refine OpnF.iso (g := (fun z : ((ByteArray) × ((ByteArray) × (Bool))) => g9 z.1 ∧ (fun z : ((ByteArray) × (Bool)) => g9 z.1 ∧ g4 z.2) z.2)) (fun x : ((ByteArray) × ((ByteArray) × (Bool))) => (⟨x.1, x.2.1, x.2.2⟩ : S33)) (fun _ => rfl) ?_
  refine OpnF.cons (ga := g9) (gb := (fun z : ((ByteArray) × (Bool)) => g9 z.1 ∧ g4 z.2)) rfl (by kernel_rfl) opn9 ?_
  refine OpnF.cons (ga := g9) (gb := g4) rfl (by kernel_rfl) opn9 ?_
  exact OpnF.one rfl (by kernel_rfl) opn4
theorem opn22 : Opn Try.prog 22 (Kd.slice 33 k33) g22 := Opn.slice Try.underlying22 (by kernel_rfl) (by kernel_rfl) opn33
theorem opn43 : Opn Try.prog 43 k43 g43 := by
  refine Opn.struct Try.underlying43 (by kernel_rfl) ?_
  show OpnF Try.prog _ 0 (Kd.iso (Kd.pair Kd.string Kd.string) (fun x : S43 => (x.f0, x.f1))) (fun y => (fun z : ((ByteArray) × (ByteArray)) => g9 z.1 ∧ g9 z.2) ((fun x : S43 => (x.f0, x.f1)) y))
  refine OpnF.iso (g := (fun z : ((ByteArray) × (ByteArray)) => g9 z.1 ∧ g9 z.2)) (fun x : ((ByteArray) × (ByteArray)) => (⟨x.1, x.2⟩ : S43)) (fun _ => rfl) ?_
  refine OpnF.cons (ga := g9) (gb := g9) rfl (by kernel_rfl) opn9 ?_
  exact OpnF.one rfl (by kernel_rfl) opn9
theorem opn23 : Opn Try.prog 23 (Kd.slice 43 k43) g23 := Opn.slice Try.underlying23 (by kernel_rfl) (by kernel_rfl) opn43
theorem opn35 : Opn Try.prog 35 k35 g35 := by
  refine Opn.struct Try.underlying35 (by kernel_rfl) ?_
  show OpnF Try.prog _ 0 (Kd.iso (Kd.pair (Kd.slice 33 k33) (Kd.pair (Kd.slice 43 k43) (Kd.pair k33 Kd.string))) (fun x : S35 => (x.f0, x.f1, x.f2, x.f3))) (fun y => (fun z : ((List (S33)) × ((List (S43)) × ((S33) × (ByteArray)))) => g22 z.1 ∧ (fun z : ((List (S43)) × ((S33) × (ByteArray))) => g23 z.1 ∧ (fun z : ((S33) × (ByteArray)) => g33 z.1 ∧ g9 z.2) z.2) z.2) ((fun x : S35 => (x.f0, x.f1, x.f2, x.f3)) y))
  refine OpnF.iso (g := (fun z : ((List (S33)) × ((List (S43)) × ((S33) × (ByteArray)))) => g22 z.1 ∧ (fun z : ((List (S43)) × ((S33) × (ByteArray))) => g23 z.1 ∧ (fun z : ((S33) × (ByteArray)) => g33 z.1 ∧ g9 z.2) z.2) z.2)) (fun x : ((List (S33)) × ((List (S43)) × ((S33) × (ByteArray)))) => (⟨x.1, x.2.1, x.2.2.1, x.2.2.2⟩ : S35)) (fun _ => rfl) ?_
  refine OpnF.cons (ga := g22) (gb := (fun z : ((List (S43)) × ((S33) × (ByteArray))) => g23 z.1 ∧ (fun z : ((S33) × (ByteArray)) => g33 z.1 ∧ g9 z.2) z.2)) rfl (by kernel_rfl) opn22 ?_
  refine OpnF.cons (ga := g23) (gb := (fun z : ((S33) × (ByteArray)) => g33 z.1 ∧ g9 z.2)) rfl (by kernel_rfl) opn23 ?_
  refine OpnF.cons (ga := g33) (gb := g9) rfl (by kernel_rfl) opn33 ?_
  exact OpnF.one rfl (by kernel_rfl) opn9
set_option maxRecDepth 100000 in
theorem lifted (os : Os) (started : os.Started) (H : Type) (enc : TypeId × Value → H) :
    ReturnsInHanded {} Try.checked os 4 .any (Rows.viewOwnSpec.pre6 enc Try.prog Try.f4 Rows.viewOwnRow.domain false) (Rows.viewOwnSpec.post enc Try.prog Try.f4 false true false false) := by
  refine returnsInHanded_of_change_sized (C := Try.checked) own started (by kernel_rfl) Try.func4
    (ChangeSpec.witness6 (enc := enc) (C := Try.checked) false ⟨#[], #[(.agg #[(.slice none 0 0), (.slice none 0 0), (.string ByteArray.empty), (.string ByteArray.empty), (.bool false), (.string ByteArray.empty)])], []⟩ 8 (by kernel_rfl) (by kernel_rfl) (by kernel_rfl) (by kernel_rfl)) ?_
  intro W base args ds gs before hval0 hW hcnd hsz0 _
  have hsz : (DataW.weightsEach Try.prog (Try.f4.params.toList ++ Rows.viewOwnSpec.plain.varTypes Try.prog) (ds ++ gs)).all (· ≤ reachBytes) = true := hsz0
  have hval : ∀ (j : Nat) t v, Try.f4.params[j]? = some t → args[j]? = some v → Value.okWide Try.prog W .any base t v := hval0
  have hW' := hW
  obtain ⟨p, q, hA0, hV, rfl, hfz, hnd⟩ := hW
  have hA : DataW.TrodAll enc Try.prog W 0 (fun _ => true) true Try.f4.params.toList args.toList ds p := hA0
  rw [Try.params4] at hA hval hsz
  obtain ⟨v0, vs0, d0, ds0, p0, q0, hargs, rfl, rfl, h0, r0⟩ := trodAll_cons hA
  obtain ⟨rfl, rfl, rfl⟩ := trodAll_nil r0
  obtain rfl : args = #[v0] := by cases args; simp_all
  obtain ⟨rfl, rfl⟩ := trodVars_none hV
  have k0 := h0
  have lt0 : ∀ x ∈ p0, x.block < W.heap.size := by obtain ⟨m, hm⟩ := k0; exact DataW.trod_lt m _ _ _ hm
  obtain ⟨x0, hx0, y0⟩ := opn35.param hsz (j := 0) rfl rfl h0
  obtain ⟨cs0, rfl, _⟩ := okWide_struct Try.underlying35 (hval 0 35 v0 rfl rfl)
  have hx0 := k35_open (show k35.K W x0 cs0.toList from hx0)
  obtain ⟨A0_0, c0_0, A0_1, c0_1, he0, hc0_0, hr0_0, hc0_1, hr0_1⟩ := hx0
  obtain rfl : cs0 = #[.slice A0_0 x0.f0.length c0_0, .slice A0_1 x0.f1.length c0_1, .string x0.f2.f0, .string x0.f2.f1, .bool x0.f2.f2, .string x0.f3] := by cases cs0; simp_all
  clear hA0 hval0 hsz0 hsz
  obtain ⟨kk, hk⟩ := stanchionlaw12_ViewOwn.pure x0 y0
  refine (stanchionlaw12_ViewOwn.calls kk _ _ x0.f0 _ _ x0.f1 x0.f2.f0 x0.f2.f1 x0.f2.f2 x0.f3 true W hr0_0 hc0_0 hr0_1 hc0_1 hk rfl).mono fun e W' ⟨he, bel0⟩ => ?_
  have bel : Below W.heap.size W W' := bel0
  subst he
  exact ⟨_, rfl, _, _, _, [], _, [], hW', trodAll_mk1 (shut_bool Try.underlying4 _), (trodAll_cons_mk (Below.trod laidOut (by kernel_rfl) (of_decide_eq_true (by kernel_rfl)) k0 bel lt0) trodAll_mk0), rfl, bel.frame _, fun h => by cases h⟩
theorem over : Rows.viewOwnRow.holds Try.pinned (OpenSpec.ofChange Rows.viewOwnSpec) :=
  OpenClaim.holds_of_wide 4 Try.f4 rfl rfl rfl rfl rfl rfl rfl ⟨rfl, rfl, rfl, rfl, rfl⟩ rfl rfl rfl rfl rfl (by kernel_rfl) Try.func4 (by kernel_rfl)
    (of_decide_eq_true (by kernel_rfl)) (by unfold Func.isWrapper; first | (rw [if_pos (by decide +kernel)]; kernel_rfl) | (rw [if_neg (by decide +kernel)]; exact ⟨rfl, rfl⟩))
    (fun os started H enc _ => lifted os started H enc)
theorem proved : Rows.ViewOwnSaid := over
end Go.Proofs.Ytbkfmicnjnklnaa.viewOwn
namespace Go.Proofs.Ytbkfmicnjnklnaa
/-- The row, under a short name, for the claim. -/
theorem viewOwn_holds : Rows.ViewOwnSaid := viewOwn.proved
end Go.Proofs.Ytbkfmicnjnklnaa
