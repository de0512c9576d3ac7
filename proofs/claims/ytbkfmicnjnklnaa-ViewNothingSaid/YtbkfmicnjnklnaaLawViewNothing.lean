-- Made by a program of this workplace out of the translation (wip/tools in the repo). Not trusted: Lean checks it.
import Derived.Test.YtbkfmicnjnklnaaRows
import Derived.Test.YtbkfmicnjnklnaaPureViewNothing
import Derived.Test.YtbkfmicnjnklnaaOpn
import Derived.Test.YtbkfmicnjnklnaaPBx12
import Derived.WalkKit
import Derived.ProofKit
import Derived.OpenShut
import Derived.ShutString
import Derived.ChangeOld
import Derived.Below
import Derived.SizedLaws
import Derived.Carry
namespace Go.Proofs.Ytbkfmicnjnklnaa.viewNothing
open Go.ChangeShapes Go.WideShapes Go.ChangeAt Go.RowKit Go.Proofs.Ytbkfmicnjnklnaa.PB Go.Proofs.Ytbkfmicnjnklnaa.Opn Go.Proofs.YtbkfmicnjnklnaaW.PrintWords Go.Proofs.YtbkfmicnjnklnaaW.PrintLast Go.Proofs.YtbkfmicnjnklnaaW.PrintMore
open Go.ChangeMaps (open_string shut_string)
theorem own : ownKnob Try.prog.godebug = none := by kernel_rfl
theorem laidOut : laidOutB Try.prog = true := by kernel_rfl
theorem opn9 : Opn Try.prog 9 Kd.string g9 := Opn.str Try.underlying9
theorem opn43 : Opn Try.prog 43 k43 g43 := by
  refine Opn.struct Try.underlying43 (by kernel_rfl) ?_
  show OpnF Try.prog _ 0 (Kd.iso (Kd.pair Kd.string Kd.string) (fun x : S43 => (x.f0, x.f1))) (fun y => (fun z : ((ByteArray) × (ByteArray)) => g9 z.1 ∧ g9 z.2) ((fun x : S43 => (x.f0, x.f1)) y))
  refine OpnF.iso (g := (fun z : ((ByteArray) × (ByteArray)) => g9 z.1 ∧ g9 z.2)) (fun x : ((ByteArray) × (ByteArray)) => (⟨x.1, x.2⟩ : S43)) (fun _ => rfl) ?_
  refine OpnF.cons (ga := g9) (gb := g9) rfl (by kernel_rfl) opn9 ?_
  exact OpnF.one rfl (by kernel_rfl) opn9
theorem opn23 : Opn Try.prog 23 (Kd.slice 43 k43) g23 := Opn.slice Try.underlying23 (by kernel_rfl) (by kernel_rfl) opn43
theorem opn3 : Opn Try.prog 3 (Kd.int .i64) g3 := Opn.int Try.underlying3
theorem opn48 : Opn Try.prog 48 k48 g48 := by
  refine Opn.struct Try.underlying48 (by kernel_rfl) ?_
  show OpnF Try.prog _ 0 (Kd.iso (Kd.pair (Kd.slice 43 k43) (Kd.pair Kd.string (Kd.pair Kd.string (Kd.pair Kd.string (Kd.int .i64))))) (fun x : S48 => (x.f0, x.f1, x.f2, x.f3, x.f4))) (fun y => (fun z : ((List (S43)) × ((ByteArray) × ((ByteArray) × ((ByteArray) × (Int))))) => g23 z.1 ∧ (fun z : ((ByteArray) × ((ByteArray) × ((ByteArray) × (Int)))) => g9 z.1 ∧ (fun z : ((ByteArray) × ((ByteArray) × (Int))) => g9 z.1 ∧ (fun z : ((ByteArray) × (Int)) => g9 z.1 ∧ g3 z.2) z.2) z.2) z.2) ((fun x : S48 => (x.f0, x.f1, x.f2, x.f3, x.f4)) y))
  refine OpnF.iso (g := (fun z : ((List (S43)) × ((ByteArray) × ((ByteArray) × ((ByteArray) × (Int))))) => g23 z.1 ∧ (fun z : ((ByteArray) × ((ByteArray) × ((ByteArray) × (Int)))) => g9 z.1 ∧ (fun z : ((ByteArray) × ((ByteArray) × (Int))) => g9 z.1 ∧ (fun z : ((ByteArray) × (Int)) => g9 z.1 ∧ g3 z.2) z.2) z.2) z.2)) (fun x : ((List (S43)) × ((ByteArray) × ((ByteArray) × ((ByteArray) × (Int))))) => (⟨x.1, x.2.1, x.2.2.1, x.2.2.2.1, x.2.2.2.2⟩ : S48)) (fun _ => rfl) ?_
  refine OpnF.cons (ga := g23) (gb := (fun z : ((ByteArray) × ((ByteArray) × ((ByteArray) × (Int)))) => g9 z.1 ∧ (fun z : ((ByteArray) × ((ByteArray) × (Int))) => g9 z.1 ∧ (fun z : ((ByteArray) × (Int)) => g9 z.1 ∧ g3 z.2) z.2) z.2)) rfl (by kernel_rfl) opn23 ?_
  refine OpnF.cons (ga := g9) (gb := (fun z : ((ByteArray) × ((ByteArray) × (Int))) => g9 z.1 ∧ (fun z : ((ByteArray) × (Int)) => g9 z.1 ∧ g3 z.2) z.2)) rfl (by kernel_rfl) opn9 ?_
  refine OpnF.cons (ga := g9) (gb := (fun z : ((ByteArray) × (Int)) => g9 z.1 ∧ g3 z.2)) rfl (by kernel_rfl) opn9 ?_
  refine OpnF.cons (ga := g9) (gb := g3) rfl (by kernel_rfl) opn9 ?_
  exact OpnF.one rfl (by kernel_rfl) opn3
set_option maxRecDepth 100000 in
theorem lifted (os : Os) (started : os.Started) (H : Type) (enc : TypeId × Value → H) :
    ReturnsInHanded {} Try.checked os 9 .any (Rows.viewNothingSpec.pre6 enc Try.prog Try.f9 Rows.viewNothingRow.domain false) (Rows.viewNothingSpec.post enc Try.prog Try.f9 false true false false) := by
  refine returnsInHanded_of_change_sized (C := Try.checked) own started (by kernel_rfl) Try.func9
    (ChangeSpec.witness6 (enc := enc) (C := Try.checked) false ⟨#[], #[(.agg #[(.slice none 0 0), (.string ByteArray.empty), (.string ByteArray.empty), (.string ByteArray.empty), (.int .i64 0)])], []⟩ 8 (by kernel_rfl) (by kernel_rfl) (by kernel_rfl) (by kernel_rfl)) ?_
  intro W base args ds gs before hval0 hW hcnd hsz0 _
  have hsz : (DataW.weightsEach Try.prog (Try.f9.params.toList ++ Rows.viewNothingSpec.plain.varTypes Try.prog) (ds ++ gs)).all (· ≤ reachBytes) = true := hsz0
  have hval : ∀ (j : Nat) t v, Try.f9.params[j]? = some t → args[j]? = some v → Value.okWide Try.prog W .any base t v := hval0
  have hW' := hW
  obtain ⟨p, q, hA0, hV, rfl, hfz, hnd⟩ := hW
  have hA : DataW.TrodAll enc Try.prog W 0 (fun _ => true) true Try.f9.params.toList args.toList ds p := hA0
  rw [Try.params9] at hA hval hsz
  obtain ⟨v0, vs0, d0, ds0, p0, q0, hargs, rfl, rfl, h0, r0⟩ := trodAll_cons hA
  obtain ⟨rfl, rfl, rfl⟩ := trodAll_nil r0
  obtain rfl : args = #[v0] := by cases args; simp_all
  obtain ⟨rfl, rfl⟩ := trodVars_none hV
  have k0 := h0
  have lt0 : ∀ x ∈ p0, x.block < W.heap.size := by obtain ⟨m, hm⟩ := k0; exact DataW.trod_lt m _ _ _ hm
  obtain ⟨x0, hx0, y0⟩ := opn48.param hsz (j := 0) rfl rfl h0
  obtain ⟨cs0, rfl, _⟩ := okWide_struct Try.underlying48 (hval 0 48 v0 rfl rfl)
  have hx0 := k48_open (show k48.K W x0 cs0.toList from hx0)
  obtain ⟨A0_0, c0_0, he0, hc0_0, hr0_0⟩ := hx0
  obtain rfl : cs0 = #[.slice A0_0 x0.f0.length c0_0, .string x0.f1, .string x0.f2, .string x0.f3, .int .i64 x0.f4] := by cases cs0; simp_all
  clear hA0 hval0 hsz0 hsz
  obtain ⟨kk, hk⟩ := stanchionlaw12_ViewNothing.pure x0 y0
  refine (stanchionlaw12_ViewNothing.calls kk _ _ x0.f0 x0.f1 x0.f2 x0.f3 x0.f4 true W hr0_0 hc0_0 hk).mono fun e W' ⟨he, bel0⟩ => ?_
  have bel : Below W.heap.size W W' := bel0
  subst he
  exact ⟨_, rfl, _, _, _, [], _, [], hW', trodAll_mk1 (shut_bool Try.underlying4 _), (trodAll_cons_mk (Below.trod laidOut (by kernel_rfl) (of_decide_eq_true (by kernel_rfl)) k0 bel lt0) trodAll_mk0), rfl, bel.frame _, fun h => by cases h⟩
theorem over : Rows.viewNothingRow.holds Try.pinned (OpenSpec.ofChange Rows.viewNothingSpec) :=
  OpenClaim.holds_of_wide 9 Try.f9 rfl rfl rfl rfl rfl rfl rfl ⟨rfl, rfl, rfl, rfl, rfl⟩ rfl rfl rfl rfl rfl (by kernel_rfl) Try.func9 (by kernel_rfl)
    (of_decide_eq_true (by kernel_rfl)) (by unfold Func.isWrapper; first | (rw [if_pos (by decide +kernel)]; kernel_rfl) | (rw [if_neg (by decide +kernel)]; exact ⟨rfl, rfl⟩))
    (fun os started H enc _ => lifted os started H enc)
theorem proved : Rows.ViewNothingSaid := over
end Go.Proofs.Ytbkfmicnjnklnaa.viewNothing
namespace Go.Proofs.Ytbkfmicnjnklnaa
/-- The row, under a short name, for the claim. -/
theorem viewNothing_holds : Rows.ViewNothingSaid := viewNothing.proved
end Go.Proofs.Ytbkfmicnjnklnaa
