-- Made by a program of this workplace out of the translation (wip/tools in the repo). Not trusted: Lean checks it.
import Derived.Test.YtbhkopbalhhpgaaRows
import Derived.Test.YtbhkopbalhhpgaaPureRunMerges
import Derived.Test.YtbhkopbalhhpgaaOpn
import Derived.Test.YtbhkopbalhhpgaaPMx11
import Derived.WalkKit
import Derived.ProofKit
import Derived.OpenShut
import Derived.ShutString
import Derived.ChangeOld
import Derived.Below
import Derived.SizedLaws
import Derived.Carry
namespace Go.Proofs.Ytbhkopbalhhpgaa.runMerges
open Go.ChangeShapes Go.WideShapes Go.ChangeAt Go.RowKit Go.Proofs.Ytbhkopbalhhpgaa.PM Go.Proofs.Ytbhkopbalhhpgaa.Opn Go.Proofs.YtbhkopbalhhpgaaW.PrintWords Go.Proofs.YtbhkopbalhhpgaaW.PrintLast Go.Proofs.YtbhkopbalhhpgaaW.PrintMore
open Go.ChangeMaps (open_string shut_string)
theorem own : ownKnob Try.prog.godebug = none := by kernel_rfl
theorem laidOut : laidOutB Try.prog = true := by kernel_rfl
theorem opn9 : Opn Try.prog 9 Kd.string g9 := Opn.str Try.underlying9
theorem opn4 : Opn Try.prog 4 Kd.bool g4 := Opn.bool Try.underlying4
theorem opn57 : Opn Try.prog 57 k57 g57 := by
  refine Opn.struct Try.underlying57 (by kernel_rfl) ?_
  show OpnF Try.prog _ 0 (Kd.iso (Kd.pair Kd.string (Kd.pair Kd.string Kd.bool)) (fun x : S57 => (x.f0, x.f1, x.f2))) (fun y => (fun z : ((ByteArray) × ((ByteArray) × (Bool))) => g9 z.1 ∧ (fun z : ((ByteArray) × (Bool)) => g9 z.1 ∧ g4 z.2) z.2) ((fun x : S57 => (x.f0, x.f1, x.f2)) y))
  refine OpnF.iso (g := (fun z : ((ByteArray) × ((ByteArray) × (Bool))) => g9 z.1 ∧ (fun z : ((ByteArray) × (Bool)) => g9 z.1 ∧ g4 z.2) z.2)) (fun x : ((ByteArray) × ((ByteArray) × (Bool))) => (⟨x.1, x.2.1, x.2.2⟩ : S57)) (fun _ => rfl) ?_
  refine OpnF.cons (ga := g9) (gb := (fun z : ((ByteArray) × (Bool)) => g9 z.1 ∧ g4 z.2)) rfl (by kernel_rfl) opn9 ?_
  refine OpnF.cons (ga := g9) (gb := g4) rfl (by kernel_rfl) opn9 ?_
  exact OpnF.one rfl (by kernel_rfl) opn4
theorem opn54 : Opn Try.prog 54 (Kd.slice 57 k57) g54 := Opn.slice Try.underlying54 (by kernel_rfl) (by kernel_rfl) opn57
set_option maxRecDepth 100000 in
theorem lifted (os : Os) (started : os.Started) (H : Type) (enc : TypeId × Value → H) :
    ReturnsInHanded {} Try.checked os 8 .any (Rows.runMergesSpec.pre6 enc Try.prog Try.f8 Rows.runMergesRow.domain false) (Rows.runMergesSpec.post enc Try.prog Try.f8 false true false false) := by
  refine returnsInHanded_of_change_sized (C := Try.checked) own started (by kernel_rfl) Try.func8
    (ChangeSpec.witness6 (enc := enc) (C := Try.checked) false ⟨#[], #[.slice none 0 0, .slice none 0 0], []⟩ 8 (by kernel_rfl) (by kernel_rfl) (by kernel_rfl) (by kernel_rfl)) ?_
  intro W base args ds gs before hval0 hW hcnd hsz0 _
  have hsz : (DataW.weightsEach Try.prog (Try.f8.params.toList ++ Rows.runMergesSpec.plain.varTypes Try.prog) (ds ++ gs)).all (· ≤ reachBytes) = true := hsz0
  have hval : ∀ (j : Nat) t v, Try.f8.params[j]? = some t → args[j]? = some v → Value.okWide Try.prog W .any base t v := hval0
  have hW' := hW
  obtain ⟨p, q, hA0, hV, rfl, hfz, hnd⟩ := hW
  have hA : DataW.TrodAll enc Try.prog W 0 (fun _ => true) true Try.f8.params.toList args.toList ds p := hA0
  rw [Try.params8] at hA hval hsz
  obtain ⟨v0, vs0, d0, ds0, p0, q0, hargs, rfl, rfl, h0, r0⟩ := trodAll_cons hA
  obtain ⟨v1, vs1, d1, ds1, p1, q1, rfl, rfl, rfl, h1, r1⟩ := trodAll_cons r0
  obtain ⟨rfl, rfl, rfl⟩ := trodAll_nil r1
  obtain rfl : args = #[v0, v1] := by cases args; simp_all
  obtain ⟨rfl, rfl⟩ := trodVars_none hV
  have k0 := h0
  have lt0 : ∀ x ∈ p0, x.block < W.heap.size := by obtain ⟨m, hm⟩ := k0; exact DataW.trod_lt m _ _ _ hm
  obtain ⟨x0, hx0, y0⟩ := opn54.param hsz (j := 0) rfl rfl h0
  obtain ⟨a0, len0, cap0, rfl⟩ := okWide_slice Try.underlying54 (hval 0 54 v0 rfl rfl)
  obtain ⟨A0, c0, he0, hc0, hr0⟩ := hx0
  cases he0
  have k1 := h1
  have lt1 : ∀ x ∈ p1, x.block < W.heap.size := by obtain ⟨m, hm⟩ := k1; exact DataW.trod_lt m _ _ _ hm
  obtain ⟨x1, hx1, y1⟩ := opn54.param hsz (j := 1) rfl rfl h1
  obtain ⟨a1, len1, cap1, rfl⟩ := okWide_slice Try.underlying54 (hval 1 54 v1 rfl rfl)
  obtain ⟨A1, c1, he1, hc1, hr1⟩ := hx1
  cases he1
  clear hA0 hval0 hsz0 hsz
  obtain ⟨kk, hk⟩ := stanchionlaw06_RunMerges.pure x0 x1 y0 y1
  refine (stanchionlaw06_RunMerges.calls kk _ _ x0 _ _ x1 true W hr0 hc0 hr1 hc1 hk rfl).mono fun e W' ⟨he, bel0⟩ => ?_
  have bel : Below W.heap.size W W' := bel0
  subst he
  exact ⟨_, rfl, _, _, _, [], _, [], hW', trodAll_mk1 (shut_bool Try.underlying4 _), (trodAll_cons_mk (Below.trod laidOut (by kernel_rfl) (of_decide_eq_true (by kernel_rfl)) k0 bel lt0) (trodAll_cons_mk (Below.trod laidOut (by kernel_rfl) (of_decide_eq_true (by kernel_rfl)) k1 bel lt1) trodAll_mk0)), rfl, bel.frame _, fun h => by cases h⟩
theorem over : Rows.runMergesRow.holds Try.pinned (OpenSpec.ofChange Rows.runMergesSpec) :=
  OpenClaim.holds_of_wide 8 Try.f8 rfl rfl rfl rfl rfl rfl rfl ⟨rfl, rfl, rfl, rfl, rfl⟩ rfl rfl rfl rfl rfl (by kernel_rfl) Try.func8 (by kernel_rfl)
    (of_decide_eq_true (by kernel_rfl)) (by unfold Func.isWrapper; first | (rw [if_pos (by decide +kernel)]; kernel_rfl) | (rw [if_neg (by decide +kernel)]; exact ⟨rfl, rfl⟩))
    (fun os started H enc _ => lifted os started H enc)
theorem proved : Rows.RunMergesSaid := over
end Go.Proofs.Ytbhkopbalhhpgaa.runMerges
namespace Go.Proofs.Ytbhkopbalhhpgaa
/-- The row, under a short name, for the claim. -/
theorem runMerges_holds : Rows.RunMergesSaid := runMerges.proved
end Go.Proofs.Ytbhkopbalhhpgaa
