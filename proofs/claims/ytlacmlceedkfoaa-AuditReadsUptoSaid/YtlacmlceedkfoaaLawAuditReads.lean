-- Made by a program of this workplace out of the translation (wip/tools in the repo). Not trusted: Lean checks it.
import Derived.Test.YtlacmlceedkfoaaRows
import Derived.Test.YtlacmlceedkfoaaPureAuditReads
import Derived.Test.YtlacmlceedkfoaaOpnU
import Derived.Test.YtlacmlceedkfoaaPBx11
import Derived.WalkKit
import Derived.ProofKit
import Derived.OpenShut
import Derived.ShutString
import Derived.ChangeOld
import Derived.Below
import Derived.SizedLaws
import Derived.Carry
import Derived.Deep.CondSized
namespace Go.Proofs.Ytlacmlceedkfoaa.auditReads
open Go.ChangeShapes Go.WideShapes Go.ChangeAt Go.RowKit Go.Proofs.Ytlacmlceedkfoaa.PB Go.Proofs.Ytlacmlceedkfoaa.OpnU Go.Proofs.YtlacmlceedkfoaaW.PrintWords Go.Proofs.YtlacmlceedkfoaaW.PrintLast Go.Proofs.YtlacmlceedkfoaaW.PrintMore
open Go.ChangeMaps (open_string shut_string)
theorem own : ownKnob Try.prog.godebug = none := by kernel_rfl
theorem laidOut : laidOutB Try.prog = true := by kernel_rfl
theorem opn9 : Opn Try.prog 9 Kd.string g9 b9 := Opn.str Try.underlying9
theorem opn59 : Opn Try.prog 59 k59 g59 b59 := by
  refine Opn.struct Try.underlying59 (by kernel_rfl) ?_
  show OpnF Try.prog _ 0 (Kd.iso (Kd.pair Kd.string Kd.string) (fun x : S59 => (x.f0, x.f1))) (fun y => (fun z : ((ByteArray) × (ByteArray)) => g9 z.1 ∧ g9 z.2) ((fun x : S59 => (x.f0, x.f1)) y)) (fun y => (fun z : ((ByteArray) × (ByteArray)) => b9 z.1 + b9 z.2) ((fun x : S59 => (x.f0, x.f1)) y))
  refine OpnF.iso (g := (fun z : ((ByteArray) × (ByteArray)) => g9 z.1 ∧ g9 z.2)) (b := (fun z : ((ByteArray) × (ByteArray)) => b9 z.1 + b9 z.2)) (fun x : ((ByteArray) × (ByteArray)) => (⟨x.1, x.2⟩ : S59)) (fun _ => rfl) ?_
  refine OpnF.cons (ga := g9) (gb := g9) (ba := b9) (bb := b9) rfl (by kernel_rfl) opn9 ?_
  exact OpnF.one rfl (by kernel_rfl) opn9
theorem opn23 : Opn Try.prog 23 (Kd.slice 59 k59) g23 b23 := Opn.slice Try.underlying23 (by kernel_rfl) (by kernel_rfl) opn59
theorem opn42 : Opn Try.prog 42 (Kd.slice 9 Kd.string) g42 b42 := Opn.slice Try.underlying42 (by kernel_rfl) (by kernel_rfl) opn9
set_option maxRecDepth 100000 in
theorem lifted (os : Os) (started : os.Started) (H : Type) (enc : TypeId × Value → H) (F : Stop.Interp) :
    ReturnsInHanded {} Try.checked os 5 .any ((Rows.OpenSpec.upto Rows.auditReadsSpec).pre6 enc Try.prog Try.f5 Rows.auditReadsUptoRow.domain false) (((Rows.OpenSpec.upto Rows.auditReadsSpec).at F).post enc Try.prog Try.f5 false true false false) := by
  refine returnsInHanded_of_cond_sized (C := Try.checked) (s := (Rows.OpenSpec.upto Rows.auditReadsSpec)) (k := Rows.uptoSmall) rfl own started (by kernel_rfl) Try.func5
    (OpenSpec.witness (enc := enc) (C := Try.checked) (s := (Rows.OpenSpec.upto Rows.auditReadsSpec)) (k := Rows.uptoSmall) rfl false ⟨#[], #[.slice none 0 0, .slice none 0 0], []⟩ 8 (by kernel_rfl) (by kernel_rfl) (by kernel_rfl) (x := ([.nil, .nil], [], [])) (by kernel_rfl) (by kernel_rfl) (by kernel_rfl)) ?_
  intro W base args ds gs before hval0 hW hcnd hbk0 hsz0 _
  have hsz : (DataW.weightsEach Try.prog (Try.f5.params.toList ++ Rows.auditReadsSpec.plain.varTypes Try.prog) (ds ++ gs)).all (· ≤ reachBytes) = true := hsz0
  have hval : ∀ (j : Nat) t v, Try.f5.params[j]? = some t → args[j]? = some v → Value.okWide Try.prog W .any base t v := hval0
  have hW' := hW
  obtain ⟨p, q, hA0, hV, rfl, hfz, hnd⟩ := hW
  have hA : DataW.TrodAll enc Try.prog W 0 (fun _ => true) true Try.f5.params.toList args.toList ds p := hA0
  rw [Try.params5] at hA hval hsz
  obtain ⟨v0, vs0, d0, ds0, p0, q0, hargs, rfl, rfl, h0, r0⟩ := trodAll_cons hA
  obtain ⟨v1, vs1, d1, ds1, p1, q1, rfl, rfl, rfl, h1, r1⟩ := trodAll_cons r0
  obtain ⟨rfl, rfl, rfl⟩ := trodAll_nil r1
  obtain rfl : args = #[v0, v1] := by cases args; simp_all
  obtain ⟨rfl, rfl⟩ := trodVars_none hV
  have hbk : Rows.uptoBulkAll [d0, d1] ≤ 1048576 := of_decide_eq_true hbk0
  simp only [Rows.uptoBulkAll] at hbk
  have k0 := h0
  have lt0 : ∀ x ∈ p0, x.block < W.heap.size := by obtain ⟨m, hm⟩ := k0; exact DataW.trod_lt m _ _ _ hm
  obtain ⟨x0, hx0, y0, bu0⟩ := opn23.param hsz (j := 0) rfl rfl h0
  obtain ⟨a0, len0, cap0, rfl⟩ := okWide_slice Try.underlying23 (hval 0 23 v0 rfl rfl)
  obtain ⟨A0, c0, he0, hc0, hr0⟩ := hx0
  cases he0
  have k1 := h1
  have lt1 : ∀ x ∈ p1, x.block < W.heap.size := by obtain ⟨m, hm⟩ := k1; exact DataW.trod_lt m _ _ _ hm
  obtain ⟨x1, hx1, y1, bu1⟩ := opn42.param hsz (j := 1) rfl rfl h1
  obtain ⟨a1, len1, cap1, rfl⟩ := okWide_slice Try.underlying42 (hval 1 42 v1 rfl rfl)
  obtain ⟨A1, c1, he1, hc1, hr1⟩ := hx1
  cases he1
  clear hA0 hval0 hsz0 hsz
  obtain ⟨kk, hk⟩ := stanchionlaw19_AuditReads.pure x0 x1 y0 y1 (by omega)
  refine (stanchionlaw19_AuditReads.calls kk _ _ x0 _ _ x1 true W hr0 hc0 hr1 hc1 hk rfl).mono fun e W' ⟨he, bel0⟩ => ?_
  have bel : Below W.heap.size W W' := bel0
  subst he
  exact ⟨_, rfl, _, _, _, [], _, [], hW', trodAll_mk1 (shut_bool Try.underlying4 _), (trodAll_cons_mk (Below.trod laidOut (by kernel_rfl) (of_decide_eq_true (by kernel_rfl)) k0 bel lt0) (trodAll_cons_mk (Below.trod laidOut (by kernel_rfl) (of_decide_eq_true (by kernel_rfl)) k1 bel lt1) trodAll_mk0)), rfl, bel.frame _, fun h => by cases h⟩
theorem over : Rows.auditReadsUptoRow.holds Try.pinned (Rows.OpenSpec.upto Rows.auditReadsSpec) :=
  OpenClaim.holds_of_cond 5 Try.f5 rfl rfl rfl rfl rfl rfl rfl ⟨rfl, rfl, rfl, rfl, rfl⟩ rfl rfl rfl rfl rfl (by kernel_rfl) Try.func5 (by kernel_rfl)
    (of_decide_eq_true (by kernel_rfl)) (by unfold Func.isWrapper; first | (rw [if_pos (by decide +kernel)]; kernel_rfl) | (rw [if_neg (by decide +kernel)]; exact ⟨rfl, rfl⟩))
    (fun os started H enc _ F => lifted os started H enc F)
theorem proved : Rows.AuditReadsUptoSaid := over
end Go.Proofs.Ytlacmlceedkfoaa.auditReads
namespace Go.Proofs.Ytlacmlceedkfoaa
/-- The row, under a short name, for the claim. -/
theorem auditReads_holds : Rows.AuditReadsUptoSaid := auditReads.proved
end Go.Proofs.Ytlacmlceedkfoaa
