-- Made by a program of this workplace out of the translation (wip/tools in the repo). Not trusted: Lean checks it.
import Derived.Test.YtlacmlceedkfoaaRows
import Derived.Test.YtlacmlceedkfoaaPureAuditSteps
import Derived.Test.YtlacmlceedkfoaaOpnU
import Derived.Test.YtlacmlceedkfoaaPBx11
import Derived.WalkKit
import Derived.ProofKit
import Derived.OpenShut
import Derived.ShutString
import Derived.ChangeOld
import Derived.Below
import Derived.SizedLaws
import Derived.Carry
import Derived.Deep.CondSized
namespace Go.Proofs.Ytlacmlceedkfoaa.auditSteps
open Go.ChangeShapes Go.WideShapes Go.ChangeAt Go.RowKit Go.Proofs.Ytlacmlceedkfoaa.PB Go.Proofs.Ytlacmlceedkfoaa.OpnU Go.Proofs.YtlacmlceedkfoaaW.PrintWords Go.Proofs.YtlacmlceedkfoaaW.PrintLast Go.Proofs.YtlacmlceedkfoaaW.PrintMore
open Go.ChangeMaps (open_string shut_string)
theorem own : ownKnob Try.prog.godebug = none := by kernel_rfl
theorem laidOut : laidOutB Try.prog = true := by kernel_rfl
theorem opn9 : Opn Try.prog 9 Kd.string g9 b9 := Opn.str Try.underlying9
theorem opn4 : Opn Try.prog 4 Kd.bool g4 b4 := Opn.bool Try.underlying4
theorem opn61 : Opn Try.prog 61 k61 g61 b61 := by
  refine Opn.struct Try.underlying61 (by kernel_rfl) ?_
  show OpnF Try.prog _ 0 (Kd.iso (Kd.pair Kd.string (Kd.pair Kd.string Kd.bool)) (fun x : S61 => (x.f0, x.f1, x.f2))) (fun y => (fun z : ((ByteArray) × ((ByteArray) × (Bool))) => g9 z.1 ∧ (fun z : ((ByteArray) × (Bool)) => g9 z.1 ∧ g4 z.2) z.2) ((fun x : S61 => (x.f0, x.f1, x.f2)) y)) (fun y => (fun z : ((ByteArray) × ((ByteArray) × (Bool))) => b9 z.1 + (fun z : ((ByteArray) × (Bool)) => b9 z.1 + b4 z.2) z.2) ((fun x : S61 => (x.f0, x.f1, x.f2)) y))
  refine OpnF.iso (g := (fun z : ((ByteArray) × ((ByteArray) × (Bool))) => g9 z.1 ∧ (fun z : ((ByteArray) × (Bool)) => g9 z.1 ∧ g4 z.2) z.2)) (b := (fun z : ((ByteArray) × ((ByteArray) × (Bool))) => b9 z.1 + (fun z : ((ByteArray) × (Bool)) => b9 z.1 + b4 z.2) z.2)) (fun x : ((ByteArray) × ((ByteArray) × (Bool))) => (⟨x.1, x.2.1, x.2.2⟩ : S61)) (fun _ => rfl) ?_
  refine OpnF.cons (ga := g9) (gb := (fun z : ((ByteArray) × (Bool)) => g9 z.1 ∧ g4 z.2)) (ba := b9) (bb := (fun z : ((ByteArray) × (Bool)) => b9 z.1 + b4 z.2)) rfl (by kernel_rfl) opn9 ?_
  refine OpnF.cons (ga := g9) (gb := g4) (ba := b9) (bb := b4) rfl (by kernel_rfl) opn9 ?_
  exact OpnF.one rfl (by kernel_rfl) opn4
theorem opn22 : Opn Try.prog 22 (Kd.slice 61 k61) g22 b22 := Opn.slice Try.underlying22 (by kernel_rfl) (by kernel_rfl) opn61
theorem opn59 : Opn Try.prog 59 k59 g59 b59 := by
  refine Opn.struct Try.underlying59 (by kernel_rfl) ?_
  show OpnF Try.prog _ 0 (Kd.iso (Kd.pair Kd.string Kd.string) (fun x : S59 => (x.f0, x.f1))) (fun y => (fun z : ((ByteArray) × (ByteArray)) => g9 z.1 ∧ g9 z.2) ((fun x : S59 => (x.f0, x.f1)) y)) (fun y => (fun z : ((ByteArray) × (ByteArray)) => b9 z.1 + b9 z.2) ((fun x : S59 => (x.f0, x.f1)) y))
  refine OpnF.iso (g := (fun z : ((ByteArray) × (ByteArray)) => g9 z.1 ∧ g9 z.2)) (b := (fun z : ((ByteArray) × (ByteArray)) => b9 z.1 + b9 z.2)) (fun x : ((ByteArray) × (ByteArray)) => (⟨x.1, x.2⟩ : S59)) (fun _ => rfl) ?_
  refine OpnF.cons (ga := g9) (gb := g9) (ba := b9) (bb := b9) rfl (by kernel_rfl) opn9 ?_
  exact OpnF.one rfl (by kernel_rfl) opn9
theorem opn23 : Opn Try.prog 23 (Kd.slice 59 k59) g23 b23 := Opn.slice Try.underlying23 (by kernel_rfl) (by kernel_rfl) opn59
theorem opn3 : Opn Try.prog 3 (Kd.int .i64) g3 b3 := Opn.int Try.underlying3
theorem opn25 : Opn Try.prog 25 k25 g25 b25 := by
  refine Opn.struct Try.underlying25 (by kernel_rfl) ?_
  show OpnF Try.prog _ 0 (Kd.iso (Kd.pair (Kd.int .i64) (Kd.pair Kd.string (Kd.pair Kd.string (Kd.pair Kd.string (Kd.pair Kd.string (Kd.int .i64)))))) (fun x : S25 => (x.f0, x.f1, x.f2, x.f3, x.f4, x.f5))) (fun y => (fun z : ((Int) × ((ByteArray) × ((ByteArray) × ((ByteArray) × ((ByteArray) × (Int)))))) => g3 z.1 ∧ (fun z : ((ByteArray) × ((ByteArray) × ((ByteArray) × ((ByteArray) × (Int))))) => g9 z.1 ∧ (fun z : ((ByteArray) × ((ByteArray) × ((ByteArray) × (Int)))) => g9 z.1 ∧ (fun z : ((ByteArray) × ((ByteArray) × (Int))) => g9 z.1 ∧ (fun z : ((ByteArray) × (Int)) => g9 z.1 ∧ g3 z.2) z.2) z.2) z.2) z.2) ((fun x : S25 => (x.f0, x.f1, x.f2, x.f3, x.f4, x.f5)) y)) (fun y => (fun z : ((Int) × ((ByteArray) × ((ByteArray) × ((ByteArray) × ((ByteArray) × (Int)))))) => b3 z.1 + (fun z : ((ByteArray) × ((ByteArray) × ((ByteArray) × ((ByteArray) × (Int))))) => b9 z.1 + (fun z : ((ByteArray) × ((ByteArray) × ((ByteArray) × (Int)))) => b9 z.1 + (fun z : ((ByteArray) × ((ByteArray) × (Int))) => b9 z.1 + (fun z : ((ByteArray) × (Int)) => b9 z.1 + b3 z.2) z.2) z.2) z.2) z.2) ((fun x : S25 => (x.f0, x.f1, x.f2, x.f3, x.f4, x.f5)) y))
  refine OpnF.iso (g := (fun z : ((Int) × ((ByteArray) × ((ByteArray) × ((ByteArray) × ((ByteArray) × (Int)))))) => g3 z.1 ∧ (fun z : ((ByteArray) × ((ByteArray) × ((ByteArray) × ((ByteArray) × (Int))))) => g9 z.1 ∧ (fun z : ((ByteArray) × ((ByteArray) × ((ByteArray) × (Int)))) => g9 z.1 ∧ (fun z : ((ByteArray) × ((ByteArray) × (Int))) => g9 z.1 ∧ (fun z : ((ByteArray) × (Int)) => g9 z.1 ∧ g3 z.2) z.2) z.2) z.2) z.2)) (b := (fun z : ((Int) × ((ByteArray) × ((ByteArray) × ((ByteArray) × ((ByteArray) × (Int)))))) => b3 z.1 + (fun z : ((ByteArray) × ((ByteArray) × ((ByteArray) × ((ByteArray) × (Int))))) => b9 z.1 + (fun z : ((ByteArray) × ((ByteArray) × ((ByteArray) × (Int)))) => b9 z.1 + (fun z : ((ByteArray) × ((ByteArray) × (Int))) => b9 z.1 + (fun z : ((ByteArray) × (Int)) => b9 z.1 + b3 z.2) z.2) z.2) z.2) z.2)) (fun x : ((Int) × ((ByteArray) × ((ByteArray) × ((ByteArray) × ((ByteArray) × (Int)))))) => (⟨x.1, x.2.1, x.2.2.1, x.2.2.2.1, x.2.2.2.2.1, x.2.2.2.2.2⟩ : S25)) (fun _ => rfl) ?_
  refine OpnF.cons (ga := g3) (gb := (fun z : ((ByteArray) × ((ByteArray) × ((ByteArray) × ((ByteArray) × (Int))))) => g9 z.1 ∧ (fun z : ((ByteArray) × ((ByteArray) × ((ByteArray) × (Int)))) => g9 z.1 ∧ (fun z : ((ByteArray) × ((ByteArray) × (Int))) => g9 z.1 ∧ (fun z : ((ByteArray) × (Int)) => g9 z.1 ∧ g3 z.2) z.2) z.2) z.2)) (ba := b3) (bb := (fun z : ((ByteArray) × ((ByteArray) × ((ByteArray) × ((ByteArray) × (Int))))) => b9 z.1 + (fun z : ((ByteArray) × ((ByteArray) × ((ByteArray) × (Int)))) => b9 z.1 + (fun z : ((ByteArray) × ((ByteArray) × (Int))) => b9 z.1 + (fun z : ((ByteArray) × (Int)) => b9 z.1 + b3 z.2) z.2) z.2) z.2)) rfl (by kernel_rfl) opn3 ?_
  refine OpnF.cons (ga := g9) (gb := (fun z : ((ByteArray) × ((ByteArray) × ((ByteArray) × (Int)))) => g9 z.1 ∧ (fun z : ((ByteArray) × ((ByteArray) × (Int))) => g9 z.1 ∧ (fun z : ((ByteArray) × (Int)) => g9 z.1 ∧ g3 z.2) z.2) z.2)) (ba := b9) (bb := (fun z : ((ByteArray) × ((ByteArray) × ((ByteArray) × (Int)))) => b9 z.1 + (fun z : ((ByteArray) × ((ByteArray) × (Int))) => b9 z.1 + (fun z : ((ByteArray) × (Int)) => b9 z.1 + b3 z.2) z.2) z.2)) rfl (by kernel_rfl) opn9 ?_
  refine OpnF.cons (ga := g9) (gb := (fun z : ((ByteArray) × ((ByteArray) × (Int))) => g9 z.1 ∧ (fun z : ((ByteArray) × (Int)) => g9 z.1 ∧ g3 z.2) z.2)) (ba := b9) (bb := (fun z : ((ByteArray) × ((ByteArray) × (Int))) => b9 z.1 + (fun z : ((ByteArray) × (Int)) => b9 z.1 + b3 z.2) z.2)) rfl (by kernel_rfl) opn9 ?_
  refine OpnF.cons (ga := g9) (gb := (fun z : ((ByteArray) × (Int)) => g9 z.1 ∧ g3 z.2)) (ba := b9) (bb := (fun z : ((ByteArray) × (Int)) => b9 z.1 + b3 z.2)) rfl (by kernel_rfl) opn9 ?_
  refine OpnF.cons (ga := g9) (gb := g3) (ba := b9) (bb := b3) rfl (by kernel_rfl) opn9 ?_
  exact OpnF.one rfl (by kernel_rfl) opn3
theorem opn27 : Opn Try.prog 27 k27 g27 b27 := by
  refine Opn.struct Try.underlying27 (by kernel_rfl) ?_
  show OpnF Try.prog _ 0 (Kd.iso (Kd.pair k25 (Kd.pair Kd.string (Kd.pair Kd.bool (Kd.slice 59 k59)))) (fun x : S27 => (x.f0, x.f1, x.f2, x.f3))) (fun y => (fun z : ((S25) × ((ByteArray) × ((Bool) × (List (S59))))) => g25 z.1 ∧ (fun z : ((ByteArray) × ((Bool) × (List (S59)))) => g9 z.1 ∧ (fun z : ((Bool) × (List (S59))) => g4 z.1 ∧ g23 z.2) z.2) z.2) ((fun x : S27 => (x.f0, x.f1, x.f2, x.f3)) y)) (fun y => (fun z : ((S25) × ((ByteArray) × ((Bool) × (List (S59))))) => b25 z.1 + (fun z : ((ByteArray) × ((Bool) × (List (S59)))) => b9 z.1 + (fun z : ((Bool) × (List (S59))) => b4 z.1 + b23 z.2) z.2) z.2) ((fun x : S27 => (x.f0, x.f1, x.f2, x.f3)) y))
  refine OpnF.iso (g := (fun z : ((S25) × ((ByteArray) × ((Bool) × (List (S59))))) => g25 z.1 ∧ (fun z : ((ByteArray) × ((Bool) × (List (S59)))) => g9 z.1 ∧ (fun z : ((Bool) × (List (S59))) => g4 z.1 ∧ g23 z.2) z.2) z.2)) (b := (fun z : ((S25) × ((ByteArray) × ((Bool) × (List (S59))))) => b25 z.1 + (fun z : ((ByteArray) × ((Bool) × (List (S59)))) => b9 z.1 + (fun z : ((Bool) × (List (S59))) => b4 z.1 + b23 z.2) z.2) z.2)) (fun x : ((S25) × ((ByteArray) × ((Bool) × (List (S59))))) => (⟨x.1, x.2.1, x.2.2.1, x.2.2.2⟩ : S27)) (fun _ => rfl) ?_
  refine OpnF.cons (ga := g25) (gb := (fun z : ((ByteArray) × ((Bool) × (List (S59)))) => g9 z.1 ∧ (fun z : ((Bool) × (List (S59))) => g4 z.1 ∧ g23 z.2) z.2)) (ba := b25) (bb := (fun z : ((ByteArray) × ((Bool) × (List (S59)))) => b9 z.1 + (fun z : ((Bool) × (List (S59))) => b4 z.1 + b23 z.2) z.2)) rfl (by kernel_rfl) opn25 ?_
  refine OpnF.cons (ga := g9) (gb := (fun z : ((Bool) × (List (S59))) => g4 z.1 ∧ g23 z.2)) (ba := b9) (bb := (fun z : ((Bool) × (List (S59))) => b4 z.1 + b23 z.2)) rfl (by kernel_rfl) opn9 ?_
  refine OpnF.cons (ga := g4) (gb := g23) (ba := b4) (bb := b23) rfl (by kernel_rfl) opn4 ?_
  exact OpnF.one rfl (by kernel_rfl) opn23
theorem opn28 : Opn Try.prog 28 (Kd.slice 27 k27) g28 b28 := Opn.slice Try.underlying28 (by kernel_rfl) (by kernel_rfl) opn27
theorem opn30 : Opn Try.prog 30 k30 g30 b30 := by
  refine Opn.struct Try.underlying30 (by kernel_rfl) ?_
  show OpnF Try.prog _ 0 (Kd.iso (Kd.pair (Kd.slice 61 k61) (Kd.pair (Kd.slice 59 k59) (Kd.pair k27 (Kd.slice 27 k27)))) (fun x : S30 => (x.f0, x.f1, x.f2, x.f3))) (fun y => (fun z : ((List (S61)) × ((List (S59)) × ((S27) × (List (S27))))) => g22 z.1 ∧ (fun z : ((List (S59)) × ((S27) × (List (S27)))) => g23 z.1 ∧ (fun z : ((S27) × (List (S27))) => g27 z.1 ∧ g28 z.2) z.2) z.2) ((fun x : S30 => (x.f0, x.f1, x.f2, x.f3)) y)) (fun y => (fun z : ((List (S61)) × ((List (S59)) × ((S27) × (List (S27))))) => b22 z.1 + (fun z : ((List (S59)) × ((S27) × (List (S27)))) => b23 z.1 + (fun z : ((S27) × (List (S27))) => b27 z.1 + b28 z.2) z.2) z.2) ((fun x : S30 => (x.f0, x.f1, x.f2, x.f3)) y))
  refine OpnF.iso (g := (fun z : ((List (S61)) × ((List (S59)) × ((S27) × (List (S27))))) => g22 z.1 ∧ (fun z : ((List (S59)) × ((S27) × (List (S27)))) => g23 z.1 ∧ (fun z : ((S27) × (List (S27))) => g27 z.1 ∧ g28 z.2) z.2) z.2)) (b := (fun z : ((List (S61)) × ((List (S59)) × ((S27) × (List (S27))))) => b22 z.1 + (fun z : ((List (S59)) × ((S27) × (List (S27)))) => b23 z.1 + (fun z : ((S27) × (List (S27))) => b27 z.1 + b28 z.2) z.2) z.2)) (fun x : ((List (S61)) × ((List (S59)) × ((S27) × (List (S27))))) => (⟨x.1, x.2.1, x.2.2.1, x.2.2.2⟩ : S30)) (fun _ => rfl) ?_
  refine OpnF.cons (ga := g22) (gb := (fun z : ((List (S59)) × ((S27) × (List (S27)))) => g23 z.1 ∧ (fun z : ((S27) × (List (S27))) => g27 z.1 ∧ g28 z.2) z.2)) (ba := b22) (bb := (fun z : ((List (S59)) × ((S27) × (List (S27)))) => b23 z.1 + (fun z : ((S27) × (List (S27))) => b27 z.1 + b28 z.2) z.2)) rfl (by kernel_rfl) opn22 ?_
  refine OpnF.cons (ga := g23) (gb := (fun z : ((S27) × (List (S27))) => g27 z.1 ∧ g28 z.2)) (ba := b23) (bb := (fun z : ((S27) × (List (S27))) => b27 z.1 + b28 z.2)) rfl (by kernel_rfl) opn23 ?_
  refine OpnF.cons (ga := g27) (gb := g28) (ba := b27) (bb := b28) rfl (by kernel_rfl) opn27 ?_
  exact OpnF.one rfl (by kernel_rfl) opn28
set_option maxRecDepth 100000 in
theorem lifted (os : Os) (started : os.Started) (H : Type) (enc : TypeId × Value → H) (F : Stop.Interp) :
    ReturnsInHanded {} Try.checked os 3 .any ((Rows.OpenSpec.upto Rows.auditStepsSpec).pre6 enc Try.prog Try.f3 Rows.auditStepsUptoRow.domain false) (((Rows.OpenSpec.upto Rows.auditStepsSpec).at F).post enc Try.prog Try.f3 false true false false) := by
  refine returnsInHanded_of_cond_sized (C := Try.checked) (s := (Rows.OpenSpec.upto Rows.auditStepsSpec)) (k := Rows.uptoSmall) rfl own started (by kernel_rfl) Try.func3
    (OpenSpec.witness (enc := enc) (C := Try.checked) (s := (Rows.OpenSpec.upto Rows.auditStepsSpec)) (k := Rows.uptoSmall) rfl false ⟨#[], #[(.agg #[(.slice none 0 0), (.slice none 0 0), (.int .i64 0), (.string ByteArray.empty), (.string ByteArray.empty), (.string ByteArray.empty), (.string ByteArray.empty), (.int .i64 0), (.string ByteArray.empty), (.bool false), (.slice none 0 0), (.slice none 0 0)])], []⟩ 8 (by kernel_rfl) (by kernel_rfl) (by kernel_rfl) (x := ([.agg [.nil, .nil, .agg [.agg [.lit (.int .i64 0), .lit (.string []), .lit (.string []), .lit (.string []), .lit (.string []), .lit (.int .i64 0)], .lit (.string []), .lit (.bool false), .nil], .nil]], [], [])) (by kernel_rfl) (by kernel_rfl) (by kernel_rfl)) ?_
  intro W base args ds gs before hval0 hW hcnd hbk0 hsz0 _
  have hsz : (DataW.weightsEach Try.prog (Try.f3.params.toList ++ Rows.auditStepsSpec.plain.varTypes Try.prog) (ds ++ gs)).all (· ≤ reachBytes) = true := hsz0
  have hval : ∀ (j : Nat) t v, Try.f3.params[j]? = some t → args[j]? = some v → Value.okWide Try.prog W .any base t v := hval0
  have hW' := hW
  obtain ⟨p, q, hA0, hV, rfl, hfz, hnd⟩ := hW
  have hA : DataW.TrodAll enc Try.prog W 0 (fun _ => true) true Try.f3.params.toList args.toList ds p := hA0
  rw [Try.params3] at hA hval hsz
  obtain ⟨v0, vs0, d0, ds0, p0, q0, hargs, rfl, rfl, h0, r0⟩ := trodAll_cons hA
  obtain ⟨rfl, rfl, rfl⟩ := trodAll_nil r0
  obtain rfl : args = #[v0] := by cases args; simp_all
  obtain ⟨rfl, rfl⟩ := trodVars_none hV
  have hbk : Rows.uptoBulkAll [d0] ≤ 1048576 := of_decide_eq_true hbk0
  simp only [Rows.uptoBulkAll] at hbk
  have k0 := h0
  have lt0 : ∀ x ∈ p0, x.block < W.heap.size := by obtain ⟨m, hm⟩ := k0; exact DataW.trod_lt m _ _ _ hm
  obtain ⟨x0, hx0, y0, bu0⟩ := opn30.param hsz (j := 0) rfl rfl h0
  obtain ⟨cs0, rfl, _⟩ := okWide_struct Try.underlying30 (hval 0 30 v0 rfl rfl)
  have hx0 := k30_open (show k30.K W x0 cs0.toList from hx0)
  obtain ⟨A0_0, c0_0, A0_1, c0_1, A0_10, c0_10, A0_11, c0_11, he0, hc0_0, hr0_0, hc0_1, hr0_1, hc0_10, hr0_10, hc0_11, hr0_11⟩ := hx0
  obtain rfl : cs0 = #[.slice A0_0 x0.f0.length c0_0, .slice A0_1 x0.f1.length c0_1, .int .i64 x0.f2.f0.f0, .string x0.f2.f0.f1, .string x0.f2.f0.f2, .string x0.f2.f0.f3, .string x0.f2.f0.f4, .int .i64 x0.f2.f0.f5, .string x0.f2.f1, .bool x0.f2.f2, .slice A0_10 x0.f2.f3.length c0_10, .slice A0_11 x0.f3.length c0_11] := by cases cs0; simp_all
  clear hA0 hval0 hsz0 hsz
  obtain ⟨kk, hk⟩ := stanchionlaw19_AuditSteps.pure x0 y0 (by omega)
  refine (stanchionlaw19_AuditSteps.calls kk _ _ x0.f0 _ _ x0.f1 x0.f2.f0.f0 x0.f2.f0.f1 x0.f2.f0.f2 x0.f2.f0.f3 x0.f2.f0.f4 x0.f2.f0.f5 x0.f2.f1 x0.f2.f2 _ _ x0.f2.f3 _ _ x0.f3 true W hr0_0 hc0_0 hr0_1 hc0_1 hr0_10 hc0_10 hr0_11 hc0_11 hk rfl).mono fun e W' ⟨he, bel0⟩ => ?_
  have bel : Below W.heap.size W W' := bel0
  subst he
  exact ⟨_, rfl, _, _, _, [], _, [], hW', trodAll_mk1 (shut_bool Try.underlying4 _), (trodAll_cons_mk (Below.trod laidOut (by kernel_rfl) (of_decide_eq_true (by kernel_rfl)) k0 bel lt0) trodAll_mk0), rfl, bel.frame _, fun h => by cases h⟩
theorem over : Rows.auditStepsUptoRow.holds Try.pinned (Rows.OpenSpec.upto Rows.auditStepsSpec) :=
  OpenClaim.holds_of_cond 3 Try.f3 rfl rfl rfl rfl rfl rfl rfl ⟨rfl, rfl, rfl, rfl, rfl⟩ rfl rfl rfl rfl rfl (by kernel_rfl) Try.func3 (by kernel_rfl)
    (of_decide_eq_true (by kernel_rfl)) (by unfold Func.isWrapper; first | (rw [if_pos (by decide +kernel)]; kernel_rfl) | (rw [if_neg (by decide +kernel)]; exact ⟨rfl, rfl⟩))
    (fun os started H enc _ F => lifted os started H enc F)
theorem proved : Rows.AuditStepsUptoSaid := over
end Go.Proofs.Ytlacmlceedkfoaa.auditSteps
namespace Go.Proofs.Ytlacmlceedkfoaa
/-- The row, under a short name, for the claim. -/
theorem auditSteps_holds : Rows.AuditStepsUptoSaid := auditSteps.proved
end Go.Proofs.Ytlacmlceedkfoaa
