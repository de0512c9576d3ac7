-- Made by a program of this workplace out of the translation (wip/tools in the repo). Not trusted: Lean checks it.
import Derived.Test.YtlacmlceedkfoaaRows
import Derived.Test.YtlacmlceedkfoaaPureAuditSerials
import Derived.Test.YtlacmlceedkfoaaOpnU
import Derived.Test.YtlacmlceedkfoaaPEx12
import Derived.WalkKit
import Derived.ProofKit
import Derived.OpenShut
import Derived.ShutString
import Derived.ChangeOld
import Derived.Below
import Derived.SizedLaws
import Derived.Carry
import Derived.Deep.CondSized
namespace Go.Proofs.Ytlacmlceedkfoaa.auditSerials
open Go.ChangeShapes Go.WideShapes Go.ChangeAt Go.RowKit Go.Proofs.Ytlacmlceedkfoaa.PE Go.Proofs.Ytlacmlceedkfoaa.OpnU Go.Proofs.YtlacmlceedkfoaaW.PrintWords Go.Proofs.YtlacmlceedkfoaaW.PrintLast Go.Proofs.YtlacmlceedkfoaaW.PrintMore
open Go.ChangeMaps (open_string shut_string)
theorem own : ownKnob Try.prog.godebug = none := by kernel_rfl
theorem laidOut : laidOutB Try.prog = true := by kernel_rfl
theorem opn9 : Opn Try.prog 9 Kd.string g9 b9 := Opn.str Try.underlying9
theorem opn59 : Opn Try.prog 59 k59 g59 b59 := by
  refine Opn.struct Try.underlying59 (by kernel_rfl) ?_
  show OpnF Try.prog _ 0 (Kd.iso (Kd.pair Kd.string Kd.string) (fun x : S59 => (x.f0, x.f1))) (fun y => (fun z : ((ByteArray) × (ByteArray)) => g9 z.1 ∧ g9 z.2) ((fun x : S59 => (x.f0, x.f1)) y)) (fun y => (fun z : ((ByteArray) × (ByteArray)) => b9 z.1 + b9 z.2) ((fun x : S59 => (x.f0, x.f1)) y))
  refine OpnF.iso (g := (fun z : ((ByteArray) × (ByteArray)) => g9 z.1 ∧ g9 z.2)) (b := (fun z : ((ByteArray) × (ByteArray)) => b9 z.1 + b9 z.2)) (fun x : ((ByteArray) × (ByteArray)) => (⟨x.1, x.2⟩ : S59)) (fun _ => rfl) ?_
  refine OpnF.cons (ga := g9) (gb := g9) (ba := b9) (bb := b9) rfl (by kernel_rfl) opn9 ?_
  exact OpnF.one rfl (by kernel_rfl) opn9
theorem opn23 : Opn Try.prog 23 (Kd.slice 59 k59) g23 b23 := Opn.slice Try.underlying23 (by kernel_rfl) (by kernel_rfl) opn59
theorem opn3 : Opn Try.prog 3 (Kd.int .i64) g3 b3 := Opn.int Try.underlying3
theorem opn25 : Opn Try.prog 25 k25 g25 b25 := by
  refine Opn.struct Try.underlying25 (by kernel_rfl) ?_
  show OpnF Try.prog _ 0 (Kd.iso (Kd.pair (Kd.int .i64) (Kd.pair Kd.string (Kd.pair Kd.string (Kd.pair Kd.string (Kd.pair Kd.string (Kd.int .i64)))))) (fun x : S25 => (x.f0, x.f1, x.f2, x.f3, x.f4, x.f5))) (fun y => (fun z : ((Int) × ((ByteArray) × ((ByteArray) × ((ByteArray) × ((ByteArray) × (Int)))))) => g3 z.1 ∧ (fun z : ((ByteArray) × ((ByteArray) × ((ByteArray) × ((ByteArray) × (Int))))) => g9 z.1 ∧ (fun z : ((ByteArray) × ((ByteArray) × ((ByteArray) × (Int)))) => g9 z.1 ∧ (fun z : ((ByteArray) × ((ByteArray) × (Int))) => g9 z.1 ∧ (fun z : ((ByteArray) × (Int)) => g9 z.1 ∧ g3 z.2) z.2) z.2) z.2) z.2) ((fun x : S25 => (x.f0, x.f1, x.f2, x.f3, x.f4, x.f5)) y)) (fun y => (fun z : ((Int) × ((ByteArray) × ((ByteArray) × ((ByteArray) × ((ByteArray) × (Int)))))) => b3 z.1 + (fun z : ((ByteArray) × ((ByteArray) × ((ByteArray) × ((ByteArray) × (Int))))) => b9 z.1 + (fun z : ((ByteArray) × ((ByteArray) × ((ByteArray) × (Int)))) => b9 z.1 + (fun z : ((ByteArray) × ((ByteArray) × (Int))) => b9 z.1 + (fun z : ((ByteArray) × (Int)) => b9 z.1 + b3 z.2) z.2) z.2) z.2) z.2) ((fun x : S25 => (x.f0, x.f1, x.f2, x.f3, x.f4, x.f5)) y))
  refine OpnF.iso (g := (fun z : ((Int) × ((ByteArray) × ((ByteArray) × ((ByteArray) × ((ByteArray) × (Int)))))) => g3 z.1 ∧ (fun z : ((ByteArray) × ((ByteArray) × ((ByteArray) × ((ByteArray) × (Int))))) => g9 z.1 ∧ (fun z : ((ByteArray) × ((ByteArray) × ((ByteArray) × (Int)))) => g9 z.1 ∧ (fun z : ((ByteArray) × ((ByteArray) × (Int))) => g9 z.1 ∧ (fun z : ((ByteArray) × (Int)) => g9 z.1 ∧ g3 z.2) z.2) z.2) z.2) z.2)) (b := (fun z : ((Int) × ((ByteArray) × ((ByteArray) × ((ByteArray) × ((ByteArray) × (Int)))))) => b3 z.1 + (fun z : ((ByteArray) × ((ByteArray) × ((ByteArray) × ((ByteArray) × (Int))))) => b9 z.1 + (fun z : ((ByteArray) × ((ByteArray) × ((ByteArray) × (Int)))) => b9 z.1 + (fun z : ((ByteArray) × ((ByteArray) × (Int))) => b9 z.1 + (fun z : ((ByteArray) × (Int)) => b9 z.1 + b3 z.2) z.2) z.2) z.2) z.2)) (fun x : ((Int) × ((ByteArray) × ((ByteArray) × ((ByteArray) × ((ByteArray) × (Int)))))) => (⟨x.1, x.2.1, x.2.2.1, x.2.2.2.1, x.2.2.2.2.1, x.2.2.2.2.2⟩ : S25)) (fun _ => rfl) ?_
  refine OpnF.cons (ga := g3) (gb := (fun z : ((ByteArray) × ((ByteArray) × ((ByteArray) × ((ByteArray) × (Int))))) => g9 z.1 ∧ (fun z : ((ByteArray) × ((ByteArray) × ((ByteArray) × (Int)))) => g9 z.1 ∧ (fun z : ((ByteArray) × ((ByteArray) × (Int))) => g9 z.1 ∧ (fun z : ((ByteArray) × (Int)) => g9 z.1 ∧ g3 z.2) z.2) z.2) z.2)) (ba := b3) (bb := (fun z : ((ByteArray) × ((ByteArray) × ((ByteArray) × ((ByteArray) × (Int))))) => b9 z.1 + (fun z : ((ByteArray) × ((ByteArray) × ((ByteArray) × (Int)))) => b9 z.1 + (fun z : ((ByteArray) × ((ByteArray) × (Int))) => b9 z.1 + (fun z : ((ByteArray) × (Int)) => b9 z.1 + b3 z.2) z.2) z.2) z.2)) rfl (by kernel_rfl) opn3 ?_
  refine OpnF.cons (ga := g9) (gb := (fun z : ((ByteArray) × ((ByteArray) × ((ByteArray) × (Int)))) => g9 z.1 ∧ (fun z : ((ByteArray) × ((ByteArray) × (Int))) => g9 z.1 ∧ (fun z : ((ByteArray) × (Int)) => g9 z.1 ∧ g3 z.2) z.2) z.2)) (ba := b9) (bb := (fun z : ((ByteArray) × ((ByteArray) × ((ByteArray) × (Int)))) => b9 z.1 + (fun z : ((ByteArray) × ((ByteArray) × (Int))) => b9 z.1 + (fun z : ((ByteArray) × (Int)) => b9 z.1 + b3 z.2) z.2) z.2)) rfl (by kernel_rfl) opn9 ?_
  refine OpnF.cons (ga := g9) (gb := (fun z : ((ByteArray) × ((ByteArray) × (Int))) => g9 z.1 ∧ (fun z : ((ByteArray) × (Int)) => g9 z.1 ∧ g3 z.2) z.2)) (ba := b9) (bb := (fun z : ((ByteArray) × ((ByteArray) × (Int))) => b9 z.1 + (fun z : ((ByteArray) × (Int)) => b9 z.1 + b3 z.2) z.2)) rfl (by kernel_rfl) opn9 ?_
  refine OpnF.cons (ga := g9) (gb := (fun z : ((ByteArray) × (Int)) => g9 z.1 ∧ g3 z.2)) (ba := b9) (bb := (fun z : ((ByteArray) × (Int)) => b9 z.1 + b3 z.2)) rfl (by kernel_rfl) opn9 ?_
  refine OpnF.cons (ga := g9) (gb := g3) (ba := b9) (bb := b3) rfl (by kernel_rfl) opn9 ?_
  exact OpnF.one rfl (by kernel_rfl) opn3
theorem opn4 : Opn Try.prog 4 Kd.bool g4 b4 := Opn.bool Try.underlying4
theorem opn27 : Opn Try.prog 27 k27 g27 b27 := by
  refine Opn.struct Try.underlying27 (by kernel_rfl) ?_
  show OpnF Try.prog _ 0 (Kd.iso (Kd.pair k25 (Kd.pair Kd.string (Kd.pair Kd.bool (Kd.slice 59 k59)))) (fun x : S27 => (x.f0, x.f1, x.f2, x.f3))) (fun y => (fun z : ((S25) × ((ByteArray) × ((Bool) × (List (S59))))) => g25 z.1 ∧ (fun z : ((ByteArray) × ((Bool) × (List (S59)))) => g9 z.1 ∧ (fun z : ((Bool) × (List (S59))) => g4 z.1 ∧ g23 z.2) z.2) z.2) ((fun x : S27 => (x.f0, x.f1, x.f2, x.f3)) y)) (fun y => (fun z : ((S25) × ((ByteArray) × ((Bool) × (List (S59))))) => b25 z.1 + (fun z : ((ByteArray) × ((Bool) × (List (S59)))) => b9 z.1 + (fun z : ((Bool) × (List (S59))) => b4 z.1 + b23 z.2) z.2) z.2) ((fun x : S27 => (x.f0, x.f1, x.f2, x.f3)) y))
  refine OpnF.iso (g := (fun z : ((S25) × ((ByteArray) × ((Bool) × (List (S59))))) => g25 z.1 ∧ (fun z : ((ByteArray) × ((Bool) × (List (S59)))) => g9 z.1 ∧ (fun z : ((Bool) × (List (S59))) => g4 z.1 ∧ g23 z.2) z.2) z.2)) (b := (fun z : ((S25) × ((ByteArray) × ((Bool) × (List (S59))))) => b25 z.1 + (fun z : ((ByteArray) × ((Bool) × (List (S59)))) => b9 z.1 + (fun z : ((Bool) × (List (S59))) => b4 z.1 + b23 z.2) z.2) z.2)) (fun x : ((S25) × ((ByteArray) × ((Bool) × (List (S59))))) => (⟨x.1, x.2.1, x.2.2.1, x.2.2.2⟩ : S27)) (fun _ => rfl) ?_
  refine OpnF.cons (ga := g25) (gb := (fun z : ((ByteArray) × ((Bool) × (List (S59)))) => g9 z.1 ∧ (fun z : ((Bool) × (List (S59))) => g4 z.1 ∧ g23 z.2) z.2)) (ba := b25) (bb := (fun z : ((ByteArray) × ((Bool) × (List (S59)))) => b9 z.1 + (fun z : ((Bool) × (List (S59))) => b4 z.1 + b23 z.2) z.2)) rfl (by kernel_rfl) opn25 ?_
  refine OpnF.cons (ga := g9) (gb := (fun z : ((Bool) × (List (S59))) => g4 z.1 ∧ g23 z.2)) (ba := b9) (bb := (fun z : ((Bool) × (List (S59))) => b4 z.1 + b23 z.2)) rfl (by kernel_rfl) opn9 ?_
  refine OpnF.cons (ga := g4) (gb := g23) (ba := b4) (bb := b23) rfl (by kernel_rfl) opn4 ?_
  exact OpnF.one rfl (by kernel_rfl) opn23
theorem opn28 : Opn Try.prog 28 (Kd.slice 27 k27) g28 b28 := Opn.slice Try.underlying28 (by kernel_rfl) (by kernel_rfl) opn27
theorem opn46 : Opn Try.prog 46 k46 g46 b46 := by
  refine Opn.struct Try.underlying46 (by kernel_rfl) ?_
  show OpnF Try.prog _ 0 (Kd.iso (Kd.pair Kd.string (Kd.slice 27 k27)) (fun x : S46 => (x.f0, x.f1))) (fun y => (fun z : ((ByteArray) × (List (S27))) => g9 z.1 ∧ g28 z.2) ((fun x : S46 => (x.f0, x.f1)) y)) (fun y => (fun z : ((ByteArray) × (List (S27))) => b9 z.1 + b28 z.2) ((fun x : S46 => (x.f0, x.f1)) y))
  refine OpnF.iso (g := (fun z : ((ByteArray) × (List (S27))) => g9 z.1 ∧ g28 z.2)) (b := (fun z : ((ByteArray) × (List (S27))) => b9 z.1 + b28 z.2)) (fun x : ((ByteArray) × (List (S27))) => (⟨x.1, x.2⟩ : S46)) (fun _ => rfl) ?_
  refine OpnF.cons (ga := g9) (gb := g28) (ba := b9) (bb := b28) rfl (by kernel_rfl) opn9 ?_
  exact OpnF.one rfl (by kernel_rfl) opn28
theorem opn37 : Opn Try.prog 37 (Kd.slice 46 k46) g37 b37 := Opn.slice Try.underlying37 (by kernel_rfl) (by kernel_rfl) opn46
theorem opn42 : Opn Try.prog 42 (Kd.slice 9 Kd.string) g42 b42 := Opn.slice Try.underlying42 (by kernel_rfl) (by kernel_rfl) opn9
set_option maxRecDepth 100000 in
theorem lifted (os : Os) (started : os.Started) (H : Type) (enc : TypeId × Value → H) (F : Stop.Interp) :
    ReturnsInHanded {} Try.checked os 8 .any ((Rows.OpenSpec.upto Rows.auditSerialsSpec).pre6 enc Try.prog Try.f8 Rows.auditSerialsUptoRow.domain false) (((Rows.OpenSpec.upto Rows.auditSerialsSpec).at F).post enc Try.prog Try.f8 false true false false) := by
  refine returnsInHanded_of_cond_sized (C := Try.checked) (s := (Rows.OpenSpec.upto Rows.auditSerialsSpec)) (k := Rows.uptoSmall) rfl own started (by kernel_rfl) Try.func8
    (OpenSpec.witness (enc := enc) (C := Try.checked) (s := (Rows.OpenSpec.upto Rows.auditSerialsSpec)) (k := Rows.uptoSmall) rfl false ⟨#[], #[.slice none 0 0, .slice none 0 0, .slice none 0 0], []⟩ 8 (by kernel_rfl) (by kernel_rfl) (by kernel_rfl) (x := ([.nil, .nil, .nil], [], [])) (by kernel_rfl) (by kernel_rfl) (by kernel_rfl)) ?_
  intro W base args ds gs before hval0 hW hcnd hbk0 hsz0 _
  have hsz : (DataW.weightsEach Try.prog (Try.f8.params.toList ++ Rows.auditSerialsSpec.plain.varTypes Try.prog) (ds ++ gs)).all (· ≤ reachBytes) = true := hsz0
  have hval : ∀ (j : Nat) t v, Try.f8.params[j]? = some t → args[j]? = some v → Value.okWide Try.prog W .any base t v := hval0
  have hW' := hW
  obtain ⟨p, q, hA0, hV, rfl, hfz, hnd⟩ := hW
  have hA : DataW.TrodAll enc Try.prog W 0 (fun _ => true) true Try.f8.params.toList args.toList ds p := hA0
  rw [Try.params8] at hA hval hsz
  obtain ⟨v0, vs0, d0, ds0, p0, q0, hargs, rfl, rfl, h0, r0⟩ := trodAll_cons hA
  obtain ⟨v1, vs1, d1, ds1, p1, q1, rfl, rfl, rfl, h1, r1⟩ := trodAll_cons r0
  obtain ⟨v2, vs2, d2, ds2, p2, q2, rfl, rfl, rfl, h2, r2⟩ := trodAll_cons r1
  obtain ⟨rfl, rfl, rfl⟩ := trodAll_nil r2
  obtain rfl : args = #[v0, v1, v2] := by cases args; simp_all
  obtain ⟨rfl, rfl⟩ := trodVars_none hV
  have hbk : Rows.uptoBulkAll [d0, d1, d2] ≤ 1048576 := of_decide_eq_true hbk0
  simp only [Rows.uptoBulkAll] at hbk
  have k0 := h0
  have lt0 : ∀ x ∈ p0, x.block < W.heap.size := by obtain ⟨m, hm⟩ := k0; exact DataW.trod_lt m _ _ _ hm
  obtain ⟨x0, hx0, y0, bu0⟩ := opn23.param hsz (j := 0) rfl rfl h0
  obtain ⟨a0, len0, cap0, rfl⟩ := okWide_slice Try.underlying23 (hval 0 23 v0 rfl rfl)
  obtain ⟨A0, c0, he0, hc0, hr0⟩ := hx0
  cases he0
  have k1 := h1
  have lt1 : ∀ x ∈ p1, x.block < W.heap.size := by obtain ⟨m, hm⟩ := k1; exact DataW.trod_lt m _ _ _ hm
  obtain ⟨x1, hx1, y1, bu1⟩ := opn37.param hsz (j := 1) rfl rfl h1
  obtain ⟨a1, len1, cap1, rfl⟩ := okWide_slice Try.underlying37 (hval 1 37 v1 rfl rfl)
  obtain ⟨A1, c1, he1, hc1, hr1⟩ := hx1
  cases he1
  have k2 := h2
  have lt2 : ∀ x ∈ p2, x.block < W.heap.size := by obtain ⟨m, hm⟩ := k2; exact DataW.trod_lt m _ _ _ hm
  obtain ⟨x2, hx2, y2, bu2⟩ := opn42.param hsz (j := 2) rfl rfl h2
  obtain ⟨a2, len2, cap2, rfl⟩ := okWide_slice Try.underlying42 (hval 2 42 v2 rfl rfl)
  obtain ⟨A2, c2, he2, hc2, hr2⟩ := hx2
  cases he2
  clear hA0 hval0 hsz0 hsz
  obtain ⟨kk, hk⟩ := stanchionlaw19_AuditSerials.pure x0 x1 x2 y0 y1 y2 (by omega)
  refine (stanchionlaw19_AuditSerials.calls kk _ _ x0 _ _ x1 _ _ x2 true W hr0 hc0 hr1 hc1 hr2 hc2 hk rfl).mono fun e W' ⟨he, bel0⟩ => ?_
  have bel : Below W.heap.size W W' := bel0
  subst he
  exact ⟨_, rfl, _, _, _, [], _, [], hW', trodAll_mk1 (shut_bool Try.underlying4 _), (trodAll_cons_mk (Below.trod laidOut (by kernel_rfl) (of_decide_eq_true (by kernel_rfl)) k0 bel lt0) (trodAll_cons_mk (Below.trod laidOut (by kernel_rfl) (of_decide_eq_true (by kernel_rfl)) k1 bel lt1) (trodAll_cons_mk (Below.trod laidOut (by kernel_rfl) (of_decide_eq_true (by kernel_rfl)) k2 bel lt2) trodAll_mk0))), rfl, bel.frame _, fun h => by cases h⟩
theorem over : Rows.auditSerialsUptoRow.holds Try.pinned (Rows.OpenSpec.upto Rows.auditSerialsSpec) :=
  OpenClaim.holds_of_cond 8 Try.f8 rfl rfl rfl rfl rfl rfl rfl ⟨rfl, rfl, rfl, rfl, rfl⟩ rfl rfl rfl rfl rfl (by kernel_rfl) Try.func8 (by kernel_rfl)
    (of_decide_eq_true (by kernel_rfl)) (by unfold Func.isWrapper; first | (rw [if_pos (by decide +kernel)]; kernel_rfl) | (rw [if_neg (by decide +kernel)]; exact ⟨rfl, rfl⟩))
    (fun os started H enc _ F => lifted os started H enc F)
theorem proved : Rows.AuditSerialsUptoSaid := over
end Go.Proofs.Ytlacmlceedkfoaa.auditSerials
namespace Go.Proofs.Ytlacmlceedkfoaa
/-- The row, under a short name, for the claim. -/
theorem auditSerials_holds : Rows.AuditSerialsUptoSaid := auditSerials.proved
end Go.Proofs.Ytlacmlceedkfoaa
