-- Made by a program of this workplace out of the translation (wip/tools in the repo). Not trusted: Lean checks it.
import Derived.Test.YtgcbggcddnkldaaRows
import Derived.Test.YtgcbggcddnkldaaPureAlarmActs
import Derived.Test.YtgcbggcddnkldaaOpn
import Derived.Test.YtgcbggcddnkldaaPBx9
import Derived.WalkKit
import Derived.ProofKit
import Derived.OpenShut
import Derived.ShutString
import Derived.ChangeOld
import Derived.Below
import Derived.SizedLaws
import Derived.Carry
namespace Go.Proofs.Ytgcbggcddnkldaa.alarmActs
open Go.ChangeShapes Go.WideShapes Go.ChangeAt Go.RowKit Go.Proofs.Ytgcbggcddnkldaa.PB Go.Proofs.Ytgcbggcddnkldaa.Opn Go.Proofs.YtgcbggcddnkldaaW.PrintWords Go.Proofs.YtgcbggcddnkldaaW.PrintLast Go.Proofs.YtgcbggcddnkldaaW.PrintMore
open Go.ChangeMaps (open_string shut_string)
theorem own : ownKnob Try.prog.godebug = none := by kernel_rfl
theorem laidOut : laidOutB Try.prog = true := by kernel_rfl
theorem opn25 : Opn Try.prog 25 (Kd.int .u64) g25 := Opn.int Try.underlying25
theorem opn3 : Opn Try.prog 3 (Kd.int .i64) g3 := Opn.int Try.underlying3
theorem opn27 : Opn Try.prog 27 k27 g27 := by
  refine Opn.struct Try.underlying27 (by kernel_rfl) ?_
  show OpnF Try.prog _ 0 (Kd.iso (Kd.pair (Kd.int .u64) (Kd.int .i64)) (fun x : S27 => (x.f0, x.f1))) (fun y => (fun z : ((Int) × (Int)) => g25 z.1 ∧ g3 z.2) ((fun x : S27 => (x.f0, x.f1)) y))
  refine OpnF.iso (g := (fun z : ((Int) × (Int)) => g25 z.1 ∧ g3 z.2)) (fun x : ((Int) × (Int)) => (⟨x.1, x.2⟩ : S27)) (fun _ => rfl) ?_
  refine OpnF.cons (ga := g25) (gb := g3) rfl (by kernel_rfl) opn25 ?_
  exact OpnF.one rfl (by kernel_rfl) opn3
theorem opn22 : Opn Try.prog 22 (Kd.slice 27 k27) g22 := Opn.slice Try.underlying22 (by kernel_rfl) (by kernel_rfl) opn27
theorem opn40 : Opn Try.prog 40 k40 g40 := by
  refine Opn.struct Try.underlying40 (by kernel_rfl) ?_
  show OpnF Try.prog _ 0 (Kd.iso (Kd.pair (Kd.slice 27 k27) (Kd.pair k27 (Kd.pair (Kd.int .u64) (Kd.int .i64)))) (fun x : S40 => (x.f0, x.f1, x.f2, x.f3))) (fun y => (fun z : ((List (S27)) × ((S27) × ((Int) × (Int)))) => g22 z.1 ∧ (fun z : ((S27) × ((Int) × (Int))) => g27 z.1 ∧ (fun z : ((Int) × (Int)) => g25 z.1 ∧ g3 z.2) z.2) z.2) ((fun x : S40 => (x.f0, x.f1, x.f2, x.f3)) y))
  refine OpnF.iso (g := (fun z : ((List (S27)) × ((S27) × ((Int) × (Int)))) => g22 z.1 ∧ (fun z : ((S27) × ((Int) × (Int))) => g27 z.1 ∧ (fun z : ((Int) × (Int)) => g25 z.1 ∧ g3 z.2) z.2) z.2)) (fun x : ((List (S27)) × ((S27) × ((Int) × (Int)))) => (⟨x.1, x.2.1, x.2.2.1, x.2.2.2⟩ : S40)) (fun _ => rfl) ?_
  refine OpnF.cons (ga := g22) (gb := (fun z : ((S27) × ((Int) × (Int))) => g27 z.1 ∧ (fun z : ((Int) × (Int)) => g25 z.1 ∧ g3 z.2) z.2)) rfl (by kernel_rfl) opn22 ?_
  refine OpnF.cons (ga := g27) (gb := (fun z : ((Int) × (Int)) => g25 z.1 ∧ g3 z.2)) rfl (by kernel_rfl) opn27 ?_
  refine OpnF.cons (ga := g25) (gb := g3) rfl (by kernel_rfl) opn25 ?_
  exact OpnF.one rfl (by kernel_rfl) opn3
set_option maxRecDepth 100000 in
theorem lifted (os : Os) (started : os.Started) (H : Type) (enc : TypeId × Value → H) :
    ReturnsInHanded {} Try.checked os 7 .any (Rows.alarmActsSpec.pre6 enc Try.prog Try.f7 Rows.alarmActsRow.domain false) (Rows.alarmActsSpec.post enc Try.prog Try.f7 false true false false) := by
  refine returnsInHanded_of_change_sized (C := Try.checked) own started (by kernel_rfl) Try.func7
    (ChangeSpec.witness6 (enc := enc) (C := Try.checked) false ⟨#[], #[(.agg #[(.slice none 0 0), (.int .u64 0), (.int .i64 0), (.int .u64 0), (.int .i64 0)])], []⟩ 8 (by kernel_rfl) (by kernel_rfl) (by kernel_rfl) (by kernel_rfl)) ?_
  intro W base args ds gs before hval0 hW hcnd hsz0 _
  have hsz : (DataW.weightsEach Try.prog (Try.f7.params.toList ++ Rows.alarmActsSpec.plain.varTypes Try.prog) (ds ++ gs)).all (· ≤ reachBytes) = true := hsz0
  have hval : ∀ (j : Nat) t v, Try.f7.params[j]? = some t → args[j]? = some v → Value.okWide Try.prog W .any base t v := hval0
  have hW' := hW
  obtain ⟨p, q, hA0, hV, rfl, hfz, hnd⟩ := hW
  have hA : DataW.TrodAll enc Try.prog W 0 (fun _ => true) true Try.f7.params.toList args.toList ds p := hA0
  rw [Try.params7] at hA hval hsz
  obtain ⟨v0, vs0, d0, ds0, p0, q0, hargs, rfl, rfl, h0, r0⟩ := trodAll_cons hA
  obtain ⟨rfl, rfl, rfl⟩ := trodAll_nil r0
  obtain rfl : args = #[v0] := by cases args; simp_all
  obtain ⟨rfl, rfl⟩ := trodVars_none hV
  have k0 := h0
  have lt0 : ∀ x ∈ p0, x.block < W.heap.size := by obtain ⟨m, hm⟩ := k0; exact DataW.trod_lt m _ _ _ hm
  obtain ⟨x0, hx0, y0⟩ := opn40.param hsz (j := 0) rfl rfl h0
  obtain ⟨cs0, rfl, _⟩ := okWide_struct Try.underlying40 (hval 0 40 v0 rfl rfl)
  have hx0 := k40_open (show k40.K W x0 cs0.toList from hx0)
  obtain ⟨A0_0, c0_0, he0, hc0_0, hr0_0⟩ := hx0
  obtain rfl : cs0 = #[.slice A0_0 x0.f0.length c0_0, .int .u64 x0.f1.f0, .int .i64 x0.f1.f1, .int .u64 x0.f2, .int .i64 x0.f3] := by cases cs0; simp_all
  clear hA0 hval0 hsz0 hsz
  obtain ⟨kk, hk⟩ := stanchionlaw15_AlarmActs.pure x0 y0
  refine (stanchionlaw15_AlarmActs.calls kk _ _ x0.f0 x0.f1.f0 x0.f1.f1 x0.f2 x0.f3 true W hr0_0 hc0_0 hk rfl).mono fun e W' ⟨he, bel0⟩ => ?_
  have bel : Below W.heap.size W W' := bel0
  subst he
  exact ⟨_, rfl, _, _, _, [], _, [], hW', trodAll_mk1 (shut_bool Try.underlying4 _), (trodAll_cons_mk (Below.trod laidOut (by kernel_rfl) (of_decide_eq_true (by kernel_rfl)) k0 bel lt0) trodAll_mk0), rfl, bel.frame _, fun h => by cases h⟩
theorem over : Rows.alarmActsRow.holds Try.pinned (OpenSpec.ofChange Rows.alarmActsSpec) :=
  OpenClaim.holds_of_wide 7 Try.f7 rfl rfl rfl rfl rfl rfl rfl ⟨rfl, rfl, rfl, rfl, rfl⟩ rfl rfl rfl rfl rfl (by kernel_rfl) Try.func7 (by kernel_rfl)
    (of_decide_eq_true (by kernel_rfl)) (by unfold Func.isWrapper; first | (rw [if_pos (by decide +kernel)]; kernel_rfl) | (rw [if_neg (by decide +kernel)]; exact ⟨rfl, rfl⟩))
    (fun os started H enc _ => lifted os started H enc)
theorem proved : Rows.AlarmActsSaid := over
end Go.Proofs.Ytgcbggcddnkldaa.alarmActs
namespace Go.Proofs.Ytgcbggcddnkldaa
/-- The row, under a short name, for the claim. -/
theorem alarmActs_holds : Rows.AlarmActsSaid := alarmActs.proved
end Go.Proofs.Ytgcbggcddnkldaa
