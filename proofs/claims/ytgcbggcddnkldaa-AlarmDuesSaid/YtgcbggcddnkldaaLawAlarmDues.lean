-- Made by a program of this workplace out of the translation (wip/tools in the repo). Not trusted: Lean checks it.
import Derived.Test.YtgcbggcddnkldaaRows
import Derived.Test.YtgcbggcddnkldaaPureAlarmDues
import Derived.Test.YtgcbggcddnkldaaOpn
import Derived.Test.YtgcbggcddnkldaaPBx9
import Derived.WalkKit
import Derived.ProofKit
import Derived.OpenShut
import Derived.ShutString
import Derived.ChangeOld
import Derived.Below
import Derived.SizedLaws
import Derived.Carry
namespace Go.Proofs.Ytgcbggcddnkldaa.alarmDues
open Go.ChangeShapes Go.WideShapes Go.ChangeAt Go.RowKit Go.Proofs.Ytgcbggcddnkldaa.PB Go.Proofs.Ytgcbggcddnkldaa.Opn Go.Proofs.YtgcbggcddnkldaaW.PrintWords Go.Proofs.YtgcbggcddnkldaaW.PrintLast Go.Proofs.YtgcbggcddnkldaaW.PrintMore
open Go.ChangeMaps (open_string shut_string)
theorem own : ownKnob Try.prog.godebug = none := by kernel_rfl
theorem laidOut : laidOutB Try.prog = true := by kernel_rfl
theorem opn25 : Opn Try.prog 25 (Kd.int .u64) g25 := Opn.int Try.underlying25
theorem opn3 : Opn Try.prog 3 (Kd.int .i64) g3 := Opn.int Try.underlying3
theorem opn27 : Opn Try.prog 27 k27 g27 := by
  refine Opn.struct Try.underlying27 (by kernel_rfl) ?_
  show OpnF Try.prog _ 0 (Kd.iso (Kd.pair (Kd.int .u64) (Kd.int .i64)) (fun x : S27 => (x.f0, x.f1))) (fun y => (fun z : ((Int) × (Int)) => g25 z.1 ∧ g3 z.2) ((fun x : S27 => (x.f0, x.f1)) y))
  refine OpnF.iso (g := (fun z : ((Int) × (Int)) => g25 z.1 ∧ g3 z.2)) (fun x : ((Int) × (Int)) => (⟨x.1, x.2⟩ : S27)) (fun _ => rfl) ?_
  refine OpnF.cons (ga := g25) (gb := g3) rfl (by kernel_rfl) opn25 ?_
  exact OpnF.one rfl (by kernel_rfl) opn3
theorem opn22 : Opn Try.prog 22 (Kd.slice 27 k27) g22 := Opn.slice Try.underlying22 (by kernel_rfl) (by kernel_rfl) opn27
set_option maxRecDepth 100000 in
theorem lifted (os : Os) (started : os.Started) (H : Type) (enc : TypeId × Value → H) :
    ReturnsInHanded {} Try.checked os 6 .any (Rows.alarmDuesSpec.pre6 enc Try.prog Try.f6 Rows.alarmDuesRow.domain false) (Rows.alarmDuesSpec.post enc Try.prog Try.f6 false true false false) := by
  refine returnsInHanded_of_change_sized (C := Try.checked) own started (by kernel_rfl) Try.func6
    (ChangeSpec.witness6 (enc := enc) (C := Try.checked) false ⟨#[], #[.slice none 0 0, .int .u64 0, .int .i64 0], []⟩ 8 (by kernel_rfl) (by kernel_rfl) (by kernel_rfl) (by kernel_rfl)) ?_
  intro W base args ds gs before hval0 hW hcnd hsz0 _
  have hsz : (DataW.weightsEach Try.prog (Try.f6.params.toList ++ Rows.alarmDuesSpec.plain.varTypes Try.prog) (ds ++ gs)).all (· ≤ reachBytes) = true := hsz0
  have hval : ∀ (j : Nat) t v, Try.f6.params[j]? = some t → args[j]? = some v → Value.okWide Try.prog W .any base t v := hval0
  have hW' := hW
  obtain ⟨p, q, hA0, hV, rfl, hfz, hnd⟩ := hW
  have hA : DataW.TrodAll enc Try.prog W 0 (fun _ => true) true Try.f6.params.toList args.toList ds p := hA0
  rw [Try.params6] at hA hval hsz
  obtain ⟨v0, vs0, d0, ds0, p0, q0, hargs, rfl, rfl, h0, r0⟩ := trodAll_cons hA
  obtain ⟨v1, vs1, d1, ds1, p1, q1, rfl, rfl, rfl, h1, r1⟩ := trodAll_cons r0
  obtain ⟨v2, vs2, d2, ds2, p2, q2, rfl, rfl, rfl, h2, r2⟩ := trodAll_cons r1
  obtain ⟨rfl, rfl, rfl⟩ := trodAll_nil r2
  obtain rfl : args = #[v0, v1, v2] := by cases args; simp_all
  obtain ⟨rfl, rfl⟩ := trodVars_none hV
  have k0 := h0
  have lt0 : ∀ x ∈ p0, x.block < W.heap.size := by obtain ⟨m, hm⟩ := k0; exact DataW.trod_lt m _ _ _ hm
  obtain ⟨x0, hx0, y0⟩ := opn22.param hsz (j := 0) rfl rfl h0
  obtain ⟨a0, len0, cap0, rfl⟩ := okWide_slice Try.underlying22 (hval 0 22 v0 rfl rfl)
  obtain ⟨A0, c0, he0, hc0, hr0⟩ := hx0
  cases he0
  have k1 := h1
  have lt1 : ∀ x ∈ p1, x.block < W.heap.size := by obtain ⟨m, hm⟩ := k1; exact DataW.trod_lt m _ _ _ hm
  obtain ⟨x1, hx1, y1⟩ := opn25.param hsz (j := 1) rfl rfl h1
  obtain ⟨n1, rfl⟩ := okWide_int Try.underlying25 (hval 1 25 v1 rfl rfl)
  have e1 : n1 = x1 := by cases (show [Value.int .u64 n1] = [Value.int .u64 x1] from hx1); rfl
  subst e1
  have k2 := h2
  have lt2 : ∀ x ∈ p2, x.block < W.heap.size := by obtain ⟨m, hm⟩ := k2; exact DataW.trod_lt m _ _ _ hm
  obtain ⟨x2, hx2, y2⟩ := opn3.param hsz (j := 2) rfl rfl h2
  obtain ⟨n2, rfl⟩ := okWide_int Try.underlying3 (hval 2 3 v2 rfl rfl)
  have e2 : n2 = x2 := by cases (show [Value.int .i64 n2] = [Value.int .i64 x2] from hx2); rfl
  subst e2
  clear hA0 hval0 hsz0 hsz
  obtain ⟨kk, hk⟩ := stanchionlaw15_AlarmDues.pure x0 n1 n2 y0 y1 y2
  refine (stanchionlaw15_AlarmDues.calls kk _ _ x0 n1 n2 true W hr0 hc0 hk).mono fun e W' ⟨he, bel0⟩ => ?_
  have bel : Below W.heap.size W W' := bel0
  subst he
  exact ⟨_, rfl, _, _, _, [], _, [], hW', trodAll_mk1 (shut_bool Try.underlying4 _), (trodAll_cons_mk (Below.trod laidOut (by kernel_rfl) (of_decide_eq_true (by kernel_rfl)) k0 bel lt0) (trodAll_cons_mk (Below.trod laidOut (by kernel_rfl) (of_decide_eq_true (by kernel_rfl)) k1 bel lt1) (trodAll_cons_mk (Below.trod laidOut (by kernel_rfl) (of_decide_eq_true (by kernel_rfl)) k2 bel lt2) trodAll_mk0))), rfl, bel.frame _, fun h => by cases h⟩
theorem over : Rows.alarmDuesRow.holds Try.pinned (OpenSpec.ofChange Rows.alarmDuesSpec) :=
  OpenClaim.holds_of_wide 6 Try.f6 rfl rfl rfl rfl rfl rfl rfl ⟨rfl, rfl, rfl, rfl, rfl⟩ rfl rfl rfl rfl rfl (by kernel_rfl) Try.func6 (by kernel_rfl)
    (of_decide_eq_true (by kernel_rfl)) (by unfold Func.isWrapper; first | (rw [if_pos (by decide +kernel)]; kernel_rfl) | (rw [if_neg (by decide +kernel)]; exact ⟨rfl, rfl⟩))
    (fun os started H enc _ => lifted os started H enc)
theorem proved : Rows.AlarmDuesSaid := over
end Go.Proofs.Ytgcbggcddnkldaa.alarmDues
namespace Go.Proofs.Ytgcbggcddnkldaa
/-- The row, under a short name, for the claim. -/
theorem alarmDues_holds : Rows.AlarmDuesSaid := alarmDues.proved
end Go.Proofs.Ytgcbggcddnkldaa
