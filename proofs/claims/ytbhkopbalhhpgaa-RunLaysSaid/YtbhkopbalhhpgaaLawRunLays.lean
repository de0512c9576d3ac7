-- Made by a program of this workplace out of the translation (wip/tools in the repo). Not trusted: Lean checks it.
import Derived.Test.YtbhkopbalhhpgaaRows
import Derived.Test.YtbhkopbalhhpgaaPureRunLays
import Derived.Test.YtbhkopbalhhpgaaOpn
import Derived.Test.YtbhkopbalhhpgaaPYx19
import Derived.WalkKit
import Derived.ProofKit
import Derived.OpenShut
import Derived.ShutString
import Derived.ChangeOld
import Derived.Below
import Derived.SizedLaws
import Derived.Carry
namespace Go.Proofs.Ytbhkopbalhhpgaa.runLays
open Go.ChangeShapes Go.WideShapes Go.ChangeAt Go.RowKit Go.Proofs.Ytbhkopbalhhpgaa.PY Go.Proofs.Ytbhkopbalhhpgaa.Opn Go.Proofs.YtbhkopbalhhpgaaW.PrintWords Go.Proofs.YtbhkopbalhhpgaaW.PrintLast Go.Proofs.YtbhkopbalhhpgaaW.PrintMore
open Go.ChangeMaps (open_string shut_string)
theorem own : ownKnob Try.prog.godebug = none := by kernel_rfl
theorem laidOut : laidOutB Try.prog = true := by kernel_rfl
theorem opn9 : Opn Try.prog 9 Kd.string g9 := Opn.str Try.underlying9
theorem opn38 : Opn Try.prog 38 k38 g38 := by
 refine Opn.struct Try.underlying38 (by kernel_rfl) ?_
 show OpnF Try.prog _ 0 (Kd.iso (Kd.pair Kd.string (Kd.pair Kd.string Kd.string)) (fun x : S38 => (x.f0, x.f1, x.f2))) (fun y => (fun z : ((ByteArray) × ((ByteArray) × (ByteArray))) => g9 z.1 ∧ (fun z : ((ByteArray) × (ByteArray)) => g9 z.1 ∧ g9 z.2) z.2) ((fun x : S38 => (x.f0, x.f1, x.f2)) y))
 refine OpnF.iso (g := (fun z : ((ByteArray) × ((ByteArray) × (ByteArray))) => g9 z.1 ∧ (fun z : ((ByteArray) × (ByteArray)) => g9 z.1 ∧ g9 z.2) z.2)) (fun x : ((ByteArray) × ((ByteArray) × (ByteArray))) => (⟨x.1, x.2.1, x.2.2⟩ : S38)) (fun _ => rfl) ?_
 refine OpnF.cons (ga := g9) (gb := (fun z : ((ByteArray) × (ByteArray)) => g9 z.1 ∧ g9 z.2)) rfl (by kernel_rfl) opn9 ?_
 refine OpnF.cons (ga := g9) (gb := g9) rfl (by kernel_rfl) opn9 ?_
 exact OpnF.one rfl (by kernel_rfl) opn9
theorem opn31 : Opn Try.prog 31 (Kd.slice 38 k38) g31 := Opn.slice Try.underlying31 (by kernel_rfl) (by kernel_rfl) opn38
theorem opn3 : Opn Try.prog 3 (Kd.int .i64) g3 := Opn.int Try.underlying3
theorem opn4 : Opn Try.prog 4 Kd.bool g4 := Opn.bool Try.underlying4
theorem opn33 : Opn Try.prog 33 k33 g33 := by
 refine Opn.struct Try.underlying33 (by kernel_rfl) ?_
 show OpnF Try.prog _ 0 (Kd.iso (Kd.pair (Kd.slice 38 k38) (Kd.pair (Kd.int .i64) (Kd.pair (Kd.int .i64) Kd.bool))) (fun x : S33 => (x.f0, x.f1, x.f2, x.f3))) (fun y => (fun z : ((List (S38)) × ((Int) × ((Int) × (Bool)))) => g31 z.1 ∧ (fun z : ((Int) × ((Int) × (Bool))) => g3 z.1 ∧ (fun z : ((Int) × (Bool)) => g3 z.1 ∧ g4 z.2) z.2) z.2) ((fun x : S33 => (x.f0, x.f1, x.f2, x.f3)) y))
 refine OpnF.iso (g := (fun z : ((List (S38)) × ((Int) × ((Int) × (Bool)))) => g31 z.1 ∧ (fun z : ((Int) × ((Int) × (Bool))) => g3 z.1 ∧ (fun z : ((Int) × (Bool)) => g3 z.1 ∧ g4 z.2) z.2) z.2)) (fun x : ((List (S38)) × ((Int) × ((Int) × (Bool)))) => (⟨x.1, x.2.1, x.2.2.1, x.2.2.2⟩ : S33)) (fun _ => rfl) ?_
 refine OpnF.cons (ga := g31) (gb := (fun z : ((Int) × ((Int) × (Bool))) => g3 z.1 ∧ (fun z : ((Int) × (Bool)) => g3 z.1 ∧ g4 z.2) z.2)) rfl (by kernel_rfl) opn31 ?_
 refine OpnF.cons (ga := g3) (gb := (fun z : ((Int) × (Bool)) => g3 z.1 ∧ g4 z.2)) rfl (by kernel_rfl) opn3 ?_
 refine OpnF.cons (ga := g3) (gb := g4) rfl (by kernel_rfl) opn3 ?_
 exact OpnF.one rfl (by kernel_rfl) opn4
set_option maxRecDepth 100000 in
theorem lifted (os : Os) (started : os.Started) (H : Type) (enc : TypeId × Value → H) :
  ReturnsInHanded {} Try.checked os 5 .any (Rows.runLaysSpec.pre6 enc Try.prog Try.f5 Rows.runLaysRow.domain false) (Rows.runLaysSpec.post enc Try.prog Try.f5 false true false false) := by
 refine returnsInHanded_of_change_sized (C := Try.checked) own started (by kernel_rfl) Try.func5
  (ChangeSpec.witness6 (enc := enc) (C := Try.checked) false ⟨#[], #[(.agg #[(.slice none 0 0), (.int .i64 0), (.int .i64 0), (.bool false)]), .string ByteArray.empty, .string ByteArray.empty], []⟩ 8 (by kernel_rfl) (by kernel_rfl) (by kernel_rfl) (by kernel_rfl)) ?_
 intro W base args ds gs before hval0 hW hcnd hsz0 _
 have hsz : (DataW.weightsEach Try.prog (Try.f5.params.toList ++ Rows.runLaysSpec.plain.varTypes Try.prog) (ds ++ gs)).all (· ≤ reachBytes) = true := hsz0
 have hval : ∀ (j : Nat) t v, Try.f5.params[j]? = some t → args[j]? = some v → Value.okWide Try.prog W .any base t v := hval0
 have hW' := hW
 obtain ⟨p, q, hA0, hV, rfl, hfz, hnd⟩ := hW
 have hA : DataW.TrodAll enc Try.prog W 0 (fun _ => true) true Try.f5.params.toList args.toList ds p := hA0
 rw [Try.params5] at hA hval hsz
 obtain ⟨v0, vs0, d0, ds0, p0, q0, hargs, rfl, rfl, h0, r0⟩ := trodAll_cons hA
 obtain ⟨v1, vs1, d1, ds1, p1, q1, rfl, rfl, rfl, h1, r1⟩ := trodAll_cons r0
 obtain ⟨v2, vs2, d2, ds2, p2, q2, rfl, rfl, rfl, h2, r2⟩ := trodAll_cons r1
 obtain ⟨rfl, rfl, rfl⟩ := trodAll_nil r2
 obtain rfl : args = #[v0, v1, v2] := by cases args; simp_all
 obtain ⟨rfl, rfl⟩ := trodVars_none hV
 have k0 := h0
 have lt0 : ∀ x ∈ p0, x.block < W.heap.size := by obtain ⟨m, hm⟩ := k0; exact DataW.trod_lt m _ _ _ hm
 obtain ⟨x0, hx0, y0⟩ := opn33.param hsz (j := 0) rfl rfl h0
 obtain ⟨cs0, rfl, _⟩ := okWide_struct Try.underlying33 (hval 0 33 v0 rfl rfl)
 have hx0 := k33_open (show k33.K W x0 cs0.toList from hx0)
 obtain ⟨A0_0, c0_0, he0, hc0_0, hr0_0⟩ := hx0
 obtain rfl : cs0 = #[.slice A0_0 x0.f0.length c0_0, .int .i64 x0.f1, .int .i64 x0.f2, .bool x0.f3] := by cases cs0; simp_all
 have k1 := h1
 have lt1 : ∀ x ∈ p1, x.block < W.heap.size := by obtain ⟨m, hm⟩ := k1; exact DataW.trod_lt m _ _ _ hm
 obtain ⟨x1, hx1, y1⟩ := opn9.param hsz (j := 1) rfl rfl h1
 obtain ⟨n1, rfl⟩ := okWide_string Try.underlying9 (hval 1 9 v1 rfl rfl)
 have e1 : n1 = x1 := by cases (show [Value.string n1] = [Value.string x1] from hx1); rfl
 subst e1
 have k2 := h2
 have lt2 : ∀ x ∈ p2, x.block < W.heap.size := by obtain ⟨m, hm⟩ := k2; exact DataW.trod_lt m _ _ _ hm
 obtain ⟨x2, hx2, y2⟩ := opn9.param hsz (j := 2) rfl rfl h2
 obtain ⟨n2, rfl⟩ := okWide_string Try.underlying9 (hval 2 9 v2 rfl rfl)
 have e2 : n2 = x2 := by cases (show [Value.string n2] = [Value.string x2] from hx2); rfl
 subst e2
 clear hA0 hval0 hsz0 hsz
 obtain ⟨kk, hk⟩ := stanchionlaw06_RunLays.pure x0 n1 n2 y0 y1 y2
 refine (stanchionlaw06_RunLays.calls kk _ _ x0.f0 x0.f1 x0.f2 x0.f3 n1 n2 true W hr0_0 hc0_0 hk rfl).mono fun e W' ⟨he, bel0⟩ => ?_
 have bel : Below W.heap.size W W' := bel0
 subst he
 exact ⟨_, rfl, _, _, _, [], _, [], hW', trodAll_mk1 (shut_bool Try.underlying4 _), (trodAll_cons_mk (Below.trod laidOut (by kernel_rfl) (of_decide_eq_true (by kernel_rfl)) k0 bel lt0) (trodAll_cons_mk (Below.trod laidOut (by kernel_rfl) (of_decide_eq_true (by kernel_rfl)) k1 bel lt1) (trodAll_cons_mk (Below.trod laidOut (by kernel_rfl) (of_decide_eq_true (by kernel_rfl)) k2 bel lt2) trodAll_mk0))), rfl, bel.frame _, fun h => by cases h⟩
theorem over : Rows.runLaysRow.holds Try.pinned (OpenSpec.ofChange Rows.runLaysSpec) :=
 OpenClaim.holds_of_wide 5 Try.f5 rfl rfl rfl rfl rfl rfl rfl ⟨rfl, rfl, rfl, rfl, rfl⟩ rfl rfl rfl rfl rfl (by kernel_rfl) Try.func5 (by kernel_rfl)
  (of_decide_eq_true (by kernel_rfl)) (by unfold Func.isWrapper; first | (rw [if_pos (by decide +kernel)]; kernel_rfl) | (rw [if_neg (by decide +kernel)]; exact ⟨rfl, rfl⟩))
  (fun os started H enc _ => lifted os started H enc)
theorem proved : Rows.RunLaysSaid := over
end Go.Proofs.Ytbhkopbalhhpgaa.runLays
namespace Go.Proofs.Ytbhkopbalhhpgaa
/-- The row, under a short name, for the claim. -/
theorem runLays_holds : Rows.RunLaysSaid := runLays.proved
end Go.Proofs.Ytbhkopbalhhpgaa
