-- Made by a program of this workplace out of the translation (wip/tools in the repo). Not trusted: Lean checks it.
import Derived.Test.YtbhkopbalhhpgaaRows
import Derived.Test.YtbhkopbalhhpgaaPureRunWhole
import Derived.Test.YtbhkopbalhhpgaaOpn
import Derived.Test.YtbhkopbalhhpgaaPHx11
import Derived.WalkKit
import Derived.ProofKit
import Derived.OpenShut
import Derived.ShutString
import Derived.ChangeOld
import Derived.Below
import Derived.SizedLaws
import Derived.Carry
namespace Go.Proofs.Ytbhkopbalhhpgaa.runWhole
open Go.ChangeShapes Go.WideShapes Go.ChangeAt Go.RowKit Go.Proofs.Ytbhkopbalhhpgaa.PH Go.Proofs.Ytbhkopbalhhpgaa.Opn Go.Proofs.YtbhkopbalhhpgaaW.PrintWords Go.Proofs.YtbhkopbalhhpgaaW.PrintLast Go.Proofs.YtbhkopbalhhpgaaW.PrintMore
open Go.ChangeMaps (open_string shut_string)
theorem own : ownKnob Try.prog.godebug = none := by kernel_rfl
theorem laidOut : laidOutB Try.prog = true := by kernel_rfl
theorem opn9 : Opn Try.prog 9 Kd.string g9 := Opn.str Try.underlying9
theorem opn38 : Opn Try.prog 38 k38 g38 := by
  refine Opn.struct Try.underlying38 (by kernel_rfl) ?_
  show OpnF Try.prog _ 0 (Kd.iso (Kd.pair Kd.string (Kd.pair Kd.string Kd.string)) (fun x : S38 => (x.f0, x.f1, x.f2))) (fun y => (fun z : ((ByteArray) × ((ByteArray) × (ByteArray))) => g9 z.1 ∧ (fun z : ((ByteArray) × (ByteArray)) => g9 z.1 ∧ g9 z.2) z.2) ((fun x : S38 => (x.f0, x.f1, x.f2)) y))
  refine OpnF.iso (g := (fun z : ((ByteArray) × ((ByteArray) × (ByteArray))) => g9 z.1 ∧ (fun z : ((ByteArray) × (ByteArray)) => g9 z.1 ∧ g9 z.2) z.2)) (fun x : ((ByteArray) × ((ByteArray) × (ByteArray))) => (⟨x.1, x.2.1, x.2.2⟩ : S38)) (fun _ => rfl) ?_
  refine OpnF.cons (ga := g9) (gb := (fun z : ((ByteArray) × (ByteArray)) => g9 z.1 ∧ g9 z.2)) rfl (by kernel_rfl) opn9 ?_
  refine OpnF.cons (ga := g9) (gb := g9) rfl (by kernel_rfl) opn9 ?_
  exact OpnF.one rfl (by kernel_rfl) opn9
theorem opn31 : Opn Try.prog 31 (Kd.slice 38 k38) g31 := Opn.slice Try.underlying31 (by kernel_rfl) (by kernel_rfl) opn38
theorem opn3 : Opn Try.prog 3 (Kd.int .i64) g3 := Opn.int Try.underlying3
theorem opn4 : Opn Try.prog 4 Kd.bool g4 := Opn.bool Try.underlying4
theorem opn33 : Opn Try.prog 33 k33 g33 := by
  refine Opn.struct Try.underlying33 (by kernel_rfl) ?_
  show OpnF Try.prog _ 0 (Kd.iso (Kd.pair (Kd.slice 38 k38) (Kd.pair (Kd.int .i64) (Kd.pair (Kd.int .i64) Kd.bool))) (fun x : S33 => (x.f0, x.f1, x.f2, x.f3))) (fun y => (fun z : ((List (S38)) × ((Int) × ((Int) × (Bool)))) => g31 z.1 ∧ (fun z : ((Int) × ((Int) × (Bool))) => g3 z.1 ∧ (fun z : ((Int) × (Bool)) => g3 z.1 ∧ g4 z.2) z.2) z.2) ((fun x : S33 => (x.f0, x.f1, x.f2, x.f3)) y))
  refine OpnF.iso (g := (fun z : ((List (S38)) × ((Int) × ((Int) × (Bool)))) => g31 z.1 ∧ (fun z : ((Int) × ((Int) × (Bool))) => g3 z.1 ∧ (fun z : ((Int) × (Bool)) => g3 z.1 ∧ g4 z.2) z.2) z.2)) (fun x : ((List (S38)) × ((Int) × ((Int) × (Bool)))) => (⟨x.1, x.2.1, x.2.2.1, x.2.2.2⟩ : S33)) (fun _ => rfl) ?_
  refine OpnF.cons (ga := g31) (gb := (fun z : ((Int) × ((Int) × (Bool))) => g3 z.1 ∧ (fun z : ((Int) × (Bool)) => g3 z.1 ∧ g4 z.2) z.2)) rfl (by kernel_rfl) opn31 ?_
  refine OpnF.cons (ga := g3) (gb := (fun z : ((Int) × (Bool)) => g3 z.1 ∧ g4 z.2)) rfl (by kernel_rfl) opn3 ?_
  refine OpnF.cons (ga := g3) (gb := g4) rfl (by kernel_rfl) opn3 ?_
  exact OpnF.one rfl (by kernel_rfl) opn4
theorem opn34 : Opn Try.prog 34 (Kd.slice 3 (Kd.int .i64)) g34 := Opn.slice Try.underlying34 (by kernel_rfl) (by kernel_rfl) opn3
theorem opn36 : Opn Try.prog 36 k36 g36 := by
  refine Opn.struct Try.underlying36 (by kernel_rfl) ?_
  show OpnF Try.prog _ 0 (Kd.iso (Kd.pair k33 (Kd.pair Kd.string (Kd.pair Kd.string (Kd.pair (Kd.int .i64) (Kd.slice 3 (Kd.int .i64)))))) (fun x : S36 => (x.f0, x.f1, x.f2, x.f3, x.f4))) (fun y => (fun z : ((S33) × ((ByteArray) × ((ByteArray) × ((Int) × (List Int))))) => g33 z.1 ∧ (fun z : ((ByteArray) × ((ByteArray) × ((Int) × (List Int)))) => g9 z.1 ∧ (fun z : ((ByteArray) × ((Int) × (List Int))) => g9 z.1 ∧ (fun z : ((Int) × (List Int)) => g3 z.1 ∧ g34 z.2) z.2) z.2) z.2) ((fun x : S36 => (x.f0, x.f1, x.f2, x.f3, x.f4)) y))
  refine OpnF.iso (g := (fun z : ((S33) × ((ByteArray) × ((ByteArray) × ((Int) × (List Int))))) => g33 z.1 ∧ (fun z : ((ByteArray) × ((ByteArray) × ((Int) × (List Int)))) => g9 z.1 ∧ (fun z : ((ByteArray) × ((Int) × (List Int))) => g9 z.1 ∧ (fun z : ((Int) × (List Int)) => g3 z.1 ∧ g34 z.2) z.2) z.2) z.2)) (fun x : ((S33) × ((ByteArray) × ((ByteArray) × ((Int) × (List Int))))) => (⟨x.1, x.2.1, x.2.2.1, x.2.2.2.1, x.2.2.2.2⟩ : S36)) (fun _ => rfl) ?_
  refine OpnF.cons (ga := g33) (gb := (fun z : ((ByteArray) × ((ByteArray) × ((Int) × (List Int)))) => g9 z.1 ∧ (fun z : ((ByteArray) × ((Int) × (List Int))) => g9 z.1 ∧ (fun z : ((Int) × (List Int)) => g3 z.1 ∧ g34 z.2) z.2) z.2)) rfl (by kernel_rfl) opn33 ?_
  refine OpnF.cons (ga := g9) (gb := (fun z : ((ByteArray) × ((Int) × (List Int))) => g9 z.1 ∧ (fun z : ((Int) × (List Int)) => g3 z.1 ∧ g34 z.2) z.2)) rfl (by kernel_rfl) opn9 ?_
  refine OpnF.cons (ga := g9) (gb := (fun z : ((Int) × (List Int)) => g3 z.1 ∧ g34 z.2)) rfl (by kernel_rfl) opn9 ?_
  refine OpnF.cons (ga := g3) (gb := g34) rfl (by kernel_rfl) opn3 ?_
  exact OpnF.one rfl (by kernel_rfl) opn34
set_option maxRecDepth 100000 in
theorem lifted (os : Os) (started : os.Started) (H : Type) (enc : TypeId × Value → H) :
    ReturnsInHanded {} Try.checked os 4 .any (Rows.runWholeSpec.pre6 enc Try.prog Try.f4 Rows.runWholeRow.domain false) (Rows.runWholeSpec.post enc Try.prog Try.f4 false true false false) := by
  refine returnsInHanded_of_change_sized (C := Try.checked) own started (by kernel_rfl) Try.func4
    (ChangeSpec.witness6 (enc := enc) (C := Try.checked) false ⟨#[], #[(.agg #[(.slice none 0 0), (.int .i64 0), (.int .i64 0), (.bool false), (.string ByteArray.empty), (.string ByteArray.empty), (.int .i64 0), (.slice none 0 0)])], []⟩ 8 (by kernel_rfl) (by kernel_rfl) (by kernel_rfl) (by kernel_rfl)) ?_
  intro W base args ds gs before hval0 hW hcnd hsz0 _
  have hsz : (DataW.weightsEach Try.prog (Try.f4.params.toList ++ Rows.runWholeSpec.plain.varTypes Try.prog) (ds ++ gs)).all (· ≤ reachBytes) = true := hsz0
  have hval : ∀ (j : Nat) t v, Try.f4.params[j]? = some t → args[j]? = some v → Value.okWide Try.prog W .any base t v := hval0
  have hW' := hW
  obtain ⟨p, q, hA0, hV, rfl, hfz, hnd⟩ := hW
  have hA : DataW.TrodAll enc Try.prog W 0 (fun _ => true) true Try.f4.params.toList args.toList ds p := hA0
  rw [Try.params4] at hA hval hsz
  obtain ⟨v0, vs0, d0, ds0, p0, q0, hargs, rfl, rfl, h0, r0⟩ := trodAll_cons hA
  obtain ⟨rfl, rfl, rfl⟩ := trodAll_nil r0
  obtain rfl : args = #[v0] := by cases args; simp_all
  obtain ⟨rfl, rfl⟩ := trodVars_none hV
  have k0 := h0
  have lt0 : ∀ x ∈ p0, x.block < W.heap.size := by obtain ⟨m, hm⟩ := k0; exact DataW.trod_lt m _ _ _ hm
  obtain ⟨x0, hx0, y0⟩ := opn36.param hsz (j := 0) rfl rfl h0
  obtain ⟨cs0, rfl, _⟩ := okWide_struct Try.underlying36 (hval 0 36 v0 rfl rfl)
  have hx0 := k36_open (show k36.K W x0 cs0.toList from hx0)
  obtain ⟨A0_0, c0_0, A0_7, c0_7, he0, hc0_0, hr0_0, hc0_7, hr0_7⟩ := hx0
  obtain rfl : cs0 = #[.slice A0_0 x0.f0.f0.length c0_0, .int .i64 x0.f0.f1, .int .i64 x0.f0.f2, .bool x0.f0.f3, .string x0.f1, .string x0.f2, .int .i64 x0.f3, .slice A0_7 x0.f4.length c0_7] := by cases cs0; simp_all
  clear hA0 hval0 hsz0 hsz
  obtain ⟨kk, hk⟩ := stanchionlaw06_RunWhole.pure x0 y0
  refine (stanchionlaw06_RunWhole.calls kk _ _ x0.f0.f0 x0.f0.f1 x0.f0.f2 x0.f0.f3 x0.f1 x0.f2 x0.f3 _ _ x0.f4 true W hr0_0 hc0_0 hr0_7 hc0_7 hk rfl).mono fun e W' ⟨he, bel0⟩ => ?_
  have bel : Below W.heap.size W W' := bel0
  subst he
  exact ⟨_, rfl, _, _, _, [], _, [], hW', trodAll_mk1 (shut_bool Try.underlying4 _), (trodAll_cons_mk (Below.trod laidOut (by kernel_rfl) (of_decide_eq_true (by kernel_rfl)) k0 bel lt0) trodAll_mk0), rfl, bel.frame _, fun h => by cases h⟩
theorem over : Rows.runWholeRow.holds Try.pinned (OpenSpec.ofChange Rows.runWholeSpec) :=
  OpenClaim.holds_of_wide 4 Try.f4 rfl rfl rfl rfl rfl rfl rfl ⟨rfl, rfl, rfl, rfl, rfl⟩ rfl rfl rfl rfl rfl (by kernel_rfl) Try.func4 (by kernel_rfl)
    (of_decide_eq_true (by kernel_rfl)) (by unfold Func.isWrapper; first | (rw [if_pos (by decide +kernel)]; kernel_rfl) | (rw [if_neg (by decide +kernel)]; exact ⟨rfl, rfl⟩))
    (fun os started H enc _ => lifted os started H enc)
theorem proved : Rows.RunWholeSaid := over
end Go.Proofs.Ytbhkopbalhhpgaa.runWhole
namespace Go.Proofs.Ytbhkopbalhhpgaa
/-- The row, under a short name, for the claim. -/
theorem runWhole_holds : Rows.RunWholeSaid := runWhole.proved
end Go.Proofs.Ytbhkopbalhhpgaa
