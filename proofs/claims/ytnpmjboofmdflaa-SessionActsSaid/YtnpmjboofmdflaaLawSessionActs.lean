-- Made by a program of this workplace out of the translation (wip/tools in the repo). Not trusted: Lean checks it.
import Derived.Test.YtnpmjboofmdflaaRows
import Derived.Test.YtnpmjboofmdflaaPureSessionActs
import Derived.Test.YtnpmjboofmdflaaOpn
import Derived.Test.YtnpmjboofmdflaaPAx20
import Derived.WalkKit
import Derived.ProofKit
import Derived.OpenShut
import Derived.ShutString
import Derived.ChangeOld
import Derived.Below
import Derived.SizedLaws
import Derived.Carry
namespace Go.Proofs.Ytnpmjboofmdflaa.sessionActs
open Go.ChangeShapes Go.WideShapes Go.ChangeAt Go.RowKit Go.Proofs.Ytnpmjboofmdflaa.PA Go.Proofs.Ytnpmjboofmdflaa.Opn Go.Proofs.YtnpmjboofmdflaaW.PrintWords Go.Proofs.YtnpmjboofmdflaaW.PrintLast Go.Proofs.YtnpmjboofmdflaaW.PrintMore
open Go.ChangeMaps (open_string shut_string)
theorem own : ownKnob Try.prog.godebug = none := by kernel_rfl
theorem laidOut : laidOutB Try.prog = true := by kernel_rfl
theorem opn3 : Opn Try.prog 3 (Kd.int .i64) g3 := Opn.int Try.underlying3
theorem opn4 : Opn Try.prog 4 Kd.bool g4 := Opn.bool Try.underlying4
theorem opn9 : Opn Try.prog 9 Kd.string g9 := Opn.str Try.underlying9
theorem opn42 : Opn Try.prog 42 k42 g42 := by
 refine Opn.struct Try.underlying42 (by kernel_rfl) ?_
 show OpnF Try.prog _ 0 (Kd.iso (Kd.pair (Kd.int .i64) (Kd.pair (Kd.int .i64) (Kd.pair Kd.bool (Kd.pair Kd.string (Kd.pair (Kd.int .i64) (Kd.int .i64)))))) (fun x : S42 => (x.f0, x.f1, x.f2, x.f3, x.f4, x.f5))) (fun y => (fun z : ((Int) × ((Int) × ((Bool) × ((ByteArray) × ((Int) × (Int)))))) => g3 z.1 ∧ (fun z : ((Int) × ((Bool) × ((ByteArray) × ((Int) × (Int))))) => g3 z.1 ∧ (fun z : ((Bool) × ((ByteArray) × ((Int) × (Int)))) => g4 z.1 ∧ (fun z : ((ByteArray) × ((Int) × (Int))) => g9 z.1 ∧ (fun z : ((Int) × (Int)) => g3 z.1 ∧ g3 z.2) z.2) z.2) z.2) z.2) ((fun x : S42 => (x.f0, x.f1, x.f2, x.f3, x.f4, x.f5)) y))
 refine OpnF.iso (g := (fun z : ((Int) × ((Int) × ((Bool) × ((ByteArray) × ((Int) × (Int)))))) => g3 z.1 ∧ (fun z : ((Int) × ((Bool) × ((ByteArray) × ((Int) × (Int))))) => g3 z.1 ∧ (fun z : ((Bool) × ((ByteArray) × ((Int) × (Int)))) => g4 z.1 ∧ (fun z : ((ByteArray) × ((Int) × (Int))) => g9 z.1 ∧ (fun z : ((Int) × (Int)) => g3 z.1 ∧ g3 z.2) z.2) z.2) z.2) z.2)) (fun x : ((Int) × ((Int) × ((Bool) × ((ByteArray) × ((Int) × (Int)))))) => (⟨x.1, x.2.1, x.2.2.1, x.2.2.2.1, x.2.2.2.2.1, x.2.2.2.2.2⟩ : S42)) (fun _ => rfl) ?_
 refine OpnF.cons (ga := g3) (gb := (fun z : ((Int) × ((Bool) × ((ByteArray) × ((Int) × (Int))))) => g3 z.1 ∧ (fun z : ((Bool) × ((ByteArray) × ((Int) × (Int)))) => g4 z.1 ∧ (fun z : ((ByteArray) × ((Int) × (Int))) => g9 z.1 ∧ (fun z : ((Int) × (Int)) => g3 z.1 ∧ g3 z.2) z.2) z.2) z.2)) rfl (by kernel_rfl) opn3 ?_
 refine OpnF.cons (ga := g3) (gb := (fun z : ((Bool) × ((ByteArray) × ((Int) × (Int)))) => g4 z.1 ∧ (fun z : ((ByteArray) × ((Int) × (Int))) => g9 z.1 ∧ (fun z : ((Int) × (Int)) => g3 z.1 ∧ g3 z.2) z.2) z.2)) rfl (by kernel_rfl) opn3 ?_
 refine OpnF.cons (ga := g4) (gb := (fun z : ((ByteArray) × ((Int) × (Int))) => g9 z.1 ∧ (fun z : ((Int) × (Int)) => g3 z.1 ∧ g3 z.2) z.2)) rfl (by kernel_rfl) opn4 ?_
 refine OpnF.cons (ga := g9) (gb := (fun z : ((Int) × (Int)) => g3 z.1 ∧ g3 z.2)) rfl (by kernel_rfl) opn9 ?_
 refine OpnF.cons (ga := g3) (gb := g3) rfl (by kernel_rfl) opn3 ?_
 exact OpnF.one rfl (by kernel_rfl) opn3
theorem opn22 : Opn Try.prog 22 (Kd.slice 42 k42) g22 := Opn.slice Try.underlying22 (by kernel_rfl) (by kernel_rfl) opn42
theorem opn24 : Opn Try.prog 24 (Kd.int .u64) g24 := Opn.int Try.underlying24
theorem opn85 : Opn Try.prog 85 k85 g85 := by
 refine Opn.struct Try.underlying85 (by kernel_rfl) ?_
 show OpnF Try.prog _ 0 (Kd.iso (Kd.pair (Kd.int .u64) (Kd.int .i64)) (fun x : S85 => (x.f0, x.f1))) (fun y => (fun z : ((Int) × (Int)) => g24 z.1 ∧ g3 z.2) ((fun x : S85 => (x.f0, x.f1)) y))
 refine OpnF.iso (g := (fun z : ((Int) × (Int)) => g24 z.1 ∧ g3 z.2)) (fun x : ((Int) × (Int)) => (⟨x.1, x.2⟩ : S85)) (fun _ => rfl) ?_
 refine OpnF.cons (ga := g24) (gb := g3) rfl (by kernel_rfl) opn24 ?_
 exact OpnF.one rfl (by kernel_rfl) opn3
theorem opn23 : Opn Try.prog 23 (Kd.slice 85 k85) g23 := Opn.slice Try.underlying23 (by kernel_rfl) (by kernel_rfl) opn85
theorem opn26 : Opn Try.prog 26 k26 g26 := by
 refine Opn.struct Try.underlying26 (by kernel_rfl) ?_
 show OpnF Try.prog _ 0 (Kd.iso (Kd.pair (Kd.int .i64) (Kd.pair (Kd.slice 42 k42) (Kd.pair (Kd.slice 85 k85) (Kd.pair (Kd.int .i64) (Kd.int .u64))))) (fun x : S26 => (x.f0, x.f1, x.f2, x.f3, x.f4))) (fun y => (fun z : ((Int) × ((List (S42)) × ((List (S85)) × ((Int) × (Int))))) => g3 z.1 ∧ (fun z : ((List (S42)) × ((List (S85)) × ((Int) × (Int)))) => g22 z.1 ∧ (fun z : ((List (S85)) × ((Int) × (Int))) => g23 z.1 ∧ (fun z : ((Int) × (Int)) => g3 z.1 ∧ g24 z.2) z.2) z.2) z.2) ((fun x : S26 => (x.f0, x.f1, x.f2, x.f3, x.f4)) y))
 refine OpnF.iso (g := (fun z : ((Int) × ((List (S42)) × ((List (S85)) × ((Int) × (Int))))) => g3 z.1 ∧ (fun z : ((List (S42)) × ((List (S85)) × ((Int) × (Int)))) => g22 z.1 ∧ (fun z : ((List (S85)) × ((Int) × (Int))) => g23 z.1 ∧ (fun z : ((Int) × (Int)) => g3 z.1 ∧ g24 z.2) z.2) z.2) z.2)) (fun x : ((Int) × ((List (S42)) × ((List (S85)) × ((Int) × (Int))))) => (⟨x.1, x.2.1, x.2.2.1, x.2.2.2.1, x.2.2.2.2⟩ : S26)) (fun _ => rfl) ?_
 refine OpnF.cons (ga := g3) (gb := (fun z : ((List (S42)) × ((List (S85)) × ((Int) × (Int)))) => g22 z.1 ∧ (fun z : ((List (S85)) × ((Int) × (Int))) => g23 z.1 ∧ (fun z : ((Int) × (Int)) => g3 z.1 ∧ g24 z.2) z.2) z.2)) rfl (by kernel_rfl) opn3 ?_
 refine OpnF.cons (ga := g22) (gb := (fun z : ((List (S85)) × ((Int) × (Int))) => g23 z.1 ∧ (fun z : ((Int) × (Int)) => g3 z.1 ∧ g24 z.2) z.2)) rfl (by kernel_rfl) opn22 ?_
 refine OpnF.cons (ga := g23) (gb := (fun z : ((Int) × (Int)) => g3 z.1 ∧ g24 z.2)) rfl (by kernel_rfl) opn23 ?_
 refine OpnF.cons (ga := g3) (gb := g24) rfl (by kernel_rfl) opn3 ?_
 exact OpnF.one rfl (by kernel_rfl) opn24
theorem opn68 : Opn Try.prog 68 k68 g68 := by
 refine Opn.struct Try.underlying68 (by kernel_rfl) ?_
 show OpnF Try.prog _ 0 (Kd.iso (Kd.pair k26 (Kd.pair (Kd.int .i64) (Kd.pair (Kd.int .i64) (Kd.pair (Kd.int .u64) (Kd.pair (Kd.int .i64) k26))))) (fun x : S68 => (x.f0, x.f1, x.f2, x.f3, x.f4, x.f5))) (fun y => (fun z : ((S26) × ((Int) × ((Int) × ((Int) × ((Int) × (S26)))))) => g26 z.1 ∧ (fun z : ((Int) × ((Int) × ((Int) × ((Int) × (S26))))) => g3 z.1 ∧ (fun z : ((Int) × ((Int) × ((Int) × (S26)))) => g3 z.1 ∧ (fun z : ((Int) × ((Int) × (S26))) => g24 z.1 ∧ (fun z : ((Int) × (S26)) => g3 z.1 ∧ g26 z.2) z.2) z.2) z.2) z.2) ((fun x : S68 => (x.f0, x.f1, x.f2, x.f3, x.f4, x.f5)) y))
 refine OpnF.iso (g := (fun z : ((S26) × ((Int) × ((Int) × ((Int) × ((Int) × (S26)))))) => g26 z.1 ∧ (fun z : ((Int) × ((Int) × ((Int) × ((Int) × (S26))))) => g3 z.1 ∧ (fun z : ((Int) × ((Int) × ((Int) × (S26)))) => g3 z.1 ∧ (fun z : ((Int) × ((Int) × (S26))) => g24 z.1 ∧ (fun z : ((Int) × (S26)) => g3 z.1 ∧ g26 z.2) z.2) z.2) z.2) z.2)) (fun x : ((S26) × ((Int) × ((Int) × ((Int) × ((Int) × (S26)))))) => (⟨x.1, x.2.1, x.2.2.1, x.2.2.2.1, x.2.2.2.2.1, x.2.2.2.2.2⟩ : S68)) (fun _ => rfl) ?_
 refine OpnF.cons (ga := g26) (gb := (fun z : ((Int) × ((Int) × ((Int) × ((Int) × (S26))))) => g3 z.1 ∧ (fun z : ((Int) × ((Int) × ((Int) × (S26)))) => g3 z.1 ∧ (fun z : ((Int) × ((Int) × (S26))) => g24 z.1 ∧ (fun z : ((Int) × (S26)) => g3 z.1 ∧ g26 z.2) z.2) z.2) z.2)) rfl (by kernel_rfl) opn26 ?_
 refine OpnF.cons (ga := g3) (gb := (fun z : ((Int) × ((Int) × ((Int) × (S26)))) => g3 z.1 ∧ (fun z : ((Int) × ((Int) × (S26))) => g24 z.1 ∧ (fun z : ((Int) × (S26)) => g3 z.1 ∧ g26 z.2) z.2) z.2)) rfl (by kernel_rfl) opn3 ?_
 refine OpnF.cons (ga := g3) (gb := (fun z : ((Int) × ((Int) × (S26))) => g24 z.1 ∧ (fun z : ((Int) × (S26)) => g3 z.1 ∧ g26 z.2) z.2)) rfl (by kernel_rfl) opn3 ?_
 refine OpnF.cons (ga := g24) (gb := (fun z : ((Int) × (S26)) => g3 z.1 ∧ g26 z.2)) rfl (by kernel_rfl) opn24 ?_
 refine OpnF.cons (ga := g3) (gb := g26) rfl (by kernel_rfl) opn3 ?_
 exact OpnF.one rfl (by kernel_rfl) opn26
set_option maxRecDepth 100000 in
theorem lifted (os : Os) (started : os.Started) (H : Type) (enc : TypeId × Value → H) :
  ReturnsInHanded {} Try.checked os 9 .any (Rows.sessionActsSpec.pre6 enc Try.prog Try.f9 Rows.sessionActsRow.domain false) (Rows.sessionActsSpec.post enc Try.prog Try.f9 false true false false) := by
 refine returnsInHanded_of_change_sized (C := Try.checked) own started (by kernel_rfl) Try.func9
  (ChangeSpec.witness6 (enc := enc) (C := Try.checked) false ⟨#[], #[(.agg #[(.int .i64 0), (.slice none 0 0), (.slice none 0 0), (.int .i64 0), (.int .u64 0), (.int .i64 0), (.int .i64 0), (.int .u64 0), (.int .i64 0), (.int .i64 0), (.slice none 0 0), (.slice none 0 0), (.int .i64 0), (.int .u64 0)])], []⟩ 8 (by kernel_rfl) (by kernel_rfl) (by kernel_rfl) (by kernel_rfl)) ?_
 intro W base args ds gs before hval0 hW hcnd hsz0 _
 have hsz : (DataW.weightsEach Try.prog (Try.f9.params.toList ++ Rows.sessionActsSpec.plain.varTypes Try.prog) (ds ++ gs)).all (· ≤ reachBytes) = true := hsz0
 have hval : ∀ (j : Nat) t v, Try.f9.params[j]? = some t → args[j]? = some v → Value.okWide Try.prog W .any base t v := hval0
 have hW' := hW
 obtain ⟨p, q, hA0, hV, rfl, hfz, hnd⟩ := hW
 have hA : DataW.TrodAll enc Try.prog W 0 (fun _ => true) true Try.f9.params.toList args.toList ds p := hA0
 rw [Try.params9] at hA hval hsz
 obtain ⟨v0, vs0, d0, ds0, p0, q0, hargs, rfl, rfl, h0, r0⟩ := trodAll_cons hA
 obtain ⟨rfl, rfl, rfl⟩ := trodAll_nil r0
 obtain rfl : args = #[v0] := by cases args; simp_all
 obtain ⟨rfl, rfl⟩ := trodVars_none hV
 have k0 := h0
 have lt0 : ∀ x ∈ p0, x.block < W.heap.size := by obtain ⟨m, hm⟩ := k0; exact DataW.trod_lt m _ _ _ hm
 obtain ⟨x0, hx0, y0⟩ := opn68.param hsz (j := 0) rfl rfl h0
 obtain ⟨cs0, rfl, _⟩ := okWide_struct Try.underlying68 (hval 0 68 v0 rfl rfl)
 have hx0 := k68_open (show k68.K W x0 cs0.toList from hx0)
 obtain ⟨A0_1, c0_1, A0_2, c0_2, A0_10, c0_10, A0_11, c0_11, he0, hc0_1, hr0_1, hc0_2, hr0_2, hc0_10, hr0_10, hc0_11, hr0_11⟩ := hx0
 obtain rfl : cs0 = #[.int .i64 x0.f0.f0, .slice A0_1 x0.f0.f1.length c0_1, .slice A0_2 x0.f0.f2.length c0_2, .int .i64 x0.f0.f3, .int .u64 x0.f0.f4, .int .i64 x0.f1, .int .i64 x0.f2, .int .u64 x0.f3, .int .i64 x0.f4, .int .i64 x0.f5.f0, .slice A0_10 x0.f5.f1.length c0_10, .slice A0_11 x0.f5.f2.length c0_11, .int .i64 x0.f5.f3, .int .u64 x0.f5.f4] := by cases cs0; simp_all
 clear hA0 hval0 hsz0 hsz
 obtain ⟨kk, hk⟩ := stanchionlaw17_SessionActs.pure x0 y0
 refine (stanchionlaw17_SessionActs.calls kk x0.f0.f0 _ _ x0.f0.f1 _ _ x0.f0.f2 x0.f0.f3 x0.f0.f4 x0.f1 x0.f2 x0.f3 x0.f4 x0.f5.f0 _ _ x0.f5.f1 _ _ x0.f5.f2 x0.f5.f3 x0.f5.f4 true W hr0_1 hc0_1 hr0_2 hc0_2 hr0_10 hc0_10 hr0_11 hc0_11 hk rfl).mono fun e W' ⟨he, bel0⟩ => ?_
 have bel : Below W.heap.size W W' := bel0
 subst he
 exact ⟨_, rfl, _, _, _, [], _, [], hW', trodAll_mk1 (shut_bool Try.underlying4 _), (trodAll_cons_mk (Below.trod laidOut (by kernel_rfl) (of_decide_eq_true (by kernel_rfl)) k0 bel lt0) trodAll_mk0), rfl, bel.frame _, fun h => by cases h⟩
theorem over : Rows.sessionActsRow.holds Try.pinned (OpenSpec.ofChange Rows.sessionActsSpec) :=
 OpenClaim.holds_of_wide 9 Try.f9 rfl rfl rfl rfl rfl rfl rfl ⟨rfl, rfl, rfl, rfl, rfl⟩ rfl rfl rfl rfl rfl (by kernel_rfl) Try.func9 (by kernel_rfl)
  (of_decide_eq_true (by kernel_rfl)) (by unfold Func.isWrapper; first | (rw [if_pos (by decide +kernel)]; kernel_rfl) | (rw [if_neg (by decide +kernel)]; exact ⟨rfl, rfl⟩))
  (fun os started H enc _ => lifted os started H enc)
theorem proved : Rows.SessionActsSaid := over
end Go.Proofs.Ytnpmjboofmdflaa.sessionActs
namespace Go.Proofs.Ytnpmjboofmdflaa
/-- The row, under a short name, for the claim. -/
theorem sessionActs_holds : Rows.SessionActsSaid := sessionActs.proved
end Go.Proofs.Ytnpmjboofmdflaa
