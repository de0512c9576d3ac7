-- Made by a program of this workplace out of the translation (wip/tools in the repo). Not trusted: Lean checks it.
import Derived.Test.YthcdlgphabaidaaRows
import Derived.Test.YthcdlgphabaidaaPureBatchWrites
import Derived.Test.YthcdlgphabaidaaOpn
import Derived.Test.YthcdlgphabaidaaPBx13
import Derived.WalkKit
import Derived.ProofKit
import Derived.OpenShut
import Derived.ShutString
import Derived.ChangeOld
import Derived.Below
import Derived.SizedLaws
import Derived.Carry
namespace Go.Proofs.Ythcdlgphabaidaa.batchWrites
open Go.ChangeShapes Go.WideShapes Go.ChangeAt Go.RowKit Go.Proofs.Ythcdlgphabaidaa.PB Go.Proofs.Ythcdlgphabaidaa.Opn Go.Proofs.YthcdlgphabaidaaW.PrintWords Go.Proofs.YthcdlgphabaidaaW.PrintLast Go.Proofs.YthcdlgphabaidaaW.PrintMore
open Go.ChangeMaps (open_string shut_string)
theorem own : ownKnob Try.prog.godebug = none := by kernel_rfl
theorem laidOut : laidOutB Try.prog = true := by kernel_rfl
theorem opn9 : Opn Try.prog 9 Kd.string g9 := Opn.str Try.underlying9
theorem opn68 : Opn Try.prog 68 k68 g68 := by
  refine Opn.struct Try.underlying68 (by kernel_rfl) ?_
  show OpnF Try.prog _ 0 (Kd.iso (Kd.pair Kd.string Kd.string) (fun x : S68 => (x.f0, x.f1))) (fun y => (fun z : ((ByteArray) × (ByteArray)) => g9 z.1 ∧ g9 z.2) ((fun x : S68 => (x.f0, x.f1)) y))
  refine OpnF.iso (g := (fun z : ((ByteArray) × (ByteArray)) => g9 z.1 ∧ g9 z.2)) (fun x : ((ByteArray) × (ByteArray)) => (⟨x.1, x.2⟩ : S68)) (fun _ => rfl) ?_
  refine OpnF.cons (ga := g9) (gb := g9) rfl (by kernel_rfl) opn9 ?_
  exact OpnF.one rfl (by kernel_rfl) opn9
theorem opn22 : Opn Try.prog 22 (Kd.slice 68 k68) g22 := Opn.slice Try.underlying22 (by kernel_rfl) (by kernel_rfl) opn68
theorem opn24 : Opn Try.prog 24 k24 g24 := by
  refine Opn.struct Try.underlying24 (by kernel_rfl) ?_
  show OpnF Try.prog _ 0 (Kd.iso (Kd.pair (Kd.slice 68 k68) (Kd.slice 68 k68)) (fun x : S24 => (x.f0, x.f1))) (fun y => (fun z : ((List (S68)) × (List (S68))) => g22 z.1 ∧ g22 z.2) ((fun x : S24 => (x.f0, x.f1)) y))
  refine OpnF.iso (g := (fun z : ((List (S68)) × (List (S68))) => g22 z.1 ∧ g22 z.2)) (fun x : ((List (S68)) × (List (S68))) => (⟨x.1, x.2⟩ : S24)) (fun _ => rfl) ?_
  refine OpnF.cons (ga := g22) (gb := g22) rfl (by kernel_rfl) opn22 ?_
  exact OpnF.one rfl (by kernel_rfl) opn22
theorem opn3 : Opn Try.prog 3 (Kd.int .i64) g3 := Opn.int Try.underlying3
theorem opn4 : Opn Try.prog 4 Kd.bool g4 := Opn.bool Try.underlying4
theorem opn54 : Opn Try.prog 54 k54 g54 := by
  refine Opn.struct Try.underlying54 (by kernel_rfl) ?_
  show OpnF Try.prog _ 0 (Kd.iso (Kd.pair Kd.string (Kd.pair Kd.string Kd.bool)) (fun x : S54 => (x.f0, x.f1, x.f2))) (fun y => (fun z : ((ByteArray) × ((ByteArray) × (Bool))) => g9 z.1 ∧ (fun z : ((ByteArray) × (Bool)) => g9 z.1 ∧ g4 z.2) z.2) ((fun x : S54 => (x.f0, x.f1, x.f2)) y))
  refine OpnF.iso (g := (fun z : ((ByteArray) × ((ByteArray) × (Bool))) => g9 z.1 ∧ (fun z : ((ByteArray) × (Bool)) => g9 z.1 ∧ g4 z.2) z.2)) (fun x : ((ByteArray) × ((ByteArray) × (Bool))) => (⟨x.1, x.2.1, x.2.2⟩ : S54)) (fun _ => rfl) ?_
  refine OpnF.cons (ga := g9) (gb := (fun z : ((ByteArray) × (Bool)) => g9 z.1 ∧ g4 z.2)) rfl (by kernel_rfl) opn9 ?_
  refine OpnF.cons (ga := g9) (gb := g4) rfl (by kernel_rfl) opn9 ?_
  exact OpnF.one rfl (by kernel_rfl) opn4
theorem opn35 : Opn Try.prog 35 (Kd.slice 54 k54) g35 := Opn.slice Try.underlying35 (by kernel_rfl) (by kernel_rfl) opn54
theorem opn37 : Opn Try.prog 37 k37 g37 := by
  refine Opn.struct Try.underlying37 (by kernel_rfl) ?_
  show OpnF Try.prog _ 0 (Kd.iso (Kd.pair (Kd.int .i64) (Kd.pair Kd.string (Kd.slice 54 k54))) (fun x : S37 => (x.f0, x.f1, x.f2))) (fun y => (fun z : ((Int) × ((ByteArray) × (List (S54)))) => g3 z.1 ∧ (fun z : ((ByteArray) × (List (S54))) => g9 z.1 ∧ g35 z.2) z.2) ((fun x : S37 => (x.f0, x.f1, x.f2)) y))
  refine OpnF.iso (g := (fun z : ((Int) × ((ByteArray) × (List (S54)))) => g3 z.1 ∧ (fun z : ((ByteArray) × (List (S54))) => g9 z.1 ∧ g35 z.2) z.2)) (fun x : ((Int) × ((ByteArray) × (List (S54)))) => (⟨x.1, x.2.1, x.2.2⟩ : S37)) (fun _ => rfl) ?_
  refine OpnF.cons (ga := g3) (gb := (fun z : ((ByteArray) × (List (S54))) => g9 z.1 ∧ g35 z.2)) rfl (by kernel_rfl) opn3 ?_
  refine OpnF.cons (ga := g9) (gb := g35) rfl (by kernel_rfl) opn9 ?_
  exact OpnF.one rfl (by kernel_rfl) opn35
set_option maxRecDepth 100000 in
theorem lifted (os : Os) (started : os.Started) (H : Type) (enc : TypeId × Value → H) :
    ReturnsInHanded {} Try.checked os 7 .any (Rows.batchWritesSpec.pre6 enc Try.prog Try.f7 Rows.batchWritesRow.domain false) (Rows.batchWritesSpec.post enc Try.prog Try.f7 false true false false) := by
  refine returnsInHanded_of_change_sized (C := Try.checked) own started (by kernel_rfl) Try.func7
    (ChangeSpec.witness6 (enc := enc) (C := Try.checked) false ⟨#[], #[(.agg #[(.slice none 0 0), (.slice none 0 0)]), (.agg #[(.int .i64 0), (.string ByteArray.empty), (.slice none 0 0)]), .int .i64 0], []⟩ 8 (by kernel_rfl) (by kernel_rfl) (by kernel_rfl) (by kernel_rfl)) ?_
  intro W base args ds gs before hval0 hW hcnd hsz0 _
  have hsz : (DataW.weightsEach Try.prog (Try.f7.params.toList ++ Rows.batchWritesSpec.plain.varTypes Try.prog) (ds ++ gs)).all (· ≤ reachBytes) = true := hsz0
  have hval : ∀ (j : Nat) t v, Try.f7.params[j]? = some t → args[j]? = some v → Value.okWide Try.prog W .any base t v := hval0
  have hW' := hW
  obtain ⟨p, q, hA0, hV, rfl, hfz, hnd⟩ := hW
  have hA : DataW.TrodAll enc Try.prog W 0 (fun _ => true) true Try.f7.params.toList args.toList ds p := hA0
  rw [Try.params7] at hA hval hsz
  obtain ⟨v0, vs0, d0, ds0, p0, q0, hargs, rfl, rfl, h0, r0⟩ := trodAll_cons hA
  obtain ⟨v1, vs1, d1, ds1, p1, q1, rfl, rfl, rfl, h1, r1⟩ := trodAll_cons r0
  obtain ⟨v2, vs2, d2, ds2, p2, q2, rfl, rfl, rfl, h2, r2⟩ := trodAll_cons r1
  obtain ⟨rfl, rfl, rfl⟩ := trodAll_nil r2
  obtain rfl : args = #[v0, v1, v2] := by cases args; simp_all
  obtain ⟨rfl, rfl⟩ := trodVars_none hV
  have k0 := h0
  have lt0 : ∀ x ∈ p0, x.block < W.heap.size := by obtain ⟨m, hm⟩ := k0; exact DataW.trod_lt m _ _ _ hm
  obtain ⟨x0, hx0, y0⟩ := opn24.param hsz (j := 0) rfl rfl h0
  obtain ⟨cs0, rfl, _⟩ := okWide_struct Try.underlying24 (hval 0 24 v0 rfl rfl)
  have hx0 := k24_open (show k24.K W x0 cs0.toList from hx0)
  obtain ⟨A0_0, c0_0, A0_1, c0_1, he0, hc0_0, hr0_0, hc0_1, hr0_1⟩ := hx0
  obtain rfl : cs0 = #[.slice A0_0 x0.f0.length c0_0, .slice A0_1 x0.f1.length c0_1] := by cases cs0; simp_all
  have k1 := h1
  have lt1 : ∀ x ∈ p1, x.block < W.heap.size := by obtain ⟨m, hm⟩ := k1; exact DataW.trod_lt m _ _ _ hm
  obtain ⟨x1, hx1, y1⟩ := opn37.param hsz (j := 1) rfl rfl h1
  obtain ⟨cs1, rfl, _⟩ := okWide_struct Try.underlying37 (hval 1 37 v1 rfl rfl)
  have hx1 := k37_open (show k37.K W x1 cs1.toList from hx1)
  obtain ⟨A1_2, c1_2, he1, hc1_2, hr1_2⟩ := hx1
  obtain rfl : cs1 = #[.int .i64 x1.f0, .string x1.f1, .slice A1_2 x1.f2.length c1_2] := by cases cs1; simp_all
  have k2 := h2
  have lt2 : ∀ x ∈ p2, x.block < W.heap.size := by obtain ⟨m, hm⟩ := k2; exact DataW.trod_lt m _ _ _ hm
  obtain ⟨x2, hx2, y2⟩ := opn3.param hsz (j := 2) rfl rfl h2
  obtain ⟨n2, rfl⟩ := okWide_int Try.underlying3 (hval 2 3 v2 rfl rfl)
  have e2 : n2 = x2 := by cases (show [Value.int .i64 n2] = [Value.int .i64 x2] from hx2); rfl
  subst e2
  clear hA0 hval0 hsz0 hsz
  obtain ⟨kk, hk⟩ := stanchionlaw07_BatchWrites.pure x0 x1 n2 y0 y1 y2
  refine (stanchionlaw07_BatchWrites.calls kk _ _ x0.f0 _ _ x0.f1 x1.f0 x1.f1 _ _ x1.f2 n2 true W hr0_0 hc0_0 hr0_1 hc0_1 hr1_2 hc1_2 hk rfl).mono fun e W' ⟨he, bel0⟩ => ?_
  have bel : Below W.heap.size W W' := bel0
  subst he
  exact ⟨_, rfl, _, _, _, [], _, [], hW', trodAll_mk1 (shut_bool Try.underlying4 _), (trodAll_cons_mk (Below.trod laidOut (by kernel_rfl) (of_decide_eq_true (by kernel_rfl)) k0 bel lt0) (trodAll_cons_mk (Below.trod laidOut (by kernel_rfl) (of_decide_eq_true (by kernel_rfl)) k1 bel lt1) (trodAll_cons_mk (Below.trod laidOut (by kernel_rfl) (of_decide_eq_true (by kernel_rfl)) k2 bel lt2) trodAll_mk0))), rfl, bel.frame _, fun h => by cases h⟩
theorem over : Rows.batchWritesRow.holds Try.pinned (OpenSpec.ofChange Rows.batchWritesSpec) :=
  OpenClaim.holds_of_wide 7 Try.f7 rfl rfl rfl rfl rfl rfl rfl ⟨rfl, rfl, rfl, rfl, rfl⟩ rfl rfl rfl rfl rfl (by kernel_rfl) Try.func7 (by kernel_rfl)
    (of_decide_eq_true (by kernel_rfl)) (by unfold Func.isWrapper; first | (rw [if_pos (by decide +kernel)]; kernel_rfl) | (rw [if_neg (by decide +kernel)]; exact ⟨rfl, rfl⟩))
    (fun os started H enc _ => lifted os started H enc)
theorem proved : Rows.BatchWritesSaid := over
end Go.Proofs.Ythcdlgphabaidaa.batchWrites
namespace Go.Proofs.Ythcdlgphabaidaa
/-- The row, under a short name, for the claim. -/
theorem batchWrites_holds : Rows.BatchWritesSaid := batchWrites.proved
end Go.Proofs.Ythcdlgphabaidaa
