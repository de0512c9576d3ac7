-- Made by a program of this workplace out of the translation (wip/tools in the repo). Not trusted: Lean checks it.
import Derived.Test.YtlacmlceedkfoaaRows
import Derived.Test.YtlacmlceedkfoaaPureAuditOwn
import Derived.Test.YtlacmlceedkfoaaOpnU
import Derived.Test.YtlacmlceedkfoaaPCx10
import Derived.WalkKit
import Derived.ProofKit
import Derived.OpenShut
import Derived.ShutString
import Derived.ChangeOld
import Derived.Below
import Derived.SizedLaws
import Derived.Carry
import Derived.Deep.CondSized
namespace Go.Proofs.Ytlacmlceedkfoaa.auditOwn
open Go.ChangeShapes Go.WideShapes Go.ChangeAt Go.RowKit Go.Proofs.Ytlacmlceedkfoaa.PC Go.Proofs.Ytlacmlceedkfoaa.OpnU Go.Proofs.YtlacmlceedkfoaaW.PrintWords Go.Proofs.YtlacmlceedkfoaaW.PrintLast Go.Proofs.YtlacmlceedkfoaaW.PrintMore
open Go.ChangeMaps (open_string shut_string)
theorem own : ownKnob Try.prog.godebug = none := by kernel_rfl
theorem laidOut : laidOutB Try.prog = true := by kernel_rfl
theorem opn9 : Opn Try.prog 9 Kd.string g9 b9 := Opn.str Try.underlying9
theorem opn59 : Opn Try.prog 59 k59 g59 b59 := by
  refine Opn.struct Try.underlying59 (by kernel_rfl) ?_
  show OpnF Try.prog _ 0 (Kd.iso (Kd.pair Kd.string Kd.string) (fun x : S59 => (x.f0, x.f1))) (fun y => (fun z : ((ByteArray) × (ByteArray)) => g9 z.1 ∧ g9 z.2) ((fun x : S59 => (x.f0, x.f1)) y)) (fun y => (fun z : ((ByteArray) × (ByteArray)) => b9 z.1 + b9 z.2) ((fun x : S59 => (x.f0, x.f1)) y))
  refine OpnF.iso (g := (fun z : ((ByteArray) × (ByteArray)) => g9 z.1 ∧ g9 z.2)) (b := (fun z : ((ByteArray) × (ByteArray)) => b9 z.1 + b9 z.2)) (fun x : ((ByteArray) × (ByteArray)) => (⟨x.1, x.2⟩ : S59)) (fun _ => rfl) ?_
  refine OpnF.cons (ga := g9) (gb := g9) (ba := b9) (bb := b9) rfl (by kernel_rfl) opn9 ?_
  exact OpnF.one rfl (by kernel_rfl) opn9
theorem opn23 : Opn Try.prog 23 (Kd.slice 59 k59) g23 b23 := Opn.slice Try.underlying23 (by kernel_rfl) (by kernel_rfl) opn59
theorem opn3 : Opn Try.prog 3 (Kd.int .i64) g3 b3 := Opn.int Try.underlying3
theorem opn25 : Opn Try.prog 25 k25 g25 b25 := by
  refine Opn.struct Try.underlying25 (by kernel_rfl) ?_
  show OpnF Try.prog _ 0 (Kd.iso (Kd.pair (Kd.int .i64) (Kd.pair Kd.string (Kd.pair Kd.string (Kd.pair Kd.string (Kd.pair Kd.string (Kd.int .i64)))))) (fun x : S25 => (x.f0, x.f1, x.f2, x.f3, x.f4, x.f5))) (fun y => (fun z : ((Int) × ((ByteArray) × ((ByteArray) × ((ByteArray) × ((ByteArray) × (Int)))))) => g3 z.1 ∧ (fun z : ((ByteArray) × ((ByteArray) × ((ByteArray) × ((ByteArray) × (Int))))) => g9 z.1 ∧ (fun z : ((ByteArray) × ((ByteArray) × ((ByteArray) × (Int)))) => g9 z.1 ∧ (fun z : ((ByteArray) × ((ByteArray) × (Int))) => g9 z.1 ∧ (fun z : ((ByteArray) × (Int)) => g9 z.1 ∧ g3 z.2) z.2) z.2) z.2) z.2) ((fun x : S25 => (x.f0, x.f1, x.f2, x.f3, x.f4, x.f5)) y)) (fun y => (fun z : ((Int) × ((ByteArray) × ((ByteArray) × ((ByteArray) × ((ByteArray) × (Int)))))) => b3 z.1 + (fun z : ((ByteArray) × ((ByteArray) × ((ByteArray) × ((ByteArray) × (Int))))) => b9 z.1 + (fun z : ((ByteArray) × ((ByteArray) × ((ByteArray) × (Int)))) => b9 z.1 + (fun z : ((ByteArray) × ((ByteArray) × (Int))) => b9 z.1 + (fun z : ((ByteArray) × (Int)) => b9 z.1 + b3 z.2) z.2) z.2) z.2) z.2) ((fun x : S25 => (x.f0, x.f1, x.f2, x.f3, x.f4, x.f5)) y))
  refine OpnF.iso (g := (fun z : ((Int) × ((ByteArray) × ((ByteArray) × ((ByteArray) × ((ByteArray) × (Int)))))) => g3 z.1 ∧ (fun z : ((ByteArray) × ((ByteArray) × ((ByteArray) × ((ByteArray) × (Int))))) => g9 z.1 ∧ (fun z : ((ByteArray) × ((ByteArray) × ((ByteArray) × (Int)))) => g9 z.1 ∧ (fun z : ((ByteArray) × ((ByteArray) × (Int))) => g9 z.1 ∧ (fun z : ((ByteArray) × (Int)) => g9 z.1 ∧ g3 z.2) z.2) z.2) z.2) z.2)) (b := (fun z : ((Int) × ((ByteArray) × ((ByteArray) × ((ByteArray) × ((ByteArray) × (Int)))))) => b3 z.1 + (fun z : ((ByteArray) × ((ByteArray) × ((ByteArray) × ((ByteArray) × (Int))))) => b9 z.1 + (fun z : ((ByteArray) × ((ByteArray) × ((ByteArray) × (Int)))) => b9 z.1 + (fun z : ((ByteArray) × ((ByteArray) × (Int))) => b9 z.1 + (fun z : ((ByteArray) × (Int)) => b9 z.1 + b3 z.2) z.2) z.2) z.2) z.2)) (fun x : ((Int) × ((ByteArray) × ((ByteArray) × ((ByteArray) × ((ByteArray) × (Int)))))) => (⟨x.1, x.2.1, x.2.2.1, x.2.2.2.1, x.2.2.2.2.1, x.2.2.2.2.2⟩ : S25)) (fun _ => rfl) ?_
  refine OpnF.cons (ga := g3) (gb := (fun z : ((ByteArray) × ((ByteArray) × ((ByteArray) × ((ByteArray) × (Int))))) => g9 z.1 ∧ (fun z : ((ByteArray) × ((ByteArray) × ((ByteArray) × (Int)))) => g9 z.1 ∧ (fun z : ((ByteArray) × ((ByteArray) × (Int))) => g9 z.1 ∧ (fun z : ((ByteArray) × (Int)) => g9 z.1 ∧ g3 z.2) z.2) z.2) z.2)) (ba := b3) (bb := (fun z : ((ByteArray) × ((ByteArray) × ((ByteArray) × ((ByteArray) × (Int))))) => b9 z.1 + (fun z : ((ByteArray) × ((ByteArray) × ((ByteArray) × (Int)))) => b9 z.1 + (fun z : ((ByteArray) × ((ByteArray) × (Int))) => b9 z.1 + (fun z : ((ByteArray) × (Int)) => b9 z.1 + b3 z.2) z.2) z.2) z.2)) rfl (by kernel_rfl) opn3 ?_
  refine OpnF.cons (ga := g9) (gb := (fun z : ((ByteArray) × ((ByteArray) × ((ByteArray) × (Int)))) => g9 z.1 ∧ (fun z : ((ByteArray) × ((ByteArray) × (Int))) => g9 z.1 ∧ (fun z : ((ByteArray) × (Int)) => g9 z.1 ∧ g3 z.2) z.2) z.2)) (ba := b9) (bb := (fun z : ((ByteArray) × ((ByteArray) × ((ByteArray) × (Int)))) => b9 z.1 + (fun z : ((ByteArray) × ((ByteArray) × (Int))) => b9 z.1 + (fun z : ((ByteArray) × (Int)) => b9 z.1 + b3 z.2) z.2) z.2)) rfl (by kernel_rfl) opn9 ?_
  refine OpnF.cons (ga := g9) (gb := (fun z : ((ByteArray) × ((ByteArray) × (Int))) => g9 z.1 ∧ (fun z : ((ByteArray) × (Int)) => g9 z.1 ∧ g3 z.2) z.2)) (ba := b9) (bb := (fun z : ((ByteArray) × ((ByteArray) × (Int))) => b9 z.1 + (fun z : ((ByteArray) × (Int)) => b9 z.1 + b3 z.2) z.2)) rfl (by kernel_rfl) opn9 ?_
  refine OpnF.cons (ga := g9) (gb := (fun z : ((ByteArray) × (Int)) => g9 z.1 ∧ g3 z.2)) (ba := b9) (bb := (fun z : ((ByteArray) × (Int)) => b9 z.1 + b3 z.2)) rfl (by kernel_rfl) opn9 ?_
  refine OpnF.cons (ga := g9) (gb := g3) (ba := b9) (bb := b3) rfl (by kernel_rfl) opn9 ?_
  exact OpnF.one rfl (by kernel_rfl) opn3
theorem opn4 : Opn Try.prog 4 Kd.bool g4 b4 := Opn.bool Try.underlying4
theorem opn27 : Opn Try.prog 27 k27 g27 b27 := by
  refine Opn.struct Try.underlying27 (by kernel_rfl) ?_
  show OpnF Try.prog _ 0 (Kd.iso (Kd.pair k25 (Kd.pair Kd.string (Kd.pair Kd.bool (Kd.slice 59 k59)))) (fun x : S27 => (x.f0, x.f1, x.f2, x.f3))) (fun y => (fun z : ((S25) × ((ByteArray) × ((Bool) × (List (S59))))) => g25 z.1 ∧ (fun z : ((ByteArray) × ((Bool) × (List (S59)))) => g9 z.1 ∧ (fun z : ((Bool) × (List (S59))) => g4 z.1 ∧ g23 z.2) z.2) z.2) ((fun x : S27 => (x.f0, x.f1, x.f2, x.f3)) y)) (fun y => (fun z : ((S25) × ((ByteArray) × ((Bool) × (List (S59))))) => b25 z.1 + (fun z : ((ByteArray) × ((Bool) × (List (S59)))) => b9 z.1 + (fun z : ((Bool) × (List (S59))) => b4 z.1 + b23 z.2) z.2) z.2) ((fun x : S27 => (x.f0, x.f1, x.f2, x.f3)) y))
  refine OpnF.iso (g := (fun z : ((S25) × ((ByteArray) × ((Bool) × (List (S59))))) => g25 z.1 ∧ (fun z : ((ByteArray) × ((Bool) × (List (S59)))) => g9 z.1 ∧ (fun z : ((Bool) × (List (S59))) => g4 z.1 ∧ g23 z.2) z.2) z.2)) (b := (fun z : ((S25) × ((ByteArray) × ((Bool) × (List (S59))))) => b25 z.1 + (fun z : ((ByteArray) × ((Bool) × (List (S59)))) => b9 z.1 + (fun z : ((Bool) × (List (S59))) => b4 z.1 + b23 z.2) z.2) z.2)) (fun x : ((S25) × ((ByteArray) × ((Bool) × (List (S59))))) => (⟨x.1, x.2.1, x.2.2.1, x.2.2.2⟩ : S27)) (fun _ => rfl) ?_
  refine OpnF.cons (ga := g25) (gb := (fun z : ((ByteArray) × ((Bool) × (List (S59)))) => g9 z.1 ∧ (fun z : ((Bool) × (List (S59))) => g4 z.1 ∧ g23 z.2) z.2)) (ba := b25) (bb := (fun z : ((ByteArray) × ((Bool) × (List (S59)))) => b9 z.1 + (fun z : ((Bool) × (List (S59))) => b4 z.1 + b23 z.2) z.2)) rfl (by kernel_rfl) opn25 ?_
  refine OpnF.cons (ga := g9) (gb := (fun z : ((Bool) × (List (S59))) => g4 z.1 ∧ g23 z.2)) (ba := b9) (bb := (fun z : ((Bool) × (List (S59))) => b4 z.1 + b23 z.2)) rfl (by kernel_rfl) opn9 ?_
  refine OpnF.cons (ga := g4) (gb := g23) (ba := b4) (bb := b23) rfl (by kernel_rfl) opn4 ?_
  exact OpnF.one rfl (by kernel_rfl) opn23
theorem opn28 : Opn Try.prog 28 (Kd.slice 27 k27) g28 b28 := Opn.slice Try.underlying28 (by kernel_rfl) (by kernel_rfl) opn27
theorem opn52 : Opn Try.prog 52 k52 g52 b52 := by
  refine Opn.struct Try.underlying52 (by kernel_rfl) ?_
  show OpnF Try.prog _ 0 (Kd.iso (Kd.pair (Kd.slice 59 k59) (Kd.pair (Kd.slice 27 k27) (Kd.pair Kd.string (Kd.pair Kd.string Kd.bool)))) (fun x : S52 => (x.f0, x.f1, x.f2, x.f3, x.f4))) (fun y => (fun z : ((List (S59)) × ((List (S27)) × ((ByteArray) × ((ByteArray) × (Bool))))) => g23 z.1 ∧ (fun z : ((List (S27)) × ((ByteArray) × ((ByteArray) × (Bool)))) => g28 z.1 ∧ (fun z : ((ByteArray) × ((ByteArray) × (Bool))) => g9 z.1 ∧ (fun z : ((ByteArray) × (Bool)) => g9 z.1 ∧ g4 z.2) z.2) z.2) z.2) ((fun x : S52 => (x.f0, x.f1, x.f2, x.f3, x.f4)) y)) (fun y => (fun z : ((List (S59)) × ((List (S27)) × ((ByteArray) × ((ByteArray) × (Bool))))) => b23 z.1 + (fun z : ((List (S27)) × ((ByteArray) × ((ByteArray) × (Bool)))) => b28 z.1 + (fun z : ((ByteArray) × ((ByteArray) × (Bool))) => b9 z.1 + (fun z : ((ByteArray) × (Bool)) => b9 z.1 + b4 z.2) z.2) z.2) z.2) ((fun x : S52 => (x.f0, x.f1, x.f2, x.f3, x.f4)) y))
  refine OpnF.iso (g := (fun z : ((List (S59)) × ((List (S27)) × ((ByteArray) × ((ByteArray) × (Bool))))) => g23 z.1 ∧ (fun z : ((List (S27)) × ((ByteArray) × ((ByteArray) × (Bool)))) => g28 z.1 ∧ (fun z : ((ByteArray) × ((ByteArray) × (Bool))) => g9 z.1 ∧ (fun z : ((ByteArray) × (Bool)) => g9 z.1 ∧ g4 z.2) z.2) z.2) z.2)) (b := (fun z : ((List (S59)) × ((List (S27)) × ((ByteArray) × ((ByteArray) × (Bool))))) => b23 z.1 + (fun z : ((List (S27)) × ((ByteArray) × ((ByteArray) × (Bool)))) => b28 z.1 + (fun z : ((ByteArray) × ((ByteArray) × (Bool))) => b9 z.1 + (fun z : ((ByteArray) × (Bool)) => b9 z.1 + b4 z.2) z.2) z.2) z.2)) (fun x : ((List (S59)) × ((List (S27)) × ((ByteArray) × ((ByteArray) × (Bool))))) => (⟨x.1, x.2.1, x.2.2.1, x.2.2.2.1, x.2.2.2.2⟩ : S52)) (fun _ => rfl) ?_
  refine OpnF.cons (ga := g23) (gb := (fun z : ((List (S27)) × ((ByteArray) × ((ByteArray) × (Bool)))) => g28 z.1 ∧ (fun z : ((ByteArray) × ((ByteArray) × (Bool))) => g9 z.1 ∧ (fun z : ((ByteArray) × (Bool)) => g9 z.1 ∧ g4 z.2) z.2) z.2)) (ba := b23) (bb := (fun z : ((List (S27)) × ((ByteArray) × ((ByteArray) × (Bool)))) => b28 z.1 + (fun z : ((ByteArray) × ((ByteArray) × (Bool))) => b9 z.1 + (fun z : ((ByteArray) × (Bool)) => b9 z.1 + b4 z.2) z.2) z.2)) rfl (by kernel_rfl) opn23 ?_
  refine OpnF.cons (ga := g28) (gb := (fun z : ((ByteArray) × ((ByteArray) × (Bool))) => g9 z.1 ∧ (fun z : ((ByteArray) × (Bool)) => g9 z.1 ∧ g4 z.2) z.2)) (ba := b28) (bb := (fun z : ((ByteArray) × ((ByteArray) × (Bool))) => b9 z.1 + (fun z : ((ByteArray) × (Bool)) => b9 z.1 + b4 z.2) z.2)) rfl (by kernel_rfl) opn28 ?_
  refine OpnF.cons (ga := g9) (gb := (fun z : ((ByteArray) × (Bool)) => g9 z.1 ∧ g4 z.2)) (ba := b9) (bb := (fun z : ((ByteArray) × (Bool)) => b9 z.1 + b4 z.2)) rfl (by kernel_rfl) opn9 ?_
  refine OpnF.cons (ga := g9) (gb := g4) (ba := b9) (bb := b4) rfl (by kernel_rfl) opn9 ?_
  exact OpnF.one rfl (by kernel_rfl) opn4
theorem hq_int (k : IntKind) : Kd.Heap (Kd.int k) := ⟨fun _ h => h⟩
theorem hq_bool : Kd.Heap Kd.bool := ⟨fun _ h => h⟩
theorem hq_string : Kd.Heap Kd.string := ⟨fun _ h => h⟩
theorem hq_slice {α : Type} {d : Kd α} (e : Nat) (hd : Kd.Heap d) : Kd.Heap (Kd.slice e d) := ⟨by
  rintro w w1 x cs hb ⟨A, c, rfl, hl, hr⟩
  exact ⟨A, c, rfl, hl, hd.C hb hr⟩⟩
theorem hq_pair {α β : Type} {a : Kd α} {b : Kd β} (ha : Kd.Heap a) (hb' : Kd.Heap b) : Kd.Heap (Kd.pair a b) := ⟨by
  rintro w w1 x cs hb ⟨c0, c1, rfl, h0, h1⟩
  exact ⟨c0, c1, rfl, ha.K hb h0, hb'.K hb h1⟩⟩
theorem hq_iso {α β : Type} {d : Kd α} (f : β → α) (hd : Kd.Heap d) : Kd.Heap (Kd.iso d f) := ⟨fun hb h => hd.K hb h⟩
theorem hq_CF {α : Type} {d : Kd α} {w : World} {A : Option Addr} {n : Nat} {xs : List α} (hd : Kd.Heap d) (h : d.C w A n xs) : Kd.F d w (fun k => k < w.heap.size) A n xs := fun _ hW => hd.C (fun k hlt => hW k hlt hlt) h
set_option maxRecDepth 100000 in
theorem lifted (os : Os) (started : os.Started) (H : Type) (enc : TypeId × Value → H) (F : Stop.Interp) :
    ReturnsInHanded {} Try.checked os 7 .any ((Rows.OpenSpec.upto Rows.auditOwnSpec).pre6 enc Try.prog Try.f7 Rows.auditOwnUptoRow.domain false) (((Rows.OpenSpec.upto Rows.auditOwnSpec).at F).post enc Try.prog Try.f7 false true false false) := by
  refine returnsInHanded_of_cond_sized (C := Try.checked) (s := (Rows.OpenSpec.upto Rows.auditOwnSpec)) (k := Rows.uptoSmall) rfl own started (by kernel_rfl) Try.func7
    (OpenSpec.witness (enc := enc) (C := Try.checked) (s := (Rows.OpenSpec.upto Rows.auditOwnSpec)) (k := Rows.uptoSmall) rfl false ⟨#[], #[(.agg #[(.slice none 0 0), (.slice none 0 0), (.string ByteArray.empty), (.string ByteArray.empty), (.bool false)])], []⟩ 8 (by kernel_rfl) (by kernel_rfl) (by kernel_rfl) (x := ([.agg [.nil, .nil, .lit (.string []), .lit (.string []), .lit (.bool false)]], [], [])) (by kernel_rfl) (by kernel_rfl) (by kernel_rfl)) ?_
  intro W base args ds gs before hval0 hW hcnd hbk0 hsz0 _
  have hsz : (DataW.weightsEach Try.prog (Try.f7.params.toList ++ Rows.auditOwnSpec.plain.varTypes Try.prog) (ds ++ gs)).all (· ≤ reachBytes) = true := hsz0
  have hval : ∀ (j : Nat) t v, Try.f7.params[j]? = some t → args[j]? = some v → Value.okWide Try.prog W .any base t v := hval0
  have hW' := hW
  obtain ⟨p, q, hA0, hV, rfl, hfz, hnd⟩ := hW
  have hA : DataW.TrodAll enc Try.prog W 0 (fun _ => true) true Try.f7.params.toList args.toList ds p := hA0
  rw [Try.params7] at hA hval hsz
  obtain ⟨v0, vs0, d0, ds0, p0, q0, hargs, rfl, rfl, h0, r0⟩ := trodAll_cons hA
  obtain ⟨rfl, rfl, rfl⟩ := trodAll_nil r0
  obtain rfl : args = #[v0] := by cases args; simp_all
  obtain ⟨rfl, rfl⟩ := trodVars_none hV
  have hbk : Rows.uptoBulkAll [d0] ≤ 1048576 := of_decide_eq_true hbk0
  simp only [Rows.uptoBulkAll] at hbk
  have k0 := h0
  have lt0 : ∀ x ∈ p0, x.block < W.heap.size := by obtain ⟨m, hm⟩ := k0; exact DataW.trod_lt m _ _ _ hm
  obtain ⟨x0, hx0, y0, bu0⟩ := opn52.param hsz (j := 0) rfl rfl h0
  obtain ⟨cs0, rfl, _⟩ := okWide_struct Try.underlying52 (hval 0 52 v0 rfl rfl)
  have hx0 := k52_open (show k52.K W x0 cs0.toList from hx0)
  obtain ⟨A0_0, c0_0, A0_1, c0_1, he0, hc0_0, hr0_0, hc0_1, hr0_1⟩ := hx0
  obtain rfl : cs0 = #[.slice A0_0 x0.f0.length c0_0, .slice A0_1 x0.f1.length c0_1, .string x0.f2, .string x0.f3, .bool x0.f4] := by cases cs0; simp_all
  clear hA0 hval0 hsz0 hsz
  obtain ⟨kk, hk⟩ := stanchionlaw19_AuditOwn.pure x0 y0 (by omega)
  refine (stanchionlaw19_AuditOwn.calls kk _ _ x0.f0 (fun k_ => k_ < W.heap.size) _ _ x0.f1 x0.f2 x0.f3 x0.f4 true W hr0_0 hc0_0 (Kd.V_mk hc0_1 (hq_CF (hq_iso _ (hq_pair (hq_iso _ (hq_pair (hq_int .i64) (hq_pair hq_string (hq_pair hq_string (hq_pair hq_string (hq_pair hq_string (hq_int .i64))))))) (hq_pair hq_string (hq_pair hq_bool (hq_slice 59 (hq_iso _ (hq_pair hq_string hq_string))))))) hr0_1)) hk rfl).mono fun e W' ⟨he, bel0⟩ => ?_
  have bel : Below W.heap.size W W' := bel0
  subst he
  exact ⟨_, rfl, _, _, _, [], _, [], hW', trodAll_mk1 (shut_bool Try.underlying4 _), (trodAll_cons_mk (Below.trod laidOut (by kernel_rfl) (of_decide_eq_true (by kernel_rfl)) k0 bel lt0) trodAll_mk0), rfl, bel.frame _, fun h => by cases h⟩
theorem over : Rows.auditOwnUptoRow.holds Try.pinned (Rows.OpenSpec.upto Rows.auditOwnSpec) :=
  OpenClaim.holds_of_cond 7 Try.f7 rfl rfl rfl rfl rfl rfl rfl ⟨rfl, rfl, rfl, rfl, rfl⟩ rfl rfl rfl rfl rfl (by kernel_rfl) Try.func7 (by kernel_rfl)
    (of_decide_eq_true (by kernel_rfl)) (by unfold Func.isWrapper; first | (rw [if_pos (by decide +kernel)]; kernel_rfl) | (rw [if_neg (by decide +kernel)]; exact ⟨rfl, rfl⟩))
    (fun os started H enc _ F => lifted os started H enc F)
theorem proved : Rows.AuditOwnUptoSaid := over
end Go.Proofs.Ytlacmlceedkfoaa.auditOwn
namespace Go.Proofs.Ytlacmlceedkfoaa
/-- The row, under a short name, for the claim. -/
theorem auditOwn_holds : Rows.AuditOwnUptoSaid := auditOwn.proved
end Go.Proofs.Ytlacmlceedkfoaa
