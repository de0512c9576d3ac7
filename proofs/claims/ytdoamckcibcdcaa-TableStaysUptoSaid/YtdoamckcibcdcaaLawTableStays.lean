-- Made by a program of this workplace out of the translation (wip/tools in the repo). Not trusted: Lean checks it.
import Derived.Test.YtdoamckcibcdcaaRows
import Derived.Test.YtdoamckcibcdcaaPureTableStays
import Derived.Test.YtdoamckcibcdcaaOpnU
import Derived.Test.YtdoamckcibcdcaaPBx5
import Derived.WalkKit
import Derived.ProofKit
import Derived.OpenShut
import Derived.ShutString
import Derived.ChangeOld
import Derived.Below
import Derived.SizedLaws
import Derived.Carry
import Derived.Deep.CondSized
namespace Go.Proofs.Ytdoamckcibcdcaa.tableStays
open Go.ChangeShapes Go.WideShapes Go.ChangeAt Go.RowKit Go.Proofs.Ytdoamckcibcdcaa.PB Go.Proofs.Ytdoamckcibcdcaa.OpnU Go.Proofs.YtdoamckcibcdcaaW.PrintWords Go.Proofs.YtdoamckcibcdcaaW.PrintLast Go.Proofs.YtdoamckcibcdcaaW.PrintMore
open Go.ChangeMaps (open_string shut_string)
theorem own : ownKnob Try.prog.godebug = none := by kernel_rfl
theorem laidOut : laidOutB Try.prog = true := by kernel_rfl
theorem opn9 : Opn Try.prog 9 Kd.string g9 b9 := Opn.str Try.underlying9
theorem opn59 : Opn Try.prog 59 k59 g59 b59 := by
  refine Opn.struct Try.underlying59 (by kernel_rfl) ?_
  show OpnF Try.prog _ 0 (Kd.iso (Kd.pair Kd.string Kd.string) (fun x : S59 => (x.f0, x.f1))) (fun y => (fun z : ((ByteArray) × (ByteArray)) => g9 z.1 ∧ g9 z.2) ((fun x : S59 => (x.f0, x.f1)) y)) (fun y => (fun z : ((ByteArray) × (ByteArray)) => b9 z.1 + b9 z.2) ((fun x : S59 => (x.f0, x.f1)) y))
  refine OpnF.iso (g := (fun z : ((ByteArray) × (ByteArray)) => g9 z.1 ∧ g9 z.2)) (b := (fun z : ((ByteArray) × (ByteArray)) => b9 z.1 + b9 z.2)) (fun x : ((ByteArray) × (ByteArray)) => (⟨x.1, x.2⟩ : S59)) (fun _ => rfl) ?_
  refine OpnF.cons (ga := g9) (gb := g9) (ba := b9) (bb := b9) rfl (by kernel_rfl) opn9 ?_
  exact OpnF.one rfl (by kernel_rfl) opn9
theorem opn22 : Opn Try.prog 22 (Kd.slice 59 k59) g22 b22 := Opn.slice Try.underlying22 (by kernel_rfl) (by kernel_rfl) opn59
theorem opn4 : Opn Try.prog 4 Kd.bool g4 b4 := Opn.bool Try.underlying4
theorem opn56 : Opn Try.prog 56 k56 g56 b56 := by
  refine Opn.struct Try.underlying56 (by kernel_rfl) ?_
  show OpnF Try.prog _ 0 (Kd.iso (Kd.pair Kd.string (Kd.pair Kd.string Kd.bool)) (fun x : S56 => (x.f0, x.f1, x.f2))) (fun y => (fun z : ((ByteArray) × ((ByteArray) × (Bool))) => g9 z.1 ∧ (fun z : ((ByteArray) × (Bool)) => g9 z.1 ∧ g4 z.2) z.2) ((fun x : S56 => (x.f0, x.f1, x.f2)) y)) (fun y => (fun z : ((ByteArray) × ((ByteArray) × (Bool))) => b9 z.1 + (fun z : ((ByteArray) × (Bool)) => b9 z.1 + b4 z.2) z.2) ((fun x : S56 => (x.f0, x.f1, x.f2)) y))
  refine OpnF.iso (g := (fun z : ((ByteArray) × ((ByteArray) × (Bool))) => g9 z.1 ∧ (fun z : ((ByteArray) × (Bool)) => g9 z.1 ∧ g4 z.2) z.2)) (b := (fun z : ((ByteArray) × ((ByteArray) × (Bool))) => b9 z.1 + (fun z : ((ByteArray) × (Bool)) => b9 z.1 + b4 z.2) z.2)) (fun x : ((ByteArray) × ((ByteArray) × (Bool))) => (⟨x.1, x.2.1, x.2.2⟩ : S56)) (fun _ => rfl) ?_
  refine OpnF.cons (ga := g9) (gb := (fun z : ((ByteArray) × (Bool)) => g9 z.1 ∧ g4 z.2)) (ba := b9) (bb := (fun z : ((ByteArray) × (Bool)) => b9 z.1 + b4 z.2)) rfl (by kernel_rfl) opn9 ?_
  refine OpnF.cons (ga := g9) (gb := g4) (ba := b9) (bb := b4) rfl (by kernel_rfl) opn9 ?_
  exact OpnF.one rfl (by kernel_rfl) opn4
theorem opn47 : Opn Try.prog 47 (Kd.slice 56 k56) g47 b47 := Opn.slice Try.underlying47 (by kernel_rfl) (by kernel_rfl) opn56
theorem opn53 : Opn Try.prog 53 k53 g53 b53 := by
  refine Opn.struct Try.underlying53 (by kernel_rfl) ?_
  show OpnF Try.prog _ 0 (Kd.iso (Kd.pair (Kd.slice 59 k59) (Kd.pair Kd.string (Kd.pair Kd.string (Kd.pair (Kd.slice 56 k56) (Kd.pair Kd.string Kd.string))))) (fun x : S53 => (x.f0, x.f1, x.f2, x.f3, x.f4, x.f5))) (fun y => (fun z : ((List (S59)) × ((ByteArray) × ((ByteArray) × ((List (S56)) × ((ByteArray) × (ByteArray)))))) => g22 z.1 ∧ (fun z : ((ByteArray) × ((ByteArray) × ((List (S56)) × ((ByteArray) × (ByteArray))))) => g9 z.1 ∧ (fun z : ((ByteArray) × ((List (S56)) × ((ByteArray) × (ByteArray)))) => g9 z.1 ∧ (fun z : ((List (S56)) × ((ByteArray) × (ByteArray))) => g47 z.1 ∧ (fun z : ((ByteArray) × (ByteArray)) => g9 z.1 ∧ g9 z.2) z.2) z.2) z.2) z.2) ((fun x : S53 => (x.f0, x.f1, x.f2, x.f3, x.f4, x.f5)) y)) (fun y => (fun z : ((List (S59)) × ((ByteArray) × ((ByteArray) × ((List (S56)) × ((ByteArray) × (ByteArray)))))) => b22 z.1 + (fun z : ((ByteArray) × ((ByteArray) × ((List (S56)) × ((ByteArray) × (ByteArray))))) => b9 z.1 + (fun z : ((ByteArray) × ((List (S56)) × ((ByteArray) × (ByteArray)))) => b9 z.1 + (fun z : ((List (S56)) × ((ByteArray) × (ByteArray))) => b47 z.1 + (fun z : ((ByteArray) × (ByteArray)) => b9 z.1 + b9 z.2) z.2) z.2) z.2) z.2) ((fun x : S53 => (x.f0, x.f1, x.f2, x.f3, x.f4, x.f5)) y))
  refine OpnF.iso (g := (fun z : ((List (S59)) × ((ByteArray) × ((ByteArray) × ((List (S56)) × ((ByteArray) × (ByteArray)))))) => g22 z.1 ∧ (fun z : ((ByteArray) × ((ByteArray) × ((List (S56)) × ((ByteArray) × (ByteArray))))) => g9 z.1 ∧ (fun z : ((ByteArray) × ((List (S56)) × ((ByteArray) × (ByteArray)))) => g9 z.1 ∧ (fun z : ((List (S56)) × ((ByteArray) × (ByteArray))) => g47 z.1 ∧ (fun z : ((ByteArray) × (ByteArray)) => g9 z.1 ∧ g9 z.2) z.2) z.2) z.2) z.2)) (b := (fun z : ((List (S59)) × ((ByteArray) × ((ByteArray) × ((List (S56)) × ((ByteArray) × (ByteArray)))))) => b22 z.1 + (fun z : ((ByteArray) × ((ByteArray) × ((List (S56)) × ((ByteArray) × (ByteArray))))) => b9 z.1 + (fun z : ((ByteArray) × ((List (S56)) × ((ByteArray) × (ByteArray)))) => b9 z.1 + (fun z : ((List (S56)) × ((ByteArray) × (ByteArray))) => b47 z.1 + (fun z : ((ByteArray) × (ByteArray)) => b9 z.1 + b9 z.2) z.2) z.2) z.2) z.2)) (fun x : ((List (S59)) × ((ByteArray) × ((ByteArray) × ((List (S56)) × ((ByteArray) × (ByteArray)))))) => (⟨x.1, x.2.1, x.2.2.1, x.2.2.2.1, x.2.2.2.2.1, x.2.2.2.2.2⟩ : S53)) (fun _ => rfl) ?_
  refine OpnF.cons (ga := g22) (gb := (fun z : ((ByteArray) × ((ByteArray) × ((List (S56)) × ((ByteArray) × (ByteArray))))) => g9 z.1 ∧ (fun z : ((ByteArray) × ((List (S56)) × ((ByteArray) × (ByteArray)))) => g9 z.1 ∧ (fun z : ((List (S56)) × ((ByteArray) × (ByteArray))) => g47 z.1 ∧ (fun z : ((ByteArray) × (ByteArray)) => g9 z.1 ∧ g9 z.2) z.2) z.2) z.2)) (ba := b22) (bb := (fun z : ((ByteArray) × ((ByteArray) × ((List (S56)) × ((ByteArray) × (ByteArray))))) => b9 z.1 + (fun z : ((ByteArray) × ((List (S56)) × ((ByteArray) × (ByteArray)))) => b9 z.1 + (fun z : ((List (S56)) × ((ByteArray) × (ByteArray))) => b47 z.1 + (fun z : ((ByteArray) × (ByteArray)) => b9 z.1 + b9 z.2) z.2) z.2) z.2)) rfl (by kernel_rfl) opn22 ?_
  refine OpnF.cons (ga := g9) (gb := (fun z : ((ByteArray) × ((List (S56)) × ((ByteArray) × (ByteArray)))) => g9 z.1 ∧ (fun z : ((List (S56)) × ((ByteArray) × (ByteArray))) => g47 z.1 ∧ (fun z : ((ByteArray) × (ByteArray)) => g9 z.1 ∧ g9 z.2) z.2) z.2)) (ba := b9) (bb := (fun z : ((ByteArray) × ((List (S56)) × ((ByteArray) × (ByteArray)))) => b9 z.1 + (fun z : ((List (S56)) × ((ByteArray) × (ByteArray))) => b47 z.1 + (fun z : ((ByteArray) × (ByteArray)) => b9 z.1 + b9 z.2) z.2) z.2)) rfl (by kernel_rfl) opn9 ?_
  refine OpnF.cons (ga := g9) (gb := (fun z : ((List (S56)) × ((ByteArray) × (ByteArray))) => g47 z.1 ∧ (fun z : ((ByteArray) × (ByteArray)) => g9 z.1 ∧ g9 z.2) z.2)) (ba := b9) (bb := (fun z : ((List (S56)) × ((ByteArray) × (ByteArray))) => b47 z.1 + (fun z : ((ByteArray) × (ByteArray)) => b9 z.1 + b9 z.2) z.2)) rfl (by kernel_rfl) opn9 ?_
  refine OpnF.cons (ga := g47) (gb := (fun z : ((ByteArray) × (ByteArray)) => g9 z.1 ∧ g9 z.2)) (ba := b47) (bb := (fun z : ((ByteArray) × (ByteArray)) => b9 z.1 + b9 z.2)) rfl (by kernel_rfl) opn47 ?_
  refine OpnF.cons (ga := g9) (gb := g9) (ba := b9) (bb := b9) rfl (by kernel_rfl) opn9 ?_
  exact OpnF.one rfl (by kernel_rfl) opn9
set_option maxRecDepth 100000 in
theorem lifted (os : Os) (started : os.Started) (H : Type) (enc : TypeId × Value → H) (F : Stop.Interp) :
    ReturnsInHanded {} Try.checked os 9 .any ((Rows.OpenSpec.upto Rows.tableStaysSpec).pre6 enc Try.prog Try.f9 Rows.tableStaysUptoRow.domain false) (((Rows.OpenSpec.upto Rows.tableStaysSpec).at F).post enc Try.prog Try.f9 false true false false) := by
  refine returnsInHanded_of_cond_sized (C := Try.checked) (s := (Rows.OpenSpec.upto Rows.tableStaysSpec)) (k := Rows.uptoSmall) rfl own started (by kernel_rfl) Try.func9
    (OpenSpec.witness (enc := enc) (C := Try.checked) (s := (Rows.OpenSpec.upto Rows.tableStaysSpec)) (k := Rows.uptoSmall) rfl false ⟨#[], #[(.agg #[(.slice none 0 0), (.string ByteArray.empty), (.string ByteArray.empty), (.slice none 0 0), (.string ByteArray.empty), (.string ByteArray.empty)])], []⟩ 8 (by kernel_rfl) (by kernel_rfl) (by kernel_rfl) (x := ([.agg [.nil, .lit (.string []), .lit (.string []), .nil, .lit (.string []), .lit (.string [])]], [], [])) (by kernel_rfl) (by kernel_rfl) (by kernel_rfl)) ?_
  intro W base args ds gs before hval0 hW hcnd hbk0 hsz0 _
  have hsz : (DataW.weightsEach Try.prog (Try.f9.params.toList ++ Rows.tableStaysSpec.plain.varTypes Try.prog) (ds ++ gs)).all (· ≤ reachBytes) = true := hsz0
  have hval : ∀ (j : Nat) t v, Try.f9.params[j]? = some t → args[j]? = some v → Value.okWide Try.prog W .any base t v := hval0
  have hW' := hW
  obtain ⟨p, q, hA0, hV, rfl, hfz, hnd⟩ := hW
  have hA : DataW.TrodAll enc Try.prog W 0 (fun _ => true) true Try.f9.params.toList args.toList ds p := hA0
  rw [Try.params9] at hA hval hsz
  obtain ⟨v0, vs0, d0, ds0, p0, q0, hargs, rfl, rfl, h0, r0⟩ := trodAll_cons hA
  obtain ⟨rfl, rfl, rfl⟩ := trodAll_nil r0
  obtain rfl : args = #[v0] := by cases args; simp_all
  obtain ⟨rfl, rfl⟩ := trodVars_none hV
  have hbk : Rows.uptoBulkAll [d0] ≤ 1048576 := of_decide_eq_true hbk0
  simp only [Rows.uptoBulkAll] at hbk
  have k0 := h0
  have lt0 : ∀ x ∈ p0, x.block < W.heap.size := by obtain ⟨m, hm⟩ := k0; exact DataW.trod_lt m _ _ _ hm
  obtain ⟨x0, hx0, y0, bu0⟩ := opn53.param hsz (j := 0) rfl rfl h0
  obtain ⟨cs0, rfl, _⟩ := okWide_struct Try.underlying53 (hval 0 53 v0 rfl rfl)
  have hx0 := k53_open (show k53.K W x0 cs0.toList from hx0)
  obtain ⟨A0_0, c0_0, A0_3, c0_3, he0, hc0_0, hr0_0, hc0_3, hr0_3⟩ := hx0
  obtain rfl : cs0 = #[.slice A0_0 x0.f0.length c0_0, .string x0.f1, .string x0.f2, .slice A0_3 x0.f3.length c0_3, .string x0.f4, .string x0.f5] := by cases cs0; simp_all
  clear hA0 hval0 hsz0 hsz
  obtain ⟨kk, hk⟩ := stanchionlaw05_TableStays.pure x0 y0 (by omega)
  refine (stanchionlaw05_TableStays.calls kk _ _ x0.f0 x0.f1 x0.f2 _ _ x0.f3 x0.f4 x0.f5 true W hr0_0 hc0_0 hr0_3 hc0_3 hk).mono fun e W' ⟨he, bel0⟩ => ?_
  have bel : Below W.heap.size W W' := bel0
  subst he
  exact ⟨_, rfl, _, _, _, [], _, [], hW', trodAll_mk1 (shut_bool Try.underlying4 _), (trodAll_cons_mk (Below.trod laidOut (by kernel_rfl) (of_decide_eq_true (by kernel_rfl)) k0 bel lt0) trodAll_mk0), rfl, bel.frame _, fun h => by cases h⟩
theorem over : Rows.tableStaysUptoRow.holds Try.pinned (Rows.OpenSpec.upto Rows.tableStaysSpec) :=
  OpenClaim.holds_of_cond 9 Try.f9 rfl rfl rfl rfl rfl rfl rfl ⟨rfl, rfl, rfl, rfl, rfl⟩ rfl rfl rfl rfl rfl (by kernel_rfl) Try.func9 (by kernel_rfl)
    (of_decide_eq_true (by kernel_rfl)) (by unfold Func.isWrapper; first | (rw [if_pos (by decide +kernel)]; kernel_rfl) | (rw [if_neg (by decide +kernel)]; exact ⟨rfl, rfl⟩))
    (fun os started H enc _ F => lifted os started H enc F)
theorem proved : Rows.TableStaysUptoSaid := over
end Go.Proofs.Ytdoamckcibcdcaa.tableStays
namespace Go.Proofs.Ytdoamckcibcdcaa
/-- The row, under a short name, for the claim. -/
theorem tableStays_holds : Rows.TableStaysUptoSaid := tableStays.proved
end Go.Proofs.Ytdoamckcibcdcaa
