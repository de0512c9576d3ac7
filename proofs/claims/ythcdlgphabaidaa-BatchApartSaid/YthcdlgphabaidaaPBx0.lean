-- Made by a program of this workplace out of the translation (wip/tools in the repo). Not trusted: Lean checks it.
import Derived.Test.YthcdlgphabaidaaProg
import Derived.Test.YthcdlgphabaidaaCp
import Derived.Test.YthcdlgphabaidaaFl
import Derived.Outline
import Derived.Deep.DeepFit
import Derived.Lib.Overlaps
import Derived.Lib.AppendZerosOnto
import Derived.Laws.NewBlocks
import Derived.Sort.Row
import Derived.Shelf.Abstract
import Derived.Laws.Cover1
import Derived.Below
import Derived.Deep.Draws
import Derived.Deep.AppendLies
import Derived.Maps.AppendAt
import Derived.OwnWalk
import Derived.Laws.BytesArg
import Derived.Laws.MakeOwn
import Derived.Laws.OwnMore
import Derived.Deep.OwnRows
import Derived.Tactics
import Derived.Lib.ConvBytes
import Derived.Laws.Slices
import Derived.WalkKit
import Derived.KernelRfl
import Derived.RowKit3
import Derived.Deep.LoopGhost
import Derived.Deep.QuietTactic
import Derived.BigQuiet
import Derived.WideLaws
import Derived.Deep.DeepCutAuto
import Derived.Deep.CutBlock
import Derived.Deep.RegionHeld3
import Derived.Laws.Rows
import Derived.Lib.AppendStr
import Derived.ArgAppend
import Derived.Laws.IdiomCopy
import Derived.OrdersHeld
import Derived.Laws.BitsLemmas
import Derived.RowKit
import Derived.WalkSpells
import Derived.LoopN
import Derived.Test.YthcdlgphabaidaaShelf
import Derived.Shelf.Strings.BuilderK
import Derived.Test.YthcdlgphabaidaaWWords
import Derived.Test.YthcdlgphabaidaaWLast
import Derived.Test.YthcdlgphabaidaaWTab
import Derived.Test.YthcdlgphabaidaaWFour
import Derived.Test.YthcdlgphabaidaaWQPut
import Derived.Test.YthcdlgphabaidaaWApart
import Derived.Test.YthcdlgphabaidaaWArr
import Derived.Test.YthcdlgphabaidaaWZeros
import Derived.Test.YthcdlgphabaidaaWFoot
import Derived.Test.YthcdlgphabaidaaWKept
import Derived.Test.YthcdlgphabaidaaWShare
import Derived.Test.YthcdlgphabaidaaWN
import Derived.Test.YthcdlgphabaidaaWFootNe
import Derived.Test.YthcdlgphabaidaaWAt
import Derived.Test.YthcdlgphabaidaaWEqStruct
import Derived.Test.YthcdlgphabaidaaWRepsOne
import Derived.Test.YthcdlgphabaidaaWInv
import Derived.Test.YthcdlgphabaidaaWInvWords
import Derived.Test.YthcdlgphabaidaaWGuard
import Derived.Test.YthcdlgphabaidaaWNEv
import Derived.Test.YthcdlgphabaidaaWMore
namespace Go.Proofs.Ythcdlgphabaidaa.PB
open Go.RowKit Go.Proofs.YthcdlgphabaidaaW.PrintWords Go.Proofs.YthcdlgphabaidaaW.PrintLast Go.Proofs.YthcdlgphabaidaaW.PrintMore
attribute [local go_sem] max2_int min2_int max_two min_two max_three min_three max_four min_four   -- for this text's walks alone
set_option linter.unusedVariables false
set_option linter.unusedSimpArgs false



def errW : Option Int → Value
  | none => .nilIface
  | some c => .iface 0 (.int .i64 c)
theorem errW_none : errW none = .nilIface := rfl
theorem errW_some (c : Int) : errW (some c) = .iface 0 (.int .i64 c) := rfl

theorem info54 : (Try.prog.info? 54).map (fun i => (i.zero, i.size, i.bytes)) = some (some (.agg #[(.string ⟨#[]⟩), (.string ⟨#[]⟩), (.bool false)]), 3, 40) := by kernel_rfl
theorem info68 : (Try.prog.info? 68).map (fun i => (i.zero, i.size, i.bytes)) = some (some (.agg #[(.string ⟨#[]⟩), (.string ⟨#[]⟩)]), 2, 32) := by kernel_rfl
-- the values' own types
/-! #### struct type 54 -/
structure S54 where
  f0 : ByteArray
  f1 : ByteArray
  f2 : Bool
def z54 : S54 := ⟨(⟨#[]⟩ : ByteArray), (⟨#[]⟩ : ByteArray), false⟩
def k54 : Kd S54 := Kd.iso (Kd.pair Kd.string (Kd.pair Kd.string Kd.bool)) (fun x : S54 => (x.f0, x.f1, x.f2))
theorem k54_heap : Kd.Heap k54 := Kd.heap_iso _ (Kd.heap_pair Kd.heap_string (Kd.heap_pair Kd.heap_string Kd.heap_bool))
theorem k54_open {w : World} {x : S54} {cs : List Value} (h : k54.K w x cs) : cs = [.string x.f0, .string x.f1, .bool x.f2] := by
  obtain ⟨_, _, rfl, rfl, ⟨_, _, rfl, rfl, rfl⟩⟩ := h
  exact rfl
theorem k54_openM {w : World} {base : Nat} {ok : Nat → Prop} {x : S54} {cs : List Value} (h : k54.M w base ok x cs) : cs = [.string x.f0, .string x.f1, .bool x.f2] := by
  obtain ⟨_, _, rfl, rfl, ⟨_, _, rfl, rfl, rfl⟩⟩ := h
  exact rfl
theorem k54_mk (w : World) (x : S54)  : k54.K w x [.string x.f0, .string x.f1, .bool x.f2] := ⟨[.string x.f0], [.string x.f1, .bool x.f2], rfl, rfl, ⟨[.string x.f1], [.bool x.f2], rfl, rfl, rfl⟩⟩
theorem k54_mkM (w : World) (base : Nat) (ok : Nat → Prop) (x : S54)  : k54.M w base ok x [.string x.f0, .string x.f1, .bool x.f2] := ⟨[.string x.f0], [.string x.f1, .bool x.f2], rfl, rfl, ⟨[.string x.f1], [.bool x.f2], rfl, rfl, rfl⟩⟩
theorem k54_mkF (W : World) (ok : Nat → Prop) (x : S54) : Kd.FK k54 W ok x [.string x.f0, .string x.f1, .bool x.f2] := fun W2 _ => k54_mk W2 x
def rd_T54 (xs : List S54) (i : Int) : S54 := xs.getD i.toNat z54
theorem at_T54 {w : World} {A : Option Addr} {n : Nat} {xs : List S54} (h : Kd.C k54 w A n xs) (i : Int) (h0 : 0 ≤ i) (h1 : i < n) : ∃ ad , A = some ad ∧ w.cell? (ad.add (i.toNat * 3)) = some (.string (rd_T54 xs i).f0) ∧ w.cell? ⟨(ad.add (i.toNat * 3)).block, (ad.add (i.toNat * 3)).off + 1, none⟩ = some (.string (rd_T54 xs i).f1) ∧ w.cell? ⟨(ad.add (i.toNat * 3)).block, (ad.add (i.toNat * 3)).off + 2, none⟩ = some (.bool (rd_T54 xs i).f2) := by
  obtain ⟨ad, c, e, _, hK, hc0⟩ := Kd.C_get h z54 i h0 h1
  have hc : ∀ j u, c[j]? = some u → w.cell? (ad.add (i.toNat * 3 + j)) = some u := hc0
  obtain rfl := k54_open hK
  exact ⟨ad, e, hc 0 _ rfl, by rw [← add_field _ _ 1 (by omega)]; exact hc 1 _ rfl, by rw [← add_field _ _ 2 (by omega)]; exact hc 2 _ rfl⟩

def rd_L3 (xs : List (List S54)) (i : Int) : (List S54) := xs.getD i.toNat ([] : List S54)
theorem at_L3 {w : World} {A : Option Addr} {n : Nat} {xs : List (List S54)} (h : Kd.C (Kd.slice 54 k54) w A n xs) (i : Int) (h0 : 0 ≤ i) (h1 : i < n) : ∃ ad A0 c0, A = some ad ∧ w.cell? (ad.add i.toNat) = some (.slice A0 (rd_L3 xs i).length c0) ∧ (rd_L3 xs i).length ≤ c0 ∧ k54.C w A0 (rd_L3 xs i).length (rd_L3 xs i) := by
  obtain ⟨ad, c, e, _, hK, hc0⟩ := Kd.C_get h ([] : List S54) i h0 h1
  have hc : ∀ j u, c[j]? = some u → w.cell? (ad.add (i.toNat * 1 + j)) = some u := hc0
  obtain ⟨A0, c0, rfl, l0, g0⟩ := hK
  exact ⟨ad, A0, c0, e, by have hq := hc 0 _ rfl; rwa [Nat.mul_one, Nat.add_zero] at hq, l0, g0⟩

/-! #### struct type 68 -/
structure S68 where
  f0 : ByteArray
  f1 : ByteArray
def z68 : S68 := ⟨(⟨#[]⟩ : ByteArray), (⟨#[]⟩ : ByteArray)⟩
def k68 : Kd S68 := Kd.iso (Kd.pair Kd.string Kd.string) (fun x : S68 => (x.f0, x.f1))
theorem k68_heap : Kd.Heap k68 := Kd.heap_iso _ (Kd.heap_pair Kd.heap_string Kd.heap_string)
theorem k68_open {w : World} {x : S68} {cs : List Value} (h : k68.K w x cs) : cs = [.string x.f0, .string x.f1] := by
  obtain ⟨_, _, rfl, rfl, rfl⟩ := h
  exact rfl
theorem k68_openM {w : World} {base : Nat} {ok : Nat → Prop} {x : S68} {cs : List Value} (h : k68.M w base ok x cs) : cs = [.string x.f0, .string x.f1] := by
  obtain ⟨_, _, rfl, rfl, rfl⟩ := h
  exact rfl
theorem k68_mk (w : World) (x : S68)  : k68.K w x [.string x.f0, .string x.f1] := ⟨[.string x.f0], [.string x.f1], rfl, rfl, rfl⟩
theorem k68_mkM (w : World) (base : Nat) (ok : Nat → Prop) (x : S68)  : k68.M w base ok x [.string x.f0, .string x.f1] := ⟨[.string x.f0], [.string x.f1], rfl, rfl, rfl⟩
theorem k68_mkF (W : World) (ok : Nat → Prop) (x : S68) : Kd.FK k68 W ok x [.string x.f0, .string x.f1] := fun W2 _ => k68_mk W2 x
def rd_T68 (xs : List S68) (i : Int) : S68 := xs.getD i.toNat z68
theorem at_T68 {w : World} {A : Option Addr} {n : Nat} {xs : List S68} (h : Kd.C k68 w A n xs) (i : Int) (h0 : 0 ≤ i) (h1 : i < n) : ∃ ad , A = some ad ∧ w.cell? (ad.add (i.toNat * 2)) = some (.string (rd_T68 xs i).f0) ∧ w.cell? ⟨(ad.add (i.toNat * 2)).block, (ad.add (i.toNat * 2)).off + 1, none⟩ = some (.string (rd_T68 xs i).f1) := by
  obtain ⟨ad, c, e, _, hK, hc0⟩ := Kd.C_get h z68 i h0 h1
  have hc : ∀ j u, c[j]? = some u → w.cell? (ad.add (i.toNat * 2 + j)) = some u := hc0
  obtain rfl := k68_open hK
  exact ⟨ad, e, hc 0 _ rfl, by rw [← add_field _ _ 1 (by omega)]; exact hc 1 _ rfl⟩

def rd_L5 (xs : List (List S68)) (i : Int) : (List S68) := xs.getD i.toNat ([] : List S68)
theorem at_L5 {w : World} {A : Option Addr} {n : Nat} {xs : List (List S68)} (h : Kd.C (Kd.slice 68 k68) w A n xs) (i : Int) (h0 : 0 ≤ i) (h1 : i < n) : ∃ ad A0 c0, A = some ad ∧ w.cell? (ad.add i.toNat) = some (.slice A0 (rd_L5 xs i).length c0) ∧ (rd_L5 xs i).length ≤ c0 ∧ k68.C w A0 (rd_L5 xs i).length (rd_L5 xs i) := by
  obtain ⟨ad, c, e, _, hK, hc0⟩ := Kd.C_get h ([] : List S68) i h0 h1
  have hc : ∀ j u, c[j]? = some u → w.cell? (ad.add (i.toNat * 1 + j)) = some u := hc0
  obtain ⟨A0, c0, rfl, l0, g0⟩ := hK
  exact ⟨ad, A0, c0, e, by have hq := hc 0 _ rfl; rwa [Nat.mul_one, Nat.add_zero] at hq, l0, g0⟩

/-! #### struct type 24 -/
structure S24 where
  f0 : (List S68)
  f1 : (List S68)
def z24 : S24 := ⟨([] : List S68), ([] : List S68)⟩
def k24 : Kd S24 := Kd.iso (Kd.pair (Kd.slice 68 k68) (Kd.slice 68 k68)) (fun x : S24 => (x.f0, x.f1))
theorem k24_heap : Kd.Heap k24 := Kd.heap_iso _ (Kd.heap_pair (Kd.heap_slice 68 k68_heap) (Kd.heap_slice 68 k68_heap))
theorem k24_open {w : World} {x : S24} {cs : List Value} (h : k24.K w x cs) : ∃ A0 c0 A1 c1, cs = [.slice A0 x.f0.length c0, .slice A1 x.f1.length c1] ∧ x.f0.length ≤ c0 ∧ k68.C w A0 x.f0.length x.f0 ∧ x.f1.length ≤ c1 ∧ k68.C w A1 x.f1.length x.f1 := by
  obtain ⟨_, _, rfl, ⟨A0, c0, rfl, l0, g0⟩, ⟨A1, c1, rfl, l1, g1⟩⟩ := h
  exact ⟨A0, c0, A1, c1, rfl, l0, g0, l1, g1⟩
theorem k24_openM {w : World} {base : Nat} {ok : Nat → Prop} {x : S24} {cs : List Value} (h : k24.M w base ok x cs) : ∃ v0 v1, cs = [v0, v1] ∧ k68.R 68 w base ok v0 x.f0 ∧ k68.R 68 w base ok v1 x.f1 := by
  obtain ⟨_, _, rfl, ⟨v0, rfl, g0⟩, ⟨v1, rfl, g1⟩⟩ := h
  exact ⟨v0, v1, rfl, g0, g1⟩
theorem k24_mk (w : World) (x : S24) {A0 : Option Addr} {c0 : Nat} (l0 : x.f0.length ≤ c0) (g0 : k68.C w A0 x.f0.length x.f0) {A1 : Option Addr} {c1 : Nat} (l1 : x.f1.length ≤ c1) (g1 : k68.C w A1 x.f1.length x.f1) : k24.K w x [.slice A0 x.f0.length c0, .slice A1 x.f1.length c1] := ⟨[.slice A0 x.f0.length c0], [.slice A1 x.f1.length c1], rfl, ⟨A0, c0, rfl, l0, g0⟩, ⟨A1, c1, rfl, l1, g1⟩⟩
theorem k24_mkM (w : World) (base : Nat) (ok : Nat → Prop) (x : S24) {v0 : Value} (g0 : k68.R 68 w base ok v0 x.f0) {v1 : Value} (g1 : k68.R 68 w base ok v1 x.f1) : k24.M w base ok x [v0, v1] := ⟨[v0], [v1], rfl, ⟨v0, rfl, g0⟩, ⟨v1, rfl, g1⟩⟩
theorem k24_openF {W : World} {ok : Nat → Prop} {x : S24} {cs : List Value} (h : Kd.FK k24 W ok x cs) : ∃ A0 c0 A1 c1, cs = [.slice A0 x.f0.length c0, .slice A1 x.f1.length c1] ∧ x.f0.length ≤ c0 ∧ Kd.F k68 W ok A0 x.f0.length x.f0 ∧ x.f1.length ≤ c1 ∧ Kd.F k68 W ok A1 x.f1.length x.f1 := by
  obtain ⟨A0, c0, A1, c1, rfl, l0, _, l1, _⟩ := k24_open (Kd.FK_now h)
  exact ⟨A0, c0, A1, c1, rfl, l0, (fun W' hW => by obtain ⟨A0_, c0_, A1_, c1_, he, l0_, g0_, l1_, g1_⟩ := k24_open (h W' hW); injection (Option.some.inj (show some (Value.slice A0 x.f0.length c0) = some (Value.slice A0_ x.f0.length c0_) from congrArg (fun l => l[0]?) he)) with ha_ _ _; rw [ha_]; exact g0_), l1, (fun W' hW => by obtain ⟨A0_, c0_, A1_, c1_, he, l0_, g0_, l1_, g1_⟩ := k24_open (h W' hW); injection (Option.some.inj (show some (Value.slice A1 x.f1.length c1) = some (Value.slice A1_ x.f1.length c1_) from congrArg (fun l => l[1]?) he)) with ha_ _ _; rw [ha_]; exact g1_)⟩
theorem k24_mkF (W : World) (ok : Nat → Prop) (x : S24) {A0 : Option Addr} {c0 : Nat} (l0 : x.f0.length ≤ c0) (g0 : Kd.F k68 W ok A0 x.f0.length x.f0) {A1 : Option Addr} {c1 : Nat} (l1 : x.f1.length ≤ c1) (g1 : Kd.F k68 W ok A1 x.f1.length x.f1) : Kd.FK k24 W ok x [.slice A0 x.f0.length c0, .slice A1 x.f1.length c1] := fun W2 hW => k24_mk W2 x l0 (g0 W2 hW) l1 (g1 W2 hW)
def rd_T24 (xs : List S24) (i : Int) : S24 := xs.getD i.toNat z24
theorem at_T24 {w : World} {A : Option Addr} {n : Nat} {xs : List S24} (h : Kd.C k24 w A n xs) (i : Int) (h0 : 0 ≤ i) (h1 : i < n) : ∃ ad A0 c0 A1 c1, A = some ad ∧ w.cell? (ad.add (i.toNat * 2)) = some (.slice A0 (rd_T24 xs i).f0.length c0) ∧ w.cell? ⟨(ad.add (i.toNat * 2)).block, (ad.add (i.toNat * 2)).off + 1, none⟩ = some (.slice A1 (rd_T24 xs i).f1.length c1) ∧ (rd_T24 xs i).f0.length ≤ c0 ∧ k68.C w A0 (rd_T24 xs i).f0.length (rd_T24 xs i).f0 ∧ (rd_T24 xs i).f1.length ≤ c1 ∧ k68.C w A1 (rd_T24 xs i).f1.length (rd_T24 xs i).f1 := by
  obtain ⟨ad, c, e, _, hK, hc0⟩ := Kd.C_get h z24 i h0 h1
  have hc : ∀ j u, c[j]? = some u → w.cell? (ad.add (i.toNat * 2 + j)) = some u := hc0
  obtain ⟨A0, c0, A1, c1, rfl, l0, g0, l1, g1⟩ := k24_open hK
  exact ⟨ad, A0, c0, A1, c1, e, hc 0 _ rfl, by rw [← add_field _ _ 1 (by omega)]; exact hc 1 _ rfl, l0, g0, l1, g1⟩

/-! #### struct type 37 -/
structure S37 where
  f0 : Int
  f1 : ByteArray
  f2 : (List S54)
def z37 : S37 := ⟨(0 : Int), (⟨#[]⟩ : ByteArray), ([] : List S54)⟩
def k37 : Kd S37 := Kd.iso (Kd.pair (Kd.int .i64) (Kd.pair Kd.string (Kd.slice 54 k54))) (fun x : S37 => (x.f0, x.f1, x.f2))
theorem k37_heap : Kd.Heap k37 := Kd.heap_iso _ (Kd.heap_pair (Kd.heap_int .i64) (Kd.heap_pair Kd.heap_string (Kd.heap_slice 54 k54_heap)))
theorem k37_open {w : World} {x : S37} {cs : List Value} (h : k37.K w x cs) : ∃ A2 c2, cs = [.int .i64 x.f0, .string x.f1, .slice A2 x.f2.length c2] ∧ x.f2.length ≤ c2 ∧ k54.C w A2 x.f2.length x.f2 := by
  obtain ⟨_, _, rfl, rfl, ⟨_, _, rfl, rfl, ⟨A2, c2, rfl, l2, g2⟩⟩⟩ := h
  exact ⟨A2, c2, rfl, l2, g2⟩
theorem k37_openM {w : World} {base : Nat} {ok : Nat → Prop} {x : S37} {cs : List Value} (h : k37.M w base ok x cs) : ∃ v2, cs = [.int .i64 x.f0, .string x.f1, v2] ∧ k54.R 54 w base ok v2 x.f2 := by
  obtain ⟨_, _, rfl, rfl, ⟨_, _, rfl, rfl, ⟨v2, rfl, g2⟩⟩⟩ := h
  exact ⟨v2, rfl, g2⟩
theorem k37_mk (w : World) (x : S37) {A2 : Option Addr} {c2 : Nat} (l2 : x.f2.length ≤ c2) (g2 : k54.C w A2 x.f2.length x.f2) : k37.K w x [.int .i64 x.f0, .string x.f1, .slice A2 x.f2.length c2] := ⟨[.int .i64 x.f0], [.string x.f1, .slice A2 x.f2.length c2], rfl, rfl, ⟨[.string x.f1], [.slice A2 x.f2.length c2], rfl, rfl, ⟨A2, c2, rfl, l2, g2⟩⟩⟩
theorem k37_mkM (w : World) (base : Nat) (ok : Nat → Prop) (x : S37) {v2 : Value} (g2 : k54.R 54 w base ok v2 x.f2) : k37.M w base ok x [.int .i64 x.f0, .string x.f1, v2] := ⟨[.int .i64 x.f0], [.string x.f1, v2], rfl, rfl, ⟨[.string x.f1], [v2], rfl, rfl, ⟨v2, rfl, g2⟩⟩⟩
theorem k37_openF {W : World} {ok : Nat → Prop} {x : S37} {cs : List Value} (h : Kd.FK k37 W ok x cs) : ∃ A2 c2, cs = [.int .i64 x.f0, .string x.f1, .slice A2 x.f2.length c2] ∧ x.f2.length ≤ c2 ∧ Kd.F k54 W ok A2 x.f2.length x.f2 := by
  obtain ⟨A2, c2, rfl, l2, _⟩ := k37_open (Kd.FK_now h)
  exact ⟨A2, c2, rfl, l2, (fun W' hW => by obtain ⟨A2_, c2_, he, l2_, g2_⟩ := k37_open (h W' hW); injection (Option.some.inj (show some (Value.slice A2 x.f2.length c2) = some (Value.slice A2_ x.f2.length c2_) from congrArg (fun l => l[2]?) he)) with ha_ _ _; rw [ha_]; exact g2_)⟩
theorem k37_mkF (W : World) (ok : Nat → Prop) (x : S37) {A2 : Option Addr} {c2 : Nat} (l2 : x.f2.length ≤ c2) (g2 : Kd.F k54 W ok A2 x.f2.length x.f2) : Kd.FK k37 W ok x [.int .i64 x.f0, .string x.f1, .slice A2 x.f2.length c2] := fun W2 hW => k37_mk W2 x l2 (g2 W2 hW)
def rd_T37 (xs : List S37) (i : Int) : S37 := xs.getD i.toNat z37
theorem at_T37 {w : World} {A : Option Addr} {n : Nat} {xs : List S37} (h : Kd.C k37 w A n xs) (i : Int) (h0 : 0 ≤ i) (h1 : i < n) : ∃ ad A2 c2, A = some ad ∧ w.cell? (ad.add (i.toNat * 3)) = some (.int .i64 (rd_T37 xs i).f0) ∧ w.cell? ⟨(ad.add (i.toNat * 3)).block, (ad.add (i.toNat * 3)).off + 1, none⟩ = some (.string (rd_T37 xs i).f1) ∧ w.cell? ⟨(ad.add (i.toNat * 3)).block, (ad.add (i.toNat * 3)).off + 2, none⟩ = some (.slice A2 (rd_T37 xs i).f2.length c2) ∧ (rd_T37 xs i).f2.length ≤ c2 ∧ k54.C w A2 (rd_T37 xs i).f2.length (rd_T37 xs i).f2 := by
  obtain ⟨ad, c, e, _, hK, hc0⟩ := Kd.C_get h z37 i h0 h1
  have hc : ∀ j u, c[j]? = some u → w.cell? (ad.add (i.toNat * 3 + j)) = some u := hc0
  obtain ⟨A2, c2, rfl, l2, g2⟩ := k37_open hK
  exact ⟨ad, A2, c2, e, hc 0 _ rfl, by rw [← add_field _ _ 1 (by omega)]; exact hc 1 _ rfl, by rw [← add_field _ _ 2 (by omega)]; exact hc 2 _ rfl, l2, g2⟩

/-! #### struct type 62 -/
structure S62 where
  f0 : S24
  f1 : S37
  f2 : ByteArray
  f3 : S24
def z62 : S62 := ⟨z24, z37, (⟨#[]⟩ : ByteArray), z24⟩
def k62 : Kd S62 := Kd.iso (Kd.pair k24 (Kd.pair k37 (Kd.pair Kd.string k24))) (fun x : S62 => (x.f0, x.f1, x.f2, x.f3))
theorem k62_heap : Kd.Heap k62 := Kd.heap_iso _ (Kd.heap_pair k24_heap (Kd.heap_pair k37_heap (Kd.heap_pair Kd.heap_string k24_heap)))
theorem k62_open {w : World} {x : S62} {cs : List Value} (h : k62.K w x cs) : ∃ A0 c0 A1 c1 A4 c4 A6 c6 A7 c7, cs = [.slice A0 x.f0.f0.length c0, .slice A1 x.f0.f1.length c1, .int .i64 x.f1.f0, .string x.f1.f1, .slice A4 x.f1.f2.length c4, .string x.f2, .slice A6 x.f3.f0.length c6, .slice A7 x.f3.f1.length c7] ∧ x.f0.f0.length ≤ c0 ∧ k68.C w A0 x.f0.f0.length x.f0.f0 ∧ x.f0.f1.length ≤ c1 ∧ k68.C w A1 x.f0.f1.length x.f0.f1 ∧ x.f1.f2.length ≤ c4 ∧ k54.C w A4 x.f1.f2.length x.f1.f2 ∧ x.f3.f0.length ≤ c6 ∧ k68.C w A6 x.f3.f0.length x.f3.f0 ∧ x.f3.f1.length ≤ c7 ∧ k68.C w A7 x.f3.f1.length x.f3.f1 := by
  obtain ⟨_, _, rfl, s0, ⟨_, _, rfl, s2, ⟨_, _, rfl, rfl, s6⟩⟩⟩ := h
  obtain ⟨A0, c0, A1, c1, rfl, l0, g0, l1, g1⟩ := k24_open s0
  obtain ⟨A4, c4, rfl, l4, g4⟩ := k37_open s2
  obtain ⟨A6, c6, A7, c7, rfl, l6, g6, l7, g7⟩ := k24_open s6
  exact ⟨A0, c0, A1, c1, A4, c4, A6, c6, A7, c7, rfl, l0, g0, l1, g1, l4, g4, l6, g6, l7, g7⟩
theorem k62_openM {w : World} {base : Nat} {ok : Nat → Prop} {x : S62} {cs : List Value} (h : k62.M w base ok x cs) : ∃ v0 v1 v4 v6 v7, cs = [v0, v1, .int .i64 x.f1.f0, .string x.f1.f1, v4, .string x.f2, v6, v7] ∧ k68.R 68 w base ok v0 x.f0.f0 ∧ k68.R 68 w base ok v1 x.f0.f1 ∧ k54.R 54 w base ok v4 x.f1.f2 ∧ k68.R 68 w base ok v6 x.f3.f0 ∧ k68.R 68 w base ok v7 x.f3.f1 := by
  obtain ⟨_, _, rfl, s0, ⟨_, _, rfl, s2, ⟨_, _, rfl, rfl, s6⟩⟩⟩ := h
  obtain ⟨v0, v1, rfl, g0, g1⟩ := k24_openM s0
  obtain ⟨v4, rfl, g4⟩ := k37_openM s2
  obtain ⟨v6, v7, rfl, g6, g7⟩ := k24_openM s6
  exact ⟨v0, v1, v4, v6, v7, rfl, g0, g1, g4, g6, g7⟩
theorem k62_mk (w : World) (x : S62) {A0 : Option Addr} {c0 : Nat} (l0 : x.f0.f0.length ≤ c0) (g0 : k68.C w A0 x.f0.f0.length x.f0.f0) {A1 : Option Addr} {c1 : Nat} (l1 : x.f0.f1.length ≤ c1) (g1 : k68.C w A1 x.f0.f1.length x.f0.f1) {A4 : Option Addr} {c4 : Nat} (l4 : x.f1.f2.length ≤ c4) (g4 : k54.C w A4 x.f1.f2.length x.f1.f2) {A6 : Option Addr} {c6 : Nat} (l6 : x.f3.f0.length ≤ c6) (g6 : k68.C w A6 x.f3.f0.length x.f3.f0) {A7 : Option Addr} {c7 : Nat} (l7 : x.f3.f1.length ≤ c7) (g7 : k68.C w A7 x.f3.f1.length x.f3.f1) : k62.K w x [.slice A0 x.f0.f0.length c0, .slice A1 x.f0.f1.length c1, .int .i64 x.f1.f0, .string x.f1.f1, .slice A4 x.f1.f2.length c4, .string x.f2, .slice A6 x.f3.f0.length c6, .slice A7 x.f3.f1.length c7] := ⟨[.slice A0 x.f0.f0.length c0, .slice A1 x.f0.f1.length c1], [.int .i64 x.f1.f0, .string x.f1.f1, .slice A4 x.f1.f2.length c4, .string x.f2, .slice A6 x.f3.f0.length c6, .slice A7 x.f3.f1.length c7], rfl, (k24_mk w x.f0 l0 g0 l1 g1), ⟨[.int .i64 x.f1.f0, .string x.f1.f1, .slice A4 x.f1.f2.length c4], [.string x.f2, .slice A6 x.f3.f0.length c6, .slice A7 x.f3.f1.length c7], rfl, (k37_mk w x.f1 l4 g4), ⟨[.string x.f2], [.slice A6 x.f3.f0.length c6, .slice A7 x.f3.f1.length c7], rfl, rfl, (k24_mk w x.f3 l6 g6 l7 g7)⟩⟩⟩
theorem k62_mkM (w : World) (base : Nat) (ok : Nat → Prop) (x : S62) {v0 : Value} (g0 : k68.R 68 w base ok v0 x.f0.f0) {v1 : Value} (g1 : k68.R 68 w base ok v1 x.f0.f1) {v4 : Value} (g4 : k54.R 54 w base ok v4 x.f1.f2) {v6 : Value} (g6 : k68.R 68 w base ok v6 x.f3.f0) {v7 : Value} (g7 : k68.R 68 w base ok v7 x.f3.f1) : k62.M w base ok x [v0, v1, .int .i64 x.f1.f0, .string x.f1.f1, v4, .string x.f2, v6, v7] := ⟨[v0, v1], [.int .i64 x.f1.f0, .string x.f1.f1, v4, .string x.f2, v6, v7], rfl, (k24_mkM w base ok x.f0 g0 g1), ⟨[.int .i64 x.f1.f0, .string x.f1.f1, v4], [.string x.f2, v6, v7], rfl, (k37_mkM w base ok x.f1 g4), ⟨[.string x.f2], [v6, v7], rfl, rfl, (k24_mkM w base ok x.f3 g6 g7)⟩⟩⟩
theorem k62_openF {W : World} {ok : Nat → Prop} {x : S62} {cs : List Value} (h : Kd.FK k62 W ok x cs) : ∃ A0 c0 A1 c1 A4 c4 A6 c6 A7 c7, cs = [.slice A0 x.f0.f0.length c0, .slice A1 x.f0.f1.length c1, .int .i64 x.f1.f0, .string x.f1.f1, .slice A4 x.f1.f2.length c4, .string x.f2, .slice A6 x.f3.f0.length c6, .slice A7 x.f3.f1.length c7] ∧ x.f0.f0.length ≤ c0 ∧ Kd.F k68 W ok A0 x.f0.f0.length x.f0.f0 ∧ x.f0.f1.length ≤ c1 ∧ Kd.F k68 W ok A1 x.f0.f1.length x.f0.f1 ∧ x.f1.f2.length ≤ c4 ∧ Kd.F k54 W ok A4 x.f1.f2.length x.f1.f2 ∧ x.f3.f0.length ≤ c6 ∧ Kd.F k68 W ok A6 x.f3.f0.length x.f3.f0 ∧ x.f3.f1.length ≤ c7 ∧ Kd.F k68 W ok A7 x.f3.f1.length x.f3.f1 := by
  obtain ⟨A0, c0, A1, c1, A4, c4, A6, c6, A7, c7, rfl, l0, _, l1, _, l4, _, l6, _, l7, _⟩ := k62_open (Kd.FK_now h)
  exact ⟨A0, c0, A1, c1, A4, c4, A6, c6, A7, c7, rfl, l0, (fun W' hW => by obtain ⟨A0_, c0_, A1_, c1_, A4_, c4_, A6_, c6_, A7_, c7_, he, l0_, g0_, l1_, g1_, l4_, g4_, l6_, g6_, l7_, g7_⟩ := k62_open (h W' hW); injection (Option.some.inj (show some (Value.slice A0 x.f0.f0.length c0) = some (Value.slice A0_ x.f0.f0.length c0_) from congrArg (fun l => l[0]?) he)) with ha_ _ _; rw [ha_]; exact g0_), l1, (fun W' hW => by obtain ⟨A0_, c0_, A1_, c1_, A4_, c4_, A6_, c6_, A7_, c7_, he, l0_, g0_, l1_, g1_, l4_, g4_, l6_, g6_, l7_, g7_⟩ := k62_open (h W' hW); injection (Option.some.inj (show some (Value.slice A1 x.f0.f1.length c1) = some (Value.slice A1_ x.f0.f1.length c1_) from congrArg (fun l => l[1]?) he)) with ha_ _ _; rw [ha_]; exact g1_), l4, (fun W' hW => by obtain ⟨A0_, c0_, A1_, c1_, A4_, c4_, A6_, c6_, A7_, c7_, he, l0_, g0_, l1_, g1_, l4_, g4_, l6_, g6_, l7_, g7_⟩ := k62_open (h W' hW); injection (Option.some.inj (show some (Value.slice A4 x.f1.f2.length c4) = some (Value.slice A4_ x.f1.f2.length c4_) from congrArg (fun l => l[4]?) he)) with ha_ _ _; rw [ha_]; exact g4_), l6, (fun W' hW => by obtain ⟨A0_, c0_, A1_, c1_, A4_, c4_, A6_, c6_, A7_, c7_, he, l0_, g0_, l1_, g1_, l4_, g4_, l6_, g6_, l7_, g7_⟩ := k62_open (h W' hW); injection (Option.some.inj (show some (Value.slice A6 x.f3.f0.length c6) = some (Value.slice A6_ x.f3.f0.length c6_) from congrArg (fun l => l[6]?) he)) with ha_ _ _; rw [ha_]; exact g6_), l7, (fun W' hW => by obtain ⟨A0_, c0_, A1_, c1_, A4_, c4_, A6_, c6_, A7_, c7_, he, l0_, g0_, l1_, g1_, l4_, g4_, l6_, g6_, l7_, g7_⟩ := k62_open (h W' hW); injection (Option.some.inj (show some (Value.slice A7 x.f3.f1.length c7) = some (Value.slice A7_ x.f3.f1.length c7_) from congrArg (fun l => l[7]?) he)) with ha_ _ _; rw [ha_]; exact g7_)⟩
theorem k62_mkF (W : World) (ok : Nat → Prop) (x : S62) {A0 : Option Addr} {c0 : Nat} (l0 : x.f0.f0.length ≤ c0) (g0 : Kd.F k68 W ok A0 x.f0.f0.length x.f0.f0) {A1 : Option Addr} {c1 : Nat} (l1 : x.f0.f1.length ≤ c1) (g1 : Kd.F k68 W ok A1 x.f0.f1.length x.f0.f1) {A4 : Option Addr} {c4 : Nat} (l4 : x.f1.f2.length ≤ c4) (g4 : Kd.F k54 W ok A4 x.f1.f2.length x.f1.f2) {A6 : Option Addr} {c6 : Nat} (l6 : x.f3.f0.length ≤ c6) (g6 : Kd.F k68 W ok A6 x.f3.f0.length x.f3.f0) {A7 : Option Addr} {c7 : Nat} (l7 : x.f3.f1.length ≤ c7) (g7 : Kd.F k68 W ok A7 x.f3.f1.length x.f3.f1) : Kd.FK k62 W ok x [.slice A0 x.f0.f0.length c0, .slice A1 x.f0.f1.length c1, .int .i64 x.f1.f0, .string x.f1.f1, .slice A4 x.f1.f2.length c4, .string x.f2, .slice A6 x.f3.f0.length c6, .slice A7 x.f3.f1.length c7] := fun W2 hW => k62_mk W2 x l0 (g0 W2 hW) l1 (g1 W2 hW) l4 (g4 W2 hW) l6 (g6 W2 hW) l7 (g7 W2 hW)
def rd_T62 (xs : List S62) (i : Int) : S62 := xs.getD i.toNat z62
theorem at_T62 {w : World} {A : Option Addr} {n : Nat} {xs : List S62} (h : Kd.C k62 w A n xs) (i : Int) (h0 : 0 ≤ i) (h1 : i < n) : ∃ ad A0 c0 A1 c1 A4 c4 A6 c6 A7 c7, A = some ad ∧ w.cell? (ad.add (i.toNat * 8)) = some (.slice A0 (rd_T62 xs i).f0.f0.length c0) ∧ w.cell? ⟨(ad.add (i.toNat * 8)).block, (ad.add (i.toNat * 8)).off + 1, none⟩ = some (.slice A1 (rd_T62 xs i).f0.f1.length c1) ∧ w.cell? ⟨(ad.add (i.toNat * 8)).block, (ad.add (i.toNat * 8)).off + 2, none⟩ = some (.int .i64 (rd_T62 xs i).f1.f0) ∧ w.cell? ⟨(ad.add (i.toNat * 8)).block, (ad.add (i.toNat * 8)).off + 3, none⟩ = some (.string (rd_T62 xs i).f1.f1) ∧ w.cell? ⟨(ad.add (i.toNat * 8)).block, (ad.add (i.toNat * 8)).off + 4, none⟩ = some (.slice A4 (rd_T62 xs i).f1.f2.length c4) ∧ w.cell? ⟨(ad.add (i.toNat * 8)).block, (ad.add (i.toNat * 8)).off + 5, none⟩ = some (.string (rd_T62 xs i).f2) ∧ w.cell? ⟨(ad.add (i.toNat * 8)).block, (ad.add (i.toNat * 8)).off + 6, none⟩ = some (.slice A6 (rd_T62 xs i).f3.f0.length c6) ∧ w.cell? ⟨(ad.add (i.toNat * 8)).block, (ad.add (i.toNat * 8)).off + 7, none⟩ = some (.slice A7 (rd_T62 xs i).f3.f1.length c7) ∧ (rd_T62 xs i).f0.f0.length ≤ c0 ∧ k68.C w A0 (rd_T62 xs i).f0.f0.length (rd_T62 xs i).f0.f0 ∧ (rd_T62 xs i).f0.f1.length ≤ c1 ∧ k68.C w A1 (rd_T62 xs i).f0.f1.length (rd_T62 xs i).f0.f1 ∧ (rd_T62 xs i).f1.f2.length ≤ c4 ∧ k54.C w A4 (rd_T62 xs i).f1.f2.length (rd_T62 xs i).f1.f2 ∧ (rd_T62 xs i).f3.f0.length ≤ c6 ∧ k68.C w A6 (rd_T62 xs i).f3.f0.length (rd_T62 xs i).f3.f0 ∧ (rd_T62 xs i).f3.f1.length ≤ c7 ∧ k68.C w A7 (rd_T62 xs i).f3.f1.length (rd_T62 xs i).f3.f1 := by
  obtain ⟨ad, c, e, _, hK, hc0⟩ := Kd.C_get h z62 i h0 h1
  have hc : ∀ j u, c[j]? = some u → w.cell? (ad.add (i.toNat * 8 + j)) = some u := hc0
  obtain ⟨A0, c0, A1, c1, A4, c4, A6, c6, A7, c7, rfl, l0, g0, l1, g1, l4, g4, l6, g6, l7, g7⟩ := k62_open hK
  exact ⟨ad, A0, c0, A1, c1, A4, c4, A6, c6, A7, c7, e, hc 0 _ rfl, by rw [← add_field _ _ 1 (by omega)]; exact hc 1 _ rfl, by rw [← add_field _ _ 2 (by omega)]; exact hc 2 _ rfl, by rw [← add_field _ _ 3 (by omega)]; exact hc 3 _ rfl, by rw [← add_field _ _ 4 (by omega)]; exact hc 4 _ rfl, by rw [← add_field _ _ 5 (by omega)]; exact hc 5 _ rfl, by rw [← add_field _ _ 6 (by omega)]; exact hc 6 _ rfl, by rw [← add_field _ _ 7 (by omega)]; exact hc 7 _ rfl, l0, g0, l1, g1, l4, g4, l6, g6, l7, g7⟩

/-! #### struct type 51 -/
structure S51 where
  f0 : S24
  f1 : S37
  f2 : ByteArray
  f3 : ByteArray
def z51 : S51 := ⟨z24, z37, (⟨#[]⟩ : ByteArray), (⟨#[]⟩ : ByteArray)⟩
def k51 : Kd S51 := Kd.iso (Kd.pair k24 (Kd.pair k37 (Kd.pair Kd.string Kd.string))) (fun x : S51 => (x.f0, x.f1, x.f2, x.f3))
theorem k51_heap : Kd.Heap k51 := Kd.heap_iso _ (Kd.heap_pair k24_heap (Kd.heap_pair k37_heap (Kd.heap_pair Kd.heap_string Kd.heap_string)))
theorem k51_open {w : World} {x : S51} {cs : List Value} (h : k51.K w x cs) : ∃ A0 c0 A1 c1 A4 c4, cs = [.slice A0 x.f0.f0.length c0, .slice A1 x.f0.f1.length c1, .int .i64 x.f1.f0, .string x.f1.f1, .slice A4 x.f1.f2.length c4, .string x.f2, .string x.f3] ∧ x.f0.f0.length ≤ c0 ∧ k68.C w A0 x.f0.f0.length x.f0.f0 ∧ x.f0.f1.length ≤ c1 ∧ k68.C w A1 x.f0.f1.length x.f0.f1 ∧ x.f1.f2.length ≤ c4 ∧ k54.C w A4 x.f1.f2.length x.f1.f2 := by
  obtain ⟨_, _, rfl, s0, ⟨_, _, rfl, s2, ⟨_, _, rfl, rfl, rfl⟩⟩⟩ := h
  obtain ⟨A0, c0, A1, c1, rfl, l0, g0, l1, g1⟩ := k24_open s0
  obtain ⟨A4, c4, rfl, l4, g4⟩ := k37_open s2
  exact ⟨A0, c0, A1, c1, A4, c4, rfl, l0, g0, l1, g1, l4, g4⟩
theorem k51_openM {w : World} {base : Nat} {ok : Nat → Prop} {x : S51} {cs : List Value} (h : k51.M w base ok x cs) : ∃ v0 v1 v4, cs = [v0, v1, .int .i64 x.f1.f0, .string x.f1.f1, v4, .string x.f2, .string x.f3] ∧ k68.R 68 w base ok v0 x.f0.f0 ∧ k68.R 68 w base ok v1 x.f0.f1 ∧ k54.R 54 w base ok v4 x.f1.f2 := by
  obtain ⟨_, _, rfl, s0, ⟨_, _, rfl, s2, ⟨_, _, rfl, rfl, rfl⟩⟩⟩ := h
  obtain ⟨v0, v1, rfl, g0, g1⟩ := k24_openM s0
  obtain ⟨v4, rfl, g4⟩ := k37_openM s2
  exact ⟨v0, v1, v4, rfl, g0, g1, g4⟩
theorem k51_mk (w : World) (x : S51) {A0 : Option Addr} {c0 : Nat} (l0 : x.f0.f0.length ≤ c0) (g0 : k68.C w A0 x.f0.f0.length x.f0.f0) {A1 : Option Addr} {c1 : Nat} (l1 : x.f0.f1.length ≤ c1) (g1 : k68.C w A1 x.f0.f1.length x.f0.f1) {A4 : Option Addr} {c4 : Nat} (l4 : x.f1.f2.length ≤ c4) (g4 : k54.C w A4 x.f1.f2.length x.f1.f2) : k51.K w x [.slice A0 x.f0.f0.length c0, .slice A1 x.f0.f1.length c1, .int .i64 x.f1.f0, .string x.f1.f1, .slice A4 x.f1.f2.length c4, .string x.f2, .string x.f3] := ⟨[.slice A0 x.f0.f0.length c0, .slice A1 x.f0.f1.length c1], [.int .i64 x.f1.f0, .string x.f1.f1, .slice A4 x.f1.f2.length c4, .string x.f2, .string x.f3], rfl, (k24_mk w x.f0 l0 g0 l1 g1), ⟨[.int .i64 x.f1.f0, .string x.f1.f1, .slice A4 x.f1.f2.length c4], [.string x.f2, .string x.f3], rfl, (k37_mk w x.f1 l4 g4), ⟨[.string x.f2], [.string x.f3], rfl, rfl, rfl⟩⟩⟩
theorem k51_mkM (w : World) (base : Nat) (ok : Nat → Prop) (x : S51) {v0 : Value} (g0 : k68.R 68 w base ok v0 x.f0.f0) {v1 : Value} (g1 : k68.R 68 w base ok v1 x.f0.f1) {v4 : Value} (g4 : k54.R 54 w base ok v4 x.f1.f2) : k51.M w base ok x [v0, v1, .int .i64 x.f1.f0, .string x.f1.f1, v4, .string x.f2, .string x.f3] := ⟨[v0, v1], [.int .i64 x.f1.f0, .string x.f1.f1, v4, .string x.f2, .string x.f3], rfl, (k24_mkM w base ok x.f0 g0 g1), ⟨[.int .i64 x.f1.f0, .string x.f1.f1, v4], [.string x.f2, .string x.f3], rfl, (k37_mkM w base ok x.f1 g4), ⟨[.string x.f2], [.string x.f3], rfl, rfl, rfl⟩⟩⟩
theorem k51_openF {W : World} {ok : Nat → Prop} {x : S51} {cs : List Value} (h : Kd.FK k51 W ok x cs) : ∃ A0 c0 A1 c1 A4 c4, cs = [.slice A0 x.f0.f0.length c0, .slice A1 x.f0.f1.length c1, .int .i64 x.f1.f0, .string x.f1.f1, .slice A4 x.f1.f2.length c4, .string x.f2, .string x.f3] ∧ x.f0.f0.length ≤ c0 ∧ Kd.F k68 W ok A0 x.f0.f0.length x.f0.f0 ∧ x.f0.f1.length ≤ c1 ∧ Kd.F k68 W ok A1 x.f0.f1.length x.f0.f1 ∧ x.f1.f2.length ≤ c4 ∧ Kd.F k54 W ok A4 x.f1.f2.length x.f1.f2 := by
  obtain ⟨A0, c0, A1, c1, A4, c4, rfl, l0, _, l1, _, l4, _⟩ := k51_open (Kd.FK_now h)
  exact ⟨A0, c0, A1, c1, A4, c4, rfl, l0, (fun W' hW => by obtain ⟨A0_, c0_, A1_, c1_, A4_, c4_, he, l0_, g0_, l1_, g1_, l4_, g4_⟩ := k51_open (h W' hW); injection (Option.some.inj (show some (Value.slice A0 x.f0.f0.length c0) = some (Value.slice A0_ x.f0.f0.length c0_) from congrArg (fun l => l[0]?) he)) with ha_ _ _; rw [ha_]; exact g0_), l1, (fun W' hW => by obtain ⟨A0_, c0_, A1_, c1_, A4_, c4_, he, l0_, g0_, l1_, g1_, l4_, g4_⟩ := k51_open (h W' hW); injection (Option.some.inj (show some (Value.slice A1 x.f0.f1.length c1) = some (Value.slice A1_ x.f0.f1.length c1_) from congrArg (fun l => l[1]?) he)) with ha_ _ _; rw [ha_]; exact g1_), l4, (fun W' hW => by obtain ⟨A0_, c0_, A1_, c1_, A4_, c4_, he, l0_, g0_, l1_, g1_, l4_, g4_⟩ := k51_open (h W' hW); injection (Option.some.inj (show some (Value.slice A4 x.f1.f2.length c4) = some (Value.slice A4_ x.f1.f2.length c4_) from congrArg (fun l => l[4]?) he)) with ha_ _ _; rw [ha_]; exact g4_)⟩
theorem k51_mkF (W : World) (ok : Nat → Prop) (x : S51) {A0 : Option Addr} {c0 : Nat} (l0 : x.f0.f0.length ≤ c0) (g0 : Kd.F k68 W ok A0 x.f0.f0.length x.f0.f0) {A1 : Option Addr} {c1 : Nat} (l1 : x.f0.f1.length ≤ c1) (g1 : Kd.F k68 W ok A1 x.f0.f1.length x.f0.f1) {A4 : Option Addr} {c4 : Nat} (l4 : x.f1.f2.length ≤ c4) (g4 : Kd.F k54 W ok A4 x.f1.f2.length x.f1.f2) : Kd.FK k51 W ok x [.slice A0 x.f0.f0.length c0, .slice A1 x.f0.f1.length c1, .int .i64 x.f1.f0, .string x.f1.f1, .slice A4 x.f1.f2.length c4, .string x.f2, .string x.f3] := fun W2 hW => k51_mk W2 x l0 (g0 W2 hW) l1 (g1 W2 hW) l4 (g4 W2 hW)
def rd_T51 (xs : List S51) (i : Int) : S51 := xs.getD i.toNat z51
theorem at_T51 {w : World} {A : Option Addr} {n : Nat} {xs : List S51} (h : Kd.C k51 w A n xs) (i : Int) (h0 : 0 ≤ i) (h1 : i < n) : ∃ ad A0 c0 A1 c1 A4 c4, A = some ad ∧ w.cell? (ad.add (i.toNat * 7)) = some (.slice A0 (rd_T51 xs i).f0.f0.length c0) ∧ w.cell? ⟨(ad.add (i.toNat * 7)).block, (ad.add (i.toNat * 7)).off + 1, none⟩ = some (.slice A1 (rd_T51 xs i).f0.f1.length c1) ∧ w.cell? ⟨(ad.add (i.toNat * 7)).block, (ad.add (i.toNat * 7)).off + 2, none⟩ = some (.int .i64 (rd_T51 xs i).f1.f0) ∧ w.cell? ⟨(ad.add (i.toNat * 7)).block, (ad.add (i.toNat * 7)).off + 3, none⟩ = some (.string (rd_T51 xs i).f1.f1) ∧ w.cell? ⟨(ad.add (i.toNat * 7)).block, (ad.add (i.toNat * 7)).off + 4, none⟩ = some (.slice A4 (rd_T51 xs i).f1.f2.length c4) ∧ w.cell? ⟨(ad.add (i.toNat * 7)).block, (ad.add (i.toNat * 7)).off + 5, none⟩ = some (.string (rd_T51 xs i).f2) ∧ w.cell? ⟨(ad.add (i.toNat * 7)).block, (ad.add (i.toNat * 7)).off + 6, none⟩ = some (.string (rd_T51 xs i).f3) ∧ (rd_T51 xs i).f0.f0.length ≤ c0 ∧ k68.C w A0 (rd_T51 xs i).f0.f0.length (rd_T51 xs i).f0.f0 ∧ (rd_T51 xs i).f0.f1.length ≤ c1 ∧ k68.C w A1 (rd_T51 xs i).f0.f1.length (rd_T51 xs i).f0.f1 ∧ (rd_T51 xs i).f1.f2.length ≤ c4 ∧ k54.C w A4 (rd_T51 xs i).f1.f2.length (rd_T51 xs i).f1.f2 := by
  obtain ⟨ad, c, e, _, hK, hc0⟩ := Kd.C_get h z51 i h0 h1
  have hc : ∀ j u, c[j]? = some u → w.cell? (ad.add (i.toNat * 7 + j)) = some u := hc0
  obtain ⟨A0, c0, A1, c1, A4, c4, rfl, l0, g0, l1, g1, l4, g4⟩ := k51_open hK
  exact ⟨ad, A0, c0, A1, c1, A4, c4, e, hc 0 _ rfl, by rw [← add_field _ _ 1 (by omega)]; exact hc 1 _ rfl, by rw [← add_field _ _ 2 (by omega)]; exact hc 2 _ rfl, by rw [← add_field _ _ 3 (by omega)]; exact hc 3 _ rfl, by rw [← add_field _ _ 4 (by omega)]; exact hc 4 _ rfl, by rw [← add_field _ _ 5 (by omega)]; exact hc 5 _ rfl, by rw [← add_field _ _ 6 (by omega)]; exact hc 6 _ rfl, l0, g0, l1, g1, l4, g4⟩

end Go.Proofs.Ythcdlgphabaidaa.PB
