/- What a law's parameter reads as is a value of its kind: 'Opn P t d g': whatever the model's reading of data finds at type t is an element x of kind d, within its bounds g. -/
import Derived.SizedLaws
import Derived.OpenShut
import Derived.WideShapes
import Derived.Test.YtnpmjboofmdflaaWWords
import Derived.Test.YtnpmjboofmdflaaWMore
namespace Go.Proofs.Ytnpmjboofmdflaa.Opn
open Go.RowKit Go.Proofs.YtnpmjboofmdflaaW.PrintWords

theorem mapM_some {α β : Type} {f : α → Option β} : ∀ {l : List α} {r : List β}, l.mapM f = some r → r.length = l.length ∧ ∀ (i : Nat) (a : α), l[i]? = some a → ∃ b, r[i]? = some b ∧ f a = some b
 | [], r, h => by
  simp only [List.mapM_nil] at h
  cases h
  exact ⟨rfl, fun i a h => by simp at h⟩
 | x :: l, r, h => by
  rw [List.mapM_cons] at h
  cases hx : f x with
  | none => rw [hx] at h; cases h
  | some b =>
   rw [hx] at h
   cases hl : l.mapM f with
   | none => rw [hl] at h; cases h
   | some bs =>
    rw [hl] at h
    cases h
    obtain ⟨h1, h2⟩ := mapM_some hl
    refine ⟨by simp [h1], fun i a hi => ?_⟩
    cases i with
    | zero =>
     simp only [List.getElem?_cons_zero, Option.some.injEq] at hi
     subst hi
     exact ⟨b, by simp, hx⟩
    | succ i =>
     simp only [List.getElem?_cons_succ] at hi
     obtain ⟨b', h3, h4⟩ := h2 i a hi
     exact ⟨b', by simpa using h3, h4⟩

theorem cells_some {w : World} {base : Nat} {a : Addr} {n : Nat} {cs : List Value} (h : w.cells? base a n = some cs) : cs.length = n ∧ ∀ (i : Nat) (u : Value), cs[i]? = some u → w.cell? (a.add i) = some u := by
 unfold World.cells? at h
 split at h
 ·obtain ⟨h1, h2⟩ := mapM_some h
  refine ⟨by simpa using h1, fun i u hi => ?_⟩
  have hlt : i < n := by have := (List.getElem?_eq_some_iff.1 hi).1; rw [h1, List.length_range] at this; exact this
  obtain ⟨b, hb, hf⟩ := h2 i i (by simp [hlt])
  rw [hi] at hb
  cases hb
  exact hf
 ·cases h

/-- What is read at type t is of the kind d, within g. -/
structure Opn {α : Type} (P : Program) (t : TypeId) (d : Kd α) (g : α → Prop) : Prop where
  get : ∀ {H : Type} {enc : TypeId × Value → H} {W : World} {base : Nat} {spare : Nat → Bool} {held : Bool} {fuel : Nat} {cs : List Value} {D : DataW H} {ps : List MemPlace},
    DataW.trod enc P W base spare held fuel t cs = some (D, ps) → (∀ z ∈ D.weights P t, z ≤ reachBytes) → ∃ x, d.K W x cs ∧ g x

variable {P : Program} {t e : TypeId}

theorem Opn.int {k : IntKind} (hu : P.underlying t = some (.int k)) : Opn P t (Kd.int k) (fun n => (Lit.int k n).wf = true) where
 get := by
  intro H enc W base spare held fuel cs D ps h _
  cases fuel with
  | zero => cases h
  | succ fuel =>
   unfold DataW.trod at h
   rw [hu] at h
   split at h <;> (try contradiction) <;> rename_i heq <;> cases heq
   split at h <;> try contradiction
   rename_i hk
   obtain ⟨rfl, hw⟩ := hk
   exact ⟨_, rfl, hw⟩

theorem Opn.bool (hu : P.underlying t = some .bool) : Opn P t Kd.bool (fun _ => True) where
 get := by
  intro H enc W base spare held fuel cs D ps h _
  cases fuel with
  | zero => cases h
  | succ fuel =>
   unfold DataW.trod at h
   rw [hu] at h
   split at h <;> (try contradiction) <;> rename_i heq <;> cases heq
   exact ⟨_, rfl, trivial⟩

theorem Opn.str (hu : P.underlying t = some .string) : Opn P t Kd.string (fun s => s.size ≤ 140737488351232) where
 get := by
  intro H enc W base spare held fuel cs D ps h hw
  cases fuel with
  | zero => cases h
  | succ fuel =>
   unfold DataW.trod at h
   rw [hu] at h
   split at h <;> (try contradiction) <;> rename_i heq <;> cases heq
   split at h <;> try contradiction
   cases h
   have z := hw _ (by simp only [DataW.weights]; exact List.mem_singleton.2 rfl)
   exact ⟨_, rfl, by simpa [reachBytes] using z⟩

theorem Opn.imp {α : Type} {d : Kd α} {g g' : α → Prop} (h : Opn P t d g) (hg : ∀ x, g x → g' x) : Opn P t d g' where
 get := fun a b => let ⟨x, h1, h2⟩ := h.get a b; ⟨x, h1, hg x h2⟩

theorem weightsAll_mem {H : Type} {e : TypeId} {d : DataW H} {z : Nat} (hz : z ∈ d.weights P e) : ∀ {ds : List (DataW H)} {i : Nat}, ds[i]? = some d → z ∈ DataW.weightsAll P e ds
 | [], i, h => by simp at h
 | x :: r, 0, h => by
  simp only [List.getElem?_cons_zero, Option.some.injEq] at h
  subst h
  simp only [DataW.weightsAll]
  exact List.mem_append_left _ hz
 | x :: r, i + 1, h => by
  simp only [List.getElem?_cons_succ] at h
  simp only [DataW.weightsAll]
  exact List.mem_append_right _ (weightsAll_mem hz h)

/-- Pointwise choice, along a list. -/
theorem choose {α β : Type} {R : Nat → β → α → Prop} : ∀ (n : Nat) (f : Nat → β), (∀ i, i < n → ∃ x, R i (f i) x) → ∃ xs : List α, xs.length = n ∧ ∀ (i : Nat) (x : α), xs[i]? = some x → R i (f i) x
 | 0, f, _ => ⟨[], rfl, fun i x h => by simp at h⟩
 | n + 1, f, h => by
  obtain ⟨xs, h1, h2⟩ := choose (R := R) n f (fun i hi => h i (by omega))
  obtain ⟨x, hx⟩ := h n (by omega)
  refine ⟨xs ++ [x], by simp [h1], fun i y hy => ?_⟩
  rcases Nat.lt_or_ge i n with hi | hi
  ·rw [List.getElem?_append_left (by omega)] at hy
   exact h2 i y hy
  ·have : i = n := by have := (List.getElem?_eq_some_iff.1 hy).1; simp at this; omega
   subst this
   rw [List.getElem?_append_right (by omega), h1, Nat.sub_self] at hy
   simp only [List.getElem?_cons_zero, Option.some.injEq] at hy
   subst hy
   exact hx

theorem Opn.slice {α : Type} {d : Kd α} {g : α → Prop} {B : Nat} (hu : P.underlying t = some (.slice e)) (hc : P.cellsOf e = d.sz) (hB : P.bytesOf e = B) (hd : Opn P e d g) :
  Opn P t (Kd.slice e d) (fun xs => xs.length * B ≤ 140737488351232 ∧ ∀ x ∈ xs, g x) where
 get := by
  intro H enc W base spare held fuel cs D ps h hw
  cases fuel with
  | zero => cases h
  | succ fuel =>
   unfold DataW.trod at h
   rw [hu] at h
   split at h <;> (try contradiction) <;> rename_i heq <;> cases heq
   ·exact ⟨[], ⟨none, 0, rfl, Nat.le_refl _, rfl, by simp, fun h => absurd h (Nat.lt_irrefl _)⟩, by simp, by simp⟩
   ·rename_i a len cap
    split at h
    ·rename_i hcond
     dsimp only at h
     cases hm : (List.range len).mapM (fun i => (W.cells? base (a.add (i * P.cellsOf e)) (P.cellsOf e)).bind (DataW.trod enc P W base spare held fuel e)) with
     | none => rw [hm] at h; cases h
     | some elems =>
      rw [hm] at h
      simp only [Option.bind_some] at h
      cases hr : (if spare a.block then (List.range (cap - len)).mapM (fun j => (W.cells? base (a.add ((len + j) * P.cellsOf e)) (P.cellsOf e)).bind (DataW.trod enc P W base spare held fuel e)) else some []) with
      | none => rw [hr] at h; cases h
      | some rest =>
       rw [hr] at h
       simp only [Option.map_some, Option.some.injEq, Prod.mk.injEq] at h
       obtain ⟨rfl, _⟩ := h
       obtain ⟨hlen, hel⟩ := mapM_some hm
       rw [List.length_range] at hlen
       simp only [DataW.weights, hu] at hw
       have key : ∀ i, i < len → ∃ x, (∃ c, c.length = d.sz ∧ d.K W x c ∧ ∀ j u, c[j]? = some u → W.cell? (a.add (i * d.sz + j)) = some u) ∧ g x := by
        intro i hi
        obtain ⟨b, hb, hf⟩ := hel i i (by simp [hi])
        cases hcl : W.cells? base (a.add (i * P.cellsOf e)) (P.cellsOf e) with
        | none => rw [hcl] at hf; cases hf
        | some c =>
         rw [hcl] at hf
         simp only [Option.bind_some] at hf
         obtain ⟨h1, h2⟩ := cells_some hcl
         obtain ⟨D', ps'⟩ := b
         obtain ⟨x, hx, hgx⟩ := hd.get hf (fun z hz => hw z (by
          refine List.mem_cons_of_mem _ (List.mem_append_left _ ?_)
          exact weightsAll_mem hz (ds := elems.map (·.1)) (i := i) (by rw [List.getElem?_map, hb]; rfl)))
         refine ⟨x, ⟨c, h1.trans hc, hx, fun j u hj => ?_⟩, hgx⟩
         have := h2 j u hj
         rwa [add_add, hc] at this
       obtain ⟨xs, hxl, hxs⟩ := choose (R := fun i (_ : Nat) x => (∃ c, c.length = d.sz ∧ d.K W x c ∧ ∀ j u, c[j]? = some u → W.cell? (a.add (i * d.sz + j)) = some u) ∧ g x) len id (fun i hi => key i hi)
       have hmax := hcond.2.2
       refine ⟨xs, ⟨some a, cap, by rw [hxl], by rw [hxl]; exact hcond.2.1, rfl, by unfold maxLen at hmax; omega, fun _ => ⟨a, rfl, fun j p hj => (hxs j p hj).1⟩⟩, ?_, ?_⟩
       ·have z := hw _ List.mem_cons_self
        rw [hB] at z
        simp only [List.length_map, hlen] at z
        rw [hxl]
        refine Nat.le_trans (Nat.mul_le_mul_right _ (Nat.le_add_right len rest.length)) ?_
        simpa [reachBytes] using z
       ·intro x hx
        obtain ⟨i, hi⟩ := List.mem_iff_getElem?.1 hx
        exact (hxs i x hi).2
    ·cases h

/-- The fields from a place on. -/
structure OpnF {α : Type} (P : Program) (fs : List Field) (off : Nat) (d : Kd α) (g : α → Prop) : Prop where
  get : ∀ {H : Type} {enc : TypeId × Value → H} {W : World} {base : Nat} {spare : Nat → Bool} {held : Bool} {fuel : Nat} {cs : List Value} {xs : List (DataW H × List MemPlace)},
    (fs.mapM fun f => DataW.trod enc P W base spare held fuel f.type ((cs.drop f.offset).take (P.cellsOf f.type))) = some xs → cs.length = off + d.sz → (∀ z ∈ DataW.weightsEach P (fs.map (·.type)) (xs.map (·.1)), z ≤ reachBytes) →
    ∃ x, d.K W x (cs.drop off) ∧ g x

theorem OpnF.one {α : Type} {d : Kd α} {g : α → Prop} {f : Field} {off : Nat} (ho : f.offset = off) (hc : P.cellsOf f.type = d.sz) (h : Opn P f.type d g) : OpnF P [f] off d g where
 get := by
  intro H enc W base spare held fuel cs xs hx hl hw
  rw [List.mapM_cons] at hx
  cases h1 : DataW.trod enc P W base spare held fuel f.type ((cs.drop f.offset).take (P.cellsOf f.type)) with
  | none => rw [h1] at hx; cases hx
  | some b =>
   rw [h1] at hx
   cases hx
   rw [ho, hc, List.take_of_length_le (by rw [List.length_drop]; omega)] at h1
   obtain ⟨D, ps⟩ := b
   exact h.get h1 (fun z hz => hw z (by simp only [List.map_cons, List.map_nil, DataW.weightsEach]; exact List.mem_append_left _ hz))

theorem OpnF.cons {α β : Type} {a : Kd α} {b : Kd β} {ga : α → Prop} {gb : β → Prop} {f : Field} {fs : List Field} {off : Nat} (ho : f.offset = off) (hc : P.cellsOf f.type = a.sz) (h : Opn P f.type a ga) (hr : OpnF P fs (off + a.sz) b gb) :
  OpnF P (f :: fs) off (Kd.pair a b) (fun x => ga x.1 ∧ gb x.2) where
 get := by
  intro H enc W base spare held fuel cs xs hx hl hw
  rw [List.mapM_cons] at hx
  cases h1 : DataW.trod enc P W base spare held fuel f.type ((cs.drop f.offset).take (P.cellsOf f.type)) with
  | none => rw [h1] at hx; cases hx
  | some b1 =>
   rw [h1] at hx
   cases h2 : (fs.mapM fun f => DataW.trod enc P W base spare held fuel f.type ((cs.drop f.offset).take (P.cellsOf f.type))) with
   | none => rw [h2] at hx; cases hx
   | some bs =>
    rw [h2] at hx
    cases hx
    have hsz : (Kd.pair a b).sz = a.sz + b.sz := rfl
    rw [hsz] at hl
    rw [ho, hc] at h1
    obtain ⟨D, ps⟩ := b1
    obtain ⟨x, hx1, hx2⟩ := h.get h1 (fun z hz => hw z (by simp only [List.map_cons, DataW.weightsEach]; exact List.mem_append_left _ hz))
    obtain ⟨y, hy1, hy2⟩ := hr.get h2 (by omega) (fun z hz => hw z (by simp only [List.map_cons, DataW.weightsEach]; exact List.mem_append_right _ hz))
    refine ⟨(x, y), ?_, hx2, hy2⟩
    have hd : cs.drop off = (cs.drop off).take a.sz ++ cs.drop (off + a.sz) := by rw [← List.drop_drop]; exact (List.take_append_drop a.sz (cs.drop off)).symm
    exact ⟨(cs.drop off).take a.sz, cs.drop (off + a.sz), hd, hx1, hy1⟩

theorem OpnF.iso {α β : Type} {d : Kd α} {f : β → α} {g : α → Prop} {fs : List Field} {off : Nat} (fi : α → β) (hf : ∀ x, f (fi x) = x) (h : OpnF P fs off d g) : OpnF P fs off (Kd.iso d f) (fun y => g (f y)) where
 get := by
  intro H enc W base spare held fuel cs xs hx hl hw
  obtain ⟨x, h1, h2⟩ := h.get hx hl hw
  exact ⟨fi x, by show d.K W (f (fi x)) _; rw [hf]; exact h1, by rw [hf]; exact h2⟩

theorem Opn.struct {α : Type} {d : Kd α} {g : α → Prop} {fs : Array Field} (hu : P.underlying t = some (.struct fs)) (hc : P.cellsOf t = d.sz) (h : OpnF P fs.toList 0 d g) : Opn P t d g where
 get := by
  intro H enc W base spare held fuel cs D ps hx hw
  cases fuel with
  | zero => cases hx
  | succ fuel =>
   unfold DataW.trod at hx
   rw [hu] at hx
   split at hx <;> first | contradiction | exact (‹∀ fs_1 : Array Field, some (TypeDesc.struct fs) = some (TypeDesc.struct fs_1) → False› fs rfl).elim | (rename_i heq; cases heq)
   split at hx <;> try contradiction
   rename_i hlen
   obtain ⟨xs, hm, hx⟩ := Option.map_eq_some_iff.1 hx
   simp only [Prod.mk.injEq] at hx
   obtain ⟨rfl, _⟩ := hx
   simp only [DataW.weights, hu] at hw
   exact h.get hm (by omega) hw

/-- What a law's j-th parameter weighs is within reach. -/
theorem weightsEach_mem {H : Type} {t : TypeId} {d : DataW H} {z : Nat} (hz : z ∈ d.weights P t) : ∀ {ts : List TypeId} {ds : List (DataW H)} {j : Nat}, ts[j]? = some t → ds[j]? = some d → z ∈ DataW.weightsEach P ts ds
 | [], _, _, h, _ => by simp at h
 | _ :: _, [], _, _, h => by simp at h
 | t0 :: ts, d0 :: ds, 0, h1, h2 => by
  simp only [List.getElem?_cons_zero, Option.some.injEq] at h1 h2
  subst h1 h2
  simp only [DataW.weightsEach]
  exact List.mem_append_left _ hz
 | t0 :: ts, d0 :: ds, j + 1, h1, h2 => by
  simp only [List.getElem?_cons_succ] at h1 h2
  simp only [DataW.weightsEach]
  exact List.mem_append_right _ (weightsEach_mem hz h1 h2)

theorem Opn.param {α : Type} {d : Kd α} {g : α → Prop} (h : Opn P t d g) {H : Type} {enc : TypeId × Value → H} {W : World} {base : Nat} {spare : Nat → Bool} {held : Bool} {v : Value} {D : DataW H} {ps : List MemPlace} {ts : List TypeId} {ds : List (DataW H)} {j : Nat}
  (hsz : (DataW.weightsEach P ts ds).all (· ≤ reachBytes) = true) (ht : ts[j]? = some t) (hd : ds[j]? = some D) (hv : DataW.Trod enc P W base spare held t v D ps) : ∃ x, d.K W x v.cells.toList ∧ g x := by
 obtain ⟨fuel, hf⟩ := hv
 exact h.get hf (fun z hz => by simpa using List.all_eq_true.1 hsz z (weightsEach_mem hz ht hd))
end Go.Proofs.Ytnpmjboofmdflaa.Opn
